/- Part of a proof. -/
import Derived.Test.YthlpfkoadgfgpaaGreatLvS
set_option linter.unusedVariables false
namespace Go.Proofs.Sd
open Go.Eng
theorem Lv_u1 : segRunA Tryz.prog rec1 86 300 Lv_J Lv_nl (loopOf Tryz.prog 54 6) 4 Lv_t0 Lv_h0 165 [0, 1, 2, 16, 20, 22, 24, 30, 157, 163, 164, 724, 760, 1347, 1350] [0, 1, 2, 3, 4, 12, 13, 14, 15, 16, 17, 18, 19, 20, 21, 22] = some (Lv_t1, [], Lv_h1, 2472) := by kernel_rfl
end Go.Proofs.Sd
