/- Part of a proof. -/
import Derived.Test.YthlpfkoadgfgpaaGreatLvS
set_option linter.unusedVariables false
namespace Go.Proofs.Sd
open Go.Eng
theorem Lv_u8 : segRunA Tryz.prog rec1 86 300 Lv_J Lv_nl (loopOf Tryz.prog 54 6) 3 Lv_t7 Lv_h7 16489 [0, 1, 2, 16, 20, 22, 24, 30, 157, 164, 724, 1347, 1350, 18203] [0, 1, 2, 3, 4, 12, 13, 14, 15, 16, 17, 18, 19, 20, 21, 22] = some (Lv_t8, [], Lv_h8, 18204) := by kernel_rfl
end Go.Proofs.Sd
