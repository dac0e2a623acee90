/- Part of a proof. -/
import Derived.Test.YthlpfkoadgfgpaaGreatLvS
set_option linter.unusedVariables false
namespace Go.Proofs.Sd
open Go.Eng
theorem Lv_u9 : codeRunA Tryz.prog rec1 86 300 Lv_J Lv_nl (loopOf Tryz.prog 54 6) Lv_t8 Lv_h8 18204 [] [0, 1, 2, 16, 20, 22, 24, 30, 157, 164, 724, 1347, 1350, 18203] [0, 1, 2, 3, 4, 12, 13, 14, 15, 16, 17, 18, 19, 20, 21, 22] = some ((.exit 0), Lv_t9, [], Lv_h9, 18204) := by kernel_rfl
end Go.Proofs.Sd
