/- Part of a proof. -/
import Derived.Test.YthlpfkoadgfgpaaGreatRows
import Derived.ProofKit
import Derived.OpenShut
import Derived.Lib.SmallJoins
set_option linter.unusedVariables false
namespace Go.Proofs.YthlpfkoadgfgpaaGreat
open Go.ChangeShapes Go.WideShapes Go.ChangeAt Go.RowKit Go.Joins
theorem own : ownKnob Tryz.prog.godebug = none := by kernel_rfl
theorem c_laid : laidOutB Tryz.prog = true := by kernel_rfl
theorem c_mapsRowed : mapsRowed Tryz.prog = true := by kernel_rfl
theorem c_lift : Tryz.prog.liftsFinal = false := by kernel_rfl
theorem c_enter : Tryz.prog.mayEnter = true := by kernel_rfl
theorem c_heard : Tryz.prog.stopsHeard = true := by kernel_rfl
theorem c_pkeys : Tryz.prog.plainKeys = true := by kernel_rfl
theorem c_stops : (Tryz.prog.stops == []) = true := by kernel_rfl
theorem c_knobs : (Tryz.prog.stopKnobs == []) = true := by kernel_rfl
theorem und23 : Tryz.prog.underlying 23 = some (.struct #[⟨"Arena", 3, 0, false, "", "", 0⟩, ⟨"Slots", 3, 1, false, "", "", 8⟩, ⟨"Threads", 3, 2, false, "", "", 16⟩]) := Tryz.underlying23
theorem cells23 : Tryz.prog.cellsOf 23 = 3 := by kernel_rfl
theorem und3 : Tryz.prog.underlying 3 = some (.int .i64) := Tryz.underlying3
theorem und4 : Tryz.prog.underlying 4 = some .bool := Tryz.underlying4
theorem configReads {H : Type} (enc : TypeId × Value → H) (w : World) (base : Nat) (sp : Nat → Bool) (hd : Bool) (x y z : Int) (wx : (Lit.int .i64 x).wf = true) (wy : (Lit.int .i64 y).wf = true) (wz : (Lit.int .i64 z).wf = true) :
    DataW.Trod enc Tryz.prog w base sp hd 23 (.agg #[.int .i64 x, .int .i64 y, .int .i64 z]) (.agg [.lit (.int .i64 x), .lit (.int .i64 y), .lit (.int .i64 z)]) [] := by
  simpa using shut_agg3 (enc := enc) (w := w) (base := base) (spare := sp) (held := hd) (y0 := (.lit (.int .i64 x), [])) (y1 := (.lit (.int .i64 y), [])) (y2 := (.lit (.int .i64 z), [])) und23 (by kernel_rfl) cells23
    ⟨1, by simp [DataW.trod, wx]⟩ ⟨1, by simp [DataW.trod, wy]⟩ ⟨1, by simp [DataW.trod, wz]⟩
end Go.Proofs.YthlpfkoadgfgpaaGreat
