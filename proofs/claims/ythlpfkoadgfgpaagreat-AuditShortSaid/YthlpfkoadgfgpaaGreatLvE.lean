/- Part of a proof. -/
import Derived.Test.YthlpfkoadgfgpaaGreatLvU1
import Derived.Test.YthlpfkoadgfgpaaGreatLvU2
import Derived.Test.YthlpfkoadgfgpaaGreatLvU3
import Derived.Test.YthlpfkoadgfgpaaGreatLvU4
import Derived.Test.YthlpfkoadgfgpaaGreatLvU5
import Derived.Test.YthlpfkoadgfgpaaGreatLvU6
import Derived.Test.YthlpfkoadgfgpaaGreatLvU7
import Derived.Test.YthlpfkoadgfgpaaGreatLvU8
import Derived.Test.YthlpfkoadgfgpaaGreatLvU9
set_option linter.unusedVariables false
namespace Go.Proofs.Sd
open Go.Eng
theorem Lv_nt0 : ntmpsOf Tryz.prog 54 = 86 := by kernel_rfl
theorem Lv_Jok (ρ : Rho) : JmpOK Tryz.prog ρ 86 Lv_J := by
  unfold Lv_J
  rw [Lv_nt0]
  exact evJ_sound plainly mixed (hrec1 ρ) 300
theorem Lv_lok {ρ : Rho} {nt : Nat} {c : Code} : LoopsOK Tryz.prog ρ nt Lv_nl c := loopsOK_none c
theorem Lv_seg (ρ : Rho) : SegOK Tryz.prog ρ 86 (loopOf Tryz.prog 54 6) (3 + (4 + (4 + (4 + (4 + (4 + (4 + 4))))))) Lv_t0 Lv_h0 165 Lv_t8 Lv_h8 18204 := (SegOK.trans (Nat.le_of_ble_eq_true rfl) (SegOK.trans (Nat.le_of_ble_eq_true rfl) (SegOK.trans (Nat.le_of_ble_eq_true rfl) (SegOK.trans (Nat.le_of_ble_eq_true rfl) (SegOK.trans (Nat.le_of_ble_eq_true rfl) (SegOK.trans (Nat.le_of_ble_eq_true rfl) (SegOK.trans (Nat.le_of_ble_eq_true rfl) (SegOK.runA plainly mixed (hrec1 ρ) (Lv_Jok ρ) Lv_lok Lv_u1) (SegOK.runA plainly mixed (hrec1 ρ) (Lv_Jok ρ) Lv_lok Lv_u2)) (SegOK.runA plainly mixed (hrec1 ρ) (Lv_Jok ρ) Lv_lok Lv_u3)) (SegOK.runA plainly mixed (hrec1 ρ) (Lv_Jok ρ) Lv_lok Lv_u4)) (SegOK.runA plainly mixed (hrec1 ρ) (Lv_Jok ρ) Lv_lok Lv_u5)) (SegOK.runA plainly mixed (hrec1 ρ) (Lv_Jok ρ) Lv_lok Lv_u6)) (SegOK.runA plainly mixed (hrec1 ρ) (Lv_Jok ρ) Lv_lok Lv_u7)) (SegOK.runA plainly mixed (hrec1 ρ) (Lv_Jok ρ) Lv_lok Lv_u8))
theorem Lv_loop (ρ : Rho) : CTreeOK Tryz.prog ρ 86 (.loop (loopOf Tryz.prog 54 6)) Lv_t0 Lv_h0 165 (.leaf (.exit 0) Lv_t9 Lv_h9 18204) :=
  SegOK.loop (Nat.le_of_ble_eq_true rfl) out_exit (Lv_seg ρ) (CTreeOK.leafA plainly mixed (hrec1 ρ) (Lv_Jok ρ) Lv_lok Lv_u9 pcok_nil)
def Lv_F : T SV → St → Option (Ex × T SV × St) := ctreeRec 86 Lv_t0 Lv_h0 165 (.leaf (.exit 0) Lv_t9 Lv_h9 18204) (mkBindC 86 Lv_t0 Lv_h0 165)
theorem Lv_Fok (ρ : Rho) : ∀ tm σ e tm' σ', Lv_F tm σ = some (e, tm', σ') → CodeOK Tryz.prog ρ 86 (.loop (loopOf Tryz.prog 54 6)) tm σ e tm' σ' :=
  ctreeRec_ok (tmOf_out (by decide)) fun _ => Lv_loop _
theorem Lv_nt : Nat.max 0 (ntmpsOf Tryz.prog 54) = 86 := by kernel_rfl
theorem Lv_tolds : tolds (lp1 6 Lv_F) (bodyOf Tryz.prog 54) = [loopOf Tryz.prog 54 6] := by kernel_rfl
theorem Lv_run : bodyRun Tryz.prog rec1 300 (lp1 6 Lv_F) 54 [] .nil 0 [] [] = some (.bool (.lit true), [], .nil, 19424) := by kernel_rfl
def Lv_tree : Tree := .leaf (.bool (.lit true)) .nil 19424
theorem Lv_ok (ρ : Rho) : TreeOK Tryz.prog ρ 54 [] .nil 0 Lv_tree :=
  TreeOK.body plainly mixed (hrec1 ρ) (hlp1 Lv_nt Lv_tolds (Lv_Fok ρ)) Lv_run pcok_nil
def Lv_rec : Rec := sumOf 54 [] .nil 0 Lv_tree
end Go.Proofs.Sd
