/- The statement Rows.AuditShortSaid (sidingslaw21.AuditShort: cells that have too few words have no objects) is proved as it is given: for every input. Conditions: none. -/
import Derived.Test.YthlpfkoadgfgpaaGreatShort
import Derived.Test.YthlpfkoadgfgpaaGreatRowFacts
set_option linter.unusedVariables false
namespace Go.Proofs.YthlpfkoadgfgpaaGreat.AuditShort
open Go.ChangeShapes Go.WideShapes Go.ChangeAt Go.RowKit Go.Joins
open Go.Eng Go.Proofs.Sd

def rho (x y z n : Int) : Rho := { var := fun k => if k = 0 then x else if k = 1 then y else if k = 2 then z else n, arr := fun _ _ => 0, fn := fun _ _ _ _ => 0, pr := fun _ _ _ _ => false }
theorem walk (x y z n : Int) (w : World) : Calls Tryz.prog 12 #[.agg #[.int .i64 x, .int .i64 y, .int .i64 z], .int .i64 n] w fun e w' => e = .returned (.bool true) ∧ Grown w w' := by
  refine (sh_law (rho x y z n) (vs := [.agg #[.int .i64 x, .int .i64 y, .int .i64 z], .int .i64 n]) ?_ w).mono fun e w' ⟨h1, h2⟩ => ⟨h1, h2.grown⟩
  simp only [sh_args, RL, SV.R, Tm.ev, rho]
  refine ⟨_, _, rfl, ⟨_, rfl, _, _, rfl, rfl, _, _, rfl, rfl, _, _, rfl, rfl, rfl⟩, _, _, rfl, rfl, rfl⟩

set_option maxRecDepth 100000 in
theorem lifted (os : Os) (started : os.Started) (H : Type) (enc : TypeId × Value → H) :
    ReturnsInHanded {} Tryz.checked os 12 .any (Rows.auditShortSpec.pre6 enc Tryz.prog Tryz.f12 Rows.auditShortRow.domain false) (Rows.auditShortSpec.post enc Tryz.prog Tryz.f12 false true false false) := by
  refine returnsInHanded_of_change (C := Tryz.checked) own started (by kernel_rfl) Tryz.func12
    (ChangeSpec.witness6 (enc := enc) (C := Tryz.checked) false ⟨#[], #[.agg #[.int .i64 0, .int .i64 0, .int .i64 0], .int .i64 0], []⟩ 8 (by kernel_rfl) (by kernel_rfl) (by kernel_rfl) (by kernel_rfl)) ?_
  intro W base args ds gs before hval0 hW hcnd _
  have hval : ∀ (j : Nat) t v, Tryz.f12.params[j]? = some t → args[j]? = some v → Value.okWide Tryz.prog W .any base t v := hval0
  have hW' := hW
  obtain ⟨p, q, hA0, hV, rfl, hfz, hnd⟩ := hW
  have hA : DataW.TrodAll enc Tryz.prog W 0 (fun _ => true) true Tryz.f12.params.toList args.toList ds p := hA0
  rw [Tryz.params12] at hA hval
  obtain ⟨v0, v1, d0, d1, p0, p1, rfl, rfl, rfl, h0, h1⟩ := trodAll_two hA
  obtain ⟨rfl, rfl⟩ := trodVars_none hV
  obtain ⟨c0, c1, c2, y0, y1, y2, m, rfl, rfl, rfl, hy0, hy1, hy2⟩ := open_agg3 und23 (by kernel_rfl) cells23 (hval 0 23 v0 rfl rfl) h0
  obtain ⟨x, e0, rfl, wx⟩ := DataW.trod_int und3 hy0
  obtain ⟨y, e1, rfl, wy⟩ := DataW.trod_int und3 hy1
  obtain ⟨z, e2, rfl, wz⟩ := DataW.trod_int und3 hy2
  simp at e0 e1 e2
  subst e0 e1 e2
  obtain ⟨n, rfl, rfl, rfl, wn⟩ := open_int und3 (hval 1 3 v1 rfl rfl) h1
  clear hA0 hval0
  simp only [List.append_nil] at hW'
  refine (walk x y z n W).mono fun e W' ⟨he, hg⟩ => ?_
  subst he
  exact ⟨_, rfl, post_of_same (pa := []) (pv := []) hW' (fun _ _ _ => trodAll_mk1 (shut_bool und4 _)) (fun sp _ => trodAll_mk2 (configReads _ _ _ _ _ x y z wx wy wz) (shut_int und3 wn)) (fun _ _ => rfl) rfl
    (hg.frame _) hg.2.1 (ok_one (by kernel_rfl) rfl (okWide_bool_mk und4 _))⟩

theorem c_place : (Rows.auditShortRow.inPlace == Tryz.prog.inPlace 12) = true := by kernel_rfl
theorem c_unfol : (Rows.auditShortRow.unfollowed == Tryz.prog.unfollowed 12) = true := by kernel_rfl
theorem c_recur : (Rows.auditShortRow.recurses == Tryz.prog.recurses 12) = true := by kernel_rfl
theorem c_named : (Rows.auditShortRow.named == Tryz.prog.varsNamed 12) = true := by kernel_rfl
theorem c_lifted : (Rows.auditShortRow.lifted == Tryz.prog.liftsFinal) = true := by rw [c_lift]; rfl
theorem c_keys : (Rows.auditShortRow.plainKeys == Tryz.prog.plainKeys) = true := by rw [c_pkeys]; rfl
theorem c_hall : (Tryz.f12.params.all (Tryz.prog.readableRec ·)) = true := by kernel_rfl
theorem closed : joinedFacts Tryz.prog 12 Tryz.f12 Rows.auditShortSpec Rows.auditShortRow = true := by
  unfold joinedFacts
  rw [c_laid, c_mapsRowed, c_stops, c_knobs, c_place, c_unfol, c_recur, c_named, c_lifted, c_keys, c_heard, c_enter]
  kernel_rfl
theorem named : Tryz.prog.funcNamed Rows.auditShortRow.func = some 12 := by kernel_rfl
theorem over : Rows.auditShortRow.holds Tryz.pinned (OpenSpec.ofChange Rows.auditShortSpec) :=
  OpenClaim.holds_of_wide 12 Tryz.f12 rfl rfl rfl rfl rfl rfl rfl ⟨rfl, rfl, rfl, rfl, rfl⟩ rfl rfl rfl rfl rfl named Tryz.func12 closed
    (of_decide_eq_true (by kernel_rfl)) (by unfold Func.isWrapper; first | (rw [if_pos (by decide +kernel)]; kernel_rfl) | (rw [if_neg (by decide +kernel)]; exact ⟨rfl, rfl⟩))
    (fun os started H enc _ => lifted os started H enc)

theorem proved : Rows.AuditShortSaid := over
#print axioms proved
end Go.Proofs.YthlpfkoadgfgpaaGreat.AuditShort
