/- The engine, part C: regions that draw their order, code, calls: what it tells is so. Nothing of the program. -/
import Derived.Test.YthlpfkoadgfgpaaGreatEngB
import Derived.LoopN
import Derived.ScopeJumps
/- The engine runs code and calls. -/
namespace Go.Eng

inductive Ex where
  | normal
  | exit (id : Nat)
  | ret
  | goto (l : Nat)
abbrev Rec := FuncId → List SV → St → Option (SV × St)
def loopN (f : T SV → St → Option (Ex × T SV × St)) : Nat → T SV → St → Option (Ex × T SV × St)
  | 0, _, _ => none
  | n + 1, tm, σ => match f tm σ with
    | some (.normal, tm', σ') => loopN f n tm' σ'
    | r => r
abbrev Jmp := Code → Code → T SV → St → Option (Ex × T SV × St)
/-- the first region's number -/
def firstReg : Code → Option Nat
  | .region i _ _ => some i
  | .seq a b => match firstReg a with | some i => some i | none => firstReg b
  | .cond _ a b => match firstReg a with | some i => some i | none => firstReg b
  | .block _ a => firstReg a
  | .loop a => firstReg a
  | .scope a => firstReg a
  | _ => none
/-- what is told of loops, by the first region's number -/
abbrev Lps := Option Nat → Option (T SV → St → Option (Ex × T SV × St))
def evCode (P : Program) (rec : Rec) (nt L : Nat) (J : Jmp) (lp : Lps) : Code → T SV → St → Option (Ex × T SV × St)
  | .skip, tm, σ => some (.normal, tm, σ)
  | .label _, tm, σ => some (.normal, tm, σ)
  | .region _ ops draw, tm, σ => match (bif draw then evDraw P rec nt ops tm σ else stepList P rec nt ops ops.toList tm σ) with
    | some (tm', σ') => some (.normal, tm', σ')
    | none => none
  | .seq a b, tm, σ => match evCode P rec nt L J lp a tm σ with
    | some (.normal, tm', σ') => evCode P rec nt L J lp b tm' σ'
    | r => r
  | .cond c x y, tm, σ => match opnd (look tm) c with
    | some (.bool t) => match σ.ask t with
      | some (true, σ1) => evCode P rec nt L J lp x tm σ1
      | some (false, σ1) => evCode P rec nt L J lp y tm σ1
      | none => none
    | _ => none
  | .block id c, tm, σ => match evCode P rec nt L J lp c tm σ with
    | some (.exit j, tm', σ') => some (bif Nat.beq j id then .normal else .exit j, tm', σ')
    | r => r
  | .loop c, tm, σ => match lp (firstReg c) with
    | some F => F tm σ
    | none => loopN (evCode P rec nt L J lp c) L tm σ
  | .exit id, tm, σ => some (.exit id, tm, σ)
  | .ret, tm, σ => some (.ret, tm, σ)
  | .goto l, tm, σ => some (.goto l, tm, σ)
  | .scope c, tm, σ => match evCode P rec nt L J lp c tm σ with
    | some (.goto l, tm', σ') => match findLabel c l with
      | some rest => J c rest tm' σ'
      | none => none
    | r => r
  | _, _, _ => none

def evJ (P : Program) (rec : Rec) (nt L : Nat) : Nat → Jmp
  | 0, _, _, _, _ => none
  | n + 1, c, rest, tm, σ => match evCode P rec nt L (evJ P rec nt L n) (fun _ => none) rest tm σ with
    | some (.goto l, tm', σ') => match findLabel c l with
      | some rest' => evJ P rec nt L n c rest' tm' σ'
      | none => none
    | r => r

def putArgs : Nat → List SV → T SV → T SV
  | _, [], t => t
  | k, s :: l, t => putArgs (k + 1) l (T.put 40 t k (some s))
def resS (P : Program) (tm : T SV) : List ResultVar → St → Option (List SV × St)
  | [], σ => some ([], σ)
  | .tmp t :: r, σ => match resS P tm r σ with
    | some (l, σ') => some (slot tm t :: l, σ')
    | none => none
  | .cell a t :: r, σ => match opLoad P t (slot tm a) σ with
    | some (s, σ1) => match resS P tm r σ1 with
      | some (l, σ') => some (s :: l, σ')
      | none => none
    | none => none
def evBody (P : Program) (rec : Rec) (L : Nat) (lp : Lps) (fn : Func) (args : List SV) (σ : St) : Option (SV × St) :=
  bif Nat.ble args.length 1000 then
  match fn.body with
  | some c => match evCode P rec (Nat.max args.length fn.ntmps) L (evJ P rec (Nat.max args.length fn.ntmps) L L) lp c (putArgs 0 args .nil) σ with
    | some (.exit _, _, _) => none
    | some (.goto _, _, _) => none
    | some (_, tm, σ1) => match resS P tm fn.results.toList σ1 with
      | some ([s], σ2) => some (s, σ2)
      | some (l, σ2) => some (.tup l, σ2)
      | none => none
    | none => none
  | none => none
  else none
def evCallL (P : Program) (summ : FuncId → Option Rec) (lps : FuncId → Lps) (L : Nat) : Nat → Rec
  | 0, _, _, _ => none
  | n + 1, g, args, σ => match summ g with
    | some f => f g args σ
    | none => match P.funcs[g]? with
      | some fn => evBody P (evCallL P summ lps L n) L (lps g) fn args σ
      | none => none
def evCall (P : Program) (summ : FuncId → Option Rec) (L : Nat) : Nat → Rec := evCallL P summ (fun _ _ => none) L
end Go.Eng
/- A region whose order is open: what was looked at holds (the parts). -/
namespace Go.Eng

/-! ancestors -/
theorem fold_bits (ms : List Nat) (j : Nat) : ∀ (l : List Edge) (s : Nat), (l.foldl (fun s e => bif Region.binds .any e then (s ||| 2 ^ e.on) ||| ((ms[e.on]?).getD 0) else s) s).testBit j = true →
    s.testBit j = true ∨ ∃ e ∈ l, Region.binds .any e = true ∧ (e.on = j ∨ ((ms[e.on]?).getD 0).testBit j = true)
  | [], s, h => .inl h
  | e :: l, s, h => by
    simp only [List.foldl_cons] at h
    rcases fold_bits ms j l _ h with h1 | ⟨f, hf, h2⟩
    · cases hb : Region.binds .any e
      · rw [hb] at h1; exact .inl h1
      · rw [hb] at h1
        simp only [cond_true, Nat.testBit_or, Bool.or_eq_true] at h1
        rcases h1 with (h1 | h1) | h1
        · exact .inl h1
        · rw [Nat.testBit_two_pow] at h1
          exact .inr ⟨e, List.mem_cons_self .., hb, .inl (by simpa using h1)⟩
        · exact .inr ⟨e, List.mem_cons_self .., hb, .inr h1⟩
    · exact .inr ⟨f, List.mem_cons_of_mem _ hf, h2⟩
theorem ancs_old : ∀ (l : List Oper) (ms : List Nat) (k : Nat), k < ms.length → (ancs l ms)[k]? = ms[k]?
  | [], _, _, _ => rfl
  | o :: l, ms, k, h => by
    simp only [ancs]
    rw [ancs_old l _ k (by simp; omega), List.getElem?_append_left h]
theorem ancs_new : ∀ (l : List Oper) (ms : List Nat) (k : Nat) (o : Oper), l[k]? = some o → ∃ ms', ms'.length = ms.length + k ∧ (∀ q, q < ms'.length → (ancs l ms)[q]? = ms'[q]?) ∧ (ancs l ms)[ms.length + k]? = some (ancOf ms' o)
  | [], _, _, _, h => by simp at h
  | x :: l, ms, 0, o, h => by
    simp only [List.getElem?_cons_zero, Option.some.injEq] at h
    subst h
    refine ⟨ms, rfl, fun q hq => ?_, ?_⟩
    · simp only [ancs]; rw [ancs_old l _ q (by simp; omega), List.getElem?_append_left hq]
    · simp only [ancs, Nat.add_zero]; rw [ancs_old l _ ms.length (by simp)]; simp
  | x :: l, ms, k + 1, o, h => by
    simp only [List.getElem?_cons_succ] at h
    obtain ⟨ms', h1, h2, h3⟩ := ancs_new l (ms ++ [ancOf ms x]) k o h
    simp only [List.length_append, List.length_singleton] at h1 h3
    refine ⟨ms', by omega, fun q hq => by simp only [ancs]; exact h2 q hq, ?_⟩
    simp only [ancs]
    rw [show ms.length + (k + 1) = ms.length + 1 + k by omega]
    exact h3

def Closed (ops : Array Oper) (S : Array Bool) : Prop := ∀ i o, ops[i]? = some o → S.getD i false = true → ∀ e ∈ o.after, Region.binds .any e = true → S.getD e.on false = true
theorem edges_back {ops : Array Oper} (h : edgesOk ops = true) {i : Nat} {o : Oper} (hi : ops[i]? = some o) : ∀ e ∈ o.after, Region.binds .any e = true → e.on < i := by
  unfold edgesOk at h
  simp only [List.all_eq_true, List.mem_range] at h
  have hlt := (Array.getElem?_eq_some_iff.1 hi).1
  have h1 := h i hlt
  rw [hi] at h1
  simp only [List.all_eq_true, Bool.or_eq_true, Bool.not_eq_true'] at h1
  intro e he hb
  rcases h1 e (by simpa using he) with h2 | h2
  · rw [hb] at h2; cases h2
  · simpa [Nat.blt_eq] using h2
theorem anc_in {ops : Array Oper} (he : edgesOk ops = true) {S : Array Bool} (hS : Closed ops S) : ∀ (i : Nat) {j : Nat} {o : Oper}, ops[i]? = some o →
    (∀ e ∈ o.after, Region.binds .any e = true → S.getD e.on false = true) → anc (ancs ops.toList []) i j = true → S.getD j false = true := by
  intro i
  induction i using Nat.strongRecOn with
  | _ i ih =>
    intro j o ho hr ha
    obtain ⟨ms', h1, h2, h3⟩ := ancs_new ops.toList [] i o (by simpa using ho)
    simp only [List.length_nil, Nat.zero_add] at h1 h3
    unfold anc at ha
    rw [h3] at ha
    simp only [Option.getD_some, ancOf] at ha
    rcases fold_bits ms' j _ _ ha with h4 | ⟨e, hm, hb, h4⟩
    · simp at h4
    · have hm' : e ∈ o.after := by simpa using hm
      have hlt := edges_back he ho e hm' hb
      rcases h4 with h4 | h4
      · subst h4; exact hr e hm' hb
      · rw [← h2 e.on (by omega)] at h4
        have hon := hr e hm' hb
        cases hoo : ops[e.on]? with
        | none =>
          exfalso
          have h5 := Array.getElem?_eq_none_iff.1 hoo
          have hi := (Array.getElem?_eq_some_iff.1 ho).1
          omega
        | some o' => exact ih e.on hlt hoo (hS e.on o' hoo hon) h4

/-! the run, as it went -/
inductive Run (P : Program) (rec : Rec) (nt : Nat) (ops : Array Oper) (base : Nat) : T SV → St → List Ent → T SV → St → Prop
  | nil (tm : T SV) (σ : St) : Run P rec nt ops base tm σ [] tm σ
  | cons {tm tm' tm1 : T SV} {σ σ1 : St} {e : Ent} {es : List Ent} (ho : ops[e.i]? = some e.o) (hs : stepD P rec nt ops base e.i e.o tm σ = some (e, tm')) (hr : Run P rec nt ops base tm' e.post es tm1 σ1) :
      Run P rec nt ops base tm σ (e :: es) tm1 σ1

structure StepF (P : Program) (rec : Rec) (nt : Nat) (ops : Array Oper) (base i : Nat) (o : Oper) (tm : T SV) (σ : St) (e : Ent) (tm' : T SV) : Prop where
  ei : e.i = i
  eo : e.o = o
  etm : e.tm = tm
  epre : e.pre = σ
  put : putT nt tm o.dst e.s = some tm'
theorem stepD_f {P : Program} {rec : Rec} {nt : Nat} {ops : Array Oper} {base i : Nat} {o : Oper} {tm tm' : T SV} {σ : St} {e : Ent} (h : stepD P rec nt ops base i o tm σ = some (e, tm')) : StepF P rec nt ops base i o tm σ e tm' := by
  unfold stepD at h
  split at h
  · split at h
    · simp only [Option.some.injEq, Prod.mk.injEq] at h
      obtain ⟨rfl, rfl⟩ := h
      exact ⟨rfl, rfl, rfl, rfl, by assumption⟩
    · cases h
  · split at h
    · split at h
      · cases hb : nameOk (base + i) <;> simp only [hb, cond_true, cond_false] at h
        · cases h
        · split at h
          · simp only [Option.some.injEq, Prod.mk.injEq] at h
            obtain ⟨rfl, rfl⟩ := h
            exact ⟨rfl, rfl, rfl, rfl, by assumption⟩
          · cases h
      · cases h
    · split at h
      · split at h
        · simp only [Option.some.injEq, Prod.mk.injEq] at h
          obtain ⟨rfl, rfl⟩ := h
          exact ⟨rfl, rfl, rfl, rfl, by assumption⟩
        · cases h
      · cases h
  · cases h
theorem runD_run {P : Program} {rec : Rec} {nt : Nat} {ops : Array Oper} {base : Nat} : ∀ {l : List Nat} {tm tm' : T SV} {σ σ' : St} {es : List Ent}, runD P rec nt ops base l tm σ = some (es, tm', σ') →
    Run P rec nt ops base tm σ es tm' σ' ∧ es.map (·.i) = l
  | [], tm, tm', σ, σ', es, h => by
    simp only [runD, Option.some.injEq, Prod.mk.injEq] at h
    obtain ⟨rfl, rfl, rfl⟩ := h
    exact ⟨.nil _ _, rfl⟩
  | i :: is, tm, tm', σ, σ', es, h => by
    simp only [runD] at h
    split at h
    · rename_i o ho
      split at h
      · rename_i e tm1 hs
        split at h
        · rename_i es' tm2 σ2 hr
          simp only [Option.some.injEq, Prod.mk.injEq] at h
          obtain ⟨rfl, rfl, rfl⟩ := h
          have f := stepD_f hs
          obtain ⟨h1, h2⟩ := runD_run hr
          refine ⟨.cons (by rw [f.ei, f.eo]; exact ho) (by rw [f.ei, f.eo]; exact hs) h1, by simp [f.ei, h2]⟩
        · cases h
      · cases h
    · cases h
theorem Run.split {P : Program} {rec : Rec} {nt : Nat} {ops : Array Oper} {base : Nat} : ∀ {a b : List Ent} {tm tm' : T SV} {σ σ' : St}, Run P rec nt ops base tm σ (a ++ b) tm' σ' →
    ∃ tm1 σ1, Run P rec nt ops base tm σ a tm1 σ1 ∧ Run P rec nt ops base tm1 σ1 b tm' σ'
  | [], b, tm, tm', σ, σ', h => ⟨tm, σ, .nil _ _, h⟩
  | e :: a, b, tm, tm', σ, σ', h => by
    cases h with
    | cons ho hs hr =>
      obtain ⟨tm1, σ1, h1, h2⟩ := Run.split hr
      exact ⟨tm1, σ1, .cons ho hs h1, h2⟩
def Distinct (l : List Ent) : Prop := ∀ pre e post, l = pre ++ e :: post → ∀ f ∈ post, f.i ≠ e.i ∧ ∀ t, e.o.dst = some t → f.o.dst ≠ some t
theorem Distinct.tail {e : Ent} {l : List Ent} (h : Distinct (e :: l)) : Distinct l := fun pre f post hl g hg => h (e :: pre) f post (by simp [hl]) g hg
theorem Run.slots {P : Program} {rec : Rec} {nt : Nat} {ops : Array Oper} {base : Nat} : ∀ {es : List Ent} {tm tm' : T SV} {σ σ' : St}, Run P rec nt ops base tm σ es tm' σ' → Distinct es → ∀ t,
    (∀ e ∈ es, e.o.dst = some t → slot tm' t = e.s) ∧ ((∀ e ∈ es, e.o.dst ≠ some t) → slot tm' t = slot tm t)
  | [], tm, tm', σ, σ', h, _, t => by cases h; exact ⟨fun e he => (by cases he), fun _ => rfl⟩
  | e :: es, tm, tm', σ, σ', h, hd, t => by
    cases h with
    | @cons _ tmx _ _ _ _ _ ho hs hr =>
      have f := stepD_f hs
      obtain ⟨h1, h2⟩ := Run.slots hr hd.tail t
      have hput : ∀ d, e.o.dst = some d → ∀ t, slot tmx t = if t = d then e.s else slot tm t := fun d hdst => by
        have := f.put
        rw [hdst] at this
        exact (slot_put this).2
      refine ⟨fun g hg hgt => ?_, fun hn => ?_⟩
      · cases hg with
        | head =>
          rw [h2 fun g hg => (hd [] e es rfl g hg).2 t hgt, hput t hgt t, if_pos rfl]
        | tail _ hm => exact h1 g hm hgt
      · rw [h2 fun g hg => hn g (List.mem_cons_of_mem _ hg)]
        cases hdst : e.o.dst with
        | none =>
          have := f.put
          rw [hdst] at this
          simp only [putT, Option.some.injEq] at this
          rw [this]
        | some d => rw [hput d hdst t, if_neg (fun x => hn e (List.mem_cons_self ..) (by rw [hdst, x]))]

/-- a step's memory: what is new lies under its own name; one that writes is all that else may turn it -/
structure HeapF (base : Nat) (e : Ent) : Prop where
  w : e.isW = true → e.B = none
  hp : e.isW = false → (fun n => e.post.hp.get n) = (match e.B with | some B => Hp.set (fun n => e.pre.hp.get n) (base + e.i) (some B) | none => fun n => e.pre.hp.get n)
  nx : e.isW = false → e.post.nx = e.pre.nx
theorem stepD_heap {P : Program} {rec : Rec} {nt : Nat} {ops : Array Oper} {base i : Nat} {o : Oper} {tm tm' : T SV} {σ : St} {e : Ent} (h : stepD P rec nt ops base i o tm σ = some (e, tm')) : HeapF base e := by
  let ρ0 : Rho := ⟨fun _ => 0, fun _ _ => 0, fun _ _ _ _ => 0, fun _ _ _ _ => false⟩
  unfold stepD at h
  split at h
  · rename_i σ1 hw
    have aw := wantedS_asks (ρ := ρ0) hw
    split at h
    · simp only [Option.some.injEq, Prod.mk.injEq] at h
      obtain ⟨rfl, rfl⟩ := h
      exact ⟨fun _ => rfl, fun _ => by simp only; rw [aw.hp], fun _ => aw.nx⟩
    · cases h
  · rename_i σ1 hw
    have aw := wantedS_asks (ρ := ρ0) hw
    split at h
    · rename_i hc
      split at h
      · rename_i v B σ2 hn
        have an := opNew_asks (ρ := ρ0) hn
        cases hb : nameOk (base + i) <;> simp only [hb, cond_true, cond_false] at h
        · cases h
        · split at h
          · simp only [Option.some.injEq, Prod.mk.injEq] at h
            obtain ⟨rfl, rfl⟩ := h
            refine ⟨fun hx => by simp [Ent.isW, hc] at hx, fun _ => ?_, fun _ => ?_⟩
            · simp only
              rw [set_get _ hb, an.hp, aw.hp]
            · simp only [St.set]; rw [an.nx, aw.nx]
          · cases h
      · cases h
    · rename_i hc
      split at h
      · rename_i s σ2 hr
        split at h
        · simp only [Option.some.injEq, Prod.mk.injEq] at h
          obtain ⟨rfl, rfl⟩ := h
          refine ⟨fun _ => rfl, fun hx => ?_, fun hx => ?_⟩
          · simp only
            unfold stepRun at hr
            split at hr
            · have := opPure_asks (ρ := ρ0) hr; rw [this.hp, aw.hp]
            · have := (opRd_sound (ρ := ρ0) hr).1; rw [this.hp, aw.hp]
            · rename_i hc'; exact absurd hc' (by simpa using hc)
            · rename_i hc'; simp [Ent.isW, hc'] at hx
          · simp only
            unfold stepRun at hr
            split at hr
            · have := opPure_asks (ρ := ρ0) hr; rw [this.nx, aw.nx]
            · have := (opRd_sound (ρ := ρ0) hr).1; rw [this.nx, aw.nx]
            · rename_i hc'; exact absurd hc' (by simpa using hc)
            · rename_i hc'; simp [Ent.isW, hc'] at hx
        · cases h
      · cases h
  · cases h

/-- what is new among entries -/
def news (base : Nat) (sel : Nat → Bool) (l : List Ent) : Hp := fun n => l.findSome? fun e => bif sel e.i && Nat.beq n (base + e.i) then e.B else none
def over (E h : Hp) : Hp := fun n => match E n with | some B => some B | none => h n
theorem news_some {base : Nat} {sel : Nat → Bool} {l : List Ent} {n : Nat} {B : SBlk} (h : news base sel l n = some B) : ∃ e ∈ l, sel e.i = true ∧ n = base + e.i ∧ e.B = some B := by
  unfold news at h
  obtain ⟨e, he, h1⟩ := List.exists_of_findSome?_eq_some h
  cases hb : sel e.i && Nat.beq n (base + e.i) <;> simp only [hb, cond_true, cond_false] at h1
  · cases h1
  · simp only [Bool.and_eq_true] at hb
    exact ⟨e, he, hb.1, Nat.eq_of_beq_eq_true hb.2, h1⟩
def IdsApart (l : List Ent) : Prop := ∀ e ∈ l, ∀ f ∈ l, e.i = f.i → e = f
theorem news_of {base : Nat} {sel : Nat → Bool} {l : List Ent} {e : Ent} {B : SBlk} (ha : IdsApart l) (he : e ∈ l) (hs : sel e.i = true) (hB : e.B = some B) : news base sel l (base + e.i) = some B := by
  cases hx : news base sel l (base + e.i) with
  | some B' =>
    obtain ⟨f, hf, _, h2, h3⟩ := news_some hx
    have : e = f := ha e he f hf (by omega)
    subst this
    rw [hB] at h3
    exact h3.symm
  | none =>
    unfold news at hx
    rw [List.findSome?_eq_none_iff] at hx
    have := hx e he
    simp [hs, hB] at this

theorem Run.heap {P : Program} {rec : Rec} {nt : Nat} {ops : Array Oper} {base : Nat} : ∀ {es : List Ent} {tm tm' : T SV} {σ σ' : St}, Run P rec nt ops base tm σ es tm' σ' → IdsApart es → Distinct es → (∀ e ∈ es, e.isW = false) →
    (fun n => σ'.hp.get n) = over (news base (fun _ => true) es) (fun n => σ.hp.get n) ∧ σ'.nx = σ.nx
  | [], tm, tm', σ, σ', h, _, _, _ => by cases h; exact ⟨rfl, rfl⟩
  | e :: es, tm, tm', σ, σ', h, ha, hd, hw => by
    cases h with
    | cons ho hs hr =>
      have f := stepD_f hs
      have g := stepD_heap hs
      have hwe := hw e (List.mem_cons_self ..)
      obtain ⟨h1, h2⟩ := Run.heap hr (fun x hx y hy => ha x (List.mem_cons_of_mem _ hx) y (List.mem_cons_of_mem _ hy)) hd.tail (fun x hx => hw x (List.mem_cons_of_mem _ hx))
      refine ⟨?_, by rw [h2, g.nx hwe, f.epre]⟩
      rw [h1, g.hp hwe, f.epre]
      funext n
      simp only [over, news, List.findSome?_cons, Bool.true_and]
      by_cases hn : n = base + e.i
      · subst hn
        have hnone : (es.findSome? fun x => bif Nat.beq (base + e.i) (base + x.i) then x.B else none) = none := by
          rw [List.findSome?_eq_none_iff]
          intro x hx
          have hne := (hd [] e es rfl x hx).1
          have : Nat.beq (base + e.i) (base + x.i) = false := by
            rw [← Bool.not_eq_true]; intro hb; have := Nat.eq_of_beq_eq_true hb; omega
          rw [this]; rfl
        rw [hnone]
        simp only [Nat.beq_refl, cond_true]
        cases e.B <;> simp [Hp.set]
      · have hb : Nat.beq n (base + e.i) = false := by
          rw [← Bool.not_eq_true]; intro hb; exact hn (Nat.eq_of_beq_eq_true hb)
        rw [hb]
        simp only [cond_false]
        cases e.B <;> simp [Hp.set, hn]
end Go.Eng
/- A region whose order is open: what was looked at holds (the whole). -/
namespace Go.Eng

/-! what the looks say -/
theorem nodup_apart : ∀ {l : List Nat}, nodupB l = true → ∀ pre a post, l = pre ++ a :: post → a ∉ pre ∧ a ∉ post
  | [], _, pre, a, post, hl => by simp at hl
  | x :: l, h, pre, a, post, hl => by
    simp only [nodupB, Bool.and_eq_true, Bool.not_eq_true'] at h
    cases pre with
    | nil =>
      simp only [List.nil_append, List.cons.injEq] at hl
      obtain ⟨rfl, rfl⟩ := hl
      exact ⟨by simp, by simpa using h.1⟩
    | cons y pre =>
      simp only [List.cons_append, List.cons.injEq] at hl
      obtain ⟨rfl, hl⟩ := hl
      obtain ⟨h1, h2⟩ := nodup_apart h.2 pre a post hl
      refine ⟨fun hm => ?_, h2⟩
      cases hm with
      | head =>
        have h3 : x ∉ l := by simpa using h.1
        exact h3 (by rw [hl]; simp)
      | tail _ hm => exact h1 hm
theorem ahead_at {ms : List Nat} {n : Nat} : ∀ {l done : List Nat}, ahead ms n done l = true → ∀ pre i post, l = pre ++ i :: post → ∀ j, j < n → anc ms i j = true → j ∈ done ∨ j ∈ pre
  | [], _, _, pre, i, post, hl => by simp at hl
  | x :: l, done, h, pre, i, post, hl => by
    simp only [ahead, Bool.and_eq_true, List.all_eq_true, List.mem_range, Bool.or_eq_true, Bool.not_eq_true'] at h
    intro j hj ha
    cases pre with
    | nil =>
      simp only [List.nil_append, List.cons.injEq] at hl
      obtain ⟨rfl, rfl⟩ := hl
      rcases h.1 j hj with h1 | h1
      · rw [ha] at h1; cases h1
      · exact .inl (by simpa using h1)
    | cons y pre =>
      simp only [List.cons_append, List.cons.injEq] at hl
      obtain ⟨rfl, hl⟩ := hl
      rcases ahead_at h.2 pre i post hl j hj ha with h1 | h1
      · cases h1 with
        | head => exact .inr (List.mem_cons_self ..)
        | tail _ h1 => exact .inl h1
      · exact .inr (List.mem_cons_of_mem _ h1)
theorem writers_at {ms : List Nat} : ∀ {l : List Ent}, writersOk ms l = true → ∀ pre e post, l = pre ++ e :: post → ∀ f ∈ post, f.isW = true → (e.isW = true → anc ms f.i e.i = true) ∧ (e.isNew = true → anc ms f.i e.i = true)
  | [], _, pre, e, post, hl => by simp at hl
  | x :: l, h, pre, e, post, hl => by
    simp only [writersOk, Bool.and_eq_true, List.all_eq_true, Bool.or_eq_true, Bool.not_eq_true'] at h
    intro f hf hw
    cases pre with
    | nil =>
      simp only [List.nil_append, List.cons.injEq] at hl
      obtain ⟨rfl, rfl⟩ := hl
      rcases h.1 f hf with h1 | h1
      · rw [hw] at h1; cases h1
      · refine ⟨fun he => ?_, fun he => ?_⟩
        · rcases h1.1 with h2 | h2
          · rw [he] at h2; cases h2
          · exact h2
        · rcases h1.2 with h2 | h2
          · rw [he] at h2; cases h2
          · exact h2
    | cons y pre =>
      simp only [List.cons_append, List.cons.injEq] at hl
      obtain ⟨rfl, hl⟩ := hl
      exact writers_at h.2 pre e post hl f hf hw
theorem slots_at {ops : Array Oper} {ms : List Nat} (h : slotsOk ops ms = true) {i j : Nat} {x y : Oper} (hx : ops[i]? = some x) (hy : ops[j]? = some y) (hne : i ≠ j) {d : Nat} (hd : y.dst = some d) :
    (d ∈ x.looksAt ops → anc ms i j = true ∨ anc ms j i = true) ∧ x.dst ≠ some d := by
  unfold slotsOk at h
  simp only [List.all_eq_true, List.mem_range] at h
  have h1 := h i (Array.getElem?_eq_some_iff.1 hx).1 j (Array.getElem?_eq_some_iff.1 hy).1
  rw [hx, hy] at h1
  simp only [hd, Bool.or_eq_true, Bool.and_eq_true, Bool.not_eq_true'] at h1
  rcases h1 with h1 | ⟨h1, h2⟩
  · exact absurd (Nat.eq_of_beq_eq_true h1) hne
  · refine ⟨fun hm => ?_, fun he => by rw [he] at h2; simp at h2⟩
    rcases h1 with h1 | h1
    · exact absurd hm (by simpa using h1)
    · exact h1

section reads
variable {P : Program} {ops : Array Oper} {base : Nat} {ms : List Nat} {pc : List (Bt × Bool)} {r : Ent}
theorem readAll_tail {late : Bool} {σ : St} {es : List Ent} (h : readAll P ops base ms pc r late σ es = true) : readAll.readTail P ops base ms pc r late es = true := by
  unfold readAll at h
  simp only [Bool.and_eq_true] at h
  cases es with
  | nil => simp [readAll.readTail]
  | cons e es => unfold readAll.readTail; exact h.2
theorem readAll_head {σ : St} {es : List Ent} (h : readAll P ops base ms pc r false σ es = true) (hu : ∀ f ∈ es, f.isW = true → anc ms r.i f.i = false) : readOk P ops base ms pc r σ es = true := by
  unfold readAll at h
  simp only [Bool.and_eq_true, Bool.or_eq_true, Bool.false_eq_true, false_or] at h
  rcases h.1 with h1 | h1
  · simp only [List.any_eq_true, Bool.and_eq_true] at h1
    obtain ⟨f, hf, hw, ha⟩ := h1
    rw [hu f hf hw] at ha; cases ha
  · exact h1
theorem readTail_at : ∀ (pre : List Ent) {post : List Ent} {q : List Ent} {e : Ent}, readAll.readTail P ops base ms pc r false (pre ++ post) = true → pre = q ++ [e] → e.isW = true →
    (∀ f ∈ pre, f.isW = true → anc ms f.i r.i = false) → (∀ f ∈ post, f.isW = true → anc ms r.i f.i = false) → readOk P ops base ms pc r e.post post = true
  | [], _, q, e, _, hq, _, _, _ => by simp at hq
  | x :: pre, post, q, e, h, hq, hw, hp, hu => by
    rw [List.cons_append] at h
    unfold readAll.readTail at h
    cases hx : x.isW <;> simp only [hx, cond_true, cond_false, Bool.false_or] at h
    · cases q with
      | nil =>
        simp only [List.nil_append, List.cons.injEq] at hq
        obtain ⟨rfl, rfl⟩ := hq
        rw [hw] at hx; cases hx
      | cons y q =>
        simp only [List.cons_append, List.cons.injEq] at hq
        obtain ⟨rfl, hq⟩ := hq
        exact readTail_at pre h hq hw (fun f hf => hp f (List.mem_cons_of_mem _ hf)) hu
    · rw [hp x (List.mem_cons_self ..) hx] at h
      cases q with
      | nil =>
        simp only [List.nil_append, List.cons.injEq] at hq
        obtain ⟨rfl, rfl⟩ := hq
        exact readAll_head h hu
      | cons y q =>
        simp only [List.cons_append, List.cons.injEq] at hq
        obtain ⟨rfl, hq⟩ := hq
        exact readTail_at pre (readAll_tail h) hq hw (fun f hf => hp f (List.mem_cons_of_mem _ hf)) hu
end reads

theorem layNew_get {base : Nat} {ms : List Nat} {i : Nat} : ∀ {es : List Ent} {h : T SBlk}, IdsApart es → (∀ pre e post, es = pre ++ e :: post → ∀ f ∈ post, f.i ≠ e.i) → (∀ e ∈ es, e.isNew = true → nameOk (base + e.i) = true) →
    ∀ n B, (layNew base ms i es h).get n = some B → over (news base (fun j => anc ms i j) es) (fun n => h.get n) n = some B
  | [], h, _, _, _, n, B, hb => by simpa [layNew, over, news] using hb
  | e :: es, h, ha, hd, hn, n, B, hb => by
    simp only [layNew] at hb
    have ih := layNew_get (fun x hx y hy => ha x (List.mem_cons_of_mem _ hx) y (List.mem_cons_of_mem _ hy)) (fun pre f post hl => hd (e :: pre) f post (by simp [hl])) (fun x hx => hn x (List.mem_cons_of_mem _ hx)) n B hb
    simp only [over, news, List.findSome?_cons] at ih ⊢
    cases hx : (es.findSome? fun x => bif anc ms i x.i && Nat.beq n (base + x.i) then x.B else none) with
    | some B' =>
      rw [hx] at ih
      simp only [Option.some.injEq] at ih
      subst ih
      have hne : n ≠ base + e.i := by
        obtain ⟨f, hf, _, h2, _⟩ := news_some (base := base) (sel := fun j => anc ms i j) (l := es) (n := n) (B := B') hx
        have := hd [] e es rfl f hf
        omega
      have hb' : Nat.beq n (base + e.i) = false := by
        rw [← Bool.not_eq_true]; intro hq; exact hne (Nat.eq_of_beq_eq_true hq)
      simp [hb']
    | none =>
      rw [hx] at ih
      simp only at ih
      cases hsel : anc ms i e.i <;> simp only [hsel, cond_true, cond_false, Bool.false_and, Bool.true_and] at ih ⊢
      · exact ih
      · cases hB : e.B with
        | none => rw [hB] at ih; simp only at ih; simpa using ih
        | some B' =>
          rw [hB] at ih
          simp only at ih
          have hno := hn e (List.mem_cons_self ..) (by simp [Ent.isNew, hB])
          have hg := set_get (σ := ⟨h, 0, [], []⟩) (some B') hno
          have hg' := congrFun hg n
          simp only [St.set] at hg'
          rw [hg'] at ih
          simp only [Hp.set] at ih
          by_cases hq : n = base + e.i
          · subst hq
            simp only [if_true] at ih
            simpa [Nat.beq_refl] using ih
          · rw [if_neg hq] at ih
            have hb' : Nat.beq n (base + e.i) = false := by
              rw [← Bool.not_eq_true]; intro hx; exact hq (Nat.eq_of_beq_eq_true hx)
            simpa [hb'] using ih

theorem news_congr {base : Nat} {s s' : Nat → Bool} : ∀ {l : List Ent}, (∀ e ∈ l, s e.i = s' e.i ∨ e.B = none) → news base s l = news base s' l
  | [], _ => rfl
  | e :: l, h => by
    funext n
    have ih := congrFun (news_congr (base := base) (l := l) fun x hx => h x (List.mem_cons_of_mem _ hx)) n
    simp only [news, List.findSome?_cons] at ih ⊢
    rcases h e (List.mem_cons_self ..) with h1 | h1
    · rw [h1, ih]
    · rw [h1, ih]
      cases (s e.i && Nat.beq n (base + e.i)) <;> cases (s' e.i && Nat.beq n (base + e.i)) <;> rfl

theorem stepD_mono {P : Program} (hP : Plainly P) {ρ : Rho} {rec : Rec} (hrec : CallOK P ρ rec) {nt : Nat} {ops : Array Oper} {base i : Nat} {o : Oper} {tm tm' : T SV} {σ : St} {e : Ent}
    (h : stepD P rec nt ops base i o tm σ = some (e, tm')) : pcok ρ e.post.pc → pcok ρ σ.pc := by
  unfold stepD at h
  split at h
  · rename_i hw
    split at h
    · simp only [Option.some.injEq, Prod.mk.injEq] at h
      obtain ⟨rfl, _⟩ := h
      exact fun hk => (wantedS_asks hw).pc hk
    · cases h
  · rename_i hw
    split at h
    · split at h
      · rename_i hn
        cases hb : nameOk (base + i) <;> simp only [hb, cond_true, cond_false] at h
        · cases h
        · split at h
          · simp only [Option.some.injEq, Prod.mk.injEq] at h
            obtain ⟨rfl, _⟩ := h
            exact fun hk => (wantedS_asks hw).pc ((opNew_asks hn).pc hk)
          · cases h
      · cases h
    · split at h
      · rename_i hr
        split at h
        · simp only [Option.some.injEq, Prod.mk.injEq] at h
          obtain ⟨rfl, _⟩ := h
          exact fun hk => (wantedS_asks hw).pc ((stepRun_sound hP hrec hr).1 hk)
        · cases h
      · cases h
  · cases h
theorem Run.mono {P : Program} (hP : Plainly P) {ρ : Rho} {rec : Rec} (hrec : CallOK P ρ rec) {nt : Nat} {ops : Array Oper} {base : Nat} {tm tm' : T SV} {σ σ' : St} {es : List Ent}
    (h : Run P rec nt ops base tm σ es tm' σ') : pcok ρ σ'.pc → pcok ρ σ.pc := by
  induction h with
  | nil => exact id
  | cons ho hs hr ih => exact fun hk => stepD_mono hP hrec hs (ih hk)
end Go.Eng
/- A region whose order is open: one more of its operations. -/
namespace Go.Eng

structure DF (ops : Array Oper) (ms : List Nat) (es : List Ent) : Prop where
  edges : edgesOk ops = true
  slots : slotsOk ops ms = true
  opsAt : ∀ e ∈ es, ops[e.i]? = some e.o
  surj : ∀ i, i < ops.size → ∃ e ∈ es, e.i = i
  apart : IdsApart es
  dist : Distinct es
  ahead : ∀ pre e post, es = pre ++ e :: post → ∀ j, j < ops.size → anc ms e.i j = true → ∃ f ∈ pre, f.i = j
  writers : ∀ pre e post, es = pre ++ e :: post → ∀ f ∈ post, f.isW = true → (e.isW = true → anc ms f.i e.i = true) ∧ (e.isNew = true → anc ms f.i e.i = true)

def Tms (ρ : Rho) (tm0 : T SV) (es : List Ent) (S : Array Bool) (ν : Nu) (a : Array Value) : Prop :=
  ∀ t, (∀ e ∈ es, e.o.dst = some t → S.getD e.i false = true → e.s.R ρ ν (a.getD t undef)) ∧ ((∀ e ∈ es, e.o.dst = some t → S.getD e.i false = false) → (slot tm0 t).R ρ ν (a.getD t undef))

theorem getD_set {S : Array Bool} {i : Nat} (hi : i < S.size) (j : Nat) : (S.setIfInBounds i true).getD j false = if j = i then true else S.getD j false := by
  by_cases e : j = i
  · subst e; simp [Array.getD, hi]
  · rw [if_neg e, getD_set_ne false (fun x => e x.symm)]

theorem tms_put {ρ : Rho} {tm0 : T SV} {ops : Array Oper} {ms : List Nat} {es : List Ent} (D : DF ops ms es) {S : Array Bool} {ν ν' : Nu} (hν : ν.le ν') {a : Act} {e : Ent} {v : Value} (h : Tms ρ tm0 es S ν a.tmps) (he : e ∈ es)
    (hS : e.i < S.size) (hd : ∀ d, e.o.dst = some d → d < a.tmps.size) (hv : e.s.R ρ ν' v) : Tms ρ tm0 es (S.setIfInBounds e.i true) ν' (a.put e.o.dst v).tmps := by
  have hne : ∀ f ∈ es, f ≠ e → f.i ≠ e.i := fun f hf hfe hi => hfe (D.apart f hf e he hi)
  have hdst : ∀ f ∈ es, f ≠ e → ∀ t, e.o.dst = some t → f.o.dst ≠ some t := fun f hf hfe t ht => (slots_at D.slots (D.opsAt f hf) (D.opsAt e he) (hne f hf hfe) ht).2
  intro t
  by_cases ht : e.o.dst = some t
  · have hval : (a.put e.o.dst v).tmps.getD t undef = v := by
      rw [ht]; have := hd t ht; simp [Act.put, Array.getD, this]
    refine ⟨fun f hf hft _ => ?_, fun hall => ?_⟩
    · by_cases hfe : f = e
      · subst hfe; rw [hval]; exact hv
      · exact absurd hft (hdst f hf hfe t ht)
    · have := hall e he ht
      rw [getD_set hS, if_pos rfl] at this
      cases this
  · have hval : (a.put e.o.dst v).tmps.getD t undef = a.tmps.getD t undef := by
      cases hdd : e.o.dst with
      | none => rfl
      | some d =>
        have hdt : d ≠ t := fun x => ht (by rw [hdd, x])
        simp [Act.put, Array.getD_eq_getD_getElem?, Array.getElem?_setIfInBounds_ne hdt]
    rw [hval]
    refine ⟨fun f hf hft hSf => ?_, fun hall => ?_⟩
    · have hfe : f ≠ e := fun x => ht (by rw [← x]; exact hft)
      rw [getD_set hS, if_neg (hne f hf hfe)] at hSf
      exact SV.R_mono hν ((h t).1 f hf hft hSf)
    · refine SV.R_mono hν ((h t).2 fun f hf hft => ?_)
      have hfe : f ≠ e := fun x => ht (by rw [← x]; exact hft)
      have := hall f hf hft
      rwa [getD_set hS, if_neg (hne f hf hfe)] at this

structure Inv (P : Program) (rec : Rec) (nt : Nat) (ops : Array Oper) (base : Nat) (ρ : Rho) (ν0 : Nu) (h0 : Hp) (w0 : World) (d0 : List Deferred) (tm0 : T SV) (σ0 : St) (es : List Ent) (tm1 : T SV) (σ1 : St)
    (S : Array Bool) (a : Act) (w : World) (ν : Nu) (pre post : List Ent) (tmb : T SV) (σb : St) : Prop where
  hsp : es = pre ++ post
  hrun : Run P rec nt ops base tmb σb post tm1 σ1
  bnd : (pre = [] ∧ σb = σ0) ∨ ∃ q e, pre = q ++ [e] ∧ e.isW = true ∧ σb = e.post
  wpre : ∀ e ∈ pre, e.isW = true → S.getD e.i false = true
  wpost : ∀ e ∈ post, e.isW = true → S.getD e.i false = false
  npre : ∀ e ∈ pre, e.isNew = true → S.getD e.i false = true
  goes : Goes base ρ ν0 h0 base w0 ν (over (news base (fun j => S.getD j false) post) (fun n => σb.hp.get n)) σb.nx w
  free : ∀ e ∈ post, e.isNew = true → S.getD e.i false = false → ν (base + e.i) = none
  disj : ∀ e ∈ post, e.isNew = true → σb.hp.get (base + e.i) = none
  low : base + ops.size ≤ σb.nx
  tsz : a.tmps.size = nt
  tdf : a.defers = d0
  tms : Tms ρ tm0 es S ν a.tmps
  ssz : S.size = ops.size

section
variable {P : Program} {rec : Rec} {nt : Nat} {ops : Array Oper} {base : Nat} {ρ : Rho} {ν0 : Nu} {h0 : Hp} {w0 : World} {d0 : List Deferred} {tm0 : T SV} {σ0 : St} {es : List Ent} {tm1 : T SV} {σ1 : St}
  {S : Array Bool} {a : Act} {w : World} {ν : Nu} {pre post : List Ent} {tmb : T SV} {σb : St}

theorem put_tsz (h : a.tmps.size = nt) (dst : Option Nat) (v : Value) : (a.put dst v).tmps.size = nt := by cases dst <;> simp [Act.put, h]
theorem put_tdf (h : a.defers = d0) (dst : Option Nat) (v : Value) : (a.put dst v).defers = d0 := by cases dst <;> exact h

/-- an operation that leaves memory alone -/
theorem Inv.quiet {ms : List Nat} (D : DF ops ms es) (I : Inv P rec nt ops base ρ ν0 h0 w0 d0 tm0 σ0 es tm1 σ1 S a w ν pre post tmb σb) {e : Ent} (he : e ∈ es) (hw : e.isW = false) (hB : e.B = none)
    (hd : ∀ d, e.o.dst = some d → d < nt) {v : Value} (hv : e.s.R ρ ν v) :
    Inv P rec nt ops base ρ ν0 h0 w0 d0 tm0 σ0 es tm1 σ1 (S.setIfInBounds e.i true) (a.put e.o.dst v) w ν pre post tmb σb := by
  have hi : e.i < S.size := by rw [I.ssz]; exact (Array.getElem?_eq_some_iff.1 (D.opsAt e he)).1
  have keep : ∀ j, S.getD j false = true → (S.setIfInBounds e.i true).getD j false = true := fun j hj => by rw [getD_set hi]; split <;> simp_all
  have hpost : ∀ f ∈ post, f ∈ es := fun f hf => by rw [I.hsp]; exact List.mem_append_right _ hf
  have hnews : news base (fun j => (S.setIfInBounds e.i true).getD j false) post = news base (fun j => S.getD j false) post := news_congr fun f hf => by
    by_cases hfe : f = e
    · subst hfe; exact .inr hB
    · refine .inl ?_
      show (S.setIfInBounds e.i true).getD f.i false = S.getD f.i false
      rw [getD_set hi, if_neg fun x => hfe (D.apart f (hpost f hf) e he x)]
  refine ⟨I.hsp, I.hrun, I.bnd, fun f hf hx => keep _ (I.wpre f hf hx), fun f hf hx => ?_, fun f hf hx => keep _ (I.npre f hf hx), by rw [hnews]; exact I.goes, fun f hf hx hs => I.free f hf hx ?_, I.disj, I.low, put_tsz I.tsz _ _,
    put_tdf I.tdf _ _, tms_put D (Nu.le_refl _) I.tms he hi (fun d hdd => by rw [I.tsz]; exact hd d hdd) hv, by simp [I.ssz]⟩
  · rw [getD_set hi, if_neg, I.wpost f hf hx]
    intro x
    rw [D.apart f (hpost f hf) e he x, hw] at hx
    cases hx
  · rw [getD_set hi] at hs
    split at hs
    · cases hs
    · exact hs

/-- something new -/
theorem Inv.made {ms : List Nat} (D : DF ops ms es) (I : Inv P rec nt ops base ρ ν0 h0 w0 d0 tm0 σ0 es tm1 σ1 S a w ν pre post tmb σb) {e : Ent} (he : e ∈ post) (hu : S.getD e.i false = false) {B : SBlk} (hB : e.B = some B)
    (hw : e.isW = false) (hd : ∀ d, e.o.dst = some d → d < nt) {c : Array Value} {ty : TypeId} (hc : B.R ρ ν c) {v : Value}
    (hv : ∀ ν' : Nu, ν' (base + e.i) = some (w.heap.size, c.size) → e.s.R ρ ν' v) :
    Inv P rec nt ops base ρ ν0 h0 w0 d0 tm0 σ0 es tm1 σ1 (S.setIfInBounds e.i true) (a.put e.o.dst v) (w.alloc (.cells c ty)) (fun m => if m = base + e.i then some (w.heap.size, c.size) else ν m) pre post tmb σb := by
  have hpost : ∀ f ∈ post, f ∈ es := fun f hf => by rw [I.hsp]; exact List.mem_append_right _ hf
  have hes := hpost e he
  have hio : e.i < ops.size := (Array.getElem?_eq_some_iff.1 (D.opsAt e hes)).1
  have hi : e.i < S.size := by rw [I.ssz]; exact hio
  have keep : ∀ j, S.getD j false = true → (S.setIfInBounds e.i true).getD j false = true := fun j hj => by rw [getD_set hi]; split <;> simp_all
  have hnew : e.isNew = true := by simp [Ent.isNew, hB]
  have hfree := I.free e he hnew hu
  have hle : ν.le (fun m => if m = base + e.i then some (w.heap.size, c.size) else ν m) := fun m x hx => by
    by_cases q : m = base + e.i
    · subst q; rw [hfree] at hx; cases hx
    · simp [q, hx]
  have hpa : IdsApart post := fun x hx y hy => D.apart x (hpost x hx) y (hpost y hy)
  have hh : over (news base (fun j => S.getD j false) post) (fun n => σb.hp.get n) (base + e.i) = none := by
    simp only [over]
    cases hx : news base (fun j => S.getD j false) post (base + e.i) with
    | none => exact I.disj e he hnew
    | some B' =>
      obtain ⟨f, hf, hs, hq, _⟩ := news_some hx
      have : f = e := hpa f hf e he (by omega)
      subst this
      rw [hu] at hs; cases hs
  have hset : over (news base (fun j => (S.setIfInBounds e.i true).getD j false) post) (fun n => σb.hp.get n) = Hp.set (over (news base (fun j => S.getD j false) post) (fun n => σb.hp.get n)) (base + e.i) (some B) := by
    funext n
    simp only [Hp.set]
    by_cases q : n = base + e.i
    · subst q
      rw [if_pos rfl]
      simp only [over]
      rw [news_of hpa he (by rw [getD_set hi, if_pos rfl]) hB]
    · rw [if_neg q]
      have hcg : news base (fun j => (S.setIfInBounds e.i true).getD j false) post n = news base (fun j => S.getD j false) post n := by
        cases hx : news base (fun j => S.getD j false) post n with
        | some B' =>
          obtain ⟨f, hf, hs, hq, hfB⟩ := news_some hx
          rw [hq]
          exact news_of hpa hf (keep _ hs) hfB
        | none =>
          cases hy : news base (fun j => (S.setIfInBounds e.i true).getD j false) post n with
          | none => rfl
          | some B' =>
            obtain ⟨f, hf, hs, hq, hfB⟩ := news_some hy
            rw [getD_set hi, if_neg (fun x => q (by rw [hq, x]))] at hs
            rw [hq, news_of hpa hf hs hfB] at hx
            cases hx
      simp only [over, hcg]
  have g1 := Goes.alloc (lo := base) (nx' := σb.nx) I.goes.sim (base + e.i) B c ty hc hfree hh (Nat.le_refl _) (by have := I.low; omega) (by omega)
  refine ⟨I.hsp, I.hrun, I.bnd, fun f hf hx => keep _ (I.wpre f hf hx), fun f hf hx => ?_, fun f hf hx => keep _ (I.npre f hf hx), by rw [hset]; exact I.goes.trans g1, fun f hf hx hs => ?_, I.disj, I.low, put_tsz I.tsz _ _,
    put_tdf I.tdf _ _, tms_put D hle I.tms hes hi (fun d hdd => by rw [I.tsz]; exact hd d hdd) (hv _ (by simp)), by simp [I.ssz]⟩
  · rw [getD_set hi, if_neg, I.wpost f hf hx]
    intro x
    rw [D.apart f (hpost f hf) e hes x, hw] at hx
    cases hx
  · rw [getD_set hi] at hs
    split at hs
    · cases hs
    · rename_i hne
      show (if base + f.i = base + e.i then _ else ν (base + f.i)) = none
      rw [if_neg (by omega)]
      exact I.free f hf hx hs

/-- memory is written -/
theorem Inv.wrote {ms : List Nat} (D : DF ops ms es) (I : Inv P rec nt ops base ρ ν0 h0 w0 d0 tm0 σ0 es tm1 σ1 S a w ν pre post tmb σb) {e : Ent} {mid post' : List Ent} (hsp : post = mid ++ e :: post') (hw : e.isW = true)
    (hmw : ∀ f ∈ mid, f.isW = false) (hmn : ∀ f ∈ mid, f.isNew = true → S.getD f.i false = true) {tmy : T SV} (hrun' : Run P rec nt ops base tmy e.post post' tm1 σ1)
    (hhp : (fun n => e.pre.hp.get n) = over (news base (fun _ => true) mid) (fun n => σb.hp.get n)) (hnx : e.pre.nx = σb.nx) (hpn : e.pre.nx ≤ e.post.nx)
    (hd : ∀ d, e.o.dst = some d → d < nt) {ν' : Nu} {w' : World} {v : Value} (hg : GoesW ρ ν e.pre w ν' e.post w') (hv : e.s.R ρ ν' v) :
    Inv P rec nt ops base ρ ν0 h0 w0 d0 tm0 σ0 es tm1 σ1 (S.setIfInBounds e.i true) (a.put e.o.dst v) w' ν' (pre ++ mid ++ [e]) post' tmy e.post := by
  have hpost : ∀ f ∈ post, f ∈ es := fun f hf => by rw [I.hsp]; exact List.mem_append_right _ hf
  have hep : e ∈ post := by rw [hsp]; simp
  have hes := hpost e hep
  have hio : e.i < ops.size := (Array.getElem?_eq_some_iff.1 (D.opsAt e hes)).1
  have hi : e.i < S.size := by rw [I.ssz]; exact hio
  have keep : ∀ j, S.getD j false = true → (S.setIfInBounds e.i true).getD j false = true := fun j hj => by rw [getD_set hi]; split <;> simp_all
  have hpa : IdsApart post := fun x hx y hy => D.apart x (hpost x hx) y (hpost y hy)
  have hmp : ∀ f ∈ mid, f ∈ post := fun f hf => by rw [hsp]; simp [hf]
  have hpp : ∀ f ∈ post', f ∈ post := fun f hf => by rw [hsp]; simp [hf]
  have hdis := D.dist (pre ++ mid) e post' (by rw [I.hsp, hsp]; simp)
  have hmid : ∀ f ∈ mid, ∀ g ∈ post', f.i ≠ g.i := fun f hf g hg hx => by
    obtain ⟨m1, m2, hm⟩ := List.append_of_mem hf
    exact (D.dist (pre ++ m1) f (m2 ++ e :: post') (by rw [I.hsp, hsp, hm]; simp) g (by simp [hg])).1 hx.symm
  have heB : e.B = none := by
    obtain ⟨m1, m2, hm⟩ := List.append_of_mem hes
    cases hB : e.B with
    | none => rfl
    | some B =>
      -- one that writes makes nothing under a name of its own
      exfalso
      have hr := I.hrun
      rw [hsp] at hr
      obtain ⟨_, _, _, hr2⟩ := hr.split
      cases hr2 with
      | cons ho hs hr3 =>
        have := (stepD_heap hs).w hw
        rw [hB] at this; cases this
  -- what is there at this point, as the writer sees it
  let h1 : Hp := fun n => e.pre.hp.get n
  let hS : Hp := over (news base (fun j => S.getD j false) post) (fun n => σb.hp.get n)
  have hSeq : hS = over (news base (fun j => S.getD j false) post') h1 := by
    funext n
    show over _ _ n = over _ _ n
    simp only [over]
    have hh1 : h1 n = over (news base (fun _ => true) mid) (fun n => σb.hp.get n) n := congrFun hhp n
    rw [hh1]
    simp only [over]
    cases hx : news base (fun j => S.getD j false) post' n with
    | some B =>
      obtain ⟨f, hf, hs, hq, hB⟩ := news_some hx
      rw [hq, news_of hpa (hpp f hf) hs hB]
    | none =>
      cases hy : news base (fun _ => true) mid n with
      | some B =>
        obtain ⟨f, hf, _, hq, hB⟩ := news_some hy
        rw [hq, news_of hpa (hmp f hf) (hmn f hf (by simp [Ent.isNew, hB])) hB]
      | none =>
        cases hz : news base (fun j => S.getD j false) post n with
        | none => rfl
        | some B =>
          exfalso
          obtain ⟨f, hf, hs, hq, hB⟩ := news_some hz
          rw [hsp] at hf
          simp only [List.mem_append, List.mem_cons] at hf
          rcases hf with hf | rfl | hf
          · have := news_of (base := base) (sel := fun _ => true) (fun x hx y hy => hpa x (hmp x hx) y (hmp y hy)) hf rfl hB
            rw [← hq, hy] at this; cases this
          · rw [heB] at hB; cases hB
          · have := news_of (base := base) (sel := fun j => S.getD j false) (fun x hx y hy => hpa x (hpp x hx) y (hpp y hy)) hf hs hB
            rw [← hq, hx] at this; cases this
  have hdisj : ∀ f ∈ post', f.isNew = true → h1 (base + f.i) = none := fun f hf hn => by
    have hh1 : h1 (base + f.i) = over (news base (fun _ => true) mid) (fun n => σb.hp.get n) (base + f.i) := congrFun hhp _
    rw [hh1]
    simp only [over]
    cases hy : news base (fun _ => true) mid (base + f.i) with
    | some B =>
      obtain ⟨g, hg, _, hq, _⟩ := news_some hy
      exact absurd (by omega) (hmid g hg f hf)
    | none => exact I.disj f (hpp f hf) hn
  have hsim : Sim ρ ν hS σb.nx w := I.goes.sim
  have hold : ∀ n, n < e.pre.nx → ν' n = ν n := hg.old
  have hlow : base + ops.size ≤ e.pre.nx := by rw [hnx]; exact I.low
  have hname : ∀ f ∈ post', base + f.i < e.pre.nx := fun f hf => by
    have := (Array.getElem?_eq_some_iff.1 (D.opsAt f (hpost f (hpp f hf)))).1
    omega
  -- names of what is new, and not yet forgotten, stand for blocks that the writer does not touch
  have hE : ∀ n B, news base (fun j => S.getD j false) post' n = some B → ∃ b c ty, ν n = some (b, c.size) ∧ w.heap[b]? = some (.cells c ty (0, 0)) ∧ B.R ρ ν c ∧ ¬ foot ν h1 b ∧ n < e.pre.nx := fun n B hx => by
    obtain ⟨f, hf, hs, hq, hB⟩ := news_some hx
    have hSn : hS n = some B := by rw [hSeq]; simp only [over, hx]
    obtain ⟨b, c, ty, k1, k2, k3⟩ := hsim.blk n B hSn
    refine ⟨b, c, ty, k1, k2, k3, fun ⟨m, q, j1, j2⟩ => ?_, by rw [hq]; exact hname f hf⟩
    have hmS : (hS m).isSome = true := by
      rw [hSeq]; simp only [over]
      cases news base (fun j => S.getD j false) post' m with
      | some B' => rfl
      | none => exact j1
    have := hsim.inj n m b _ _ (by simp [hSn]) hmS k1 j2
    subst this
    have hd' := hdisj f hf (by simp [Ent.isNew, hB])
    rw [hq] at j1
    rw [hd'] at j1
    cases j1
  have hbl : ∀ {n B b c ty}, news base (fun j => S.getD j false) post' n = some B → w.heap[b]? = some (.cells c ty (0, 0)) → b < w.heap.size := fun _ h => (Array.getElem?_eq_some_iff.1 h).1
  have hnotin : ∀ n B, news base (fun j => S.getD j false) post' n = some B → ∀ b m, ν n = some (b, m) → ¬ foot ν' (fun n => e.post.hp.get n) b := fun n B hx b m hν hf => by
    obtain ⟨b', c, ty, k1, k2, k3, k4, k5⟩ := hE n B hx
    rw [hν] at k1
    simp only [Option.some.injEq, Prod.mk.injEq] at k1
    obtain ⟨rfl, rfl⟩ := k1
    rcases hg.foot b hf with q | q
    · exact k4 q
    · have := hbl hx k2; omega
  have hnews : news base (fun j => (S.setIfInBounds e.i true).getD j false) post' = news base (fun j => S.getD j false) post' := news_congr fun f hf => by
    refine .inl ?_
    show (S.setIfInBounds e.i true).getD f.i false = S.getD f.i false
    rw [getD_set hi, if_neg (hdis f hf).1]
  have hgoes : Goes base ρ ν hS σb.nx w ν' (over (news base (fun j => S.getD j false) post') (fun n => e.post.hp.get n)) e.post.nx w' := by
    refine ⟨fun n hn => hold n (by omega), hg.le, ⟨?_, ?_, hg.sim.fresh⟩, by rw [← hnx]; exact hpn, ⟨hg.fr.os, hg.fr.tape, hg.fr.output, hg.fr.size, fun b hb hn => hg.fr.block b hb fun ⟨m, q, j1, j2⟩ => hn ⟨m, q, ?_, j2⟩, hg.fr.kind⟩, ?_⟩
    · intro n B hn
      simp only [over] at hn
      cases hx : news base (fun j => S.getD j false) post' n with
      | some B' =>
        rw [hx] at hn
        simp only [Option.some.injEq] at hn
        subst hn
        obtain ⟨b, c, ty, k1, k2, k3, k4, k5⟩ := hE n _ hx
        exact ⟨b, c, ty, hg.le _ _ k1, by rw [hg.fr.block b (hbl hx k2) k4, k2], SBlk.R_mono hg.le k3⟩
      | none =>
        rw [hx] at hn
        exact hg.sim.blk n B hn
    · intro n m b q q' j1 j2 e1 e2
      simp only [over] at j1 j2
      cases hx : news base (fun j => S.getD j false) post' n with
      | some B =>
        obtain ⟨b1, c1, ty1, k1, k2, k3, k4, k5⟩ := hE n _ hx
        have z1 := hg.le _ _ k1
        rw [e1] at z1
        simp only [Option.some.injEq, Prod.mk.injEq] at z1
        obtain ⟨rfl, rfl⟩ := z1
        cases hy : news base (fun j => S.getD j false) post' m with
        | some B' =>
          obtain ⟨b2, c2, ty2, l1, l2, l3, l4, l5⟩ := hE m _ hy
          have z2 := hg.le _ _ l1
          rw [e2] at z2
          simp only [Option.some.injEq, Prod.mk.injEq] at z2
          obtain ⟨rfl, rfl⟩ := z2
          exact hsim.inj n m _ _ _ (by rw [hSeq]; show (over _ _ n).isSome = true; simp only [over, hx]; rfl) (by rw [hSeq]; show (over _ _ m).isSome = true; simp only [over, hy]; rfl) k1 l1
        | none =>
          rw [hy] at j2
          exact absurd ⟨m, q', j2, e2⟩ (hnotin n _ hx b _ k1)
      | none =>
        rw [hx] at j1
        cases hy : news base (fun j => S.getD j false) post' m with
        | some B' =>
          obtain ⟨b2, c2, ty2, l1, l2, l3, l4, l5⟩ := hE m _ hy
          have z2 := hg.le _ _ l1
          rw [e2] at z2
          simp only [Option.some.injEq, Prod.mk.injEq] at z2
          obtain ⟨rfl, rfl⟩ := z2
          exact absurd ⟨n, q, j1, e1⟩ (hnotin m _ hy b _ l1)
        | none =>
          rw [hy] at j2
          exact hg.sim.inj n m b q q' j1 j2 e1 e2
    · rw [hSeq]; simp only [over]
      cases news base (fun j => S.getD j false) post' m with
      | some B' => rfl
      | none => exact j1
    · rintro b ⟨m, q, j1, j2⟩
      simp only [over] at j1
      cases hx : news base (fun j => S.getD j false) post' m with
      | some B =>
        obtain ⟨b1, c1, ty1, k1, k2, k3, k4, k5⟩ := hE m _ hx
        have z1 := hg.le _ _ k1
        rw [j2] at z1
        simp only [Option.some.injEq, Prod.mk.injEq] at z1
        obtain ⟨rfl, rfl⟩ := z1
        exact .inl ⟨m, _, by rw [hSeq]; show (over _ _ m).isSome = true; simp only [over, hx]; rfl, k1⟩
      | none =>
        rw [hx] at j1
        rcases hg.foot b ⟨m, q, j1, j2⟩ with ⟨m', q', j3, j4⟩ | hge
        · refine .inl ⟨m', q', ?_, j4⟩
          rw [hSeq]; simp only [over]
          cases news base (fun j => S.getD j false) post' m' with
          | some B' => rfl
          | none => exact j3
        · exact .inr hge
  refine ⟨by rw [I.hsp, hsp]; simp, hrun', .inr ⟨pre ++ mid, e, rfl, hw, rfl⟩, fun f hf hx => ?_, fun f hf hx => ?_, fun f hf hx => ?_, by rw [hnews]; exact I.goes.trans hgoes, fun f hf hx hs => ?_, fun f hf hx => ?_, by omega, put_tsz I.tsz _ _,
    put_tdf I.tdf _ _, tms_put D hg.le I.tms hes hi (fun d hdd => by rw [I.tsz]; exact hd d hdd) hv, by simp [I.ssz]⟩
  · simp only [List.mem_append, List.mem_singleton] at hf
    rcases hf with (hf | hf) | rfl
    · exact keep _ (I.wpre f hf hx)
    · rw [hmw f hf] at hx; cases hx
    · rw [getD_set hi, if_pos rfl]
  · rw [getD_set hi, if_neg (hdis f hf).1, I.wpost f (hpp f hf) hx]
  · simp only [List.mem_append, List.mem_singleton] at hf
    rcases hf with (hf | hf) | rfl
    · exact keep _ (I.npre f hf hx)
    · exact keep _ (hmn f hf hx)
    · rw [getD_set hi, if_pos rfl]
  · rw [getD_set hi, if_neg (hdis f hf).1] at hs
    rw [hold _ (hname f hf)]
    exact I.free f (hpp f hf) hx hs
  · cases hz : e.post.hp.get (base + f.i) with
    | none => rfl
    | some B =>
      exfalso
      obtain ⟨b, c, ty, k1, k2, k3⟩ := hg.sim.blk (base + f.i) B hz
      have hfoot : foot ν' (fun n => e.post.hp.get n) b := ⟨base + f.i, c.size, by simp [hz], k1⟩
      cases hs : S.getD f.i false with
      | false =>
        have := I.free f (hpp f hf) hx hs
        rw [hold _ (hname f hf), this] at k1
        cases k1
      | true =>
        obtain ⟨B', hB'⟩ := Option.isSome_iff_exists.1 hx
        have hn := news_of (base := base) (sel := fun j => S.getD j false) (fun x hx y hy => hpa x (hpp x hx) y (hpp y hy)) hf hs hB'
        rw [hold _ (hname f hf)] at k1
        exact hnotin _ _ hn b _ k1 hfoot
end
end Go.Eng
/- A region whose order is open: in whatever order its operations go. -/
namespace Go.Eng

theorem stepD_name {P : Program} {rec : Rec} {nt : Nat} {ops : Array Oper} {base i : Nat} {o : Oper} {tm tm' : T SV} {σ : St} {e : Ent} (h : stepD P rec nt ops base i o tm σ = some (e, tm')) : e.isNew = true → nameOk (base + e.i) = true := by
  unfold stepD at h
  split at h
  · split at h
    · simp only [Option.some.injEq, Prod.mk.injEq] at h
      obtain ⟨rfl, _⟩ := h
      intro hx; cases hx
    · cases h
  · split at h
    · split at h
      · cases hb : nameOk (base + i) <;> simp only [hb, cond_true, cond_false] at h
        · cases h
        · split at h
          · simp only [Option.some.injEq, Prod.mk.injEq] at h
            obtain ⟨rfl, _⟩ := h
            exact fun _ => hb
          · cases h
      · cases h
    · split at h
      · split at h
        · simp only [Option.some.injEq, Prod.mk.injEq] at h
          obtain ⟨rfl, _⟩ := h
          intro hx; cases hx
        · cases h
      · cases h
  · cases h
theorem Run.names {P : Program} {rec : Rec} {nt : Nat} {ops : Array Oper} {base : Nat} {tm tm' : T SV} {σ σ' : St} {es : List Ent} (h : Run P rec nt ops base tm σ es tm' σ') : ∀ e ∈ es, e.isNew = true → nameOk (base + e.i) = true := by
  induction h with
  | nil => intro e he; cases he
  | cons ho hs hr ih =>
    intro e he
    cases he with
    | head => exact stepD_name hs
    | tail _ hm => exact ih e hm

section
variable {P : Program} {rec : Rec} {nt : Nat} {ops : Array Oper} {base : Nat} {ρ : Rho} {ν0 : Nu} {h0 : Hp} {w0 : World} {d0 : List Deferred} {tm0 : T SV} {σ0 : St} {es : List Ent} {tm1 : T SV} {σ1 : St}
  {S : Array Bool} {a : Act} {w : World} {ν : Nu} {pre post : List Ent} {tmb : T SV} {σb : St}

theorem inv_step (hP : Plainly P) (hrec : CallOK P ρ rec) (D : DF ops (ancs ops.toList []) es) (hR : Run P rec nt ops base tm0 σ0 es tm1 σ1) (hk : pcok ρ σ1.pc)
    (hrd : ∀ r ∈ es, r.isRd = true → readAll P ops base (ancs ops.toList []) σ1.pc r false σ0 es = true) (hC : Closed ops S)
    (I : Inv P rec nt ops base ρ ν0 h0 w0 d0 tm0 σ0 es tm1 σ1 S a w ν pre post tmb σb) {i : Nat} (hi : i ∈ Region.ready .any ops S) {Q : Exit → Act → World → Prop} :
    wpOp P ops Q i (fun a' w' => ∃ ν' pre' post' tmb' σb', Inv P rec nt ops base ρ ν0 h0 w0 d0 tm0 σ0 es tm1 σ1 (S.setIfInBounds i true) a' w' ν' pre' post' tmb' σb') a w := by
  obtain ⟨hun, o, ho, hready⟩ := mem_ready.1 hi
  have hio := (Array.getElem?_eq_some_iff.1 ho).1
  have hiS : i < S.size := by rw [I.ssz]; exact hio
  have hSi : S.getD i false = false := by
    simp only [Array.getD, hiS, dif_pos] at hun ⊢
    exact hun
  obtain ⟨e, he, hei⟩ := D.surj i hio
  have heo : e.o = o := by
    have := D.opsAt e he
    rw [hei, ho] at this
    cases this; rfl
  subst hei heo
  have hanc : ∀ j, anc (ancs ops.toList []) e.i j = true → S.getD j false = true := fun j hj => anc_in D.edges hC e.i ho hready hj
  have hdesc : ∀ f ∈ es, anc (ancs ops.toList []) f.i e.i = true → S.getD f.i false = false := fun f hf ha => by
    cases hx : S.getD f.i false with
    | false => rfl
    | true =>
      have := anc_in D.edges hC f.i (D.opsAt f hf) (hC f.i f.o (D.opsAt f hf) hx) ha
      rw [hSi] at this; cases this
  -- where it stands
  obtain ⟨p1, p2, hp⟩ := List.append_of_mem he
  have hR' := hR
  rw [hp] at hR'
  obtain ⟨tmx, σx, hR1, hR2⟩ := hR'.split
  cases hR2 with
  | @cons _ tmy _ _ _ _ _ hoo hs hR3 =>
  have hke : pcok ρ e.post.pc := hR3.mono hP hrec hk
  have F := stepD_f hs
  have hdlt : ∀ d, e.o.dst = some d → d < nt := fun d hd => by
    have := F.put
    rw [hd] at this
    exact (slot_put this).1
  have hp1 : ∀ f ∈ p1, f ∈ es := fun f hf => by rw [hp]; simp [hf]
  have hp2 : ∀ f ∈ p2, f ∈ es := fun f hf => by rw [hp]; simp [hf]
  have hne1 : ∀ f ∈ p1, f.i ≠ e.i := fun f hf => by
    obtain ⟨q1, q2, hq⟩ := List.append_of_mem hf
    have := (D.dist q1 f (q2 ++ e :: p2) (by rw [hp, hq]; simp) e (by simp)).1
    exact fun x => this x.symm
  have hne2 : ∀ f ∈ p2, f.i ≠ e.i := fun f hf => (D.dist p1 e p2 hp f hf).1
  have hdist1 : Distinct p1 := fun q1 f q2 hq g hg => D.dist q1 f (q2 ++ e :: p2) (by rw [hp, hq]; simp) g (by simp [hg])
  have hT : TmR ρ ν (rst (e.o.looksAt ops) tmx) a.tmps := fun t s hts => by
    simp only [rst] at hts
    cases hl : (e.o.looksAt ops).contains t <;> simp only [hl, cond_true, cond_false] at hts
    · cases hts
    · have hlt : t ∈ e.o.looksAt ops := by simpa using hl
      simp only [look, Option.some.injEq] at hts
      subst hts
      obtain ⟨s1, s2⟩ := hR1.slots hdist1 t
      by_cases hx : ∃ f ∈ p1, f.o.dst = some t
      · obtain ⟨f, hf, hft⟩ := hx
        rw [s1 f hf hft]
        have hne : e.i ≠ f.i := fun x => hne1 f hf x.symm
        rcases (slots_at D.slots (D.opsAt e he) (D.opsAt f (hp1 f hf)) hne hft).1 hlt with ha | ha
        · exact (I.tms t).1 f (hp1 f hf) hft (hanc _ ha)
        · exfalso
          obtain ⟨q1, q2, hq⟩ := List.append_of_mem hf
          obtain ⟨g, hg, hgi⟩ := D.ahead q1 f (q2 ++ e :: p2) (by rw [hp, hq]; simp) e.i hio ha
          exact hne1 g (by rw [hq]; simp [hg]) hgi
      · rw [s2 fun f hf hft => hx ⟨f, hf, hft⟩]
        refine (I.tms t).2 fun f hf hft => ?_
        by_cases hfe : f = e
        · subst hfe; exact hSi
        · have hfi : e.i ≠ f.i := fun x => hfe (D.apart f hf e he x.symm)
          rcases (slots_at D.slots (D.opsAt e he) (D.opsAt f hf) hfi hft).1 hlt with ha | ha
          · exfalso
            obtain ⟨g, hg, hgi⟩ := D.ahead p1 e p2 hp f.i (Array.getElem?_eq_some_iff.1 (D.opsAt f hf)).1 ha
            have : g = f := D.apart g (hp1 g hg) f hf hgi
            subst this
            exact hx ⟨g, hg, hft⟩
          · exact hdesc f hf ha
  have hepre : e.pre = σx := F.epre
  have hetm : e.tm = tmx := F.etm
  -- what the world holds, seen through what the run had
  have hover : ∀ n B, (fun n => σb.hp.get n) n = some B → over (news base (fun j => S.getD j false) post) (fun n => σb.hp.get n) n = some B := fun n B hn => by
    simp only [over]
    cases hx : news base (fun j => S.getD j false) post n with
    | none => exact hn
    | some B' =>
      obtain ⟨f, hf, _, hq, hB⟩ := news_some hx
      have := I.disj f hf (by simp [Ent.isNew, hB])
      simp only [hq, this] at hn; cases hn
  have hpost : ∀ f ∈ post, f ∈ es := fun f hf => by rw [I.hsp]; exact List.mem_append_right _ hf
  have hpa : IdsApart post := fun x hx y hy => D.apart x (hpost x hx) y (hpost y hy)
  unfold wpOp
  rw [ho]
  simp only
  unfold stepD at hs
  split at hs
  · -- it is not wanted
    rename_i σw hw
    split at hs
    · simp only [Option.some.injEq, Prod.mk.injEq] at hs
      obtain ⟨hs1, _⟩ := hs
      have hkw : pcok ρ σw.pc := by rw [← hs1] at hke; exact hke
      rw [wantedS_sound hw hkw hT I.tsz]
      simp only [Bool.false_eq_true, if_false]
      have hW : e.isW = false := by rw [← hs1]; rfl
      have hB : e.B = none := by rw [← hs1]
      have hS : e.s = undefS := by rw [← hs1]
      exact ⟨ν, pre, post, tmb, σb, I.quiet D he hW hB hdlt (by rw [hS]; exact undefS_R ρ ν)⟩
    · cases hs
  · rename_i σw hw
    have aw := wantedS_asks (ρ := ρ) hw
    split at hs
    · -- it makes memory
      rename_i hc
      split at hs
      · rename_i v B σ2 hn
        cases hb : nameOk (base + e.i) <;> simp only [hb, cond_true, cond_false] at hs
        · cases hs
        · split at hs
          · simp only [Option.some.injEq, Prod.mk.injEq] at hs
            obtain ⟨hs1, _⟩ := hs
            have hk2 : pcok ρ σ2.pc := by rw [← hs1] at hke; exact hke
            obtain ⟨an, bn⟩ := opNew_sound (ρ := ρ) hn
            rw [wantedS_sound hw (an.pc hk2) hT I.tsz]
            simp only [if_true]
            obtain ⟨c, ty, e1, e2, e3⟩ := bn hk2 hT
            have hB : e.B = some B := by rw [← hs1]
            have hSv : e.s = v.at (base + e.i) := by rw [← hs1]
            have hW : e.isW = false := by rw [← hs1]; simp [Ent.isW, hc]
            have hep : e ∈ post := by
              rw [I.hsp] at he
              rcases List.mem_append.1 he with h | h
              · have := I.npre e h (by simp [Ent.isNew, hB])
                rw [hSi] at this; cases this
              · exact h
            refine .inl ?_
            unfold Oper.wp
            rw [e2 w, Oper.upon_value]
            exact ⟨_, pre, post, tmb, σb, I.made D hep hSi hB hW hdlt e1 (fun ν' hν => by rw [hSv]; exact e3 ν' _ _ hν)⟩
          · cases hs
      · cases hs
    · rename_i hc
      split at hs
      · rename_i s σ2 hr
        split at hs
        · simp only [Option.some.injEq, Prod.mk.injEq] at hs
          obtain ⟨hs1, _⟩ := hs
          have hk2 : pcok ρ σ2.pc := by rw [← hs1] at hke; exact hke
          have hB : e.B = none := by rw [← hs1]
          have hSv : e.s = s := by rw [← hs1]
          have hwt : e.want = true := by rw [← hs1]
          have hpo : e.post = σ2 := by rw [← hs1]
          rw [wantedS_sound hw ((stepRun_sound hP hrec hr).1 hk2) hT I.tsz]
          simp only [if_true]
          refine .inl ?_
          unfold stepRun at hr
          split at hr
          · -- it looks at no memory
            rename_i hcl
            have hW : e.isW = false := by simp [Ent.isW, hcl]
            obtain ⟨v, k1, k2⟩ := (opPure_sound hT hr).2 hk2
            unfold Oper.wp
            rw [k2 w, Oper.upon_value]
            exact ⟨ν, pre, post, tmb, σb, I.quiet D he hW hB hdlt (by rw [hSv]; exact k1)⟩
          · -- it reads
            rename_i hcl
            have hW : e.isW = false := by simp [Ent.isW, hcl]
            have hRd : e.isRd = true := by simp [Ent.isRd, hcl, hwt]
            have hall := hrd e he hRd
            have hu : ∀ f ∈ post, f.isW = true → anc (ancs ops.toList []) e.i f.i = false := fun f hf hfw => by
              cases hx : anc (ancs ops.toList []) e.i f.i with
              | false => rfl
              | true =>
                have := hanc _ hx
                rw [I.wpost f hf hfw] at this; cases this
            have hok : readOk P ops base (ancs ops.toList []) σ1.pc e σb post = true := by
              rcases I.bnd with ⟨q1, q2⟩ | ⟨q, g, q1, q2, q3⟩
              · have hesp : es = post := by rw [I.hsp, q1]; rfl
                rw [q2]
                rw [hesp] at hall
                exact readAll_head hall hu
              · rw [q3]
                rw [I.hsp] at hall
                refine readTail_at pre (readAll_tail hall) q1 q2 (fun f hf hfw => ?_) hu
                cases hx : anc (ancs ops.toList []) f.i e.i with
                | false => rfl
                | true =>
                  have := hdesc f (by rw [I.hsp]; exact List.mem_append_left _ hf) hx
                  rw [I.wpre f hf hfw] at this; cases this
            unfold readOk at hok
            split at hok
            · rename_i s' σr hrr
              rw [hetm] at hrr
              obtain ⟨a3, b3⟩ := opRd_sound (ρ := ρ) hrr
              have hpc : pcok ρ σr.pc := by rw [(a3.nod rfl).2]; exact hk
              have hsub : SimW ρ ν { hp := layNew base (ancs ops.toList []) e.i post σb.hp, nx := σb.nx, ds := [], pc := σ1.pc } w := by
                refine (Goes.forget (lo := 0) I.goes.sim fun n B hn => ?_).sim
                have hl := layNew_get (fun x hx y hy => hpa x hx y hy) (fun q1 f q2 hq g hg => (D.dist (pre ++ q1) f q2 (by rw [I.hsp, hq]; simp) g hg).1) (fun f hf hx => hR.names f (hpost f hf) hx) n B hn
                simp only [over] at hl
                cases hx : news base (fun j => anc (ancs ops.toList []) e.i j) post n with
                | some B' =>
                  rw [hx] at hl
                  simp only [Option.some.injEq] at hl
                  subst hl
                  obtain ⟨f, hf, hfa, hq, hfB⟩ := news_some hx
                  simp only [over]
                  rw [hq, news_of hpa hf (hanc _ hfa) hfB]
                | none =>
                  rw [hx] at hl
                  exact hover n B hl
              obtain ⟨v, k1, k2⟩ := b3 hpc hsub hT
              unfold Oper.wp
              rw [k2, Oper.upon_value]
              exact ⟨ν, pre, post, tmb, σb, I.quiet D he hW hB hdlt (by rw [← SV.beq_sound hok]; exact k1)⟩
            · cases hok
          · rename_i hcl; exact absurd hcl (by simpa using hc)
          · -- it writes
            rename_i hcl
            have hW : e.isW = true := by simp [Ent.isW, hcl, hwt]
            have hep : e ∈ post := by
              rw [I.hsp] at he
              rcases List.mem_append.1 he with h | h
              · have := I.wpre e h hW
                rw [hSi] at this; cases this
              · exact h
            obtain ⟨mid, post', hm⟩ := List.append_of_mem hep
            have hmp : ∀ f ∈ mid, f ∈ post := fun f hf => by rw [hm]; simp [hf]
            have hmw : ∀ f ∈ mid, f.isW = false := fun f hf => by
              cases hx : f.isW with
              | false => rfl
              | true =>
                obtain ⟨q1, q2, hq⟩ := List.append_of_mem hf
                have := (D.writers (pre ++ q1) f (q2 ++ e :: post') (by rw [I.hsp, hm, hq]; simp) e (by simp) hW).1 hx
                have h2 := hanc _ this
                rw [I.wpost f (hmp f hf) hx] at h2; cases h2
            have hmn : ∀ f ∈ mid, f.isNew = true → S.getD f.i false = true := fun f hf hx => by
              obtain ⟨q1, q2, hq⟩ := List.append_of_mem hf
              exact hanc _ ((D.writers (pre ++ q1) f (q2 ++ e :: post') (by rw [I.hsp, hm, hq]; simp) e (by simp) hW).2 hx)
            have hrr := I.hrun
            rw [hm] at hrr
            obtain ⟨tmz, σz, hz1, hz2⟩ := hrr.split
            cases hz2 with
            | @cons _ tmu _ _ _ _ _ hoz hsz hrz =>
            have hpz : e.pre = σz := (stepD_f hsz).epre
            have hdm : Distinct mid := fun q1 f q2 hq g hg => D.dist (pre ++ q1) f (q2 ++ e :: post') (by rw [I.hsp, hm, hq]; simp) g (by simp [hg])
            obtain ⟨z1, z2⟩ := hz1.heap (fun x hx y hy => hpa x (hmp x hx) y (hmp y hy)) hdm hmw
            rw [← hpz] at z1 z2
            have hsim : SimW ρ ν e.pre w := by
              unfold SimW
              rw [z2]
              refine (Goes.forget (lo := 0) I.goes.sim fun n B hn => ?_).sim
              replace hn : over (news base (fun _ => true) mid) (fun n => σb.hp.get n) n = some B := (congrFun z1 n).symm.trans hn
              simp only [over] at hn
              cases hx : news base (fun _ => true) mid n with
              | some B' =>
                rw [hx] at hn
                simp only [Option.some.injEq] at hn
                subst hn
                obtain ⟨f, hf, _, hq, hfB⟩ := news_some hx
                simp only [over]
                rw [hq, news_of hpa (hmp f hf) (hmn f hf (by simp [Ent.isNew, hfB])) hfB]
              | none =>
                rw [hx] at hn
                exact hover n B hn
            obtain ⟨_, c2⟩ := opWr_sound hP hrec hr
            rw [hepre] at hsim
            refine c2 hk2 (hsim.ask aw) hT fun ν' w' v hg hv => ?_
            have hg' : GoesW ρ ν e.pre w ν' e.post w' := by
              rw [hepre, hpo]
              exact (GoesW.ask hsim aw).trans hg
            exact ⟨ν', pre ++ mid ++ [e], post', tmu, e.post, I.wrote D hm hW hmw hmn hrz z1 z2 hg'.nx hdlt hg' (by rw [hSv]; exact hv)⟩
        · cases hs
      · cases hs
  · cases hs
end
end Go.Eng
/- The engine tells rightly what code, and calls, come to. -/
namespace Go.Eng

/-! a region whose order is open -/
theorem ready_exists {ops : Array Oper} (he : edgesOk ops = true) {S : Array Bool} (hS : S.size = ops.size) : ∀ i, i < ops.size → S.getD i false = false → Region.ready .any ops S ≠ [] := by
  intro i
  induction i using Nat.strongRecOn with
  | _ i ih =>
    intro hi hu
    have hio : ops[i]? = some ops[i] := by simp [hi]
    by_cases hall : ∀ e ∈ (ops[i]).after, Region.binds .any e = true → S.getD e.on false = true
    · have hm : i ∈ Region.ready .any ops S := mem_ready.2 ⟨by have hs : i < S.size := by omega
                                                               simp only [Array.getD, hs, dif_pos] at hu ⊢; exact hu, ops[i], hio, hall⟩
      intro hn
      rw [hn] at hm; cases hm
    · simp only [Classical.not_forall] at hall
      obtain ⟨e, hm, hb, hx⟩ := hall
      have hlt := edges_back he hio e hm hb
      exact ih e.on hlt (by omega) (by simpa using hx)

def cnt (ops : Array Oper) (S : Array Bool) : Nat := ((List.range ops.size).filter fun i => !S.getD i false).length
theorem cnt_set {ops : Array Oper} {S : Array Bool} {i : Nat} (hi : i < ops.size) (hS : S.size = ops.size) (hu : S.getD i false = false) : cnt ops (S.setIfInBounds i true) < cnt ops S := by
  unfold cnt
  have e : ((List.range ops.size).filter fun j => !(S.setIfInBounds i true).getD j false) = ((List.range ops.size).filter fun j => !S.getD j false).filter fun j => j != i := by
    rw [List.filter_filter]
    congr 1
    funext j
    rw [getD_set (by omega)]
    by_cases q : j = i
    · simp [q]
    · simp [q]
  rw [e, List.length_filter_lt_length_iff_exists]
  exact ⟨i, by rw [List.mem_filter]; exact ⟨List.mem_range.2 hi, by rw [hu]; rfl⟩, by simp⟩

theorem Run.opsAt {P : Program} {rec : Rec} {nt : Nat} {ops : Array Oper} {base : Nat} {tm tm' : T SV} {σ σ' : St} {es : List Ent} (h : Run P rec nt ops base tm σ es tm' σ') : ∀ e ∈ es, ops[e.i]? = some e.o := by
  induction h with
  | nil => intro e he; cases he
  | cons ho hs hr ih =>
    intro e he
    cases he with
    | head => exact ho
    | tail _ hm => exact ih e hm

theorem evDraw_sound {P : Program} (hP : Plainly P) (hm : P.follows .mixedOrders = true) {ρ : Rho} {rec : Rec} (hrec : CallOK P ρ rec) {nt : Nat} {ops : Array Oper} {tm tm' : T SV} {σ σ' : St} (h : evDraw P rec nt ops tm σ = some (tm', σ')) :
    (pcok ρ σ'.pc → pcok ρ σ.pc) ∧ (pcok ρ σ'.pc → ∀ {ν : Nu} {w : World} {a : Act} {Q : Exit → Act → World → Prop} {id : Nat}, SimW ρ ν σ w → FrR ρ ν nt tm a.tmps →
      (∀ ν' w' a', GoesW ρ ν σ w ν' σ' w' → FrR ρ ν' nt tm' a'.tmps → a'.defers = a.defers → Q .normal a' w') → (Code.region id ops true).wp P Q a w) := by
  unfold evDraw at h
  split at h
  · rename_i es tm1 σ1 hrun
    cases hok : drawOk P ops σ.nx (ancs ops.toList []) (lazyOrder ops (ancs ops.toList [])) { σ with nx := σ.nx + ops.size } es σ1 <;> simp only [hok, cond_true, cond_false] at h
    · cases h
    · simp only [Option.some.injEq, Prod.mk.injEq] at h
      obtain ⟨rfl, rfl⟩ := h
      obtain ⟨hR, hord⟩ := runD_run hrun
      refine ⟨fun hk => (hR.mono hP hrec hk : pcok ρ σ.pc), fun hk ν w a Q id hs hf hQ => ?_⟩
      unfold drawOk at hok
      simp only [Bool.and_eq_true] at hok
      obtain ⟨⟨k1, k2, k3, k4, k5⟩, k6, k7, k8⟩ := hok
      simp only [List.all_eq_true, List.mem_range] at k4
      have hopsAt := hR.opsAt
      have hids : ∀ pre e post, es = pre ++ e :: post → ∀ f ∈ post, f.i ≠ e.i := fun pre e post hl f hf hx => by
        have := (nodup_apart k3 (pre.map (·.i)) e.i (post.map (·.i)) (by rw [← hord, hl]; simp)).2
        exact this (List.mem_map.2 ⟨f, hf, hx⟩)
      have hapart : IdsApart es := fun x hx y hy hxy => by
        obtain ⟨p1, p2, hp⟩ := List.append_of_mem hx
        rw [hp] at hy
        simp only [List.mem_append, List.mem_cons] at hy
        rcases hy with hy | hy | hy
        · obtain ⟨q1, q2, hq⟩ := List.append_of_mem hy
          exact absurd hxy (hids q1 y (q2 ++ x :: p2) (by rw [hp, hq]; simp) x (by simp))
        · exact hy.symm
        · exact absurd hxy.symm (hids p1 x p2 hp y hy)
      have D : DF ops (ancs ops.toList []) es := by
        refine ⟨k1, k2, hopsAt, fun i hi => ?_, hapart, fun pre e post hl f hf => ⟨hids pre e post hl f hf, fun t ht => ?_⟩, fun pre e post hl j hj ha => ?_, writers_at k7⟩
        · have h1 := k4 i hi
          have h2 : i ∈ es.map (·.i) := by rw [hord]; simpa using h1
          obtain ⟨e, he, hei⟩ := List.mem_map.1 h2
          exact ⟨e, he, hei⟩
        · have hfm : f ∈ es := by rw [hl]; simp [hf]
          have hem : e ∈ es := by rw [hl]; simp
          exact (slots_at k2 (hopsAt f hfm) (hopsAt e hem) (hids pre e post hl f hf) ht).2
        · rcases ahead_at k6 (pre.map (·.i)) e.i (post.map (·.i)) (by rw [← hord, hl]; simp) j hj ha with h1 | h1
          · cases h1
          · obtain ⟨f, hf, hfi⟩ := List.mem_map.1 h1
            exact ⟨f, hf, hfi⟩
      have hrd : ∀ r ∈ es, r.isRd = true → readAll P ops σ.nx (ancs ops.toList []) σ1.pc r false { σ with nx := σ.nx + ops.size } es = true := fun r hr hx => by
        simp only [List.all_eq_true, Bool.or_eq_true, Bool.not_eq_true'] at k8
        rcases k8 r hr with h1 | h1
        · rw [hx] at h1; cases h1
        · exact h1
      have hnone : ∀ n, σ.nx ≤ n → σ.hp.get n = none := fun n hn => by
        cases hx : σ.hp.get n with
        | none => rfl
        | some B =>
          obtain ⟨b, c, ty, e1, _⟩ := hs.blk n B hx
          rw [hs.fresh n hn] at e1; cases e1
      -- all of it, from any state on
      have key : ∀ (fuel : Nat) (S : Array Bool) (a' : Act) (w' : World) ν' pre post tmb σb, Inv P rec nt ops σ.nx ρ ν (fun n => σ.hp.get n) w a.defers tm { σ with nx := σ.nx + ops.size } es tm1 σ1 S a' w' ν' pre post tmb σb →
          Closed ops S → cnt ops S ≤ fuel → wpAny P .any ops Q fuel S a' w' := by
        have done : ∀ (S : Array Bool) (a' : Act) (w' : World) ν' pre post tmb σb, Inv P rec nt ops σ.nx ρ ν (fun n => σ.hp.get n) w a.defers tm { σ with nx := σ.nx + ops.size } es tm1 σ1 S a' w' ν' pre post tmb σb →
            (∀ i, i < ops.size → S.getD i false = true) → Q .normal a' w' := fun S a' w' ν' pre post tmb σb I hall => by
          have hpost : ∀ f ∈ post, f ∈ es := fun f hf => by rw [I.hsp]; exact List.mem_append_right _ hf
          have hin : ∀ f ∈ es, S.getD f.i false = true := fun f hf => hall f.i (Array.getElem?_eq_some_iff.1 (hopsAt f hf)).1
          have hw : ∀ f ∈ post, f.isW = false := fun f hf => by
            cases hx : f.isW with
            | false => rfl
            | true =>
              have := I.wpost f hf hx
              rw [hin f (hpost f hf)] at this; cases this
          obtain ⟨z1, z2⟩ := I.hrun.heap (fun x hx y hy => hapart x (hpost x hx) y (hpost y hy)) (fun q1 f q2 hq g hg => D.dist (pre ++ q1) f q2 (by rw [I.hsp, hq]; simp) g hg) hw
          have hn : news σ.nx (fun j => S.getD j false) post = news σ.nx (fun _ => true) post := news_congr fun f hf => .inl (hin f (hpost f hf))
          have hg := I.goes
          rw [hn, ← z1, ← z2] at hg
          refine hQ ν' w' a' hg ⟨fun t s hts => ?_, I.tsz⟩ I.tdf
          simp only [look, Option.some.injEq] at hts
          subst hts
          obtain ⟨s1, s2⟩ := hR.slots D.dist t
          by_cases hx : ∃ f ∈ es, f.o.dst = some t
          · obtain ⟨f, hf, hft⟩ := hx
            rw [s1 f hf hft]
            exact (I.tms t).1 f hf hft (hin f hf)
          · rw [s2 fun f hf hft => hx ⟨f, hf, hft⟩]
            exact (I.tms t).2 fun f hf hft => absurd ⟨f, hf, hft⟩ hx
        have full : ∀ (S : Array Bool), S.size = ops.size → Region.ready .any ops S = [] → ∀ i, i < ops.size → S.getD i false = true := fun S hS hr i hi => by
          cases hx : S.getD i false with
          | true => rfl
          | false => exact absurd hr (ready_exists k1 hS i hi hx)
        intro fuel
        induction fuel with
        | zero =>
          intro S a' w' ν' pre post tmb σb I hC hc
          have hall : ∀ i, i < ops.size → S.getD i false = true := fun i hi => by
            cases hx : S.getD i false with
            | true => rfl
            | false =>
              exfalso
              have hlt := cnt_set hi I.ssz hx
              omega
          refine ⟨?_, done S a' w' ν' pre post tmb σb I hall⟩
          cases hr : Region.ready .any ops S with
          | nil => rfl
          | cons j l =>
            exfalso
            obtain ⟨hun, o, ho, _⟩ := mem_ready.1 (show j ∈ Region.ready .any ops S by rw [hr]; simp)
            have hj := (Array.getElem?_eq_some_iff.1 ho).1
            have h1 := hall j hj
            have hjS : j < S.size := by rw [I.ssz]; exact hj
            simp only [Array.getD, hjS, dif_pos] at hun h1
            rw [h1] at hun; cases hun
        | succ fuel ih =>
          intro S a' w' ν' pre post tmb σb I hC hc
          refine ⟨fun hr => done S a' w' ν' pre post tmb σb I (full S I.ssz hr), fun i hi => ?_⟩
          refine wpOp_mono (fun a'' w'' hx => ?_) (inv_step hP hrec D hR hk hrd hC I hi)
          obtain ⟨ν'', pre'', post'', tmb'', σb'', I''⟩ := hx
          obtain ⟨hun, o, ho, hready⟩ := mem_ready.1 hi
          have hio := (Array.getElem?_eq_some_iff.1 ho).1
          have hiS : i < S.size := by rw [I.ssz]; exact hio
          have hu : S.getD i false = false := by
            simp only [Array.getD, hiS, dif_pos] at hun ⊢
            exact hun
          refine ih _ a'' w'' ν'' pre'' post'' tmb'' σb'' I'' (fun j oj hoj hj e hm hb => ?_) ?_
          · rw [getD_set hiS] at hj ⊢
            split
            · rfl
            · split at hj
              · rename_i q
                rw [q, ho] at hoj
                cases hoj
                exact hready e hm hb
              · exact hC j oj hoj hj e hm hb
          · have := cnt_set hio I.ssz hu
            omega
      refine wp_region_any hm (key ops.size _ a _ ν [] es tm { σ with nx := σ.nx + ops.size } ?_ ?_ ?_)
      · have hfalse : ∀ j, (Array.replicate ops.size false).getD j false = false := fun j => by
          simp only [Array.getD]; split <;> simp
        have hnn : news σ.nx (fun j => (Array.replicate ops.size false).getD j false) es = fun _ => none := by
          funext n
          cases hx : news σ.nx (fun j => (Array.replicate ops.size false).getD j false) es n with
          | none => rfl
          | some B =>
            obtain ⟨f, _, hs', _⟩ := news_some hx
            rw [hfalse] at hs'; cases hs'
        refine ⟨rfl, hR, .inl ⟨rfl, rfl⟩, (fun e he => by cases he), (fun e _ _ => hfalse _), (fun e he => by cases he), ?_, fun e _ _ _ => hs.fresh _ (by omega), fun e _ _ => hnone _ (by omega), Nat.le_refl _, hf.size, rfl, fun t => ⟨fun e _ _ hx => ?_, fun _ => ?_⟩, by simp⟩
        · rw [hnn]
          show Goes σ.nx ρ ν (fun n => σ.hp.get n) σ.nx w ν (fun n => σ.hp.get n) (σ.nx + ops.size) w.drew
          exact ⟨fun _ _ => rfl, Nu.le_refl _, ⟨hs.blk, hs.inj, fun n hn => hs.fresh n (by omega)⟩, by omega, ⟨rfl, rfl, rfl, Nat.le_refl _, fun _ _ _ => rfl, fun _ _ h => .inl h⟩, fun b hb => .inl hb⟩
        · rw [hfalse] at hx; cases hx
        · exact hf.slots t _ rfl
      · intro i o ho hx
        have : (Array.replicate ops.size false).getD i false = false := by simp only [Array.getD]; split <;> simp
        rw [this] at hx; cases hx
      · unfold cnt
        exact Nat.le_trans (List.length_filter_le _ _) (by simp)
  · cases h
end Go.Eng
/- The engine tells rightly what code, and calls, come to. -/
namespace Go.Eng

def Ex.out : Ex → Exit
  | .normal => .normal
  | .exit id => .exit id
  | .ret => .ret
  | .goto l => .goto l
def CodeOK (P : Program) (ρ : Rho) (nt : Nat) (c : Code) (tm : T SV) (σ : St) (e : Ex) (tm' : T SV) (σ' : St) : Prop :=
  (pcok ρ σ'.pc → pcok ρ σ.pc) ∧ (pcok ρ σ'.pc → ∀ {ν : Nu} {w : World} {a : Act} {Q : Exit → Act → World → Prop}, SimW ρ ν σ w → FrR ρ ν nt tm a.tmps →
    (∀ ν' w' a', GoesW ρ ν σ w ν' σ' w' → FrR ρ ν' nt tm' a'.tmps → a'.defers = a.defers → Q e.out a' w') → c.wp P Q a w)

theorem loopN_sound {P : Program} {ρ : Rho} {nt : Nat} {c : Code} {f : T SV → St → Option (Ex × T SV × St)}
    (hf : ∀ tm σ e tm' σ', f tm σ = some (e, tm', σ') → CodeOK P ρ nt c tm σ e tm' σ') : ∀ (n : Nat) {tm : T SV} {σ : St} {e : Ex} {tm' : T SV} {σ' : St}, loopN f n tm σ = some (e, tm', σ') →
    (pcok ρ σ'.pc → pcok ρ σ.pc) ∧ (pcok ρ σ'.pc → ∀ {ν : Nu} {w : World} {a : Act} {Q : Exit → Act → World → Prop}, SimW ρ ν σ w → FrR ρ ν nt tm a.tmps →
      (∀ ν' w' a', GoesW ρ ν σ w ν' σ' w' → FrR ρ ν' nt tm' a'.tmps → a'.defers = a.defers → Q e.out a' w') → Code.rounds P c Q n a w)
  | 0, tm, σ, e, tm', σ', h => by simp [loopN] at h
  | n + 1, tm, σ, e, tm', σ', h => by
    simp only [loopN] at h
    split at h
    · rename_i tm1 σ1 h1
      obtain ⟨m1, s1⟩ := hf _ _ _ _ _ h1
      obtain ⟨m2, s2⟩ := loopN_sound hf n h
      refine ⟨fun hk => m1 (m2 hk), fun hk ν w a Q hs hfr hQ => ?_⟩
      rw [rounds_succ]
      exact s1 (m2 hk) hs hfr fun ν1 w1 a1 g1 f1 d1 => s2 hk g1.sim f1 fun ν' w' a' g f d => hQ ν' w' a' (GoesW.trans g1 g) f (d.trans d1)
    · rename_i hne
      obtain ⟨m1, s1⟩ := hf _ _ _ _ _ h
      refine ⟨m1, fun hk ν w a Q hs hfr hQ => ?_⟩
      rw [rounds_succ]
      refine s1 hk hs hfr fun ν' w' a' g f d => ?_
      have := hQ ν' w' a' g f d
      cases e with
      | normal => exact absurd h (by simpa using hne tm' σ')
      | exit id => exact this
      | ret => exact this
      | goto l => exact this

/-- a scope's code from a label on -/
def InScope (P : Program) (c rest : Code) (Q : Exit → Act → World → Prop) (a : Act) (w : World) : Prop :=
  ∀ b k cs, ∃ e a' w', Q e a' w' ∧ Arrives P (lone (b.at a (.code rest :: .inScope c :: k)) cs w) b k cs e a' w'
def JmpOK (P : Program) (ρ : Rho) (nt : Nat) (J : Jmp) : Prop :=
  ∀ c rest tm σ e tm' σ', J c rest tm σ = some (e, tm', σ') → (pcok ρ σ'.pc → pcok ρ σ.pc) ∧ (pcok ρ σ'.pc → ∀ {ν : Nu} {w : World} {a : Act} {Q : Exit → Act → World → Prop}, SimW ρ ν σ w → FrR ρ ν nt tm a.tmps →
    (∀ ν' w' a', GoesW ρ ν σ w ν' σ' w' → FrR ρ ν' nt tm' a'.tmps → a'.defers = a.defers → Q e.out a' w') → InScope P c rest Q a w)
/-- behind a jump -/
def Jumped (P : Program) (c : Code) (Q : Exit → Act → World → Prop) : Exit → Act → World → Prop
  | .goto l, a, w => ∃ rest, findLabel c l = some rest ∧ InScope P c rest Q a w
  | e, a, w => Q e a w
theorem inScope_of {P : Program} {c rest : Code} {Q : Exit → Act → World → Prop} {a : Act} {w : World} (h : rest.wp P (Jumped P c Q) a w) : InScope P c rest Q a w := by
  intro b k cs
  obtain ⟨e, a₁, w₁, hq, harr⟩ := h b (.inScope c :: k) cs
  cases e with
  | normal => exact ⟨.normal, a₁, w₁, hq, Steps.trans harr (.one step_inScope)⟩
  | exit id => exact ⟨.exit id, a₁, w₁, hq, fun k' hk => harr k' (by simp [exitTo, hk])⟩
  | goto l' =>
    obtain ⟨rest', hf, hin⟩ := hq
    obtain ⟨e₂, a₂, w₂, hq₂, harr₂⟩ := hin b k cs
    have hg : gotoIn l' (.inScope c :: k) = some (.code rest' :: .inScope c :: k) := by simp [gotoIn, hf]
    exact ⟨e₂, a₂, w₂, hq₂, .of_steps (harr _ hg) harr₂⟩
  | ret => exact ⟨_, a₁, w₁, hq, harr⟩
  | panic ch => exact ⟨_, a₁, w₁, hq, harr⟩
  | outgrown => exact ⟨_, a₁, w₁, hq, harr⟩
theorem wp_scope_in {P : Program} {c : Code} {Q : Exit → Act → World → Prop} {a : Act} {w : World} (h : c.wp P (Jumped P c Q) a w) : (Code.scope c).wp P Q a w := by
  intro b k cs
  obtain ⟨e, a', w', hq, harr⟩ := inScope_of h b k cs
  exact ⟨e, a', w', hq, .of_steps (.one step_scope) harr⟩

/-- the loops of which something is told do so -/
def LoopsOK (P : Program) (ρ : Rho) (nt : Nat) (lp : Lps) : Code → Prop
  | .seq a b => LoopsOK P ρ nt lp a ∧ LoopsOK P ρ nt lp b
  | .cond _ a b => LoopsOK P ρ nt lp a ∧ LoopsOK P ρ nt lp b
  | .block _ a => LoopsOK P ρ nt lp a
  | .scope a => LoopsOK P ρ nt lp a
  | .loop c => (match lp (firstReg c) with
    | some F => ∀ tm σ e tm' σ', F tm σ = some (e, tm', σ') → CodeOK P ρ nt (.loop c) tm σ e tm' σ'
    | none => LoopsOK P ρ nt lp c)
  | _ => True
theorem loopsOK_none {P : Program} {ρ : Rho} {nt : Nat} : ∀ c : Code, LoopsOK P ρ nt (fun _ => none) c := by
  intro c
  induction c with
  | seq a b ha hb => exact ⟨ha, hb⟩
  | cond _ a b ha hb => exact ⟨ha, hb⟩
  | block _ a ha => exact ha
  | scope a ha => exact ha
  | loop c hc => exact hc
  | _ => trivial

theorem evCode_sound {P : Program} (hP : Plainly P) (hm : P.follows .mixedOrders = true) {ρ : Rho} {rec : Rec} (hrec : CallOK P ρ rec) {nt L : Nat} {J : Jmp} (hJ : JmpOK P ρ nt J) {lp : Lps} : ∀ (c : Code) (_ : LoopsOK P ρ nt lp c) {tm : T SV} {σ : St} {e : Ex} {tm' : T SV} {σ' : St},
    evCode P rec nt L J lp c tm σ = some (e, tm', σ') → CodeOK P ρ nt c tm σ e tm' σ'
  | .skip, _, tm, σ, e, tm', σ', h => by
    simp only [evCode, Option.some.injEq, Prod.mk.injEq] at h
    obtain ⟨rfl, rfl, rfl⟩ := h
    exact ⟨id, fun _ ν w a Q hs hf hQ => wp_skip (hQ ν w a (Goes.refl hs) hf rfl)⟩
  | .label l, _, tm, σ, e, tm', σ', h => by
    simp only [evCode, Option.some.injEq, Prod.mk.injEq] at h
    obtain ⟨rfl, rfl, rfl⟩ := h
    exact ⟨id, fun _ ν w a Q hs hf hQ => wp_label (hQ ν w a (Goes.refl hs) hf rfl)⟩
  | .exit i, _, tm, σ, e, tm', σ', h => by
    simp only [evCode, Option.some.injEq, Prod.mk.injEq] at h
    obtain ⟨rfl, rfl, rfl⟩ := h
    exact ⟨id, fun _ ν w a Q hs hf hQ => wp_exit (hQ ν w a (Goes.refl hs) hf rfl)⟩
  | .ret, _, tm, σ, e, tm', σ', h => by
    simp only [evCode, Option.some.injEq, Prod.mk.injEq] at h
    obtain ⟨rfl, rfl, rfl⟩ := h
    exact ⟨id, fun _ ν w a Q hs hf hQ => wp_ret (hQ ν w a (Goes.refl hs) hf rfl)⟩
  | .region i ops draw, _, tm, σ, e, tm', σ', h => by
    simp only [evCode] at h
    split at h
    · rename_i tm1 σ1 h1
      simp only [Option.some.injEq, Prod.mk.injEq] at h
      obtain ⟨rfl, rfl, rfl⟩ := h
      cases draw with
      | true =>
        simp only [cond_true] at h1
        obtain ⟨m, s⟩ := evDraw_sound hP hm hrec h1
        exact ⟨m, fun hk ν w a Q hs hf hQ => s hk hs hf hQ⟩
      | false =>
        simp only [cond_false] at h1
        obtain ⟨m, s⟩ := stepList_sound hP hrec h1
        exact ⟨m, fun hk ν w a Q hs hf hQ => wp_region_list (s hk hs hf hQ)⟩
    · cases h
  | .seq x y, hl, tm, σ, e, tm', σ', h => by
    simp only [evCode] at h
    split at h
    · rename_i tm1 σ1 h1
      obtain ⟨m1, s1⟩ := evCode_sound hP hm hrec hJ x hl.1 h1
      obtain ⟨m2, s2⟩ := evCode_sound hP hm hrec hJ y hl.2 h
      refine ⟨fun hk => m1 (m2 hk), fun hk ν w a Q hs hf hQ => wp_seq ?_⟩
      exact s1 (m2 hk) hs hf fun ν1 w1 a1 g1 f1 d1 => s2 hk g1.sim f1 fun ν' w' a' g f d => hQ ν' w' a' (GoesW.trans g1 g) f (d.trans d1)
    · rename_i hne
      obtain ⟨m1, s1⟩ := evCode_sound hP hm hrec hJ x hl.1 h
      refine ⟨m1, fun hk ν w a Q hs hf hQ => wp_seq ?_⟩
      refine s1 hk hs hf fun ν' w' a' g f d => ?_
      have := hQ ν' w' a' g f d
      cases e with
      | normal => exact absurd h (by simpa using hne tm' σ')
      | exit id => exact this
      | ret => exact this
      | goto l => exact this
  | .cond c x y, hl, tm, σ, e, tm', σ', h => by
    simp only [evCode] at h
    split at h
    · rename_i t ht
      split at h
      · rename_i σ1 ha
        obtain ⟨m1, s1⟩ := evCode_sound hP hm hrec hJ x hl.1 h
        have hA := (ask_sound (ρ := ρ) ha).1
        refine ⟨fun hk => hA.pc (m1 hk), fun hk ν w a Q hs hf hQ => ?_⟩
        have hr := opnd_R hf.slots ht
        simp only [SV.R] at hr
        have := (ask_sound (ρ := ρ) ha).2 (m1 hk)
        rw [this] at hr
        refine wp_cond_true hr (s1 hk (hs.ask hA) hf fun ν' w' a' g f d => hQ ν' w' a' (GoesW.trans (GoesW.ask hs hA) g) f d)
      · rename_i σ1 ha
        obtain ⟨m1, s1⟩ := evCode_sound hP hm hrec hJ y hl.2 h
        have hA := (ask_sound (ρ := ρ) ha).1
        refine ⟨fun hk => hA.pc (m1 hk), fun hk ν w a Q hs hf hQ => ?_⟩
        have hr := opnd_R hf.slots ht
        simp only [SV.R] at hr
        have := (ask_sound (ρ := ρ) ha).2 (m1 hk)
        rw [this] at hr
        refine wp_cond_false hr (s1 hk (hs.ask hA) hf fun ν' w' a' g f d => hQ ν' w' a' (GoesW.trans (GoesW.ask hs hA) g) f d)
      · cases h
    · cases h
  | .block i c, hl, tm, σ, e, tm', σ', h => by
    simp only [evCode] at h
    split at h
    · rename_i j tm1 σ1 h1
      simp only [Option.some.injEq, Prod.mk.injEq] at h
      obtain ⟨rfl, rfl, rfl⟩ := h
      obtain ⟨m1, s1⟩ := evCode_sound hP hm hrec hJ c hl h1
      refine ⟨m1, fun hk ν w a Q hs hf hQ => wp_block (s1 hk hs hf fun ν' w' a' g f d => ?_)⟩
      have := hQ ν' w' a' g f d
      simp only [Ex.out, Exit.inBlock]
      by_cases hj : j = i
      · subst hj; simpa [Ex.out] using this
      · have hb : Nat.beq j i = false := by
          cases hb : Nat.beq j i with
          | false => rfl
          | true => exact absurd (Nat.eq_of_beq_eq_true hb) hj
        rw [if_neg hj]
        simpa [hb, Ex.out] using this
    · rename_i hne
      obtain ⟨m1, s1⟩ := evCode_sound hP hm hrec hJ c hl h
      refine ⟨m1, fun hk ν w a Q hs hf hQ => wp_block (s1 hk hs hf fun ν' w' a' g f d => ?_)⟩
      have := hQ ν' w' a' g f d
      cases e with
      | normal => exact this
      | exit id => exact absurd h (by simpa using hne id tm' σ')
      | ret => exact this
      | goto l => exact this
  | .loop c, hl, tm, σ, e, tm', σ', h => by
    simp only [evCode] at h
    simp only [LoopsOK] at hl
    split at h
    · rename_i F hF
      rw [hF] at hl
      exact hl _ _ _ _ _ h
    · rename_i hF
      rw [hF] at hl
      obtain ⟨m, s⟩ := loopN_sound (P := P) (ρ := ρ) (nt := nt) (c := c) (fun _ _ _ _ _ hx => evCode_sound hP hm hrec hJ c hl hx) L h
      exact ⟨m, fun hk ν w a Q hs hf hQ => wp_loop_rounds L (s hk hs hf hQ)⟩
  | .rangeFunc .., _, _, _, _, _, _, h => by simp [evCode] at h
  | .scope c, hl, tm, σ, e, tm', σ', h => by
    simp only [evCode] at h
    split at h
    · rename_i l tm1 σ1 h1
      split at h
      · rename_i rest hf
        obtain ⟨m1, s1⟩ := evCode_sound hP hm hrec hJ c hl h1
        obtain ⟨m2, s2⟩ := hJ _ _ _ _ _ _ _ h
        refine ⟨fun hk => m1 (m2 hk), fun hk ν w a Q hs hfr hQ => wp_scope_in (s1 (m2 hk) hs hfr fun ν1 w1 a1 g1 f1 d1 => ?_)⟩
        exact ⟨rest, hf, s2 hk g1.sim f1 fun ν' w' a' g f d => hQ ν' w' a' (GoesW.trans g1 g) f (d.trans d1)⟩
      · cases h
    · rename_i hne
      obtain ⟨m1, s1⟩ := evCode_sound hP hm hrec hJ c hl h
      refine ⟨m1, fun hk ν w a Q hs hfr hQ => wp_scope_in (s1 hk hs hfr fun ν' w' a' g f d => ?_)⟩
      have := hQ ν' w' a' g f d
      cases e with
      | normal => exact this
      | exit id => exact this
      | ret => exact this
      | goto l => exact absurd h (by simpa using hne l tm' σ')
  | .goto l, _, tm, σ, e, tm', σ', h => by
    simp only [evCode, Option.some.injEq, Prod.mk.injEq] at h
    obtain ⟨rfl, rfl, rfl⟩ := h
    exact ⟨id, fun _ ν w a Q hs hf hQ => wp_goto (hQ ν w a (Goes.refl hs) hf rfl)⟩
  | .refuse .., _, _, _, _, _, _, h => by simp [evCode] at h

theorem evJ_sound {P : Program} (hP : Plainly P) (hm : P.follows .mixedOrders = true) {ρ : Rho} {rec : Rec} (hrec : CallOK P ρ rec) {nt L : Nat} : ∀ n, JmpOK P ρ nt (evJ P rec nt L n)
  | 0 => fun c rest tm σ e tm' σ' h => by simp [evJ] at h
  | n + 1 => fun c rest tm σ e tm' σ' h => by
    simp only [evJ] at h
    split at h
    · rename_i l tm1 σ1 h1
      split at h
      · rename_i rest' hf
        obtain ⟨m1, s1⟩ := evCode_sound hP hm hrec (evJ_sound hP hm hrec n) rest (loopsOK_none rest) h1
        obtain ⟨m2, s2⟩ := evJ_sound hP hm hrec n _ _ _ _ _ _ _ h
        refine ⟨fun hk => m1 (m2 hk), fun hk ν w a Q hs hfr hQ => inScope_of (s1 (m2 hk) hs hfr fun ν1 w1 a1 g1 f1 d1 => ?_)⟩
        exact ⟨rest', hf, s2 hk g1.sim f1 fun ν' w' a' g f d => hQ ν' w' a' (GoesW.trans g1 g) f (d.trans d1)⟩
      · cases h
    · rename_i hne
      obtain ⟨m1, s1⟩ := evCode_sound hP hm hrec (evJ_sound hP hm hrec n) rest (loopsOK_none rest) h
      refine ⟨m1, fun hk ν w a Q hs hfr hQ => inScope_of (s1 hk hs hfr fun ν' w' a' g f d => ?_)⟩
      have := hQ ν' w' a' g f d
      cases e with
      | normal => exact this
      | exit id => exact this
      | ret => exact this
      | goto l => exact absurd h (by simpa using hne l tm' σ')

theorem putArgs_slot : ∀ (l : List SV) (k : Nat) (t : T SV), k + l.length ≤ 1000 → ∀ j, slot (putArgs k l t) j = if k ≤ j ∧ j < k + l.length then l.getD (j - k) undefS else slot t j
  | [], k, t, _, j => by
    simp only [putArgs, List.length_nil, Nat.add_zero]
    rw [if_neg (by omega)]
  | s :: l, k, t, hk, j => by
    simp only [List.length_cons] at hk ⊢
    rw [putArgs, putArgs_slot l (k + 1) _ (by omega) j]
    have hp : slot (T.put 40 t k (some s)) j = if j = k then s else slot t j := by
      simp only [slot]
      rw [T.get_put 40 _ _ _ _ (by omega)]
      split <;> rfl
    by_cases h1 : k + 1 ≤ j ∧ j < k + 1 + l.length
    · rw [if_pos h1, if_pos (by omega)]
      have : j - k = (j - (k + 1)) + 1 := by omega
      rw [this, List.getD_cons_succ]
    · rw [if_neg h1, hp]
      by_cases h2 : j = k
      · subst h2
        rw [if_pos rfl, if_pos (by omega)]
        simp
      · rw [if_neg h2, if_neg (by omega)]

def resF (a : Array Value) : ResultVar → Sem Value
  | .tmp t => pure (a.getD t undef)
  | .cell b t => do loadVar t (← asAddr (a.getD b undef))
theorem results_eq (fn : Func) (a : Array Value) : results fn a = (do
    let vs ← fn.results.mapM (resF a)
    pure (if h : vs.size = 1 then vs[0] else .tuple vs)) := rfl
theorem resS_sound {P : Program} {ρ : Rho} {nt : Nat} {tm : T SV} : ∀ {l : List ResultVar} {σ σ' : St} {ss : List SV}, resS P tm l σ = some (ss, σ') →
    Asks ρ σ σ' ∧ (pcok ρ σ'.pc → ∀ {ν : Nu} {w : World} {a : Array Value}, SimW ρ ν σ w → FrR ρ ν nt tm a → ∃ vs, RL ρ ν ss vs ∧
      (l.mapM (resF a)).run P w = .ok vs w)
  | [], σ, σ', ss, h => by
    simp only [resS, Option.some.injEq, Prod.mk.injEq] at h
    obtain ⟨rfl, rfl⟩ := h
    exact ⟨Asks.refl _ _, fun _ ν w a hs hf => ⟨[], rfl, by simp⟩⟩
  | .tmp t :: r, σ, σ', ss, h => by
    simp only [resS] at h
    split at h
    · rename_i l1 σ1 h1
      simp only [Option.some.injEq, Prod.mk.injEq] at h
      obtain ⟨rfl, rfl⟩ := h
      obtain ⟨m1, s1⟩ := resS_sound (ρ := ρ) (nt := nt) h1
      refine ⟨m1, fun hk ν w a hs hf => ?_⟩
      obtain ⟨vs, e1, e2⟩ := s1 hk hs hf
      refine ⟨a.getD t undef :: vs, by simp only [RL]; exact ⟨_, _, rfl, hf.slots t _ rfl, e1⟩, ?_⟩
      simp only [List.mapM_cons, resF, Sem.run_bind, Sem.run_pure, Result.andThen_ok, e2]
    · cases h
  | .cell b t :: r, σ, σ', ss, h => by
    simp only [resS] at h
    split at h
    · rename_i s0 σ0 h0
      split at h
      · rename_i l1 σ1 h1
        simp only [Option.some.injEq, Prod.mk.injEq] at h
        obtain ⟨rfl, rfl⟩ := h
        obtain ⟨m0, s0'⟩ := opLoad_sound (ρ := ρ) h0
        obtain ⟨m1, s1⟩ := resS_sound (ρ := ρ) (nt := nt) h1
        refine ⟨m0.trans m1, fun hk ν w a hs hf => ?_⟩
        obtain ⟨v, q1, q2⟩ := s0' (m1.pc hk) hs (hf.slots b _ rfl)
        obtain ⟨vs, e1, e2⟩ := s1 hk (hs.ask m0) hf
        refine ⟨v :: vs, by simp only [RL]; exact ⟨_, _, rfl, q1, e1⟩, ?_⟩
        have q3 : (asAddr (a.getD b undef)).run P w = (Instr.sureAddr (a.getD b undef)).run P w := by
          simp only [Instr.loadAt, Sem.run_bind] at q2
          revert q2
          cases a.getD b undef with
          | pointer o => cases o <;> simp [asAddr, Instr.sureAddr]
          | _ => simp [asAddr, Instr.sureAddr]
        simp only [Instr.loadAt, Sem.run_bind, ← q3] at q2
        simp only [List.mapM_cons, resF, Sem.run_bind, Sem.run_pure, q2, Result.andThen_ok, e2]
      · cases h
    · cases h

theorem results_sound {P : Program} {ρ : Rho} {nt : Nat} {fn : Func} {tm : T SV} {σ σ' : St} {ss : List SV} (h : resS P tm fn.results.toList σ = some (ss, σ')) :
    Asks ρ σ σ' ∧ (pcok ρ σ'.pc → ∀ {ν : Nu} {w : World} {a : Array Value}, SimW ρ ν σ w → FrR ρ ν nt tm a → ∃ v, (match ss with | [s] => s | l => SV.tup l).R ρ ν v ∧ (results fn a).run P w = .ok v w) := by
  obtain ⟨m, s⟩ := resS_sound (ρ := ρ) (nt := nt) h
  refine ⟨m, fun hk ν w a hs hf => ?_⟩
  obtain ⟨vs, e1, e2⟩ := s hk hs hf
  have e3 : fn.results = fn.results.toList.toArray := by simp
  have hrun : ∀ v, (if h : vs.toArray.size = 1 then vs.toArray[0] else .tuple vs.toArray) = v → (results fn a).run P w = .ok v w := fun v hv => by
    rw [results_eq, e3, List.mapM_toArray]
    simp only [Sem.run_bind, map_eq_pure_bind, e2, Result.andThen_ok, Sem.run_pure]
    rw [hv]
  match ss, e1 with
  | [], e1 =>
    simp only [RL] at e1
    subst e1
    exact ⟨_, by simp only [SV.R]; exact ⟨#[], rfl, rfl⟩, hrun _ rfl⟩
  | [s], e1 =>
    simp only [RL] at e1
    obtain ⟨v, _, rfl, e4, rfl⟩ := e1
    exact ⟨v, e4, hrun _ rfl⟩
  | s :: t :: l, e1 =>
    have e5 := e1
    simp only [RL] at e1
    obtain ⟨v, _, rfl, e4, u, us, rfl, e6, e7⟩ := e1
    refine ⟨.tuple (v :: u :: us).toArray, by simp only [SV.R]; exact ⟨_, rfl, by simpa using e5⟩, hrun _ ?_⟩
    rw [dif_neg (by simp)]

theorem evBody_sound {P : Program} (hP : Plainly P) (hm : P.follows .mixedOrders = true) {ρ : Rho} {rec : Rec} (hrec : CallOK P ρ rec) {L : Nat} {lp : Lps} {g : FuncId} {fn : Func} (hg : P.funcs[g]? = some fn)
    {l : List SV} (hlp : ∀ c, fn.body = some c → LoopsOK P ρ (Nat.max l.length fn.ntmps) lp c) {σ σ' : St} {r : SV}
    (h : evBody P rec L lp fn l σ = some (r, σ')) : (pcok ρ σ'.pc → pcok ρ σ.pc) ∧ (pcok ρ σ'.pc → ∀ {ν : Nu} {w : World} {vs : List Value}, SimW ρ ν σ w → RL ρ ν l vs →
      Calls P g vs.toArray w fun e w' => ∃ ν' v, e = .returned v ∧ GoesW ρ ν σ w ν' σ' w' ∧ r.R ρ ν' v) := by
  unfold evBody at h
  cases hl : Nat.ble l.length 1000 <;> simp only [hl, cond_true, cond_false] at h
  · cases h
  have hl' : l.length ≤ 1000 := Nat.le_of_ble_eq_true hl
  split at h
  · rename_i c hb
    have key : ∀ {e : Ex} {tm : T SV} {σ1 : St} {ss : List SV}, evCode P rec (Nat.max l.length fn.ntmps) L (evJ P rec (Nat.max l.length fn.ntmps) L L) lp c (putArgs 0 l .nil) σ = some (e, tm, σ1) → (∀ i, e ≠ .exit i) → (∀ i, e ≠ .goto i) → resS P tm fn.results.toList σ1 = some (ss, σ') →
        (match ss with | [s] => s | l => SV.tup l) = r → (pcok ρ σ'.pc → pcok ρ σ.pc) ∧ (pcok ρ σ'.pc → ∀ {ν : Nu} {w : World} {vs : List Value}, SimW ρ ν σ w → RL ρ ν l vs →
      Calls P g vs.toArray w fun e w' => ∃ ν' v, e = .returned v ∧ GoesW ρ ν σ w ν' σ' w' ∧ r.R ρ ν' v) := fun {e tm σ1 ss} h1 hne hne2 h2 hr => by
      obtain ⟨m1, s1⟩ := evCode_sound hP hm hrec (evJ_sound hP hm hrec L) c (hlp c hb) h1
      obtain ⟨m2, s2⟩ := results_sound (ρ := ρ) (nt := Nat.max l.length fn.ntmps) h2
      refine ⟨fun hk => m1 (m2.pc hk), fun hk ν w vs hs hv => ?_⟩
      have hlen := RL_length hv
      refine calls_of_wp hg hb (s1 (m2.pc hk) hs ⟨fun t s hts => ?_, ?_⟩ fun ν' w' a' g1 f1 d1 => ?_)
      · simp only [look, Option.some.injEq] at hts
        subst hts
        rw [putArgs_slot l 0 .nil (by omega) t]
        simp only [Nat.zero_le, Nat.zero_add, true_and, Nat.sub_zero]
        by_cases ht : t < l.length
        · rw [if_pos ht]
          obtain ⟨v, q1, q2⟩ := RL_get hv (i := t) (s := l.getD t undefS) (by simp [List.getD_eq_getElem?_getD, ht])
          have : (vs.toArray ++ Array.replicate (fn.ntmps - vs.toArray.size) undef).getD t undef = v := by
            have ht' : t < vs.length := by omega
            simp only [List.getElem?_eq_getElem ht', Option.some.injEq] at q1
            simp [Array.getD_eq_getD_getElem?, Array.getElem?_append, ht', q1]
          rw [this]; exact q2
        · rw [if_neg ht]
          have : (vs.toArray ++ Array.replicate (fn.ntmps - vs.toArray.size) undef).getD t undef = undef := by
            have ht' : ¬ t < vs.length := by omega
            simp only [Array.getD_eq_getD_getElem?, Array.getElem?_append, List.size_toArray, if_neg ht', Array.getElem?_replicate]
            split <;> rfl
          rw [this]; exact undefS_R ρ ν
      · simp only [Array.size_append, Array.size_replicate, List.size_toArray, hlen]
        show _ = max _ _
        omega
      · obtain ⟨v, q1, q2⟩ := s2 hk g1.sim f1
        rw [hr] at q1
        have hg2 : GoesW ρ ν σ w ν' σ' w' := GoesW.trans g1 (GoesW.ask g1.sim m2)
        cases e with
        | normal => exact ⟨d1, v, q2, ν', v, rfl, hg2, q1⟩
        | ret => exact ⟨d1, v, q2, ν', v, rfl, hg2, q1⟩
        | exit i => exact absurd rfl (hne i)
        | goto i => exact absurd rfl (hne2 i)
    split at h
    · cases h
    · cases h
    · rename_i e tm σ1 hne hne2 h1
      split at h
      · rename_i s σ2 h2
        simp only [Option.some.injEq, Prod.mk.injEq] at h
        obtain ⟨rfl, rfl⟩ := h
        exact key h1 (fun i hi => hne i hi) (fun i hi => hne2 i hi) h2 rfl
      · rename_i ss σ2 hns h2
        simp only [Option.some.injEq, Prod.mk.injEq] at h
        obtain ⟨rfl, rfl⟩ := h
        refine key h1 (fun i hi => hne i hi) (fun i hi => hne2 i hi) h2 ?_
        match ss, hns with
        | [], _ => rfl
        | [s], hns => exact (hns s rfl).elim
        | _ :: _ :: _, _ => rfl
      · cases h
    · cases h
  · cases h

theorem evCallL_sound {P : Program} (hP : Plainly P) (hm : P.follows .mixedOrders = true) {ρ : Rho} {summ : FuncId → Option Rec} {lps : FuncId → Lps}
    (hs : ∀ g f, summ g = some f → CallOK P ρ fun g' l σ => bif Nat.beq g' g then f g' l σ else none)
    (hl : ∀ g fn c nt, P.funcs[g]? = some fn → fn.body = some c → LoopsOK P ρ nt (lps g) c) {L : Nat} : ∀ n, CallOK P ρ (evCallL P summ lps L n)
  | 0 => fun g l σ r σ' h => by simp [evCallL] at h
  | n + 1 => fun g l σ r σ' h => by
    simp only [evCallL] at h
    split at h
    · rename_i f hf
      exact hs g f hf g l σ r σ' (by simpa using h)
    · split at h
      · rename_i fn hfn
        exact evBody_sound hP hm (evCallL_sound hP hm hs hl n) hfn (fun c hc => hl g fn c _ hfn hc) h
      · cases h
theorem evCall_sound {P : Program} (hP : Plainly P) (hm : P.follows .mixedOrders = true) {ρ : Rho} {summ : FuncId → Option Rec}
    (hs : ∀ g f, summ g = some f → CallOK P ρ fun g' l σ => bif Nat.beq g' g then f g' l σ else none) {L : Nat} (n : Nat) : CallOK P ρ (evCall P summ L n) :=
  evCallL_sound hP hm hs (fun _ _ c _ _ _ => loopsOK_none c) n
end Go.Eng
/- What is shown of small memory stands in great memory too. -/
namespace Go.Eng

abbrev Nowhere : Nat → Prop := fun _ => False
def nu0 : Nu := fun _ => none
def st0 (ds : List Bool) : St := ⟨.nil, 0, ds, []⟩

theorem sim0 (ρ : Rho) (ds : List Bool) (w : World) : SimW ρ nu0 (st0 ds) w :=
  ⟨fun n B h => by simp [st0, T.get] at h, fun n n' b m m' h => by simp [st0, T.get] at h, fun _ _ => rfl⟩
theorem foot0 (ds : List Bool) (b : Nat) : ¬ foot nu0 (fun n => (st0 ds).hp.get n) b := fun ⟨n, m, h, _⟩ => by simp [st0, T.get] at h
theorem Fr.mono {S S' : Nat → Prop} {w w' : World} (h : Fr S w w') (hs : ∀ b, S b → S' b) : Fr S' w w' :=
  ⟨h.os, h.tape, h.output, h.size, fun b hb hn => h.block b hb fun x => hn (hs b x), h.kind⟩
theorem Fr.trans0 {w w' w'' : World} (a : Fr Nowhere w w') (b : Fr Nowhere w' w'') : Fr Nowhere w w'' :=
  ⟨b.os.trans a.os, b.tape.trans a.tape, b.output.trans a.output, Nat.le_trans a.size b.size, fun k hk hn => by
    rw [b.block k (Nat.lt_of_lt_of_le hk a.size) id, a.block k hk id], fun k o h => (b.kind k o h).elim (fun h1 => a.kind k o h1) .inr⟩

/-- memory that is told goes on, where the blocks that were written read as they are told -/
theorem Sim.keep {ρ : Rho} {ν : Nu} {h : Hp} {nx : Nat} {w w' : World} {F : Nat → Prop} (s : Sim ρ ν h nx w) (f : Fr F w w') (hF : ∀ b, F b → foot ν h b)
    (hk : ∀ n B b m, h n = some B → ν n = some (b, m) → F b → ∃ c ty, w'.heap[b]? = some (.cells c ty (0, 0)) ∧ c.size = m ∧ B.R ρ ν c) (lo : Nat) : Goes lo ρ ν h nx w ν h nx w' := by
  refine ⟨fun _ _ => rfl, Nu.le_refl _, ⟨fun n B hB => ?_, s.inj, s.fresh⟩, Nat.le_refl _, f.mono hF, fun _ hb => .inl hb⟩
  obtain ⟨b, c, ty, h1, h2, h3⟩ := s.blk n B hB
  by_cases hf : F b
  · obtain ⟨c', ty', k1, k2, k3⟩ := hk n B b _ hB h1 hf
    exact ⟨b, c', ty', by rw [k2]; exact h1, k1, k3⟩
  · exact ⟨b, c, ty, h1, by rw [f.block b (s.block_lt ⟨n, _, by simp [hB], h1⟩) hf, h2], h3⟩
theorem Sim.keep0 {ρ : Rho} {ν : Nu} {h : Hp} {nx : Nat} {w w' : World} (s : Sim ρ ν h nx w) (f : Fr Nowhere w w') (lo : Nat) : Goes lo ρ ν h nx w ν h nx w' :=
  s.keep f (fun _ h => h.elim) (fun _ _ _ _ _ _ h => h.elim) lo

/-- a contract of a function that writes nothing that stood before -/
def Pure (P : Program) (g : FuncId) (vs : List Value) (v : Value) : Prop := ∀ w, Calls P g vs.toArray w fun e w' => e = .returned v ∧ Fr Nowhere w w'

theorem callOK_pure {P : Program} {ρ : Rho} {g : FuncId} {S : Rec}
    (hS : ∀ l σ r σ', S g l σ = some (r, σ') → Asks ρ σ σ' ∧ (pcok ρ σ'.pc → ∀ ν vs, RL ρ ν l vs → ∃ v, r.R ρ ν v ∧ Pure P g vs v)) :
    CallOK P ρ fun g' l σ => bif Nat.beq g' g then S g' l σ else none := by
  intro g' l σ r σ' h
  cases hb : Nat.beq g' g <;> simp only [hb, cond_true, cond_false] at h
  · cases h
  · have := Nat.eq_of_beq_eq_true hb
    subst this
    obtain ⟨a, b⟩ := hS l σ r σ' h
    refine ⟨a.pc, fun hk ν w vs hs hv => ?_⟩
    obtain ⟨v, h1, h2⟩ := b hk ν vs hv
    refine (h2 w).mono fun e w' ⟨he, hf⟩ => ⟨ν, v, he, ?_, h1⟩
    have hs' := hs.ask a
    have hg := Sim.keep0 (lo := σ.nx) hs' hf
    unfold GoesW
    exact ⟨hg.old, hg.le, hg.sim, by rw [a.nx]; exact Nat.le_refl _, by
      have := hg.fr; rw [a.hp] at this; exact this, by have := hg.foot; rw [a.hp] at this ⊢; exact this⟩

/-- what a run from no memory tells -/
theorem run_pure {P : Program} {ρ : Rho} {rec : Rec} (hrec : CallOK P ρ rec) {g : FuncId} {l : List SV} {ds : List Bool} {r : SV} {pc : List (Bt × Bool)}
    (h : (rec g l (st0 ds)).map (fun x => (x.1, x.2.pc)) = some (r, pc)) (hk : pcok ρ pc) {vs : List Value} (hv : RL ρ nu0 l vs) (w : World) :
    Calls P g vs.toArray w fun e w' => ∃ ν' v, e = .returned v ∧ r.R ρ ν' v ∧ Fr Nowhere w w' := by
  cases hx : rec g l (st0 ds) with
  | none => simp [hx] at h
  | some p =>
    obtain ⟨r', σ'⟩ := p
    simp only [hx, Option.map_some, Option.some.injEq, Prod.mk.injEq] at h
    obtain ⟨rfl, rfl⟩ := h
    refine (hrec g l _ _ _ hx).2 hk (sim0 ρ ds w) hv |>.mono fun e w' ⟨ν', v, he, hg, hr⟩ => ⟨ν', v, he, hr, hg.fr.mono fun b hb => foot0 ds b hb⟩
end Go.Eng
