/- The engine, part B: loads, stores, appends, calls, regions. Nothing of the program. -/
import Derived.Test.YthlpfkoadgfgpaaGreatEngA
import Derived.Laws.MakeOwn
import Derived.Great.BuildSlice
/- The engine reads memory. -/
namespace Go.Eng

abbrev SimW (ρ : Rho) (ν : Nu) (σ : St) (w : World) : Prop := Sim ρ ν (fun n => σ.hp.get n) σ.nx w

/-- an array of integers read at a place -/
def rdUps (base : Option Nat) (t : Tm) : List (Tm × Tm) → St → Option (Tm × St)
  | [], σ => match base with
    | none => some (.lit 0, σ)
    | some A => some (.sel A t, σ)
  | (x, v) :: r, σ => match σ.ask (bEq t x) with
    | some (true, σ1) => some (v, σ1)
    | some (false, σ1) => rdUps base t r σ1
    | none => none
theorem rdUps_sound {ρ : Rho} {base : Option Nat} {t : Tm} : ∀ {ups : List (Tm × Tm)} {σ σ' : St} {r : Tm}, rdUps base t ups σ = some (r, σ') →
    Asks ρ σ σ' ∧ (pcok ρ σ'.pc → r.ev ρ = arrEv ρ base ups (t.ev ρ))
  | [], σ, σ', r, h => by
    simp only [rdUps] at h
    cases base with
    | none => simp only [Option.some.injEq, Prod.mk.injEq] at h; obtain ⟨rfl, rfl⟩ := h; exact ⟨Asks.refl _ _, fun _ => rfl⟩
    | some A => simp only [Option.some.injEq, Prod.mk.injEq] at h; obtain ⟨rfl, rfl⟩ := h; exact ⟨Asks.refl _ _, fun _ => rfl⟩
  | (x, v) :: rest, σ, σ', r, h => by
    simp only [rdUps] at h
    split at h
    · rename_i σ1 ha
      simp only [Option.some.injEq, Prod.mk.injEq] at h
      obtain ⟨rfl, rfl⟩ := h
      obtain ⟨a1, b1⟩ := ask_sound (ρ := ρ) ha
      refine ⟨a1, fun hk => ?_⟩
      have c := b1 hk
      rw [bEq_ev] at c
      simp only [arrEv]
      rw [if_pos (by simpa using c)]
    · rename_i σ1 ha
      obtain ⟨a1, b1⟩ := ask_sound (ρ := ρ) ha
      obtain ⟨a2, b2⟩ := rdUps_sound h
      refine ⟨a1.trans a2, fun hk => ?_⟩
      have c := b1 (a2.pc hk)
      rw [bEq_ev] at c
      simp only [arrEv]
      rw [if_neg (by simpa using c)]
      exact b2 hk
    · cases h

def rdArr (k : IntKind) (base : Option Nat) (ups : List (Tm × Tm)) (len off : Tm) : Nat → Nat → St → Option (List SV × St)
  | 0, _, σ => some ([], σ)
  | z + 1, j, σ => match σ.must (bLt (mAdd off (.lit j)) len) with
    | some σ1 => match rdUps base (mAdd off (.lit j)) ups σ1 with
      | some (r, σ2) => match rdArr k base ups len off z (j + 1) σ2 with
        | some (l, σ3) => some (.int k r :: l, σ3)
        | none => none
      | none => none
    | none => none
def rdCells (σ : St) (n : Nat) (off : Tm) (z : Nat) : Option (List SV × St) :=
  match σ.hp.get n with
  | some (.cells l) => match litOf off with
    | some (.ofNat o) => bif Nat.ble (o + z) l.length then some ((l.drop o).take z, σ) else none
    | _ => none
  | some (.arr k base ups len) => rdArr k base ups len off z 0 σ
  | none => none

theorem cell_at {w : World} {b : Nat} {c : Array Value} {ty : TypeId} {f : Nat × Nat} (h : w.heap[b]? = some (.cells c ty f)) (o : Nat) : w.cell? ⟨b, o, none⟩ = c[o]? := by
  simp [World.cell?, h]

theorem rdArr_sound {ρ : Rho} {ν : Nu} {k : IntKind} {base : Option Nat} {ups : List (Tm × Tm)} {len off : Tm} {c : Array Value} {o : Nat} (ho : off.ev ρ = (o : Int))
    (hc : (SBlk.arr k base ups len).R ρ ν c) : ∀ {z j : Nat} {σ σ' : St} {l : List SV}, rdArr k base ups len off z j σ = some (l, σ') →
    Asks ρ σ σ' ∧ (pcok ρ σ'.pc → ∃ vs, RL ρ ν l vs ∧ vs.length = z ∧ ∀ (i : Nat) v, vs[i]? = some v → c[o + j + i]? = some v)
  | 0, j, σ, σ', l, h => by
    simp only [rdArr, Option.some.injEq, Prod.mk.injEq] at h
    obtain ⟨rfl, rfl⟩ := h
    exact ⟨Asks.refl _ _, fun _ => ⟨[], rfl, rfl, fun i v hv => by simp at hv⟩⟩
  | z + 1, j, σ, σ', l, h => by
    simp only [rdArr] at h
    split at h
    · rename_i σ1 h1
      split at h
      · rename_i r σ2 h2
        split at h
        · rename_i l' σ3 h3
          simp only [Option.some.injEq, Prod.mk.injEq] at h
          obtain ⟨rfl, rfl⟩ := h
          obtain ⟨a1, b1⟩ := must_sound (ρ := ρ) h1
          obtain ⟨a2, b2⟩ := rdUps_sound (ρ := ρ) h2
          obtain ⟨a3, b3⟩ := rdArr_sound ho hc h3
          refine ⟨(a1.trans a2).trans a3, fun hk => ?_⟩
          obtain ⟨vs, e1, e2, e3⟩ := b3 hk
          have c1 := b1 (a2.pc (a3.pc hk))
          have c2 := b2 (a3.pc hk)
          rw [bLt_ev] at c1
          replace c1 := of_decide_eq_true c1
          rw [mAdd_ev, ho] at c1 c2
          simp only [Tm.ev] at c1 c2
          obtain ⟨q1, q2⟩ := hc
          rw [q1] at c1
          have hlt : o + j < c.size := by omega
          refine ⟨.int k (r.ev ρ) :: vs, by simp only [RL]; exact ⟨_, _, rfl, rfl, e1⟩, by simp [e2], fun i v hv => ?_⟩
          cases i with
          | zero =>
            simp only [List.getElem?_cons_zero, Option.some.injEq] at hv
            subst hv
            rw [Nat.add_zero, q2 _ hlt, c2]
            simp
          | succ i =>
            simp only [List.getElem?_cons_succ] at hv
            have := e3 i v hv
            rw [show o + j + (i + 1) = o + (j + 1) + i by omega]
            exact this
        · cases h
      · cases h
    · cases h

theorem RL_len {ρ : Rho} {ν : Nu} {l : List SV} {vs : List Value} (h : RL ρ ν l vs) : vs.length = l.length := RL_length h

theorem rdCells_sound {ρ : Rho} {σ σ' : St} {n z : Nat} {off : Tm} {l : List SV} (h : rdCells σ n off z = some (l, σ')) :
    Asks ρ σ σ' ∧ (pcok ρ σ'.pc → ∀ {ν : Nu} {w : World} {b m o : Nat}, SimW ρ ν σ w → ν n = some (b, m) → off.ev ρ = (o : Int) →
      ∃ vs, RL ρ ν l vs ∧ vs.length = z ∧ ∀ (i : Nat) v, vs[i]? = some v → w.cell? ⟨b, o + i, none⟩ = some v) := by
  unfold rdCells at h
  split at h
  · rename_i l0 hg
    split at h
    · rename_i o hl
      cases hb : Nat.ble (o + z) l0.length <;> simp only [hb, cond_true, cond_false] at h
      · cases h
      · simp only [Option.some.injEq, Prod.mk.injEq] at h
        obtain ⟨rfl, rfl⟩ := h
        refine ⟨Asks.refl _ _, fun _ ν w b m o' hs hν ho => ?_⟩
        obtain ⟨b', c, ty, e1, e2, vs, rest, e3, e4⟩ := hs.blk n _ hg
        rw [hν] at e1
        cases e1
        rw [litOf_eq hl] at ho
        simp only [Tm.ev, Int.ofNat_eq_natCast] at ho
        have hoo : o = o' := by omega
        subst hoo
        have hle : o + z ≤ l0.length := Nat.le_of_ble_eq_true hb
        have hvl := RL_length e3
        refine ⟨(vs.drop o).take z, RL_take _ (RL_drop _ e3), by simp; omega, fun i v hv => ?_⟩
        rw [cell_at e2, ← Array.getElem?_toList, e4]
        rw [List.getElem?_take] at hv
        split at hv
        · rw [List.getElem?_drop] at hv
          rw [List.getElem?_append_left (by omega)]
          exact hv
        · cases hv
    · cases h
  · rename_i k base ups len hg
    refine ⟨?_, fun hk ν w b m o hs hν ho => ?_⟩
    · -- the questions alone
      have key : ∀ {z j : Nat} {σ σ' : St} {l : List SV}, rdArr k base ups len off z j σ = some (l, σ') → Asks ρ σ σ' := by
        intro z
        induction z with
        | zero => intro j σ σ' l h; simp only [rdArr, Option.some.injEq, Prod.mk.injEq] at h; obtain ⟨_, rfl⟩ := h; exact Asks.refl _ _
        | succ z ih =>
          intro j σ σ' l h
          simp only [rdArr] at h
          split at h
          · rename_i σ1 h1
            split at h
            · rename_i r σ2 h2
              split at h
              · rename_i l' σ3 h3
                simp only [Option.some.injEq, Prod.mk.injEq] at h
                obtain ⟨_, rfl⟩ := h
                exact ((must_sound (ρ := ρ) h1).1.trans (rdUps_sound (ρ := ρ) h2).1).trans (ih h3)
              · cases h
            · cases h
          · cases h
      exact key h
    · obtain ⟨b', c, ty, e1, e2, e3⟩ := hs.blk n _ hg
      rw [hν] at e1
      cases e1
      obtain ⟨vs, k1, k2, k3⟩ := (rdArr_sound ho e3 h).2 hk
      refine ⟨vs, k1, k2, fun i v hv => ?_⟩
      rw [cell_at e2]
      simpa using k3 i v hv
  · cases h

/-! a load -/
def opLoad (P : Program) (t : TypeId) (x : SV) (σ : St) : Option (SV × St) :=
  match x, tyAgg P t, tySize P t with
  | .ptr n off, some true, some z => match rdCells σ n off z with
    | some (l, σ1) => some (.agg l, σ1)
    | none => none
  | .ptr n off, some false, _ => match rdCells σ n off 1 with
    | some ([s], σ1) => some (s, σ1)
    | _ => none
  | _, _, _ => none
theorem opLoad_sound {P : Program} {ρ : Rho} {t : TypeId} {x s : SV} {σ σ' : St} (h : opLoad P t x σ = some (s, σ')) :
    Asks ρ σ σ' ∧ (pcok ρ σ'.pc → ∀ {ν : Nu} {w : World} {u : Value}, SimW ρ ν σ w → x.R ρ ν u → ∃ v, s.R ρ ν v ∧ (Instr.loadAt t u).run P w = .ok v w) := by
  unfold opLoad at h
  split at h
  · rename_i n off z ha hz
    split at h
    · rename_i l σ1 hr
      simp only [Option.some.injEq, Prod.mk.injEq] at h
      obtain ⟨rfl, rfl⟩ := h
      obtain ⟨a1, b1⟩ := rdCells_sound (ρ := ρ) hr
      refine ⟨a1, fun hk ν w u hs hx => ?_⟩
      simp only [SV.R] at hx
      obtain ⟨b, m, o, n1, n2, rfl⟩ := hx
      obtain ⟨vs, e1, e2, e3⟩ := b1 hk hs n1 n2
      refine ⟨.agg vs.toArray, by simp only [SV.R]; exact ⟨_, rfl, by simpa using e1⟩, ?_⟩
      have hl := run_loadCells_list (P := P) w ⟨b, o, none⟩ vs (fun j v hv => by rw [Addr.add_lit]; exact e3 j v hv)
      rw [e2] at hl
      simp [Instr.loadAt, Instr.sureAddr, loadVar, run_isAgg ha, run_sizeOf hz, hl]
    · cases h
  · rename_i n off ha
    split at h
    · rename_i s' σ1 hr
      simp only [Option.some.injEq, Prod.mk.injEq] at h
      obtain ⟨rfl, rfl⟩ := h
      obtain ⟨a1, b1⟩ := rdCells_sound (ρ := ρ) hr
      refine ⟨a1, fun hk ν w u hs hx => ?_⟩
      simp only [SV.R] at hx
      obtain ⟨b, m, o, n1, n2, rfl⟩ := hx
      obtain ⟨vs, e1, e2, e3⟩ := b1 hk hs n1 n2
      simp only [RL] at e1
      obtain ⟨v, vs', rfl, q1, q2⟩ := e1
      have hc := e3 0 v rfl
      refine ⟨v, q1, ?_⟩
      simp only [Nat.add_zero] at hc
      simp [Instr.loadAt, Instr.sureAddr, loadVar, run_isAgg ha, hc]
    · cases h
  · cases h
end Go.Eng
/- The engine makes and writes memory. -/
namespace Go.Eng

def nameOk (n : Nat) : Bool := Nat.blt n 1000000000
def St.set (σ : St) (n : Nat) (B : Option SBlk) : St := { σ with hp := T.put 40 σ.hp n B }
theorem set_get {σ : St} {n : Nat} (B : Option SBlk) (h : nameOk n = true) : (fun m => (σ.set n B).hp.get m) = Hp.set (fun m => σ.hp.get m) n B := by
  have hn : n < 1000000000 := by simpa [nameOk, Nat.blt_eq] using h
  funext m
  simp only [St.set, Hp.set]
  exact T.get_put 40 _ _ _ _ (by omega)

/-- a scalar, as one cell holds it -/
def oneS : SV → Bool
  | .agg _ => false
  | .tup _ => false
  | .any => false
  | .raw v => v.oneCell'
  | _ => true
theorem oneS_one {ρ : Rho} {ν : Nu} {s : SV} {v : Value} (h : s.R ρ ν v) (ho : oneS s = true) : v.oneCell' = true := by
  cases s <;> simp only [oneS] at ho <;> try (cases ho; done)
  case raw u => simp only [SV.R] at h; subst h; exact ho
  case ptr => simp only [SV.R] at h; obtain ⟨_, _, _, _, _, rfl⟩ := h; rfl
  case sl => simp only [SV.R] at h; obtain ⟨_, _, _, _, _, _, _, _, _, _, rfl⟩ := h; rfl
  case slz => simp only [SV.R] at h; obtain ⟨_, _, rfl⟩ := h; rfl
  case fn => simp only [SV.R] at h; obtain ⟨_, _, rfl, _, _⟩ := h; rfl
  case iface => simp only [SV.R] at h; obtain ⟨_, rfl, _⟩ := h; rfl
  case unk => simp only [SV.R] at h; obtain ⟨_, rfl⟩ := h; rfl
  case flt => simp only [SV.R] at h; obtain ⟨_, _, _, rfl⟩ := h; rfl
  case cpx => simp only [SV.R] at h; obtain ⟨_, _, _, _, _, _, rfl⟩ := h; rfl
  all_goals simp only [SV.R] at h; subst h; rfl
theorem RL_ones {ρ : Rho} {ν : Nu} : ∀ {l : List SV} {vs : List Value}, RL ρ ν l vs → l.all oneS = true → ∀ v ∈ vs, v.oneCell' = true
  | [], _, h, _, v, hv => by simp only [RL] at h; subst h; cases hv
  | s :: l, _, h, ho, v, hv => by
    simp only [RL] at h
    obtain ⟨u, vs, rfl, h1, h2⟩ := h
    simp only [List.all_cons, Bool.and_eq_true] at ho
    cases hv with
    | head => exact oneS_one h1 ho.1
    | tail _ hm => exact RL_ones h2 ho.2 v hm

/-! what is new: its block, and the value that names it -/
def rep (l : List SV) : Nat → List SV
  | 0 => []
  | n + 1 => l ++ rep l n
inductive NewV where
  | ptr
  | sl (len : Tm) (cap : Tm)
def NewV.at (n : Nat) : NewV → SV
  | .ptr => .ptr n (.lit 0)
  | .sl len cap => .sl n (.lit 0) len (.known cap)
def NewV.real (ρ : Rho) (b : Nat) : NewV → Value
  | .ptr => .pointer (some ⟨b, 0, none⟩)
  | .sl len cap => .slice (some ⟨b, 0, none⟩) (len.ev ρ).toNat (cap.ev ρ).toNat
def mkBlk (i : TypeInfo) (z : Value) (C : Tm) : Option SBlk :=
  match litOf C with
  | some (.ofNat n) => bif Nat.ble n 5000 then some (.cells (rep (z.cells.toList.map ofV1) n)) else none
  | some _ => none
  | none => match z with
    | .int k (.ofNat 0) => bif Nat.beq i.size 1 then some (.arr k none [] C) else none
    | _ => none
def opNew (P : Program) (tm : Nat → Option SV) (o : Oper) (σ : St) : Option (NewV × SBlk × St) :=
  match o.op with
  | .alloc e => match P.info? e with
    | some i => match i.zero with
      | some z => some (.ptr, .cells (z.cells.toList.map ofV1), σ)
      | none => none
    | none => none
  | .box _ x => match opnd tm x with
    | some s => match cellsOf s with
      | some l => some (.ptr, .cells l, σ)
      | none => none
    | none => none
  | .buildSlice t len ps => match P.underlying t with
    | some (.slice e) => match P.info? e with
      | some i => match i.zero, partsS tm ps.toList with
        | some z, some l =>
          bif Nat.beq len 0 && l.isEmpty then some (.sl (.lit 0) (.lit 0), .cells [], σ) else
          bif Nat.ble 1 (len * i.size) && (Nat.ble (len * i.size) 10000 && Nat.beq z.cells.size i.size) then
            match fillS (fun j => some (j * i.size, i.size)) (rep (z.cells.toList.map ofV1) len) l with
            | some r => some (.sl (.lit len) (.lit len), .cells r, σ)
            | none => none
          else none
        | _, _ => none
      | none => none
    | _ => none
  | .makeSlice t l c => match P.underlying t, opnd tm l, opnd tm c with
    | some (.slice e), some (.int _ L), some (.int _ C) => match P.info? e with
      | some i => match i.zero with
        | some z => match σ.must (bLe (.lit 0) L) with
          | some σ1 => match σ1.must (bLe L C) with
            | some σ2 => match σ2.must (bLe C (.lit 1099511627776)) with
              | some σ3 =>
                bif Nat.ble i.bytes 256 && Nat.beq z.cells.size i.size then
                  match mkBlk i z C with
                  | some B => some (.sl L C, B, σ3)
                  | none => none
                else none
              | none => none
            | none => none
          | none => none
        | none => none
      | none => none
    | _, _, _ => none
  | _ => none

theorem rep_length (l : List SV) : ∀ n, (rep l n).length = n * l.length
  | 0 => by simp [rep]
  | n + 1 => by simp [rep, rep_length l n, Nat.succ_mul]; omega
theorem made_rep {ρ : Rho} {ν : Nu} (z : Array Value) (hz : 0 < z.size) : ∀ n, RL ρ ν (rep (z.toList.map ofV1) n) (madeCells z (n * z.size)).toList
  | 0 => by simp [rep, madeCells, RL, Array.range_zero']
  | n + 1 => by
    have ih := made_rep (ρ := ρ) (ν := ν) z hz n
    have e : (madeCells z ((n + 1) * z.size)).toList = z.toList ++ (madeCells z (n * z.size)).toList := by
      apply List.ext_getElem?
      intro j
      simp only [madeCells, Array.toList_map, Array.toList_range, List.getElem?_map]
      by_cases hj : j < z.size
      · rw [List.getElem?_append_left (by simpa using hj)]
        have h1 : j < (n + 1) * z.size := by rw [Nat.succ_mul]; omega
        rw [List.getElem?_range h1]
        simp only [Option.map_some, Nat.mod_eq_of_lt hj]
        simp [hj]
      · rw [List.getElem?_append_right (by simpa using Nat.le_of_not_lt hj)]
        simp only [List.getElem?_map, Array.length_toList]
        by_cases hk : j < (n + 1) * z.size
        · have hk' : j - z.size < n * z.size := by rw [Nat.succ_mul] at hk; omega
          rw [List.getElem?_range hk, List.getElem?_range hk']
          simp only [Option.map_some]
          rw [← Nat.mod_eq_sub_mod (Nat.le_of_not_lt hj)]
        · have hk' : ¬ j - z.size < n * z.size := by rw [Nat.succ_mul] at hk; omega
          rw [List.getElem?_eq_none (by simpa using Nat.le_of_not_lt hk), List.getElem?_eq_none (by simpa using Nat.le_of_not_lt hk')]
    rw [e]
    exact RL_append (ofV1s_R ρ ν _) ih

theorem RL_cells {ρ : Rho} {ν : Nu} {l : List SV} {c : Array Value} (h : RL ρ ν l c.toList) : (SBlk.cells l).R ρ ν c := ⟨c.toList, [], h, by simp⟩

theorem mkBlk_sound {ρ : Rho} {ν : Nu} {i : TypeInfo} {z : Value} {C : Tm} {B : SBlk} (h : mkBlk i z C = some B) (h3 : z.cells.size = i.size) (h0 : 0 ≤ C.ev ρ) :
    B.R ρ ν (madeCells z.cells ((C.ev ρ).toNat * i.size)) := by
  unfold mkBlk at h
  split at h
  · rename_i n hlC
    cases hn : Nat.ble n 5000 <;> simp only [hn, cond_true, cond_false] at h
    · cases h
    · simp only [Option.some.injEq] at h
      subst h
      have hC : (C.ev ρ).toNat = n := by rw [litOf_eq hlC]; simp [Tm.ev]
      rw [hC, ← h3]
      rcases Nat.eq_zero_or_pos z.cells.size with hz0 | hz0
      · refine RL_cells ?_
        have hnil : z.cells.toList = [] := by rw [← List.length_eq_zero_iff]; simpa using hz0
        have hrep : ∀ k, rep (z.cells.toList.map ofV1) k = [] := fun k => by
          rw [hnil]
          induction k with
          | zero => rfl
          | succ k ih => simp only [rep, ih]; rfl
        rw [hrep, hz0]
        simp [RL, madeCells, Array.range_zero']
      · exact RL_cells (made_rep z.cells hz0 n)
  · cases h
  · split at h
    · rename_i k
      cases hs : Nat.beq i.size 1 <;> simp only [hs, cond_true, cond_false] at h
      · cases h
      · simp only [Option.some.injEq] at h
        subst h
        have h4 : i.size = 1 := Nat.eq_of_beq_eq_true hs
        refine ⟨?_, fun j hj => ?_⟩
        · rw [size_madeCells, h4]; omega
        · simp only [madeCells, Array.size_map, Array.size_range] at hj
          simp only [madeCells, Array.getElem?_map, Array.getElem?_range, if_pos hj, Option.map_some]
          simp [Value.cells, arrEv, Nat.mod_one]
    · cases h

theorem partsS_len {tm : Nat → Option SV} : ∀ {ps : List (Nat × Operand)} {l : List (Nat × SV)}, partsS tm ps = some l → l.length = ps.length
  | [], l, hx => by simp only [partsS, Option.some.injEq] at hx; subst hx; rfl
  | (i, x) :: r, l, hx => by
    simp only [partsS] at hx
    split at hx
    · rename_i s l' h1 h2
      simp only [Option.some.injEq] at hx
      subst hx
      simp [partsS_len h2]
    · cases hx
theorem opNew_sound {P : Program} {ρ : Rho} {tm : Nat → Option SV} {o : Oper} {σ σ' : St} {v : NewV} {B : SBlk} (h : opNew P tm o σ = some (v, B, σ')) :
    Asks ρ σ σ' ∧ (pcok ρ σ'.pc → ∀ {ν : Nu} {a : Act}, TmR ρ ν tm a.tmps → ∃ c ty, B.R ρ ν c ∧
      (∀ w, (execOp a.eval o).run P w = .ok (.value (v.real ρ w.heap.size)) (w.alloc (.cells c ty))) ∧
      (∀ (ν' : Nu) n b, ν' n = some (b, c.size) → (v.at n).R ρ ν' (v.real ρ b))) := by
  have hptr : ∀ (ν' : Nu) n b m, ν' n = some (b, m) → (NewV.ptr.at n).R ρ ν' (NewV.ptr.real ρ b) := fun ν' n b m e => by
    simp only [NewV.at, NewV.real, SV.R]
    exact ⟨b, m, 0, e, rfl, rfl⟩
  have hsl : ∀ (ν' : Nu) n b m (L C : Tm), ν' n = some (b, m) → 0 ≤ L.ev ρ → L.ev ρ ≤ C.ev ρ → ((NewV.sl L C).at n).R ρ ν' ((NewV.sl L C).real ρ b) := fun ν' n b m L C e h0 h1 => by
    simp only [NewV.at, NewV.real, SV.R]
    exact ⟨b, m, 0, (L.ev ρ).toNat, (C.ev ρ).toNat, e, rfl, by omega, by omega, by omega, rfl⟩
  unfold opNew at h
  unfold execOp
  generalize o.op = op at h ⊢
  cases op <;> simp only at h ⊢ <;> try (cases h; done)
  case alloc e =>
    split at h
    · rename_i i hi
      split at h
      · rename_i z hz
        simp only [Option.some.injEq, Prod.mk.injEq] at h
        obtain ⟨rfl, rfl, rfl⟩ := h
        refine ⟨Asks.refl _ _, fun _ ν a _ => ⟨z.cells, e, RL_cells (ofV1s_R ρ ν _), fun w => ?_, fun ν' n b hν => hptr ν' n b _ hν⟩⟩
        simp [Instr.alloc, zeroValue, typeInfo, hi, hz, newVar, newRow, NewV.real]
      · cases h
    · cases h
  case box e x =>
    split at h
    · rename_i s hs
      split at h
      · rename_i l hl
        simp only [Option.some.injEq, Prod.mk.injEq] at h
        obtain ⟨rfl, rfl, rfl⟩ := h
        refine ⟨Asks.refl _ _, fun _ ν a hT => ⟨(a.eval x).cells, e, RL_cells (cellsOf_sound (opnd_R hT hs) hl), fun w => ?_, fun ν' n b hν => hptr ν' n b _ hν⟩⟩
        simp [Instr.box, newVar, newRow, NewV.real]
      · cases h
    · cases h
  case buildSlice t len ps =>
    split at h
    · rename_i e hu
      split at h
      · rename_i i hi
        split at h
        · rename_i z l hz hl
          cases he : (Nat.beq len 0 && l.isEmpty) <;> simp only [he, cond_true, cond_false] at h
          case true =>
            simp only [Bool.and_eq_true, List.isEmpty_iff] at he
            simp only [Option.some.injEq, Prod.mk.injEq] at h
            obtain ⟨rfl, rfl, rfl⟩ := h
            have h0 := Nat.eq_of_beq_eq_true he.1
            subst h0
            have hps : ps = #[] := by
              have hl0 := hl
              rw [he.2] at hl0
              have h1 := (partsS_len hl0)
              apply Array.ext'
              simpa using h1.symm
            subst hps
            refine ⟨Asks.refl _ _, fun _ ν a hT => ⟨#[], e, ⟨[], [], rfl, rfl⟩, fun w => ?_, fun ν' n b hν => hsl ν' n b _ _ _ hν (by simp [Tm.ev]) (by simp [Tm.ev])⟩⟩
            simp [Instr.buildSlice, run_underlying hu, sizeOf, typeInfo, hi, Instr.fill, newRow, NewV.real, Tm.ev]
            rw [show (Array.range 0) = #[] from rfl, Array.map_empty]
          cases hb : (Nat.ble 1 (len * i.size) && (Nat.ble (len * i.size) 10000 && Nat.beq z.cells.size i.size)) <;> simp only [hb, cond_true, cond_false] at h
          · cases h
          · simp only [Bool.and_eq_true] at hb
            have h1 : 1 ≤ len * i.size := Nat.le_of_ble_eq_true hb.1
            have h2 : len * i.size ≤ 10000 := Nat.le_of_ble_eq_true hb.2.1
            have h3 : z.cells.size = i.size := Nat.eq_of_beq_eq_true hb.2.2
            split at h
            · rename_i r hf
              simp only [Option.some.injEq, Prod.mk.injEq] at h
              obtain ⟨rfl, rfl, rfl⟩ := h
              refine ⟨Asks.refl _ _, fun _ ν a hT => ?_⟩
              obtain ⟨k1, k2⟩ := partsS_R hT hl
              have hsz : 0 < z.cells.size := by
                rcases Nat.eq_zero_or_pos z.cells.size with e | e
                · rw [← h3, e] at h1; simp at h1
                · exact e
              obtain ⟨cv', q1, q2⟩ := fillS_sound (place' := fun j => some (j * i.size, i.size)) (fun j => rfl) (pv := (ps.map fun (j, x) => (j, a.eval x)).toList) (cv := madeCells z.cells (len * z.cells.size))
                (made_rep z.cells hsz len) (by simpa using k1) (fun j s hj => by
                  obtain ⟨v, e1, e2⟩ := k2 j s hj
                  refine ⟨v, ?_, e2⟩
                  rw [Array.toList_map]
                  exact e1) hf
              refine ⟨cv', e, RL_cells q2, fun w => ?_, fun ν' n b hν => hsl ν' n b _ _ _ hν (by simp [Tm.ev]) (by simp [Tm.ev])⟩
              rw [h3] at q1
              have hr := run_buildSlice (P := P) w t e len _ cv' i z hu hi hz (by omega) (by omega) q1
              simp [hr, NewV.real, Tm.ev]
            · cases h
        · cases h
      · cases h
    · cases h
  case makeSlice t l c =>
    split at h
    · rename_i e kl L kc C hu hl hc
      split at h
      · rename_i i hi
        split at h
        · rename_i z hz
          split at h
          · rename_i σ1 m1
            split at h
            · rename_i σ2 m2
              split at h
              · rename_i σ3 m3
                cases hb : (Nat.ble i.bytes 256 && Nat.beq z.cells.size i.size) <;> simp only [hb, cond_true, cond_false] at h
                · cases h
                · simp only [Bool.and_eq_true] at hb
                  have h2 : i.bytes ≤ 256 := Nat.le_of_ble_eq_true hb.1
                  have h3 : z.cells.size = i.size := Nat.eq_of_beq_eq_true hb.2
                  obtain ⟨a1, b1⟩ := must_sound (ρ := ρ) m1
                  obtain ⟨a2, b2⟩ := must_sound (ρ := ρ) m2
                  obtain ⟨a3, b3⟩ := must_sound (ρ := ρ) m3
                  have bnd : pcok ρ σ3.pc → 0 ≤ L.ev ρ ∧ L.ev ρ ≤ C.ev ρ ∧ C.ev ρ ≤ 1099511627776 := fun hk => by
                    have c1 := b1 (a2.pc (a3.pc hk))
                    have c2 := b2 (a3.pc hk)
                    have c3 := b3 hk
                    rw [bLe_ev] at c1 c2 c3
                    exact ⟨of_decide_eq_true c1, of_decide_eq_true c2, of_decide_eq_true c3⟩
                  have run : pcok ρ σ3.pc → ∀ {ν : Nu} {a : Act}, TmR ρ ν tm a.tmps → ∀ w, (Instr.makeSlice t (a.eval l) (a.eval c)).run P w =
                      .ok (.slice (some ⟨w.heap.size, 0, none⟩) (L.ev ρ).toNat (C.ev ρ).toNat) (w.alloc (.cells (madeCells z.cells ((C.ev ρ).toNat * i.size)) e)) := fun hk ν a hT w => by
                    obtain ⟨d1, d2, d3⟩ := bnd hk
                    have e1 := opnd_R hT hl
                    have e2 := opnd_R hT hc
                    simp only [SV.R] at e1 e2
                    rw [e1, e2]
                    have hbb : (i.bytes : Int) * C.ev ρ ≤ 281474976710656 := by
                      have : (i.bytes : Int) * C.ev ρ ≤ 256 * 1099511627776 := Int.mul_le_mul (by omega) d3 (by omega) (by omega)
                      omega
                    exact run_make (P := P) w t e i z hu hi hz kl kc _ _ d1 d2 hbb (by omega)
                  split at h
                  · rename_i B' hB
                    simp only [Option.some.injEq, Prod.mk.injEq] at h
                    obtain ⟨rfl, rfl, rfl⟩ := h
                    exact ⟨(a1.trans a2).trans a3, fun hk ν a hT => ⟨_, e, mkBlk_sound hB h3 (by have := bnd hk; omega), fun w => by simp [run hk hT w, NewV.real], fun ν' n b hν => hsl ν' n b _ _ _ hν (bnd hk).1 (bnd hk).2.1⟩⟩
                  · cases h
              · cases h
            · cases h
          · cases h
        · cases h
      · cases h
    · cases h
end Go.Eng
/- The engine writes memory: a store, an append. -/
namespace Go.Eng

abbrev GoesW (ρ : Rho) (ν : Nu) (σ : St) (w : World) (ν' : Nu) (σ' : St) (w' : World) : Prop := Goes σ.nx ρ ν (fun n => σ.hp.get n) σ.nx w ν' (fun n => σ'.hp.get n) σ'.nx w'
theorem SimW.ask {ρ : Rho} {ν : Nu} {σ σ' : St} {w : World} (s : SimW ρ ν σ w) (a : Asks ρ σ σ') : SimW ρ ν σ' w := by
  unfold SimW at *
  rw [a.hp, a.nx]
  exact s
theorem GoesW.ask {ρ : Rho} {ν : Nu} {σ σ' : St} {w : World} (s : SimW ρ ν σ w) (a : Asks ρ σ σ') : GoesW ρ ν σ w ν σ' w := by
  unfold GoesW
  rw [a.hp, a.nx]
  exact Goes.refl s

def wrBlk (B : SBlk) (off : Tm) (l : List SV) (σ : St) : Option (SBlk × St) :=
  match B with
  | .cells c => match litOf off with
    | some (.ofNat o) => bif Nat.ble (o + l.length) c.length && l.all oneS then some (.cells (c.take o ++ (l ++ c.drop (o + l.length))), σ) else none
    | _ => none
  | .arr k base ups len => match l with
    | [.int k' t] => bif kindEq k k' then
        match σ.must (bLt off len) with
        | some σ1 => some (.arr k base ((off, t) :: ups) len, σ1)
        | none => none
      else none
    | _ => none
theorem wrBlk_asks {ρ : Rho} {B B' : SBlk} {off : Tm} {l : List SV} {σ σ' : St} (h : wrBlk B off l σ = some (B', σ')) : Asks ρ σ σ' := by
  unfold wrBlk at h
  split at h
  · rename_i c
    split at h
    · rename_i o ho
      cases hb : (Nat.ble (o + l.length) c.length && l.all oneS) <;> simp only [hb, cond_true, cond_false] at h
      · cases h
      · simp only [Option.some.injEq, Prod.mk.injEq] at h; obtain ⟨_, rfl⟩ := h; exact Asks.refl _ _
    · cases h
  · rename_i k base ups len
    split at h
    · rename_i k' t
      cases hk : kindEq k k' <;> simp only [hk, cond_true, cond_false] at h
      · cases h
      · split at h
        · rename_i σ1 m1
          simp only [Option.some.injEq, Prod.mk.injEq] at h
          obtain ⟨_, rfl⟩ := h
          exact (must_sound m1).1
        · cases h
    · cases h
theorem wrBlk_sound {ρ : Rho} {ν : Nu} {B B' : SBlk} {off : Tm} {l : List SV} {σ σ' : St} {c : Array Value} {o : Nat} {vs : List Value} (h : wrBlk B off l σ = some (B', σ')) (hk : pcok ρ σ'.pc)
    (hB : B.R ρ ν c) (ho : off.ev ρ = (o : Int)) (hl : RL ρ ν l vs) :
    (∀ v ∈ vs, v.oneCell' = true) ∧ o + vs.length ≤ c.size ∧ B'.R ρ ν (c.toList.take o ++ vs ++ c.toList.drop (o + vs.length)).toArray := by
  have hvl := RL_length hl
  unfold wrBlk at h
  split at h
  · rename_i cs
    split at h
    · rename_i o' hlit
      cases hb : (Nat.ble (o' + l.length) cs.length && l.all oneS) <;> simp only [hb, cond_true, cond_false] at h
      · cases h
      · simp only [Option.some.injEq, Prod.mk.injEq] at h
        obtain ⟨rfl, rfl⟩ := h
        simp only [Bool.and_eq_true] at hb
        have hle : o' + l.length ≤ cs.length := Nat.le_of_ble_eq_true hb.1
        rw [litOf_eq hlit] at ho
        simp only [Tm.ev, Int.ofNat_eq_natCast] at ho
        have : o' = o := by omega
        subst this
        obtain ⟨us, rest, e1, e2⟩ := hB
        have hul := RL_length e1
        have hcs : c.size = us.length + rest.length := by rw [← Array.length_toList, e2]; simp
        refine ⟨RL_ones hl hb.2, by omega, ?_⟩
        refine ⟨us.take o' ++ (vs ++ us.drop (o' + l.length)), rest, RL_append (RL_take _ e1) (RL_append hl (RL_drop _ e1)), ?_⟩
        rw [e2, hvl]
        rw [List.take_append_of_le_length (by omega), List.drop_append_of_le_length (by omega)]
        simp
    · cases h
  · rename_i k base ups len
    split at h
    · rename_i k' t
      cases hkk : kindEq k k' <;> simp only [hkk, cond_true, cond_false] at h
      · cases h
      · split at h
        · rename_i σ1 m1
          simp only [Option.some.injEq, Prod.mk.injEq] at h
          obtain ⟨rfl, rfl⟩ := h
          have c1 := (must_sound (ρ := ρ) m1).2 hk
          rw [bLt_ev, ho] at c1
          replace c1 := of_decide_eq_true c1
          obtain ⟨q1, q2⟩ := hB
          rw [q1] at c1
          have hkk' := kindEq_sound hkk
          subst hkk'
          simp only [RL, SV.R] at hl
          obtain ⟨v, vs', rfl, rfl, rfl⟩ := hl
          refine ⟨fun v hv => by simp only [List.mem_singleton] at hv; subst hv; rfl, by simp; omega, ?_, fun i hi => ?_⟩
          · simp only [List.length_singleton, List.size_toArray, List.length_append, List.length_take, List.length_drop, Array.length_toList]
            rw [q1]; omega
          · simp only [List.length_singleton, List.size_toArray, List.length_append, List.length_take, List.length_drop, Array.length_toList] at hi
            simp only [List.length_singleton, List.getElem?_toArray]
            by_cases hio : i = o
            · subst hio
              rw [List.append_assoc, List.getElem?_append_right (by simp; omega)]
              simp only [List.length_take, Array.length_toList]
              rw [show i - min i c.size = 0 by omega]
              simp [arrEv, ho]
            · simp only [arrEv]
              rw [if_neg (by rw [ho]; omega), ← q2 i (by omega)]
              by_cases hlt : i < o
              · rw [List.append_assoc, List.getElem?_append_left (by simp; omega), List.getElem?_take, if_pos hlt, Array.getElem?_toList]
              · rw [List.getElem?_append_right (by simp; omega)]
                simp only [List.length_append, List.length_take, Array.length_toList, List.length_singleton]
                rw [List.getElem?_drop, show o + 1 + (i - (min o c.size + 1)) = i by omega, Array.getElem?_toList]
        · cases h
    · cases h

/-! a store -/
def opStore (P : Program) (t : TypeId) (x s : SV) (σ : St) : Option St :=
  match x, tySize P t, cellsOf s with
  | .ptr n off, some z, some l => bif Nat.beq l.length z && nameOk n then
      match σ.hp.get n with
      | some B => match wrBlk B off l σ with
        | some (B', σ1) => some (σ1.set n (some B'))
        | none => none
      | none => none
    else none
  | _, _, _ => none
theorem opStore_sound {P : Program} {ρ : Rho} {t : TypeId} {x s : SV} {σ σ' : St} (h : opStore P t x s σ = some σ') :
    (pcok ρ σ'.pc → pcok ρ σ.pc) ∧ (pcok ρ σ'.pc → ∀ {ν : Nu} {w : World} {u v : Value}, SimW ρ ν σ w → x.R ρ ν u → s.R ρ ν v →
      ∃ w', (Instr.storeAt t u v).run P w = .ok () w' ∧ GoesW ρ ν σ w ν σ' w') := by
  unfold opStore at h
  split at h
  · rename_i n off z l hz hl
    cases hb : (Nat.beq l.length z && nameOk n) <;> simp only [hb, cond_true, cond_false] at h
    · cases h
    · simp only [Bool.and_eq_true] at hb
      split at h
      · rename_i B hB
        split at h
        · rename_i B' σ1 hw
          simp only [Option.some.injEq] at h
          subst h
          have ha := wrBlk_asks (ρ := ρ) hw
          refine ⟨fun hk => ha.pc hk, fun hk ν w u v hs hx hv => ?_⟩
          simp only [SV.R] at hx
          obtain ⟨b, m, o, n1, n2, rfl⟩ := hx
          obtain ⟨b', c, ty, e1, e2, e3⟩ := hs.blk n B hB
          rw [n1] at e1
          cases e1
          have hcv := cellsOf_sound hv hl
          obtain ⟨k1, k2, k3⟩ := wrBlk_sound hw hk e3 n2 hcv
          have hlen := RL_length hcv
          have hsz : l.length = z := Nat.eq_of_beq_eq_true hb.1
          have hst := run_storeCells_at P b o ty v.cells.toList 0 c w e2 (by simpa using k2) k1
          simp only [Nat.add_zero] at hst
          refine ⟨w.setRow b (c.toList.take o ++ v.cells.toList ++ c.toList.drop (o + v.cells.toList.length)).toArray, ?_, ?_⟩
          · simp only [Instr.storeAt, Instr.sureAddr, storeVar, Sem.run_bind, Sem.run_pure, Result.andThen_ok, run_sizeOf hz]
            rw [if_neg (by simp at hlen ⊢; omega)]
            exact hst
          · unfold GoesW
            rw [set_get _ hb.2]
            have hg := Goes.write (lo := σ.nx) (ρ := ρ) hs n B B' b c _ ty hB n1 e2 (by simp at k2 ⊢; omega) k3
            rw [show (fun n => σ1.hp.get n) = fun n => σ.hp.get n by rw [ha.hp]]
            show Goes _ ρ ν _ _ w ν _ σ1.nx _
            rw [ha.nx]
            exact hg
        · cases h
      · cases h
  · cases h

/-! an append -/
def zeroSz (P : Program) (e : TypeId) : Option (Nat × Nat) :=
  match P.info? e with
  | some i => match i.zero with
    | some z => bif Nat.beq z.cells.size i.size && Nat.ble i.bytes 4096 then some (i.size, i.bytes) else none
    | none => none
  | none => none
def rdAll (σ : St) : SV → Nat → Option (Nat × List SV × St)
  | .sl n off len _, z => match litOf len with
    | some (.ofNat k) => match rdCells σ n off (k * z) with
      | some (l, σ1) => some (k, l, σ1)
      | none => none
    | _ => none
  | _, _ => none
/-- what a row holds up to its length -/
def rdPre (σ : St) (n : Nat) (k : Nat) : Option (List SV) :=
  match σ.hp.get n with
  | some (.cells l) => bif Nat.ble k l.length then some (l.take k) else none
  | _ => none
def emptyS : SV → Bool
  | .nils => true
  | .slz => true
  | .sl _ _ len _ => match litOf len with
    | some (.ofNat 0) => true
    | _ => false
  | _ => false
def opAppend (P : Program) (t : TypeId) (s x : SV) (σ : St) : Option (SV × St) :=
  match P.underlying t with
  | some (.slice e) => match zeroSz P e with
    | some (z, _) =>
      match emptyS x with
      | true => match s with
        | .nils => some (s, σ)
        | .sl _ _ _ _ => some (s, σ)
        | .slz => some (s, σ)
        | _ => none
      | false => match rdAll σ x z with
        | some (k + 1, news, σ1) =>
          bif news.all oneS && (Nat.ble (k + 1) 1000000 && nameOk σ.nx) then
            match s with
            | .nils => some (.sl σ.nx (.lit 0) (.lit (Int.ofNat (k + 1))) (.room z), { σ1.set σ.nx (some (.cells news)) with nx := σ.nx + 1 })
            | .sl n off len cap =>
              match isLit0 off, litOf len with
              | true, some (.ofNat L) =>
                bif Nat.ble L 1000000 && nameOk n then
                match rdPre σ n (L * z) with
                | some olds =>
                  match cap with
                  | .known C => match litOf C with
                    | some (.ofNat c) => bif Nat.ble (L + (k + 1)) c then none else
                      some (.sl σ.nx (.lit 0) (.lit (Int.ofNat (L + (k + 1)))) (.room z), { σ1.set σ.nx (some (.cells (olds ++ news))) with nx := σ.nx + 1 })
                    | _ => none
                  | .room r => bif Nat.beq r z then
                      some (.sl σ.nx (.lit 0) (.lit (Int.ofNat (L + (k + 1)))) (.room z), { (σ1.set n none).set σ.nx (some (.cells (olds ++ news))) with nx := σ.nx + 1 })
                    else none
                | none => none
                else none
              | _, _ => none
            | _ => none
          else none
        | _ => none
    | none => none
  | _ => none
end Go.Eng
/- An append does what the engine says. -/
namespace Go.Eng

theorem zeroSz_eq {P : Program} {e : TypeId} {z y : Nat} (h : zeroSz P e = some (z, y)) : ∃ i zv, P.info? e = some i ∧ i.zero = some zv ∧ i.size = z ∧ i.bytes ≤ 4096 ∧ zv.cells.size = z := by
  unfold zeroSz at h
  split at h
  · rename_i i hi
    split at h
    · rename_i zv hz
      cases hb : (Nat.beq zv.cells.size i.size && Nat.ble i.bytes 4096) <;> simp only [hb, cond_true, cond_false] at h
      · cases h
      · simp only [Option.some.injEq, Prod.mk.injEq] at h
        obtain ⟨rfl, rfl⟩ := h
        simp only [Bool.and_eq_true] at hb
        exact ⟨i, zv, hi, hz, rfl, Nat.le_of_ble_eq_true hb.2, Nat.eq_of_beq_eq_true hb.1⟩
    · cases h
  · cases h

theorem run_append_none {P : Program} {t e : TypeId} {ty : TypeId} {i : TypeInfo} (ht : P.underlying t = some (.slice e)) (hi : P.info? e = some i) (base : Option Addr) (l c : Nat) (hlc : l ≤ c) (b2 : Option Addr) (c2 : Nat) (w : World) :
    (Builtin.append_ #[t, t] ty #[.slice base l c, .slice b2 0 c2]).run P w = .ok (.slice base l c) w := by
  cases base with
  | none => cases b2 <;> simp [Builtin.append_, run_underlying ht, sizeOf, typeInfo, hi, Builtin.lenOf, Builtin.firstCells, hlc, loadCells, loadCellsFrom]
  | some a => cases b2 <;> simp [Builtin.append_, run_underlying ht, sizeOf, typeInfo, hi, Builtin.lenOf, Builtin.firstCells, hlc, storeCells, loadCells, loadCellsFrom]
theorem emptyS_slice {ρ : Rho} {ν : Nu} {x : SV} {v : Value} (h : emptyS x = true) (hx : x.R ρ ν v) : ∃ a c, v = .slice a 0 c := by
  unfold emptyS at h
  split at h
  · simp only [SV.R] at hx; exact ⟨_, _, hx⟩
  · simp only [SV.R] at hx; obtain ⟨a, c, rfl⟩ := hx; exact ⟨_, _, rfl⟩
  · rename_i len _
    split at h
    · rename_i hl
      simp only [SV.R] at hx
      obtain ⟨b, m, o, l, c, n1, n2, n3, n4, n5, rfl⟩ := hx
      rw [litOf_eq hl] at n3
      simp only [Tm.ev] at n3
      have : l = 0 := by
        have : ((Int.ofNat 0 : Int)) = 0 := rfl
        omega
      subst this
      exact ⟨_, _, rfl⟩
    · cases h
  · cases h

theorem rdAll_sound {ρ : Rho} {σ σ' : St} {x : SV} {z k : Nat} {l : List SV} (h : rdAll σ x z = some (k, l, σ')) :
    Asks ρ σ σ' ∧ (pcok ρ σ'.pc → ∀ {ν : Nu} {w : World} {v : Value}, SimW ρ ν σ w → x.R ρ ν v → ∃ (a : Addr) (c : Nat) (vs : List Value), v = .slice (some a) k c ∧ RL ρ ν l vs ∧ vs.length = k * z ∧
      ∀ j u, vs[j]? = some u → w.cell? (a.add j) = some u) := by
  unfold rdAll at h
  split at h
  · rename_i n off len cap z
    split at h
    · rename_i k' hlit
      split at h
      · rename_i l' σ1 hr
        simp only [Option.some.injEq, Prod.mk.injEq] at h
        obtain ⟨rfl, rfl, rfl⟩ := h
        obtain ⟨a1, b1⟩ := rdCells_sound (ρ := ρ) hr
        refine ⟨a1, fun hk ν w v hs hx => ?_⟩
        simp only [SV.R] at hx
        obtain ⟨b, m, o, l, c, n1, n2, n3, n4, n5, rfl⟩ := hx
        obtain ⟨vs, e1, e2, e3⟩ := b1 hk hs n1 n2
        rw [litOf_eq hlit] at n3
        simp only [Tm.ev, Int.ofNat_eq_natCast] at n3
        have : k' = l := by omega
        subst this
        exact ⟨_, c, vs, rfl, e1, e2, fun j u hj => by rw [Addr.add_lit]; exact e3 j u hj⟩
      · cases h
    · cases h
  · cases h

theorem rdPre_sound {ρ : Rho} {ν : Nu} {σ : St} {w : World} {n k : Nat} {l : List SV} (h : rdPre σ n k = some l) (hs : SimW ρ ν σ w) :
    ∃ b c ty vs rest, ν n = some (b, c.size) ∧ w.heap[b]? = some (.cells c ty (0, 0)) ∧ RL ρ ν l vs ∧ vs.length = k ∧ c.toList = vs ++ rest ∧ ∃ B, σ.hp.get n = some B ∧ B.R ρ ν c := by
  unfold rdPre at h
  split at h
  · rename_i l0 hg
    cases hb : Nat.ble k l0.length <;> simp only [hb, cond_true, cond_false] at h
    · cases h
    · simp only [Option.some.injEq] at h
      subst h
      obtain ⟨b, c, ty, e1, e2, e3⟩ := hs.blk n _ hg
      obtain ⟨vs, rest, e4, e5⟩ := id e3
      have hle : k ≤ l0.length := Nat.le_of_ble_eq_true hb
      have hvl := RL_length e4
      refine ⟨b, c, ty, vs.take k, vs.drop k ++ rest, e1, e2, RL_take _ e4, by simp; omega, by rw [e5, ← List.append_assoc, List.take_append_drop], _, hg, e3⟩
  · cases h

def nuNew (ν : Nu) (n b m : Nat) : Nu := fun k => if k = n then some (b, m) else ν k

theorem grownCap_ge (w : World) (need old : Nat) (e : TypeId) : need ≤ grownCap w need old e := by
  simp only [grownCap, Question.cut]
  omega

theorem set2_get {σ : St} {n m : Nat} (B C : Option SBlk) (h : nameOk n = true) (k : nameOk m = true) : (fun j => ((σ.set n B).set m C).hp.get j) = Hp.set (Hp.set (fun j => σ.hp.get j) n B) m C := by
  rw [set_get C k, set_get B h]

theorem append_room_R {ρ : Rho} {ν : Nu} {n b m L z : Nat} (e : ν n = some (b, m)) (c : Nat) (hc : L ≤ c) (hm : c * z ≤ m) :
    (SV.sl n (.lit 0) (.lit (Int.ofNat L)) (.room z)).R ρ ν (.slice (some ⟨b, 0, none⟩) L c) := by
  simp only [SV.R]
  exact ⟨b, m, 0, L, c, e, rfl, rfl, hc, by simpa using hm, rfl⟩

/-- the growing append, as the engine has it -/
theorem grow_goes {ρ : Rho} {ν : Nu} {h : Hp} {nx : Nat} {w : World} (s : Sim ρ ν h nx w) {news : List SV} {vs : List Value} (hn : RL ρ ν news vs) (zc : Array Value) (e : TypeId) (extra : Nat) (hh : h nx = none) :
    Goes nx ρ ν h nx w (fun m => if m = nx then some (w.heap.size, (vs.toArray ++ Builtin.zeroCells zc extra).size) else ν m) (h.set nx (some (.cells news))) (nx + 1) (w.drew.alloc (.cells (vs.toArray ++ Builtin.zeroCells zc extra) e)) := by
  have hd := Goes.drew (lo := nx) s
  have ha := Goes.alloc (nx' := nx + 1) hd.sim nx (.cells news) (vs.toArray ++ Builtin.zeroCells zc extra) e ⟨vs, (Builtin.zeroCells zc extra).toList, hn, by simp⟩ (s.fresh nx (Nat.le_refl _)) hh (by omega) (by omega) (Nat.le_refl nx)
  exact hd.trans ha

theorem Sim.none_of_fresh {ρ : Rho} {ν : Nu} {h : Hp} {nx : Nat} {w : World} (s : Sim ρ ν h nx w) : h nx = none := by
  cases hx : h nx with
  | none => rfl
  | some B =>
    obtain ⟨b, c, ty, e1, _⟩ := s.blk nx B hx
    rw [s.fresh nx (Nat.le_refl _)] at e1
    cases e1

theorem opAppend_sound {P : Program} {ρ : Rho} {t ty : TypeId} {s x r : SV} {σ σ' : St} (h : opAppend P t s x σ = some (r, σ')) :
    (pcok ρ σ'.pc → pcok ρ σ.pc) ∧ (pcok ρ σ'.pc → ∀ {ν : Nu} {w : World} {u v : Value}, SimW ρ ν σ w → s.R ρ ν u → x.R ρ ν v →
      ∃ ν' w' y, (Builtin.append_ #[t, t] ty #[u, v]).run P w = .ok y w' ∧ GoesW ρ ν σ w ν' σ' w' ∧ r.R ρ ν' y) := by
  unfold opAppend at h
  split at h
  · rename_i e hu
    split at h
    · rename_i z y hz
      obtain ⟨i, zv, hi, hzv, rfl, hby, hzs⟩ := zeroSz_eq hz
      split at h
      · -- nothing is appended
        rename_i hem
        split at h
        · simp only [Option.some.injEq, Prod.mk.injEq] at h
          obtain ⟨rfl, rfl⟩ := h
          refine ⟨id, fun _ ν w u v hs hu' hx => ⟨ν, w, u, ?_, Goes.refl hs, hu'⟩⟩
          obtain ⟨a2, c2, rfl⟩ := emptyS_slice hem hx
          simp only [SV.R] at hu'
          subst hu'
          exact run_append_none hu hi none 0 0 (Nat.le_refl _) _ _ w
        · simp only [Option.some.injEq, Prod.mk.injEq] at h
          obtain ⟨rfl, rfl⟩ := h
          refine ⟨id, fun _ ν w u v hs hu' hx => ⟨ν, w, u, ?_, Goes.refl hs, hu'⟩⟩
          obtain ⟨a2, c2, rfl⟩ := emptyS_slice hem hx
          simp only [SV.R] at hu'
          obtain ⟨b, m, o, l, c, n1, n2, n3, n4, n5, rfl⟩ := hu'
          exact run_append_none hu hi _ l c n4 _ _ w
        · simp only [Option.some.injEq, Prod.mk.injEq] at h
          obtain ⟨rfl, rfl⟩ := h
          refine ⟨id, fun _ ν w u v hs hu' hx => ⟨ν, w, u, ?_, Goes.refl hs, hu'⟩⟩
          obtain ⟨a2, c2, rfl⟩ := emptyS_slice hem hx
          simp only [SV.R] at hu'
          obtain ⟨a, c, rfl⟩ := hu'
          exact run_append_none hu hi _ 0 c (Nat.zero_le _) _ _ w
        · cases h
      · split at h
        · rename_i k news σ1 hr
          cases hb : (news.all oneS && (Nat.ble (k + 1) 1000000 && nameOk σ.nx)) <;> simp only [hb, cond_true, cond_false] at h
          · cases h
          · simp only [Bool.and_eq_true] at hb
            have hk6 : k + 1 ≤ 1000000 := Nat.le_of_ble_eq_true hb.2.1
            obtain ⟨a1, b1⟩ := rdAll_sound (ρ := ρ) hr
            have e1 : (fun j => σ1.hp.get j) = fun j => σ.hp.get j := by rw [a1.hp]
            split at h
            · -- onto nil
              simp only [Option.some.injEq, Prod.mk.injEq] at h
              obtain ⟨rfl, rfl⟩ := h
              refine ⟨fun hk => a1.pc hk, fun hk ν w u v hs hu' hx => ?_⟩
              obtain ⟨a, c, vs, rfl, q1, q2, q3⟩ := b1 hk hs hx
              simp only [SV.R] at hu'
              subst hu'
              have hrun := run_append_nil (P := P) w t ty e i zv hu hi hzv a (k + 1) c vs q2 q3 (by omega) (by omega) (by
                have : (k + 1) * i.bytes ≤ 1000000 * 4096 := Nat.mul_le_mul hk6 hby
                omega)
              refine ⟨nuNew ν σ.nx w.heap.size (vs.toArray ++ Builtin.zeroCells zv.cells (grownCap w (k + 1) 0 e - (k + 1))).size, _, _, hrun, ?_, ?_⟩
              · unfold GoesW
                show Goes _ ρ ν _ _ w _ (fun n => (σ1.set σ.nx (some (.cells news))).hp.get n) (σ.nx + 1) _
                rw [set_get _ hb.2.2, e1]
                exact grow_goes hs q1 zv.cells e _ hs.none_of_fresh
              · refine append_room_R (b := w.heap.size) (m := (vs.toArray ++ Builtin.zeroCells zv.cells (grownCap w (k + 1) 0 e - (k + 1))).size) (by simp [nuNew]) _ (grownCap_ge _ _ _ _) ?_
                have hge := grownCap_ge w (k + 1) 0 e
                simp only [Array.size_append, List.size_toArray, q2, size_zeroCells, hzs]
                rw [← Nat.add_mul]
                exact Nat.mul_le_mul_right _ (by omega)
            · rename_i n off len cap
              split at h
              · rename_i L ho hlen
                cases hb2 : (Nat.ble L 1000000 && nameOk n) <;> simp only [hb2, cond_true, cond_false] at h
                · cases h
                · simp only [Bool.and_eq_true] at hb2
                  have hL6 : L ≤ 1000000 := Nat.le_of_ble_eq_true hb2.1
                  have hoff := isLit0_eq ho
                  subst hoff
                  have hlen' := litOf_eq hlen
                  subst hlen'
                  split at h
                  · rename_i olds hp
                    split at h
                    · -- it must grow
                      rename_i C
                      split at h
                      · rename_i c hC
                        cases hb3 : Nat.ble (L + (k + 1)) c <;> simp only [hb3, cond_true, cond_false] at h
                        · simp only [Option.some.injEq, Prod.mk.injEq] at h
                          obtain ⟨rfl, rfl⟩ := h
                          have hlt : c < L + (k + 1) := by
                            rcases Nat.lt_or_ge c (L + (k + 1)) with g | g
                            · exact g
                            · rw [Nat.ble_eq_true_of_le g] at hb3; cases hb3
                          refine ⟨fun hk => a1.pc hk, fun hk ν w u v hs hu' hx => ?_⟩
                          obtain ⟨a, c', vs, rfl, q1, q2, q3⟩ := b1 hk hs hx
                          simp only [SV.R] at hu'
                          obtain ⟨b, m, o, l, c2, n1, n2, n3, n4, n5, rfl⟩ := hu'
                          simp only [Tm.ev, Int.ofNat_eq_natCast] at n2 n3
                          have : o = 0 := by omega
                          subst this
                          have : L = l := by omega
                          subst this
                          rw [litOf_eq hC] at n5
                          simp only [Tm.ev, Int.ofNat_eq_natCast] at n5
                          have : c = c2 := by omega
                          subst this
                          obtain ⟨b', cc, ty', os, rest, m1, m2, m3, m4, m5, _⟩ := rdPre_sound hp hs
                          rw [n1] at m1
                          cases m1
                          have hrun := run_append_grow (P := P) w t ty e i zv hu hi hzv ⟨b, 0, none⟩ L c os m4 (fun j v hv => by
                              rw [Addr.add_lit, cell_at m2, ← Array.getElem?_toList, m5, Nat.zero_add]
                              rw [List.getElem?_append_left ((List.getElem?_eq_some_iff.1 hv).1)]; exact hv) a (k + 1) c' vs q2 q3 hlt (by omega)
                            (growslice_fits hlt (by
                              have : (L + (k + 1)) * i.bytes ≤ 2000000 * 4096 := Nat.mul_le_mul (by omega) hby
                              omega))
                          have harr : os.toArray ++ vs.toArray = (os ++ vs).toArray := by simp
                          rw [harr] at hrun
                          refine ⟨nuNew ν σ.nx w.heap.size ((os ++ vs).toArray ++ Builtin.zeroCells zv.cells (grownCap w (L + (k + 1)) c e - (L + (k + 1)))).size, _, _, hrun, ?_, ?_⟩
                          · unfold GoesW
                            show Goes _ ρ ν _ _ w _ (fun n => (σ1.set σ.nx (some (.cells (olds ++ news)))).hp.get n) (σ.nx + 1) _
                            rw [set_get _ hb.2.2, e1]
                            exact grow_goes hs (RL_append m3 q1) zv.cells e _ hs.none_of_fresh
                          · refine append_room_R (b := w.heap.size) (m := ((os ++ vs).toArray ++ Builtin.zeroCells zv.cells (grownCap w (L + (k + 1)) c e - (L + (k + 1)))).size) (by simp [nuNew]) _ (grownCap_ge _ _ _ _) ?_
                            have hge := grownCap_ge w (L + (k + 1)) c e
                            simp only [Array.size_append, List.size_toArray, List.length_append, q2, m4, size_zeroCells, hzs]
                            rw [← Nat.add_mul, ← Nat.add_mul]
                            exact Nat.mul_le_mul_right _ (by omega)
                        · cases h
                      · cases h
                    · -- it may grow, or not
                      rename_i r'
                      cases hb3 : Nat.beq r' i.size <;> simp only [hb3, cond_true, cond_false] at h
                      · cases h
                      · simp only [Option.some.injEq, Prod.mk.injEq] at h
                        obtain ⟨rfl, rfl⟩ := h
                        have := Nat.eq_of_beq_eq_true hb3
                        subst this
                        refine ⟨fun hk => a1.pc hk, fun hk ν w u v hs hu' hx => ?_⟩
                        obtain ⟨a, c', vs, rfl, q1, q2, q3⟩ := b1 hk hs hx
                        simp only [SV.R] at hu'
                        obtain ⟨b, m, o, l, c2, n1, n2, n3, n4, n5, rfl⟩ := hu'
                        simp only [Tm.ev, Int.ofNat_eq_natCast] at n2 n3
                        have : o = 0 := by omega
                        subst this
                        have : L = l := by omega
                        subst this
                        obtain ⟨b', cc, ty', os, rest, m1, m2, m3, m4, m5, B, m6, m7⟩ := rdPre_sound hp hs
                        rw [n1] at m1
                        cases m1
                        have hcc : cc.size = os.length + rest.length := by rw [← Array.length_toList, m5]; simp
                        have hnn : n ≠ σ.nx := fun e => by
                          subst e
                          have hf := hs.fresh σ.nx (Nat.le_refl _)
                          rw [n1] at hf
                          cases hf
                        by_cases hroom : L + (k + 1) ≤ c2
                        · -- in place
                          have hmul : (L + (k + 1)) * i.size ≤ c2 * i.size := Nat.mul_le_mul_right _ hroom
                          rw [Nat.add_mul] at hmul
                          have q2' : vs.length = (k + 1) * i.size := q2
                          have hfit : L * i.size + vs.length ≤ cc.size := by omega
                          have hones := RL_ones q1 hb.1
                          have ha' : ∀ j u, vs[j]? = some u → w.cell? (a.add j) = some u := q3
                          have hty : w.heap[b]? = some (.cells cc ty' (0, 0)) := m2
                          have hst := run_storeCells_at P b (L * i.size) ty' vs 0 cc w hty (by simpa using hfit) hones
                          simp only [Nat.add_zero] at hst
                          have hf := run_firstCells_some (P := P) w i.size (k + 1) a (k + 1) c' vs q2 ha'
                          have hrun : (Builtin.append_ #[t, t] ty #[.slice (some ⟨b, 0, none⟩) L c2, .slice (some a) (k + 1) c']).run P w =
                              .ok (.slice (some ⟨b, 0, none⟩) (L + (k + 1)) c2) (w.setRow b (cc.toList.take (L * i.size) ++ vs ++ cc.toList.drop (L * i.size + vs.length)).toArray) := by
                            simp [Builtin.append_, run_underlying hu, sizeOf, typeInfo, hi, Builtin.lenOf, hroom, hf, Addr.add_lit, hst]
                          have hsz : (cc.toList.take (L * i.size) ++ vs ++ cc.toList.drop (L * i.size + vs.length)).toArray.size = cc.size := by simp; omega
                          have hR : (SBlk.cells (olds ++ news)).R ρ ν (cc.toList.take (L * i.size) ++ vs ++ cc.toList.drop (L * i.size + vs.length)).toArray := by
                            refine ⟨os ++ vs, cc.toList.drop (L * i.size + vs.length), RL_append m3 q1, ?_⟩
                            rw [m5, List.take_append_of_le_length (by omega), List.take_of_length_le (by omega)]
                          have g1 := Goes.write (lo := σ.nx) (ρ := ρ) hs n B _ b cc _ ty' m6 n1 m2 hsz hR
                          have g2 := Goes.rename (lo := σ.nx) (nx' := σ.nx + 1) g1.sim n σ.nx (.cells (olds ++ news)) b cc.size (by simp [Hp.set]) n1 (hs.fresh _ (Nat.le_refl _)) (by omega) (by omega) (Nat.le_refl σ.nx)
                          refine ⟨nuNew ν σ.nx b cc.size, _, _, hrun, ?_, ?_⟩
                          · unfold GoesW
                            show Goes _ ρ ν _ _ w _ (fun j => ((σ1.set n none).set σ.nx (some (.cells (olds ++ news)))).hp.get j) (σ.nx + 1) _
                            rw [set2_get _ _ hb2.2 hb.2.2, e1]
                            have e2 : Hp.set (Hp.set (fun j => σ.hp.get j) n none) σ.nx (some (.cells (olds ++ news))) =
                                ((Hp.set (Hp.set (fun j => σ.hp.get j) n (some (.cells (olds ++ news)))) n none).set σ.nx (some (.cells (olds ++ news)))) := by
                              funext j
                              simp only [Hp.set]
                              split
                              · rfl
                              · split
                                · rfl
                                · rfl
                            rw [e2]
                            exact g1.trans g2
                          · exact append_room_R (b := b) (m := cc.size) (by simp [nuNew]) c2 hroom (by simpa using n5)
                        · -- it grows
                          have hlt : c2 < L + (k + 1) := by omega
                          have hrun := run_append_grow (P := P) w t ty e i zv hu hi hzv ⟨b, 0, none⟩ L c2 os m4 (fun j v hv => by
                              rw [Addr.add_lit, cell_at m2, ← Array.getElem?_toList, m5, Nat.zero_add]
                              rw [List.getElem?_append_left ((List.getElem?_eq_some_iff.1 hv).1)]; exact hv) a (k + 1) c' vs q2 q3 hlt (by omega)
                            (growslice_fits hlt (by
                              have : (L + (k + 1)) * i.bytes ≤ 2000000 * 4096 := Nat.mul_le_mul (by omega) hby
                              omega))
                          have harr : os.toArray ++ vs.toArray = (os ++ vs).toArray := by simp
                          rw [harr] at hrun
                          have g0 := Goes.forget (lo := σ.nx) (h' := Hp.set (fun j => σ.hp.get j) n none) hs (fun j B hj => by
                            simp only [Hp.set] at hj
                            split at hj
                            · cases hj
                            · exact hj)
                          refine ⟨nuNew ν σ.nx w.heap.size ((os ++ vs).toArray ++ Builtin.zeroCells zv.cells (grownCap w (L + (k + 1)) c2 e - (L + (k + 1)))).size, _, _, hrun, ?_, ?_⟩
                          · unfold GoesW
                            show Goes _ ρ ν _ _ w _ (fun j => ((σ1.set n none).set σ.nx (some (.cells (olds ++ news)))).hp.get j) (σ.nx + 1) _
                            rw [set2_get _ _ hb2.2 hb.2.2, e1]
                            exact g0.trans (grow_goes g0.sim (RL_append m3 q1) zv.cells e _ g0.sim.none_of_fresh)
                          · refine append_room_R (b := w.heap.size) (m := ((os ++ vs).toArray ++ Builtin.zeroCells zv.cells (grownCap w (L + (k + 1)) c2 e - (L + (k + 1)))).size) (by simp [nuNew]) _ (grownCap_ge _ _ _ _) ?_
                            have hge := grownCap_ge w (L + (k + 1)) c2 e
                            simp only [Array.size_append, List.size_toArray, List.length_append, q2, m4, size_zeroCells, hzs]
                            rw [← Nat.add_mul, ← Nat.add_mul]
                            exact Nat.mul_le_mul_right _ (by omega)
                  · cases h
              · cases h
            · cases h
        · cases h
    · cases h
  · cases h

/-! a copy -/
def opCopy (P : Program) (t : TypeId) (s x : SV) (σ : St) : Option (SV × St) :=
  match P.underlying t with
  | some (.slice e) => match tySize P e with
    | some z => match s, x with
      | .sl n off len _, .sl m off2 len2 _ => match litOf len, litOf len2 with
        | some (.ofNat dl), some (.ofNat k) => match rdCells σ m off2 (Nat.min k dl * z) with
          | some (l, σ1) => bif nameOk n then
              match σ1.hp.get n with
              | some B => match wrBlk B off l σ1 with
                | some (B', σ2) => some (.int .i64 (.lit (Int.ofNat (Nat.min k dl))), σ2.set n (some B'))
                | none => none
              | none => none
            else none
          | none => none
        | _, _ => none
      | _, _ => none
    | none => none
  | _ => none
theorem opCopy_sound {P : Program} {ρ : Rho} {t ty : TypeId} {s x r : SV} {σ σ' : St} (h : opCopy P t s x σ = some (r, σ')) :
    (pcok ρ σ'.pc → pcok ρ σ.pc) ∧ (pcok ρ σ'.pc → ∀ {ν : Nu} {w : World} {u v : Value}, SimW ρ ν σ w → s.R ρ ν u → x.R ρ ν v →
      ∃ ν' w' y, (Builtin.copy_ #[t, t] ty #[u, v]).run P w = .ok y w' ∧ GoesW ρ ν σ w ν' σ' w' ∧ r.R ρ ν' y) := by
  unfold opCopy at h
  split at h
  · rename_i e hu
    split at h
    · rename_i z hz
      split at h
      · rename_i n off len cap m off2 len2 cap2
        split at h
        · rename_i dl k hdl hk2
          split at h
          · rename_i l σ1 hrd
            cases hn : nameOk n <;> simp only [hn, cond_true, cond_false] at h
            · cases h
            · split at h
              · rename_i B hB
                split at h
                · rename_i B' σ2 hw
                  simp only [Option.some.injEq, Prod.mk.injEq] at h
                  obtain ⟨rfl, rfl⟩ := h
                  obtain ⟨a1, b1⟩ := rdCells_sound (ρ := ρ) hrd
                  have a2 := wrBlk_asks (ρ := ρ) hw
                  have ha := a1.trans a2
                  refine ⟨fun hk => ha.pc hk, fun hk ν w u v hs hx hv => ?_⟩
                  simp only [SV.R] at hx hv
                  obtain ⟨b, q, o, L, c0, n1, n2, n3, n4, n5, rfl⟩ := hx
                  obtain ⟨b2, q2, o2, L2, c2, m1, m2, m3, m4, m5, rfl⟩ := hv
                  rw [litOf_eq hdl] at n3
                  rw [litOf_eq hk2] at m3
                  simp only [Tm.ev, Int.ofNat_eq_natCast] at n3 m3
                  have e1 : L = dl := by omega
                  have e2 : L2 = k := by omega
                  subst e1 e2
                  obtain ⟨vs, r1, r2, r3⟩ := b1 (a2.pc hk) hs m1 m2
                  have hB' : σ.hp.get n = some B := by rw [← a1.hp]; exact hB
                  obtain ⟨b', c, ty', f1, f2, f3⟩ := hs.blk n B hB'
                  rw [n1] at f1
                  cases f1
                  obtain ⟨k1, k2, k3⟩ := wrBlk_sound hw hk f3 n2 r1
                  have hld := run_loadCells_list (P := P) w ⟨b2, o2, none⟩ vs (fun j v hv => by rw [Addr.add_lit]; exact r3 j v hv)
                  rw [r2] at hld
                  have hst := run_storeCells_at P b o ty' vs 0 c w f2 (by simpa using k2) k1
                  simp only [Nat.add_zero] at hst
                  refine ⟨ν, w.setRow b (c.toList.take o ++ vs ++ c.toList.drop (o + vs.length)).toArray, goInt (Nat.min L2 L), ?_, ?_, rfl⟩
                  · simp [Builtin.copy_, run_underlying hu, Builtin.lenOf, run_sizeOf hz, Builtin.firstCells, hld, hst]
                  · unfold GoesW
                    rw [set_get _ hn]
                    have hg := Goes.write (lo := σ.nx) (ρ := ρ) hs n B B' b c _ ty' hB' n1 f2 (by simp at k2 ⊢; omega) k3
                    rw [show (fun n => σ2.hp.get n) = fun n => σ.hp.get n by rw [ha.hp]]
                    show Goes _ ρ ν _ _ w ν _ σ2.nx _
                    rw [ha.nx]
                    exact hg
                · cases h
              · cases h
          · cases h
        · cases h
      · cases h
    · cases h
  · cases h
end Go.Eng
/- The engine's operations, one after the other. -/
namespace Go.Eng

/-- what a table of calls tells, it tells rightly -/
def CallOK (P : Program) (ρ : Rho) (rec : FuncId → List SV → St → Option (SV × St)) : Prop :=
  ∀ g l σ r σ', rec g l σ = some (r, σ') → (pcok ρ σ'.pc → pcok ρ σ.pc) ∧ (pcok ρ σ'.pc → ∀ {ν : Nu} {w : World} {vs : List Value}, SimW ρ ν σ w → RL ρ ν l vs →
    Calls P g vs.toArray w fun e w' => ∃ ν' v, e = .returned v ∧ GoesW ρ ν σ w ν' σ' w' ∧ r.R ρ ν' v)

def recvArgs (P : Program) (name : String) : List SV → Option (FuncId × List SV)
  | .iface t v :: rest => match methOf P t name with
    | some f => some (f, v :: rest)
    | none => none
  | _ => none
def callee (P : Program) (tm : Nat → Option SV) (c : Call) : Option (FuncId × List SV) :=
  match c.callee with
  | .value f => match opnd tm f, opnds tm c.args.toList with
    | some (.fn (.func g) first caps), some l => some (g, (first ++ l) ++ caps)
    | some (.fn (.method name) first _), some l => recvArgs P name (first ++ l)
    | _, _ => none
  | .invoke r name => match opnd tm r, opnds tm c.args.toList with
    | some s, some l => recvArgs P name (s :: l)
    | _, _ => none
  | .builtin _ => none
def callable (P : Program) (g : FuncId) : Bool := match P.funcs[g]? with | some fn => fn.body.isSome | none => false
def Plainly (P : Program) : Prop := ∀ (g : Nat) fn, P.funcs[g]? = some fn → (fn.name == "runtime.NumGoroutine") = false
theorem run_callFunc_body {P : Program} (hP : Plainly P) {g : FuncId} (h : callable P g = true) (args : Array Value) (w : World) : (callFunc g args).run P w = .ok (.enter g args) w := by
  unfold callable at h
  cases hf : P.funcs[g]? with
  | none => simp [hf] at h
  | some fn =>
    simp only [hf] at h
    have hn : fn.name ≠ "runtime.NumGoroutine" := by simpa using hP g fn hf
    have hb : fn.body ≠ none := by intro e; rw [e] at h; simp at h
    simp [callFunc, hf, hn, hb]
theorem run_invoke_method {P : Program} (name : String) (cap : Array Value) (recv : Value) (rest : List Value) (w : World) :
    (invoke (.fn (.method name) cap) (recv :: rest).toArray).run P w = (callMethod recv name rest.toArray).run P w := by
  simp [invoke]
theorem recvArgs_sound {P : Program} (hP : Plainly P) {ρ : Rho} {ν : Nu} {name : String} {ss l : List SV} {g : FuncId} {xs : List Value} (h : recvArgs P name ss = some (g, l)) (hc : callable P g = true) (hs : RL ρ ν ss xs) :
    ∃ vs, RL ρ ν l vs ∧ ∃ recv rest, xs = recv :: rest ∧ ∀ w, (callMethod recv name rest.toArray).run P w = .ok (.enter g vs.toArray) w := by
  unfold recvArgs at h
  split at h
  · rename_i t v rest
    split at h
    · rename_i f hm
      simp only [Option.some.injEq, Prod.mk.injEq] at h
      obtain ⟨rfl, rfl⟩ := h
      simp only [RL] at hs
      obtain ⟨u, us, rfl, h1, h2⟩ := hs
      simp only [SV.R] at h1
      obtain ⟨y, rfl, h3⟩ := h1
      refine ⟨y :: us, by simp only [RL]; exact ⟨y, us, rfl, h3, h2⟩, _, _, rfl, fun w => ?_⟩
      have hmm := methOf_method hm (P.types.size + 99) y w
      rw [← types_depth P] at hmm
      simp [callMethod, hmm, run_callFunc_body hP hc]
    · cases h
  · cases h
theorem callee_sound {P : Program} (hP : Plainly P) {ρ : Rho} {ν : Nu} {tm : Nat → Option SV} {a : Act} {o : Oper} {c : Call} {g : FuncId} {l : List SV} (ho : o.op = .call c) (hT : TmR ρ ν tm a.tmps)
    (h : callee P tm c = some (g, l)) (hc : callable P g = true) : ∃ vs, RL ρ ν l vs ∧ ∀ w, (execOp a.eval o).run P w = .ok (.enter g vs.toArray) w := by
  obtain ⟨cal, args, tys⟩ := c
  unfold callee at h
  cases cal with
  | builtin b => simp at h
  | invoke r name =>
    simp only at h
    split at h
    · rename_i s l' h1 h2
      have e1 := opnd_R hT h1
      have e2 := opnds_R hT h2
      obtain ⟨vs, k1, recv, rest, k2, k3⟩ := recvArgs_sound (xs := a.eval r :: args.toList.map a.eval) hP h hc (by simp only [RL]; exact ⟨_, _, rfl, e1, e2⟩)
      simp only [List.cons.injEq] at k2
      obtain ⟨k2, k4⟩ := k2
      refine ⟨vs, k1, fun w => ?_⟩
      have hr : #[a.eval r] ++ args.map a.eval = (recv :: rest).toArray := by rw [← k4, ← k2]; apply Array.ext'; simp
      have := run_invoke_method (P := P) name #[] recv rest w
      rw [k3 w] at this
      simp only [execOp, ho, resolve, Sem.run_bind, Sem.run_pure, Result.andThen_ok, hr]
      exact this
    · cases h
  | value f =>
    simp only at h
    split at h
    · rename_i g' first caps l' h1 h2
      simp only [Option.some.injEq, Prod.mk.injEq] at h
      obtain ⟨rfl, rfl⟩ := h
      have e1 := opnd_R hT h1
      have e2 := opnds_R hT h2
      simp only [SV.R] at e1
      obtain ⟨as, cs, hv, k1, k2⟩ := e1
      refine ⟨(as.toList ++ args.toList.map a.eval) ++ cs.toList, RL_append (RL_append k1 e2) k2, fun w => ?_⟩
      have harr : ((as.toList ++ args.toList.map a.eval) ++ cs.toList).toArray = (as ++ args.map a.eval) ++ cs := by apply Array.ext'; simp
      rw [harr]
      simp [execOp, ho, resolve, hv, Deferred.ofValue, invoke, run_callFunc_body hP hc]
    · rename_i name first caps l' h1 h2
      have e1 := opnd_R hT h1
      have e2 := opnds_R hT h2
      simp only [SV.R] at e1
      obtain ⟨as, cs, hv, k1, k2⟩ := e1
      obtain ⟨vs, q1, recv, rest, q2, q3⟩ := recvArgs_sound (xs := as.toList ++ args.toList.map a.eval) hP h hc (RL_append k1 e2)
      refine ⟨vs, q1, fun w => ?_⟩
      have harr : as ++ args.map a.eval = (recv :: rest).toArray := by rw [← q2]; apply Array.ext'; simp
      have := run_invoke_method (P := P) name cs recv rest w
      rw [q3 w] at this
      simp only [execOp, ho, resolve, hv, Deferred.ofValue, Sem.run_bind, Sem.run_pure, Result.andThen_ok, harr]
      exact this
    · cases h

def opWr (P : Program) (rec : FuncId → List SV → St → Option (SV × St)) (tm : Nat → Option SV) (o : Oper) (σ : St) : Option (SV × St) :=
  match o.op with
  | .store t x v => match opnd tm x, opnd tm v with
    | some s, some r => match opStore P t s r σ with
      | some σ' => some (undefS, σ')
      | none => none
    | _, _ => none
  | .call ⟨.builtin .append, args, tys⟩ => match args.toList, tys.toList with
    | [x, y], [t, u] => match opnd tm x, opnd tm y with
      | some s, some r => bif Nat.beq t u then opAppend P t s r σ else none
      | _, _ => none
    | _, _ => none
  | .call ⟨.builtin .copy, args, tys⟩ => match args.toList, tys.toList with
    | [x, y], [t, u] => match opnd tm x, opnd tm y with
      | some s, some r => bif Nat.beq t u then opCopy P t s r σ else none
      | _, _ => none
    | _, _ => none
  | .call c => match callee P tm c with
    | some (g, l) => bif callable P g then rec g l σ else none
    | none => none
  | _ => none

theorem opWr_sound {P : Program} (hP : Plainly P) {ρ : Rho} {rec : FuncId → List SV → St → Option (SV × St)} (hrec : CallOK P ρ rec) {tm : Nat → Option SV} {o : Oper} {σ σ' : St} {r : SV} (h : opWr P rec tm o σ = some (r, σ')) :
    (pcok ρ σ'.pc → pcok ρ σ.pc) ∧ (pcok ρ σ'.pc → ∀ {ν : Nu} {w : World} {a : Act} {K : Act → World → Prop} {Q : Exit → Act → World → Prop}, SimW ρ ν σ w → TmR ρ ν tm a.tmps →
      (∀ ν' w' v, GoesW ρ ν σ w ν' σ' w' → r.R ρ ν' v → K (a.put o.dst v) w') → o.wp P a w K Q) := by
  have hcall : ∀ c, o.op = .call c → (match callee P tm c with
    | some (g, l) => bif callable P g then rec g l σ else none
    | none => none) = some (r, σ') → (pcok ρ σ'.pc → pcok ρ σ.pc) ∧ (pcok ρ σ'.pc → ∀ {ν : Nu} {w : World} {a : Act} {K : Act → World → Prop} {Q : Exit → Act → World → Prop}, SimW ρ ν σ w → TmR ρ ν tm a.tmps →
      (∀ ν' w' v, GoesW ρ ν σ w ν' σ' w' → r.R ρ ν' v → K (a.put o.dst v) w') → o.wp P a w K Q) := fun c ho h => by
    split at h
    · rename_i g l hce
      cases hcb : callable P g <;> simp only [hcb, cond_true, cond_false] at h
      · cases h
      · obtain ⟨h1, h2⟩ := hrec g l σ r σ' h
        refine ⟨h1, fun hk ν w a K Q hs hT hK => ?_⟩
        obtain ⟨vs, k1, k2⟩ := callee_sound hP ho hT hce hcb
        unfold Oper.wp
        rw [k2 w, Oper.upon_enter]
        refine (h2 hk hs k1).mono fun e w' he => ?_
        obtain ⟨ν', v, rfl, hg, hr⟩ := he
        exact hK ν' w' v hg hr
    · cases h
  unfold opWr at h
  split at h
  · rename_i t x v ho
    split at h
    · rename_i s q h1 h2
      split at h
      · rename_i σ1 hst
        simp only [Option.some.injEq, Prod.mk.injEq] at h
        obtain ⟨rfl, rfl⟩ := h
        obtain ⟨k1, k2⟩ := opStore_sound (ρ := ρ) hst
        refine ⟨k1, fun hk ν w a K Q hs hT hK => ?_⟩
        obtain ⟨w', q1, q2⟩ := k2 hk hs (opnd_R hT h1) (opnd_R hT h2)
        unfold Oper.wp execOp
        simp only [ho, Sem.run_bind, q1, Result.andThen_ok, Sem.run_pure]
        rw [Oper.upon_skip]
        exact hK ν w' undef q2 (undefS_R ρ ν)
      · cases h
    · cases h
  · rename_i args tys ho
    split at h
    · rename_i x y t u e1 e2
      split at h
      · rename_i s q h1 h2
        cases hb : Nat.beq t u <;> simp only [hb, cond_true, cond_false] at h
        · cases h
        · have := Nat.eq_of_beq_eq_true hb
          subst this
          obtain ⟨k1, k2⟩ := opAppend_sound (ρ := ρ) (ty := o.type) h
          refine ⟨k1, fun hk ν w a K Q hs hT hK => ?_⟩
          obtain ⟨ν', w', z, q1, q2, q3⟩ := k2 hk hs (opnd_R hT h1) (opnd_R hT h2)
          have ea : args = #[x, y] := by apply Array.ext'; simpa using e1
          have et : tys = #[t, t] := by apply Array.ext'; simpa using e2
          subst ea et
          unfold Oper.wp
          have hr : (execOp a.eval o).run P w = .ok (.value z) w' := by simp [execOp, ho, resolve, invoke, builtin, q1]
          rw [hr, Oper.upon_value]
          exact hK ν' w' z q2 q3
      · cases h
    · cases h
  · rename_i args tys ho
    split at h
    · rename_i x y t u e1 e2
      split at h
      · rename_i s q h1 h2
        cases hb : Nat.beq t u <;> simp only [hb, cond_true, cond_false] at h
        · cases h
        · have := Nat.eq_of_beq_eq_true hb
          subst this
          obtain ⟨k1, k2⟩ := opCopy_sound (ρ := ρ) (ty := o.type) h
          refine ⟨k1, fun hk ν w a K Q hs hT hK => ?_⟩
          obtain ⟨ν', w', z, q1, q2, q3⟩ := k2 hk hs (opnd_R hT h1) (opnd_R hT h2)
          have ea : args = #[x, y] := by apply Array.ext'; simpa using e1
          have et : tys = #[t, t] := by apply Array.ext'; simpa using e2
          subst ea et
          unfold Oper.wp
          have hr : (execOp a.eval o).run P w = .ok (.value z) w' := by simp [execOp, ho, resolve, invoke, builtin, q1]
          rw [hr, Oper.upon_value]
          exact hK ν' w' z q2 q3
      · cases h
    · cases h
  · rename_i c _ _ ho
    exact hcall c ho h
  · cases h

inductive Cls where
  | pure
  | load
  | new
  | wr
def cls (o : Oper) : Cls :=
  match o.op with
  | .load _ _ => .load
  | .alloc _ => .new
  | .box _ _ => .new
  | .buildSlice _ _ _ => .new
  | .makeSlice _ _ _ => .new
  | .store _ _ _ => .wr
  | .call ⟨.builtin .len, _, _⟩ => .pure
  | .call ⟨.builtin .max, _, _⟩ => .pure
  | .call ⟨.builtin .complex, _, _⟩ => .pure
  | .call ⟨.builtin .real, _, _⟩ => .pure
  | .call ⟨.builtin .imag, _, _⟩ => .pure
  | .call ⟨.builtin .min, _, _⟩ => .pure
  | .call _ => .wr
  | _ => .pure

/-- a load, as an operation -/
def opRd (P : Program) (tm : Nat → Option SV) (o : Oper) (σ : St) : Option (SV × St) :=
  match o.op with
  | .load t x => match opnd tm x with
    | some s => opLoad P t s σ
    | none => none
  | _ => none
theorem opRd_sound {P : Program} {ρ : Rho} {tm : Nat → Option SV} {o : Oper} {σ σ' : St} {s : SV} (h : opRd P tm o σ = some (s, σ')) :
    Asks ρ σ σ' ∧ (pcok ρ σ'.pc → ∀ {ν : Nu} {w : World} {a : Act}, SimW ρ ν σ w → TmR ρ ν tm a.tmps → ∃ v, s.R ρ ν v ∧ (execOp a.eval o).run P w = .ok (.value v) w) := by
  unfold opRd at h
  split at h
  · rename_i t x ho
    split at h
    · rename_i s' hx
      obtain ⟨a1, b1⟩ := opLoad_sound (ρ := ρ) h
      refine ⟨a1, fun hk ν w a hs hT => ?_⟩
      obtain ⟨v, e1, e2⟩ := b1 hk hs (opnd_R hT hx)
      exact ⟨v, e1, by simp [execOp, ho, e2]⟩
    · cases h
  · cases h

/-- one operation, that is wanted -/
def stepRun (P : Program) (rec : FuncId → List SV → St → Option (SV × St)) (tm : Nat → Option SV) (o : Oper) (σ : St) : Option (SV × St) :=
  match cls o with
  | .pure => opPure P tm o σ
  | .load => opRd P tm o σ
  | .new => match opNew P tm o σ with
    | some (v, B, σ1) => bif nameOk σ1.nx then some (v.at σ1.nx, { σ1.set σ1.nx (some B) with nx := σ1.nx + 1 }) else none
    | none => none
  | .wr => opWr P rec tm o σ

theorem opPure_asks {P : Program} {ρ : Rho} {tm : Nat → Option SV} {o : Oper} {σ σ' : St} {s : SV} (h : opPure P tm o σ = some (s, σ')) : Asks ρ σ σ' := by
  have hsame : ∀ {σ σ' : St} {x : Option SV} {s : SV}, same σ x = some (s, σ') → Asks ρ σ σ' := fun {σ σ' x s} h => by
    cases x with
    | none => simp [same] at h
    | some y => simp only [same, Option.some.injEq, Prod.mk.injEq] at h; obtain ⟨_, rfl⟩ := h; exact Asks.refl _ _
  have hidx : ∀ {t x i}, opIndexAddr P t x i σ = some (s, σ') → Asks ρ σ σ' := fun {t x i} h => by
    unfold opIndexAddr at h
    split at h
    · split at h
      · rename_i h1
        split at h
        · rename_i h2
          simp only [Option.some.injEq, Prod.mk.injEq] at h; obtain ⟨_, rfl⟩ := h
          exact (must_sound h1).1.trans (must_sound h2).1
        · cases h
      · cases h
    · split at h
      · rename_i h1
        split at h
        · rename_i h2
          simp only [Option.some.injEq, Prod.mk.injEq] at h; obtain ⟨_, rfl⟩ := h
          exact (must_sound h1).1.trans (must_sound h2).1
        · cases h
      · cases h
    · cases h
  have hsl : ∀ {t x lo hi}, opSlice P t x lo hi σ = some (s, σ') → Asks ρ σ σ' := fun {t x lo hi} h => by
    unfold opSlice at h
    split at h
    · split at h
      · rename_i L H _ _ _
        split at h
        · rename_i σ1 h1
          split at h
          · rename_i σ2 h2
            split at h
            · rename_i σ3 h3
              have a3 := ((must_sound (ρ := ρ) h1).1.trans (must_sound h2).1).trans (must_sound h3).1
              cases hl : isLit0 L <;> simp only [hl, cond_true, cond_false] at h
              · split at h
                · rename_i h4 _
                  simp only [Option.some.injEq, Prod.mk.injEq] at h; obtain ⟨_, rfl⟩ := h
                  exact a3.trans (ask_sound h4).1
                · rename_i h4
                  simp only [Option.some.injEq, Prod.mk.injEq] at h; obtain ⟨_, rfl⟩ := h
                  exact a3.trans (ask_sound h4).1
                · cases h
              · simp only [Option.some.injEq, Prod.mk.injEq] at h; obtain ⟨_, rfl⟩ := h
                exact a3
            · cases h
          · cases h
        · cases h
      · cases h
    · split at h
      · simp only [Option.some.injEq, Prod.mk.injEq] at h; obtain ⟨_, rfl⟩ := h; exact Asks.refl _ _
      · cases h
    · cases h
  have hmm : ∀ {m x y}, opMinMax m x y σ = some (s, σ') → Asks ρ σ σ' := fun {m x y} h => by
    unfold opMinMax at h
    split at h
    · split at h
      · rename_i h1
        simp only [Option.some.injEq, Prod.mk.injEq] at h; obtain ⟨_, rfl⟩ := h
        exact (ask_sound h1).1
      · cases h
    · cases h
  unfold opPure at h
  split at h
  all_goals try exact hsame h
  · split at h
    · split at h
      · rename_i h1; exact (ask_sound h1).1.trans (hsame h)
      · rename_i h1; exact (ask_sound h1).1.trans (hsame h)
      · cases h
    · cases h
  all_goals try (cases h; done)
  all_goals (split at h)
  all_goals first
    | exact hsame h
    | exact hidx h
    | exact hsl h
    | exact opConvS_asks h
    | (cases h; done)
    | (simp only [Option.some.injEq, Prod.mk.injEq] at h; obtain ⟨_, rfl⟩ := h; exact Asks.refl _ _)
    | (split at h <;> first | exact hsame h | exact hmm h | (cases h; done))

theorem opNew_asks {P : Program} {ρ : Rho} {tm : Nat → Option SV} {o : Oper} {σ σ' : St} {v : NewV} {B : SBlk} (h : opNew P tm o σ = some (v, B, σ')) : Asks ρ σ σ' := (opNew_sound h).1

theorem stepRun_sound {P : Program} (hP : Plainly P) {ρ : Rho} {rec : FuncId → List SV → St → Option (SV × St)} (hrec : CallOK P ρ rec) {tm : Nat → Option SV} {o : Oper} {σ σ' : St} {r : SV} (h : stepRun P rec tm o σ = some (r, σ')) :
    (pcok ρ σ'.pc → pcok ρ σ.pc) ∧ (pcok ρ σ'.pc → ∀ {ν : Nu} {w : World} {a : Act} {K : Act → World → Prop} {Q : Exit → Act → World → Prop}, SimW ρ ν σ w → TmR ρ ν tm a.tmps →
      (∀ ν' w' v, GoesW ρ ν σ w ν' σ' w' → r.R ρ ν' v → K (a.put o.dst v) w') → o.wp P a w K Q) := by
  unfold stepRun at h
  split at h
  · have ha := opPure_asks (ρ := ρ) h
    refine ⟨fun hk => ha.pc hk, fun hk ν w a K Q hs hT hK => ?_⟩
    obtain ⟨v, h1, h2⟩ := (opPure_sound hT h).2 hk
    unfold Oper.wp
    rw [h2 w, Oper.upon_value]
    exact hK ν w v (GoesW.ask hs ha) h1
  · obtain ⟨a1, b1⟩ := opRd_sound (ρ := ρ) h
    refine ⟨fun hk => a1.pc hk, fun hk ν w a K Q hs hT hK => ?_⟩
    obtain ⟨v, h1, h2⟩ := b1 hk hs hT
    unfold Oper.wp
    rw [h2, Oper.upon_value]
    exact hK ν w v (GoesW.ask hs a1) h1
  · split at h
    · rename_i v B σ1 hn
      cases hb : nameOk σ1.nx <;> simp only [hb, cond_true, cond_false] at h
      · cases h
      · simp only [Option.some.injEq, Prod.mk.injEq] at h
        obtain ⟨rfl, rfl⟩ := h
        obtain ⟨a1, b1⟩ := opNew_sound (ρ := ρ) hn
        refine ⟨fun hk => a1.pc hk, fun hk ν w a K Q hs hT hK => ?_⟩
        obtain ⟨c, ty, e1, e2, e3⟩ := b1 hk hT
        have hs1 := hs.ask a1
        unfold Oper.wp
        rw [e2 w, Oper.upon_value]
        have hg := Goes.alloc (lo := σ1.nx) (nx' := σ1.nx + 1) hs1 σ1.nx B c ty e1 (hs1.fresh _ (Nat.le_refl _)) hs1.none_of_fresh (by omega) (by omega) (Nat.le_refl _)
        refine hK (fun m => if m = σ1.nx then some (w.heap.size, c.size) else ν m) _ _ ?_ (e3 _ σ1.nx w.heap.size (by simp))
        unfold GoesW
        show Goes σ.nx ρ ν _ σ.nx w _ (fun n => (σ1.set σ1.nx (some B)).hp.get n) (σ1.nx + 1) _
        rw [set_get _ hb]
        rw [← a1.nx, ← a1.hp]
        exact hg
    · cases h
  · exact opWr_sound hP hrec h
end Go.Eng
/- The engine's operations in a row: guards, slots, a region in the text's order. -/
namespace Go.Eng

theorem GoesW.trans {ρ : Rho} {ν ν' ν'' : Nu} {σ σ' σ'' : St} {w w' w'' : World} (a : GoesW ρ ν σ w ν' σ' w') (b : GoesW ρ ν' σ' w' ν'' σ'' w'') : GoesW ρ ν σ w ν'' σ'' w'' :=
  Goes.trans a (b.low a.nx)

def wantedS (ops : Array Oper) (nt : Nat) (tm : Nat → Option SV) (o : Oper) (σ : St) : Option (Bool × St) :=
  match o.guard with
  | none => some (true, σ)
  | some (j, want) => match (ops[j]?).bind (·.dst) with
    | some d => bif Nat.blt d nt then
        match tm d with
        | some (.bool t) => match σ.ask t with
          | some (v, σ1) => some (bif want then v else !v, σ1)
          | none => none
        | some (.tup []) => some (false, σ)
        | _ => none
      else none
    | none => none
theorem wantedS_asks {ρ : Rho} {ops : Array Oper} {nt : Nat} {tm : Nat → Option SV} {o : Oper} {σ σ' : St} {b : Bool} (h : wantedS ops nt tm o σ = some (b, σ')) : Asks ρ σ σ' := by
  unfold wantedS at h
  split at h
  · simp only [Option.some.injEq, Prod.mk.injEq] at h; obtain ⟨_, rfl⟩ := h; exact Asks.refl _ _
  · rename_i j want hg
    split at h
    · rename_i d hd
      cases hb : Nat.blt d nt <;> simp only [hb, cond_true, cond_false] at h
      · cases h
      · split at h
        · split at h
          · rename_i ha
            simp only [Option.some.injEq, Prod.mk.injEq] at h; obtain ⟨_, rfl⟩ := h; exact (ask_sound ha).1
          · cases h
        · simp only [Option.some.injEq, Prod.mk.injEq] at h; obtain ⟨_, rfl⟩ := h; exact Asks.refl _ _
        · cases h
    · cases h
theorem wantedS_sound {ρ : Rho} {ops : Array Oper} {nt : Nat} {tm : Nat → Option SV} {o : Oper} {σ σ' : St} {b : Bool} (h : wantedS ops nt tm o σ = some (b, σ')) (hk : pcok ρ σ'.pc) {ν : Nu} {a : Array Value}
    (hT : TmR ρ ν tm a) (hn : a.size = nt) : Region.wanted o (yielded ops a) = b := by
  unfold wantedS at h
  unfold Region.wanted
  split at h
  · rename_i hg
    simp only [Option.some.injEq, Prod.mk.injEq] at h
    rw [hg]
    simp [h.1]
  · rename_i j want hg
    rw [hg]
    simp only
    split at h
    · rename_i d hd
      cases hb : Nat.blt d nt <;> simp only [hb, cond_true, cond_false] at h
      · cases h
      · have hlt : d < a.size := by rw [hn]; simpa [Nat.blt_eq] using hb
        have hget : a[d]? = some (a.getD d undef) := by simp [Array.getD, hlt]
        split at h
        · rename_i t ht
          have hr := hT d _ ht
          simp only [SV.R] at hr
          rw [hr] at hget
          split at h
          · rename_i v σ1 ha
            simp only [Option.some.injEq, Prod.mk.injEq] at h
            obtain ⟨rfl, rfl⟩ := h
            have hv := (ask_sound (ρ := ρ) ha).2 hk
            simp only [yielded, hd, Option.bind_some, hget, hv]
            cases want <;> cases v <;> rfl
          · cases h
        · rename_i ht
          have hr := hT d _ ht
          simp only [SV.R, RL] at hr
          obtain ⟨vs, hv, _⟩ := hr
          rw [hv] at hget
          simp only [Option.some.injEq, Prod.mk.injEq] at h
          obtain ⟨rfl, rfl⟩ := h
          simp only [yielded, hd, Option.bind_some, hget]
          rfl
        · cases h
    · cases h

def look (tm : T SV) : Nat → Option SV := fun t => some (slot tm t)
def putT (nt : Nat) (tm : T SV) (dst : Option Nat) (s : SV) : Option (T SV) :=
  match dst with
  | none => some tm
  | some d => bif Nat.blt d nt && nameOk d then some (T.put 40 tm d (some s)) else none
structure FrR (ρ : Rho) (ν : Nu) (nt : Nat) (tm : T SV) (a : Array Value) : Prop where
  slots : TmR ρ ν (look tm) a
  size : a.size = nt
theorem FrR.mono {ρ : Rho} {ν ν' : Nu} {nt : Nat} {tm : T SV} {a : Array Value} (h : FrR ρ ν nt tm a) (hl : ν.le ν') : FrR ρ ν' nt tm a := ⟨h.slots.mono hl, h.size⟩
theorem slot_put {nt : Nat} {tm tm' : T SV} {d : Nat} {s : SV} (h : putT nt tm (some d) s = some tm') : d < nt ∧ ∀ t, slot tm' t = if t = d then s else slot tm t := by
  simp only [putT] at h
  cases hb : Nat.blt d nt && nameOk d <;> simp only [hb, cond_true, cond_false] at h
  · cases h
  · simp only [Option.some.injEq] at h
    subst h
    simp only [Bool.and_eq_true, nameOk, Nat.blt_eq] at hb
    refine ⟨hb.1, fun t => ?_⟩
    simp only [slot]
    rw [T.get_put 40 _ _ _ _ (by omega)]
    split <;> rfl
theorem put_R {ρ : Rho} {ν : Nu} {nt : Nat} {tm tm' : T SV} {dst : Option Nat} {s : SV} {v : Value} {a : Act} (h : putT nt tm dst s = some tm') (hf : FrR ρ ν nt tm a.tmps) (hv : s.R ρ ν v) : FrR ρ ν nt tm' (a.put dst v).tmps := by
  cases dst with
  | none => simp only [putT, Option.some.injEq] at h; subst h; exact hf
  | some d =>
    obtain ⟨h1, h2⟩ := slot_put h
    refine ⟨fun t s' hs => ?_, by simp [Act.put, hf.size]⟩
    simp only [look, Option.some.injEq] at hs
    rw [h2] at hs
    by_cases e : t = d
    · subst e
      rw [if_pos rfl] at hs
      subst hs
      have hlt : t < a.tmps.size := by rw [hf.size]; exact h1
      simpa [Act.put, Array.getD, hlt] using hv
    · rw [if_neg e] at hs
      have := hf.slots t s' (by simp [look, hs])
      have hne : d ≠ t := fun x => e x.symm
      simpa [Act.put, Array.getD_eq_getD_getElem?, Array.getElem?_setIfInBounds_ne hne] using this

/-- one operation, guard and all -/
def stepOp (P : Program) (rec : FuncId → List SV → St → Option (SV × St)) (nt : Nat) (ops : Array Oper) (o : Oper) (tm : T SV) (σ : St) : Option (T SV × St) :=
  match wantedS ops nt (look tm) o σ with
  | some (true, σ1) => match stepRun P rec (look tm) o σ1 with
    | some (s, σ2) => match putT nt tm o.dst s with
      | some tm' => some (tm', σ2)
      | none => none
    | none => none
  | some (false, σ1) => match putT nt tm o.dst undefS with
    | some tm' => some (tm', σ1)
    | none => none
  | none => none
def stepList (P : Program) (rec : FuncId → List SV → St → Option (SV × St)) (nt : Nat) (ops : Array Oper) : List Oper → T SV → St → Option (T SV × St)
  | [], tm, σ => some (tm, σ)
  | o :: l, tm, σ => match stepOp P rec nt ops o tm σ with
    | some (tm', σ') => stepList P rec nt ops l tm' σ'
    | none => none

theorem stepOp_mono {P : Program} (hP : Plainly P) {ρ : Rho} {rec : FuncId → List SV → St → Option (SV × St)} (hrec : CallOK P ρ rec) {nt : Nat} {ops : Array Oper} {o : Oper} {tm tm' : T SV} {σ σ' : St}
    (h : stepOp P rec nt ops o tm σ = some (tm', σ')) : pcok ρ σ'.pc → pcok ρ σ.pc := by
  unfold stepOp at h
  split at h
  · rename_i σ1 hw
    split at h
    · rename_i s σ2 hr
      split at h
      · simp only [Option.some.injEq, Prod.mk.injEq] at h
        obtain ⟨_, rfl⟩ := h
        exact fun hk => (wantedS_asks hw).pc ((stepRun_sound hP hrec hr).1 hk)
      · cases h
    · cases h
  · rename_i σ1 hw
    split at h
    · simp only [Option.some.injEq, Prod.mk.injEq] at h
      obtain ⟨_, rfl⟩ := h
      exact fun hk => (wantedS_asks hw).pc hk
    · cases h
  · cases h

theorem stepList_sound {P : Program} (hP : Plainly P) {ρ : Rho} {rec : FuncId → List SV → St → Option (SV × St)} (hrec : CallOK P ρ rec) {nt : Nat} {ops : Array Oper} : ∀ {l : List Oper} {tm tm' : T SV} {σ σ' : St},
    stepList P rec nt ops l tm σ = some (tm', σ') → (pcok ρ σ'.pc → pcok ρ σ.pc) ∧ (pcok ρ σ'.pc → ∀ {ν : Nu} {w : World} {a : Act} {Q : Exit → Act → World → Prop}, SimW ρ ν σ w → FrR ρ ν nt tm a.tmps →
      (∀ ν' w' a', GoesW ρ ν σ w ν' σ' w' → FrR ρ ν' nt tm' a'.tmps → a'.defers = a.defers → Q .normal a' w') → wpList P ops Q l a w)
  | [], tm, tm', σ, σ', h => by
    simp only [stepList, Option.some.injEq, Prod.mk.injEq] at h
    obtain ⟨rfl, rfl⟩ := h
    exact ⟨id, fun _ ν w a Q hs hf hQ => hQ ν w a (Goes.refl hs) hf rfl⟩
  | o :: l, tm, tm', σ, σ', h => by
    simp only [stepList] at h
    split at h
    · rename_i tm1 σ1 h1
      obtain ⟨m1, s1⟩ := stepList_sound hP hrec h
      refine ⟨fun hk => stepOp_mono hP hrec h1 (m1 hk), fun hk ν w a Q hs hf hQ => ?_⟩
      have hk1 := m1 hk
      unfold wpList
      unfold stepOp at h1
      split at h1
      · rename_i σ2 hw
        split at h1
        · rename_i s σ3 hr
          split at h1
          · rename_i tm2 hp
            simp only [Option.some.injEq, Prod.mk.injEq] at h1
            obtain ⟨rfl, rfl⟩ := h1
            obtain ⟨m3, s3⟩ := stepRun_sound hP hrec hr
            rw [wantedS_sound hw (m3 hk1) hf.slots hf.size]
            simp only [if_true]
            have aw := wantedS_asks (ρ := ρ) hw
            refine .inl (s3 hk1 (hs.ask aw) hf.slots fun ν' w' v hg hv => ?_)
            have hg0 := (GoesW.ask hs aw).trans hg
            refine s1 hk hg.sim (put_R hp (hf.mono hg.le) hv) fun ν'' w'' a'' hg' hf' hd => hQ ν'' w'' a'' (hg0.trans hg') hf' (hd.trans ?_)
            cases o.dst <;> rfl
          · cases h1
        · cases h1
      · rename_i σ2 hw
        split at h1
        · rename_i tm2 hp
          simp only [Option.some.injEq, Prod.mk.injEq] at h1
          obtain ⟨rfl, rfl⟩ := h1
          rw [wantedS_sound hw hk1 hf.slots hf.size]
          simp only [Bool.false_eq_true, if_false]
          have aw := wantedS_asks (ρ := ρ) hw
          refine s1 hk (hs.ask aw) (put_R hp hf (undefS_R ρ ν)) fun ν'' w'' a'' hg' hf' hd => hQ ν'' w'' a'' ((GoesW.ask hs aw).trans hg') hf' (hd.trans ?_)
          cases o.dst <;> rfl
        · cases h1
      · cases h1
    · cases h
end Go.Eng
/- A region whose order is open: the engine runs it in one order, and looks whether all others come to the same. -/
namespace Go.Eng

/-! ancestors, by bits -/
def ancOf (ms : List Nat) (o : Oper) : Nat := o.after.toList.foldl (fun s e => bif Region.binds .any e then (s ||| 2 ^ e.on) ||| ((ms[e.on]?).getD 0) else s) 0
def ancs : List Oper → List Nat → List Nat
  | [], ms => ms
  | o :: l, ms => ancs l (ms ++ [ancOf ms o])
def anc (ms : List Nat) (i j : Nat) : Bool := ((ms[i]?).getD 0).testBit j

structure Ent where
  i : Nat
  o : Oper
  want : Bool
  s : SV
  B : Option SBlk
  tm : T SV
  pre : St
  post : St
def Ent.isW (e : Ent) : Bool := e.want && (match cls e.o with | .wr => true | _ => false)

def rst (looks : List Nat) (tm : T SV) : Nat → Option SV := fun t => bif looks.contains t then look tm t else none
def stepD (P : Program) (rec : FuncId → List SV → St → Option (SV × St)) (nt : Nat) (ops : Array Oper) (base i : Nat) (o : Oper) (tm : T SV) (σ : St) : Option (Ent × T SV) :=
  match wantedS ops nt (rst (o.looksAt ops) tm) o σ with
  | some (false, σ1) => match putT nt tm o.dst undefS with
    | some tm' => some (⟨i, o, false, undefS, none, tm, σ, σ1⟩, tm')
    | none => none
  | some (true, σ1) =>
    match cls o with
    | .new => match opNew P (rst (o.looksAt ops) tm) o σ1 with
      | some (v, B, σ2) => bif nameOk (base + i) then
          match putT nt tm o.dst (v.at (base + i)) with
          | some tm' => some (⟨i, o, true, v.at (base + i), some B, tm, σ, σ2.set (base + i) (some B)⟩, tm')
          | none => none
        else none
      | none => none
    | _ => match stepRun P rec (rst (o.looksAt ops) tm) o σ1 with
      | some (s, σ2) => match putT nt tm o.dst s with
        | some tm' => some (⟨i, o, true, s, none, tm, σ, σ2⟩, tm')
        | none => none
      | none => none
  | none => none
def runD (P : Program) (rec : FuncId → List SV → St → Option (SV × St)) (nt : Nat) (ops : Array Oper) (base : Nat) : List Nat → T SV → St → Option (List Ent × T SV × St)
  | [], tm, σ => some ([], tm, σ)
  | i :: is, tm, σ => match ops[i]? with
    | some o => match stepD P rec nt ops base i o tm σ with
      | some (e, tm') => match runD P rec nt ops base is tm' e.post with
        | some (es, tm'', σ'') => some (e :: es, tm'', σ'')
        | none => none
      | none => none
    | none => none

/-! the order: what makes memory as late as it may be -/
def isWr (o : Oper) : Bool := match cls o with | .wr => true | _ => false
def emit (ms : List Nat) (n : Nat) : List Nat → List Nat → List Nat
  | [], done => done ++ (List.range n).filter fun i => !done.contains i
  | w :: ws, done => emit ms n ws (bif done.contains w then done else (done ++ (List.range n).filter fun i => anc ms w i && !done.contains i) ++ [w])
def lazyOrder (ops : Array Oper) (ms : List Nat) : List Nat :=
  emit ms ops.size ((List.range ops.size).filter fun i => match ops[i]? with | some o => isWr o | none => false) []

/-! equality of values, told by a Bool -/
mutual
def SV.beq : SV → SV → Bool
  | .bool a, .bool b => a.beq b
  | .int k a, .int l b => kindEq k l && a.beq b
  | .nilp, .nilp => true
  | .ptr n a, .ptr m b => Nat.beq n m && a.beq b
  | .sl n a b (.known c), .sl m x y (.known z) => Nat.beq n m && (a.beq x && (b.beq y && c.beq z))
  | .sl n a b (.room c), .sl m x y (.room z) => Nat.beq n m && (a.beq x && (b.beq y && Nat.beq c z))
  | .slz, .slz => true
  | .nils, .nils => true
  | .fn (.func f) a c, .fn (.func g) x y => Nat.beq f g && (SVL.beq a x && SVL.beq c y)
  | .nilf, .nilf => true
  | .iface t a, .iface u b => Nat.beq t u && a.beq b
  | .nili, .nili => true
  | .agg l, .agg m => SVL.beq l m
  | .tup l, .tup m => SVL.beq l m
  | .flt a, .flt b => a.beq b
  | .cpx a b, .cpx c d => a.beq c && b.beq d
  | .any, .any => true
  | .unk k, .unk l => kindEq k l
  | _, _ => false
def SVL.beq : List SV → List SV → Bool
  | [], [] => true
  | a :: l, b :: m => a.beq b && SVL.beq l m
  | _, _ => false
end
mutual
theorem SV.beq_sound : ∀ {a b : SV}, a.beq b = true → a = b
  | .bool a, b, h => by cases b <;> simp [SV.beq] at h; rw [Bt.beq_sound h]
  | .int k a, b, h => by cases b <;> simp [SV.beq] at h; rw [kindEq_sound h.1, Tm.beq_sound h.2]
  | .nilp, b, h => by cases b <;> simp [SV.beq] at h; rfl
  | .ptr n a, b, h => by cases b <;> simp [SV.beq] at h; rw [h.1, Tm.beq_sound h.2]
  | .sl n a l c, b, h => by
    cases b with
    | sl m x y z =>
      cases c with
      | known c => cases z with
        | known z => simp [SV.beq] at h; rw [h.1, Tm.beq_sound h.2.1, Tm.beq_sound h.2.2.1, Tm.beq_sound h.2.2.2]
        | room z => simp [SV.beq] at h
      | room c => cases z with
        | known z => simp [SV.beq] at h
        | room z => simp [SV.beq] at h; rw [h.1, Tm.beq_sound h.2.1, Tm.beq_sound h.2.2.1, h.2.2.2]
    | _ => cases c <;> simp [SV.beq] at h
  | .slz, b, h => by cases b <;> simp [SV.beq] at h; rfl
  | .nils, b, h => by cases b <;> simp [SV.beq] at h; rfl
  | .fn f a c, b, h => by
    cases b with
    | fn g x y =>
      cases f with
      | func f =>
        cases g with
        | func g => simp [SV.beq] at h; rw [h.1, SVL.beq_sound h.2.1, SVL.beq_sound h.2.2]
        | _ => simp [SV.beq] at h
      | _ => simp [SV.beq] at h
    | _ => cases f <;> simp [SV.beq] at h
  | .nilf, b, h => by cases b <;> simp [SV.beq] at h; rfl
  | .iface t a, b, h => by cases b <;> simp [SV.beq] at h; rw [h.1, SV.beq_sound h.2]
  | .nili, b, h => by cases b <;> simp [SV.beq] at h; rfl
  | .agg l, b, h => by cases b <;> simp [SV.beq] at h; rw [SVL.beq_sound h]
  | .tup l, b, h => by cases b <;> simp [SV.beq] at h; rw [SVL.beq_sound h]
  | .flt a, b, h => by cases b <;> simp [SV.beq] at h; rw [Tm.beq_sound h]
  | .cpx x y, b, h => by cases b <;> simp [SV.beq] at h; rw [Tm.beq_sound h.1, Tm.beq_sound h.2]
  | .any, b, h => by cases b <;> simp [SV.beq] at h; rfl
  | .unk k, b, h => by cases b <;> simp [SV.beq] at h; rw [kindEq_sound h]
  | .raw v, b, h => by cases b <;> simp [SV.beq] at h
theorem SVL.beq_sound : ∀ {a b : List SV}, SVL.beq a b = true → a = b
  | [], b, h => by cases b <;> simp [SVL.beq] at h; rfl
  | s :: l, b, h => by cases b <;> simp [SVL.beq] at h; rw [SV.beq_sound h.1, SVL.beq_sound h.2]
end

/-! the looks -/
def Ent.isNew (e : Ent) : Bool := e.B.isSome
def Ent.isRd (e : Ent) : Bool := e.want && (match cls e.o with | .load => true | _ => false)
def nodupB : List Nat → Bool
  | [] => true
  | a :: l => !l.contains a && nodupB l
/-- each one's ancestors stand ahead of it -/
def ahead (ms : List Nat) (n : Nat) : List Nat → List Nat → Bool
  | _, [] => true
  | done, i :: is => ((List.range n).all fun j => !anc ms i j || done.contains j) && ahead ms n (i :: done) is
/-- slots that are looked at, or written, by two of them: one stands ahead of the other -/
def slotsOk (ops : Array Oper) (ms : List Nat) : Bool :=
  (List.range ops.size).all fun i => (List.range ops.size).all fun j => match ops[i]?, ops[j]? with
    | some x, some y => Nat.beq i j || match y.dst with
      | some d => (!(x.looksAt ops).contains d || (anc ms i j || anc ms j i)) && !(x.dst == some d)
      | none => true
    | _, _ => true
def edgesOk (ops : Array Oper) : Bool :=
  (List.range ops.size).all fun i => match ops[i]? with
    | some o => o.after.toList.all fun e => !Region.binds .any e || Nat.blt e.on i
    | none => true
/-- two that write memory: one stands ahead; what is new stands ahead of each that writes later -/
def writersOk (ms : List Nat) : List Ent → Bool
  | [] => true
  | e :: es => (es.all fun f => !f.isW || ((!e.isW || anc ms f.i e.i) && (!e.isNew || anc ms f.i e.i))) && writersOk ms es
/-- what is new among entries, laid to memory -/
def layNew (base : Nat) (ms : List Nat) (i : Nat) : List Ent → T SBlk → T SBlk
  | [], h => h
  | e :: es, h => layNew base ms i es (bif anc ms i e.i then (match e.B with | some B => T.put 40 h (base + e.i) (some B) | none => h) else h)
/-- a read, at one state of memory: the same value -/
def readOk (P : Program) (ops : Array Oper) (base : Nat) (ms : List Nat) (pc : List (Bt × Bool)) (r : Ent) (σ : St) (es : List Ent) : Bool :=
  match opRd P (rst (r.o.looksAt ops) r.tm) r.o { hp := layNew base ms r.i es σ.hp, nx := σ.nx, ds := [], pc := pc } with
  | some (s, _) => s.beq r.s
  | none => false
/-- at each state at which it may stand -/
def readAll (P : Program) (ops : Array Oper) (base : Nat) (ms : List Nat) (pc : List (Bt × Bool)) (r : Ent) : Bool → St → List Ent → Bool
  | late, σ, es => (late || es.any (fun f => f.isW && anc ms r.i f.i) || readOk P ops base ms pc r σ es) &&
    match es with
    | [] => true
    | e :: es' => bif e.isW then readAll P ops base ms pc r (late || anc ms e.i r.i) e.post es' else readTail late es'
  where readTail (late : Bool) (es : List Ent) : Bool := match es with
  | [] => true
  | e :: es' => bif e.isW then readAll P ops base ms pc r (late || anc ms e.i r.i) e.post es' else readTail late es'
def drawOk (P : Program) (ops : Array Oper) (base : Nat) (ms : List Nat) (order : List Nat) (σ0 : St) (es : List Ent) (σ1 : St) : Bool :=
  (edgesOk ops && (slotsOk ops ms && (nodupB order && (((List.range ops.size).all fun i => order.contains i) && (order.all fun i => Nat.blt i ops.size))))) &&
  (ahead ms ops.size [] order && (writersOk ms es && es.all fun r => !r.isRd || readAll P ops base ms σ1.pc r false σ0 es))
def evDraw (P : Program) (rec : FuncId → List SV → St → Option (SV × St)) (nt : Nat) (ops : Array Oper) (tm : T SV) (σ : St) : Option (T SV × St) :=
  match runD P rec nt ops σ.nx (lazyOrder ops (ancs ops.toList [])) tm { σ with nx := σ.nx + ops.size } with
  | some (es, tm', σ') => bif drawOk P ops σ.nx (ancs ops.toList []) (lazyOrder ops (ancs ops.toList [])) { σ with nx := σ.nx + ops.size } es σ' then some (tm', σ') else none
  | none => none
end Go.Eng
