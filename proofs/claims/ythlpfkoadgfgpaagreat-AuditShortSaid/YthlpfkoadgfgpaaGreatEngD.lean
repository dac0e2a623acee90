/- The engine, part D: patterns, trees, summaries, loops. Nothing of the program. -/
import Derived.Test.YthlpfkoadgfgpaaGreatEngC
import Derived.RowKit3
import Derived.Deep.LoopGhost
/- A state that is told in detail, told again by a pattern. -/
namespace Go.Eng

/-- what a pattern's names stand for -/
structure Bind where
  var : List (Nat × Tm)
  arr : List (Nat × (Option Nat × List (Tm × Tm)))
  name : List (Nat × Nat)
def assoc {α : Type} : List (Nat × α) → Nat → Option α
  | [], _ => none
  | (i, a) :: l, k => bif Nat.beq i k then some a else assoc l k
def Bind.tm (θ : Bind) (i : Nat) : Tm := match assoc θ.var i with | some t => t | none => .var i
def Bind.nm (θ : Bind) (n : Nat) : Nat := match assoc θ.name n with | some m => m | none => n
def Rho.sub (ρ : Rho) (θ : Bind) : Rho :=
  { var := fun i => (θ.tm i).ev ρ
    arr := fun A => match assoc θ.arr A with | some (b, u) => arrEv ρ b u | none => ρ.arr A
    fn := ρ.fn, pr := ρ.pr }
def Nu.sub (ν : Nu) (θ : Bind) (nx : Nat) : Nu := fun n => bif Nat.blt n nx then ν (θ.nm n) else none

theorem Nu.sub_at {ν : Nu} {θ : Bind} {nx n : Nat} (h : n < nx) : ν.sub θ nx n = ν (θ.nm n) := by
  have : Nat.blt n nx = true := by simpa [Nat.blt_eq] using h
  simp only [Nu.sub, this, cond_true]
theorem Nu.sub_out {ν : Nu} {θ : Bind} {nx n : Nat} (h : nx ≤ n) : ν.sub θ nx n = none := by
  have : Nat.blt n nx = false := by
    cases hb : Nat.blt n nx with
    | false => rfl
    | true => rw [Nat.blt_eq] at hb; omega
  simp only [Nu.sub, this, cond_false]

def fTdiv : Tm → Tm → Tm
  | .lit a, .lit b => .lit (a.tdiv b)
  | x, y => .tdiv x y
def fTmod : Tm → Tm → Tm
  | .lit a, .lit b => .lit (a.tmod b)
  | x, y => .tmod x y
def fFdiv : Tm → Tm → Tm
  | .lit a, .lit b => .lit (a.fdiv b)
  | x, y => .fdiv x y
def fBit (o : BinOp) (k : IntKind) : Tm → Tm → Tm
  | .lit a, .lit b => .lit (bits o k a b)
  | x, y => .bit o k x y
theorem fTdiv_ev (ρ : Rho) (a b : Tm) : (fTdiv a b).ev ρ = (a.ev ρ).tdiv (b.ev ρ) := by unfold fTdiv; split <;> rfl
theorem fTmod_ev (ρ : Rho) (a b : Tm) : (fTmod a b).ev ρ = (a.ev ρ).tmod (b.ev ρ) := by unfold fTmod; split <;> rfl
theorem fFdiv_ev (ρ : Rho) (a b : Tm) : (fFdiv a b).ev ρ = (a.ev ρ).fdiv (b.ev ρ) := by unfold fFdiv; split <;> rfl
theorem fBit_ev (ρ : Rho) (o : BinOp) (k : IntKind) (a b : Tm) : (fBit o k a b).ev ρ = bits o k (a.ev ρ) (b.ev ρ) := by unfold fBit; split <;> rfl
def Tm.sb (θ : Bind) : Tm → Option Tm
  | .lit n => some (.lit n)
  | .var i => some (θ.tm i)
  | .add a b => match a.sb θ, b.sb θ with | some x, some y => some (mAdd x y) | _, _ => none
  | .sub a b => match a.sb θ, b.sb θ with | some x, some y => some (mSub x y) | _, _ => none
  | .mul a b => match a.sb θ, b.sb θ with | some x, some y => some (mMul x y) | _, _ => none
  | .tdiv a b => match a.sb θ, b.sb θ with | some x, some y => some (fTdiv x y) | _, _ => none
  | .tmod a b => match a.sb θ, b.sb θ with | some x, some y => some (fTmod x y) | _, _ => none
  | .fdiv a b => match a.sb θ, b.sb θ with | some x, some y => some (fFdiv x y) | _, _ => none
  | .bit o k a b => match a.sb θ, b.sb θ with | some x, some y => some (fBit o k x y) | _, _ => none
  | .wrap k a => match a.sb θ with | some x => some (mWrap k x) | none => none
  | .sel A i => match i.sb θ with
    | some j => match assoc θ.arr A with
      | some (some B, []) => some (.sel B j)
      | some (none, []) => some (.lit 0)
      | some _ => none
      | none => some (.sel A j)
    | none => none
  | .fn f a b c => match a.sb θ, b.sb θ, c.sb θ with | some x, some y, some z => some (.fn f x y z) | _, _, _ => none
theorem Tm.sb_ev {ρ : Rho} {θ : Bind} : ∀ {t u : Tm}, t.sb θ = some u → u.ev ρ = t.ev (ρ.sub θ) := by
  intro t
  induction t with
  | lit n => intro u h; simp only [Tm.sb, Option.some.injEq] at h; subst h; rfl
  | var i => intro u h; simp only [Tm.sb, Option.some.injEq] at h; subst h; rfl
  | add a b ha hb =>
    intro u h
    simp only [Tm.sb] at h
    split at h
    · rename_i x y h1 h2
      simp only [Option.some.injEq] at h
      subst h
      rw [mAdd_ev]
      simp only [Tm.ev, ha h1, hb h2]
    · cases h
  | sub a b ha hb =>
    intro u h
    simp only [Tm.sb] at h
    split at h
    · rename_i x y h1 h2
      simp only [Option.some.injEq] at h
      subst h
      rw [mSub_ev]
      simp only [Tm.ev, ha h1, hb h2]
    · cases h
  | mul a b ha hb =>
    intro u h
    simp only [Tm.sb] at h
    split at h
    · rename_i x y h1 h2
      simp only [Option.some.injEq] at h
      subst h
      rw [mMul_ev]
      simp only [Tm.ev, ha h1, hb h2]
    · cases h
  | tdiv a b ha hb =>
    intro u h
    simp only [Tm.sb] at h
    split at h
    · rename_i x y h1 h2
      simp only [Option.some.injEq] at h
      subst h
      rw [fTdiv_ev]
      simp only [Tm.ev, ha h1, hb h2]
    · cases h
  | tmod a b ha hb =>
    intro u h
    simp only [Tm.sb] at h
    split at h
    · rename_i x y h1 h2
      simp only [Option.some.injEq] at h
      subst h
      rw [fTmod_ev]
      simp only [Tm.ev, ha h1, hb h2]
    · cases h
  | fdiv a b ha hb =>
    intro u h
    simp only [Tm.sb] at h
    split at h
    · rename_i x y h1 h2
      simp only [Option.some.injEq] at h
      subst h
      rw [fFdiv_ev]
      simp only [Tm.ev, ha h1, hb h2]
    · cases h
  | bit o k a b ha hb =>
    intro u h
    simp only [Tm.sb] at h
    split at h
    · rename_i x y h1 h2
      simp only [Option.some.injEq] at h
      subst h
      rw [fBit_ev]
      simp only [Tm.ev, ha h1, hb h2]
    · cases h
  | wrap k a ha =>
    intro u h
    simp only [Tm.sb] at h
    split at h
    · rename_i x h1
      simp only [Option.some.injEq] at h
      subst h
      rw [mWrap_ev]
      simp only [Tm.ev, ha h1]
    · cases h
  | sel A i hi =>
    intro u h
    simp only [Tm.sb] at h
    split at h
    · rename_i j h1
      have hj := hi h1
      split at h
      · rename_i B hA
        simp only [Option.some.injEq] at h
        subst h
        simp only [Tm.ev, Rho.sub, hA, arrEv, hj]
      · rename_i hA
        simp only [Option.some.injEq] at h
        subst h
        simp only [Tm.ev, Rho.sub, hA, arrEv]
      · cases h
      · rename_i hA
        simp only [Option.some.injEq] at h
        subst h
        simp only [Tm.ev, Rho.sub, hA, hj]
    · cases h
  | fn f a b c ha hb hc =>
    intro u h
    simp only [Tm.sb] at h
    split at h
    · rename_i x y z h1 h2 h3
      simp only [Option.some.injEq] at h
      subst h
      simp only [Tm.ev, ha h1, hb h2, hc h3, Rho.sub]
    · cases h
def tmFit (θ : Bind) (p a : Tm) : Bool := match p.sb θ with | some x => x.beq a | none => false
theorem tmFit_ev {ρ : Rho} {θ : Bind} {p a : Tm} (h : tmFit θ p a = true) : p.ev (ρ.sub θ) = a.ev ρ := by
  unfold tmFit at h
  split at h
  · rename_i x hx
    rw [← Tm.sb_ev hx, Tm.beq_sound h]
  · cases h

def btFit (θ : Bind) : Bt → Bt → Bool
  | .lit a, .lit b => a == b
  | .lt a b, .lt c d => tmFit θ a c && tmFit θ b d
  | .le a b, .le c d => tmFit θ a c && tmFit θ b d
  | .eq a b, .eq c d => tmFit θ a c && tmFit θ b d
  | .not a, .not b => btFit θ a b
  | .and a b, .and c d => btFit θ a c && btFit θ b d
  | .iff a b, .iff c d => btFit θ a c && btFit θ b d
  | .fn f a b c, .fn g x y z => Nat.beq f g && (tmFit θ a x && (tmFit θ b y && tmFit θ c z))
  | _, _ => false
theorem btFit_ev {ρ : Rho} {θ : Bind} : ∀ {p a : Bt}, btFit θ p a = true → p.ev (ρ.sub θ) = a.ev ρ := by
  intro p
  induction p with
  | lit x => intro a h; cases a <;> simp [btFit] at h; subst h; rfl
  | lt x y => intro a h; cases a <;> simp [btFit] at h; simp only [Bt.ev, tmFit_ev h.1, tmFit_ev h.2]
  | le x y => intro a h; cases a <;> simp [btFit] at h; simp only [Bt.ev, tmFit_ev h.1, tmFit_ev h.2]
  | eq x y => intro a h; cases a <;> simp [btFit] at h; simp only [Bt.ev, tmFit_ev h.1, tmFit_ev h.2]
  | not x hx => intro a h; cases a <;> simp [btFit] at h; simp only [Bt.ev, hx h]
  | and x y hx hy => intro a h; cases a <;> simp [btFit] at h; simp only [Bt.ev, hx h.1, hy h.2]
  | iff x y hx hy => intro a h; cases a <;> simp [btFit] at h; simp only [Bt.ev, hx h.1, hy h.2]
  | fn f x y z => intro a h; cases a <;> simp [btFit] at h; simp only [Bt.ev, tmFit_ev h.2.1, tmFit_ev h.2.2.1, tmFit_ev h.2.2.2, h.1]; rfl

def fnFit : Fn → Fn → Bool
  | .func f, .func g => Nat.beq f g
  | _, _ => false
theorem fnFit_eq {f g : Fn} (h : fnFit f g = true) : f = g := by
  cases f <;> cases g <;> simp [fnFit] at h
  rw [h]
def capFit (θ : Bind) : Cap → Cap → Bool
  | .known a, .known b => tmFit θ a b
  | .room a, .room b => Nat.beq a b
  | _, _ => false
mutual
def svFit (θ : Bind) (nx : Nat) : SV → SV → Bool
  | .any, _ => true
  | .unk k, .unk l => kindEq k l
  | .unk k, .int l _ => kindEq k l
  | .bool a, .bool b => btFit θ a b
  | .int k a, .int l b => kindEq k l && tmFit θ a b
  | .nilp, .nilp => true
  | .ptr n a, .ptr m b => Nat.blt n nx && (Nat.beq (θ.nm n) m && tmFit θ a b)
  | .sl n a b c, .sl m x y z => Nat.blt n nx && (Nat.beq (θ.nm n) m && (tmFit θ a x && (tmFit θ b y && capFit θ c z)))
  | .slz, .slz => true
  | .nils, .nils => true
  | .fn f a c, .fn g x y => fnFit f g && (svsFit θ nx a x && svsFit θ nx c y)
  | .nilf, .nilf => true
  | .iface t a, .iface u b => Nat.beq t u && svFit θ nx a b
  | .nili, .nili => true
  | .agg l, .agg m => svsFit θ nx l m
  | .tup l, .tup m => svsFit θ nx l m
  | .flt a, .flt b => tmFit θ a b
  | .cpx a b, .cpx c d => tmFit θ a c && tmFit θ b d
  | _, _ => false
def svsFit (θ : Bind) (nx : Nat) : List SV → List SV → Bool
  | [], [] => true
  | a :: l, b :: m => svFit θ nx a b && svsFit θ nx l m
  | _, _ => false
end
mutual
theorem svFit_R {ρ : Rho} {ν : Nu} {θ : Bind} {nx : Nat} : ∀ {p a : SV} {v : Value}, svFit θ nx p a = true → a.R ρ ν v → p.R (ρ.sub θ) (ν.sub θ nx) v
  | .any, a, v, _, _ => by simp only [SV.R]
  | .unk k, a, v, h, hr => by
    cases a <;> simp [svFit] at h
    · simp only [SV.R] at hr ⊢; rw [kindEq_sound h]; exact ⟨_, hr⟩
    · simp only [SV.R] at hr ⊢; rw [kindEq_sound h]; exact hr
  | .bool x, a, v, h, hr => by
    cases a <;> simp [svFit] at h
    simp only [SV.R] at hr ⊢; rw [btFit_ev h]; exact hr
  | .int k x, a, v, h, hr => by
    cases a <;> simp [svFit] at h
    simp only [SV.R] at hr ⊢; rw [tmFit_ev h.2, kindEq_sound h.1]; exact hr
  | .nilp, a, v, h, hr => by cases a <;> simp [svFit] at h; exact hr
  | .ptr n x, a, v, h, hr => by
    cases a <;> simp [svFit] at h
    obtain ⟨h1, h2, h3⟩ := h
    simp only [SV.R] at hr ⊢
    obtain ⟨b, m, o, e1, e2, e3⟩ := hr
    exact ⟨b, m, o, by rw [Nu.sub_at h1, h2]; exact e1, by rw [tmFit_ev h3]; exact e2, e3⟩
  | .sl n x y z, a, v, h, hr => by
    cases a <;> simp [svFit] at h
    obtain ⟨h1, h2, h3, h4, h5⟩ := h
    simp only [SV.R] at hr ⊢
    obtain ⟨b, m, o, l, c, e1, e2, e3, e4, e5, e6⟩ := hr
    refine ⟨b, m, o, l, c, by rw [Nu.sub_at h1, h2]; exact e1, by rw [tmFit_ev h3]; exact e2, by rw [tmFit_ev h4]; exact e3, e4, ?_, e6⟩
    rename_i cap
    cases z <;> cases cap <;> simp [capFit] at h5
    · simp only at e5 ⊢; rw [tmFit_ev h5]; exact e5
    · simp only at e5 ⊢; rw [h5]; exact e5
  | .slz, a, v, h, hr => by cases a <;> simp [svFit] at h; exact hr
  | .nils, a, v, h, hr => by cases a <;> simp [svFit] at h; exact hr
  | .fn f x y, a, v, h, hr => by
    cases a <;> simp [svFit] at h
    obtain ⟨h1, h2, h3⟩ := h
    simp only [SV.R] at hr ⊢
    obtain ⟨as, cs, e1, e2, e3⟩ := hr
    exact ⟨as, cs, by rw [fnFit_eq h1]; exact e1, svsFit_R h2 e2, svsFit_R h3 e3⟩
  | .nilf, a, v, h, hr => by cases a <;> simp [svFit] at h; exact hr
  | .iface t x, a, v, h, hr => by
    cases a <;> simp [svFit] at h
    simp only [SV.R] at hr ⊢
    obtain ⟨y, e1, e2⟩ := hr
    exact ⟨y, by rw [h.1]; exact e1, svFit_R h.2 e2⟩
  | .nili, a, v, h, hr => by cases a <;> simp [svFit] at h; exact hr
  | .agg l, a, v, h, hr => by
    cases a <;> simp [svFit] at h
    simp only [SV.R] at hr ⊢
    obtain ⟨vs, e1, e2⟩ := hr
    exact ⟨vs, e1, svsFit_R h e2⟩
  | .tup l, a, v, h, hr => by
    cases a <;> simp [svFit] at h
    simp only [SV.R] at hr ⊢
    obtain ⟨vs, e1, e2⟩ := hr
    exact ⟨vs, e1, svsFit_R h e2⟩
  | .flt x, a, v, h, hr => by
    cases a <;> simp [svFit] at h
    simp only [SV.R] at hr ⊢; rw [tmFit_ev h]; exact hr
  | .cpx x y, a, v, h, hr => by
    cases a <;> simp [svFit] at h
    simp only [SV.R] at hr ⊢; rw [tmFit_ev h.1, tmFit_ev h.2]; exact hr
  | .raw u, a, v, h, hr => by cases a <;> simp [svFit] at h
theorem svsFit_R {ρ : Rho} {ν : Nu} {θ : Bind} {nx : Nat} : ∀ {p a : List SV} {vs : List Value}, svsFit θ nx p a = true → RL ρ ν a vs → RL (ρ.sub θ) (ν.sub θ nx) p vs
  | [], a, vs, h, hr => by cases a <;> simp [svsFit] at h; exact hr
  | x :: p, a, vs, h, hr => by
    cases a <;> simp [svsFit] at h
    simp only [RL] at hr ⊢
    obtain ⟨v, us, e1, e2, e3⟩ := hr
    exact ⟨v, us, e1, svFit_R h.1 e2, svsFit_R h.2 e3⟩
end

/-! blocks -/
def upsFit (θ : Bind) : List (Tm × Tm) → List (Tm × Tm) → Bool
  | [], [] => true
  | (a, b) :: l, (x, y) :: m => tmFit θ a x && (tmFit θ b y && upsFit θ l m)
  | _, _ => false
theorem upsFit_ev {ρ : Rho} {θ : Bind} {base base' : Option Nat} (hb : ∀ i, arrEv (ρ.sub θ) base [] i = arrEv ρ base' [] i) : ∀ {l m : List (Tm × Tm)}, upsFit θ l m = true → ∀ i, arrEv (ρ.sub θ) base l i = arrEv ρ base' m i
  | [], m, h, i => by cases m <;> simp [upsFit] at h; exact hb i
  | (a, b) :: l, m, h, i => by
    cases m with
    | nil => simp [upsFit] at h
    | cons xy m =>
      obtain ⟨x, y⟩ := xy
      simp [upsFit] at h
      simp only [arrEv, tmFit_ev h.1, tmFit_ev h.2.1, upsFit_ev hb h.2.2 i]
def upsEq : List (Tm × Tm) → List (Tm × Tm) → Bool
  | [], [] => true
  | (a, b) :: l, (x, y) :: m => a.beq x && (b.beq y && upsEq l m)
  | _, _ => false
theorem upsEq_eq : ∀ {l m : List (Tm × Tm)}, upsEq l m = true → l = m
  | [], m, h => by cases m <;> simp [upsEq] at h; rfl
  | (a, b) :: l, m, h => by
    cases m with
    | nil => simp [upsEq] at h
    | cons xy m =>
      obtain ⟨x, y⟩ := xy
      simp [upsEq] at h
      rw [Tm.beq_sound h.1, Tm.beq_sound h.2.1, upsEq_eq h.2.2]
def baseEq : Option Nat → Option Nat → Bool
  | none, none => true
  | some a, some b => Nat.beq a b
  | _, _ => false
theorem baseEq_eq {a b : Option Nat} (h : baseEq a b = true) : a = b := by
  cases a <;> cases b <;> simp [baseEq] at h
  · rfl
  · rw [h]
def blkFit (θ : Bind) (nx : Nat) : SBlk → SBlk → Bool
  | .cells p, .cells a => svsFit θ nx p (a.take p.length)
  | .arr k base ups len, .arr k' base' ups' len' => kindEq k k' && (tmFit θ len len' && match base with
    | none => baseEq base' none && upsFit θ ups ups'
    | some A => match assoc θ.arr A with
      | some (b, u) => ups.isEmpty && (baseEq b base' && upsEq u ups')
      | none => baseEq base' (some A) && upsFit θ ups ups')
  | _, _ => false
theorem RL_prefix {ρ : Rho} {ν : Nu} {a : List SV} {vs : List Value} (k : Nat) (h : RL ρ ν a vs) : ∃ us rest, RL ρ ν (a.take k) us ∧ vs = us ++ rest :=
  ⟨vs.take k, vs.drop k, RL_take k h, (List.take_append_drop k vs).symm⟩
theorem blkFit_R {ρ : Rho} {ν : Nu} {θ : Bind} {nx : Nat} {p a : SBlk} {c : Array Value} (h : blkFit θ nx p a = true) (hr : a.R ρ ν c) : p.R (ρ.sub θ) (ν.sub θ nx) c := by
  cases p with
  | cells l =>
    cases a with
    | arr => simp [blkFit] at h
    | cells m =>
      simp only [blkFit] at h
      obtain ⟨vs, rest, h1, h2⟩ := hr
      obtain ⟨us, r2, h3, h4⟩ := RL_prefix l.length h1
      exact ⟨us, r2 ++ rest, svsFit_R h h3, by rw [h2, h4, List.append_assoc]⟩
  | arr k base ups len =>
    cases a with
    | cells m => simp [blkFit] at h
    | arr k' base' ups' len' =>
      simp only [blkFit, Bool.and_eq_true] at h
      obtain ⟨h1, h2, h3⟩ := h
      obtain ⟨r1, r2⟩ := hr
      have hk := kindEq_sound h1
      subst hk
      refine ⟨by rw [tmFit_ev h2]; exact r1, fun i hi => ?_⟩
      rw [r2 i hi]
      congr 2
      symm
      cases base with
      | none =>
        simp only [Bool.and_eq_true] at h3
        have := baseEq_eq h3.1
        subst this
        exact upsFit_ev (fun i => rfl) h3.2 i
      | some A =>
        simp only at h3
        split at h3
        · rename_i b u hA
          simp only [Bool.and_eq_true, List.isEmpty_iff] at h3
          obtain ⟨e1, e2, e3⟩ := h3
          subst e1
          have := baseEq_eq e2
          subst this
          rw [← upsEq_eq e3]
          simp only [arrEv, Rho.sub, hA]
        · rename_i hA
          simp only [Bool.and_eq_true] at h3
          have := baseEq_eq h3.1
          subst this
          exact upsFit_ev (fun i => by simp only [arrEv, Rho.sub, hA]) h3.2 i

/-! whole states -/
def T.keys {α : Type} : T α → List Nat
  | .nil => []
  | .node v l r => (match v with | some _ => [0] | none => []) ++ (l.keys.map (fun k => 2 * k + 1) ++ r.keys.map fun k => 2 * k + 2)
theorem T.mem_keys {α : Type} : ∀ {t : T α} {k : Nat} {a : α}, t.get k = some a → k ∈ t.keys
  | .nil, k, a, h => by simp [T.get] at h
  | .node v l r, k, a, h => by
    simp only [T.get] at h
    by_cases k0 : k = 0
    · subst k0
      simp at h
      simp [T.keys, h]
    · have b0 : Nat.beq k 0 = false := by cases hb : Nat.beq k 0 with | false => rfl | true => exact absurd (Nat.eq_of_beq_eq_true hb) k0
      simp only [b0, cond_false] at h
      by_cases k1 : k % 2 = 1
      · have b1 : Nat.beq (k % 2) 1 = true := by rw [k1]; rfl
        simp only [b1, cond_true] at h
        have := T.mem_keys h
        simp only [T.keys, List.mem_append, List.mem_map]
        exact .inr (.inl ⟨k / 2, this, by omega⟩)
      · have b1 : Nat.beq (k % 2) 1 = false := by cases hb : Nat.beq (k % 2) 1 with | false => rfl | true => exact absurd (Nat.eq_of_beq_eq_true hb) k1
        simp only [b1, cond_false] at h
        have := T.mem_keys h
        simp only [T.keys, List.mem_append, List.mem_map]
        exact .inr (.inr ⟨k / 2 - 1, this, by omega⟩)
def hpFit (θ : Bind) (nx : Nat) (p a : T SBlk) : Bool :=
  nodupB (p.keys.map θ.nm) && p.keys.all fun n => match p.get n, a.get (θ.nm n) with
    | some B, some B' => Nat.blt n nx && blkFit θ nx B B'
    | none, _ => true
    | _, _ => false
theorem hpFit_sim {ρ : Rho} {ν : Nu} {θ : Bind} {nx nx' : Nat} {p a : T SBlk} {w : World} (h : hpFit θ nx p a = true) (s : Sim ρ ν (fun n => a.get n) nx' w) :
    Sim (ρ.sub θ) (ν.sub θ nx) (fun n => p.get n) nx w ∧ ∀ b, foot (ν.sub θ nx) (fun n => p.get n) b → foot ν (fun n => a.get n) b := by
  unfold hpFit at h
  simp only [Bool.and_eq_true, List.all_eq_true] at h
  obtain ⟨hnd, hall⟩ := h
  have key : ∀ n B, p.get n = some B → n < nx ∧ ∃ B', a.get (θ.nm n) = some B' ∧ blkFit θ nx B B' = true := fun n B hB => by
    have := hall n (T.mem_keys hB)
    simp only [hB] at this
    split at this
    · rename_i B1 B2 e1 e2
      cases e1
      simp only [Bool.and_eq_true, Nat.blt_eq] at this
      exact ⟨this.1, B2, e2, this.2⟩
    · rename_i e1; cases e1
    · cases this
  have hν : ∀ n, n < nx → ν.sub θ nx n = ν (θ.nm n) := fun n hn => Nu.sub_at hn
  refine ⟨⟨fun n B hB => ?_, fun n n' b m m' h1 h2 e1 e2 => ?_, fun n hn => ?_⟩, ?_⟩
  · obtain ⟨hn, B', hB', hf⟩ := key n B hB
    obtain ⟨b, c, ty, e1, e2, e3⟩ := s.blk _ B' hB'
    exact ⟨b, c, ty, by rw [hν n hn]; exact e1, e2, blkFit_R hf e3⟩
  · obtain ⟨B, hB⟩ := Option.isSome_iff_exists.1 h1
    obtain ⟨B', hB'⟩ := Option.isSome_iff_exists.1 h2
    obtain ⟨hn, C, hC, _⟩ := key n B hB
    obtain ⟨hn', C', hC', _⟩ := key n' B' hB'
    rw [hν n hn] at e1
    rw [hν n' hn'] at e2
    have := s.inj _ _ b m m' (by simp [hC]) (by simp [hC']) e1 e2
    exact nodup_map_inj hnd (T.mem_keys hB) (T.mem_keys hB') this
  · exact Nu.sub_out hn
  · rintro b ⟨n, m, h1, h2⟩
    obtain ⟨B, hB⟩ := Option.isSome_iff_exists.1 h1
    obtain ⟨hn, C, hC, _⟩ := key n B hB
    rw [hν n hn] at h2
    exact ⟨θ.nm n, m, by simp [hC], h2⟩
  where
  nodup_map_inj {f : Nat → Nat} : ∀ {l : List Nat}, nodupB (l.map f) = true → ∀ {x y : Nat}, x ∈ l → y ∈ l → f x = f y → x = y
    | [], _, _, _, hx, _, _ => by cases hx
    | a :: l, h, x, y, hx, hy, e => by
      simp only [List.map_cons, nodupB, Bool.and_eq_true, Bool.not_eq_true', List.contains_eq_mem, decide_eq_false_iff_not, List.mem_map, not_exists, not_and] at h
      simp only [List.mem_cons] at hx hy
      rcases hx with rfl | hx <;> rcases hy with rfl | hy
      · rfl
      · exact absurd e.symm (h.1 y hy)
      · exact absurd e (h.1 x hx)
      · exact nodup_map_inj h.2 hx hy e

/-- a frame's slots: those that the pattern does not tell are to read as it says they read at first -/
def tmsFit (θ : Bind) (nx nt : Nat) (p a : T SV) : Bool := (List.range nt).all fun t => svFit θ nx (slot p t) (slot a t)
theorem tmsFit_R {ρ : Rho} {ν : Nu} {θ : Bind} {nx nt : Nat} {p a : T SV} {vs : Array Value} (h : tmsFit θ nx nt p a = true) (hf : FrR ρ ν nt a vs) (hp : ∀ t, nt ≤ t → slot p t = undefS) :
    FrR (ρ.sub θ) (ν.sub θ nx) nt p vs := by
  refine ⟨fun t s hs => ?_, hf.size⟩
  simp only [look, Option.some.injEq] at hs
  subst hs
  by_cases ht : t < nt
  · simp only [tmsFit, List.all_eq_true, List.mem_range] at h
    exact svFit_R (h t ht) (hf.slots t _ rfl)
  · rw [hp t (by omega)]
    have : vs.getD t undef = undef := by
      have := hf.size
      simp [Array.getD, show ¬ t < vs.size by omega]
    rw [this]
    exact undefS_R _ _
end Go.Eng
/- The engine's frame, as the statements want it. -/
namespace Go.Eng
open Go.RowKit

theorem Fr.grown {w w' : World} (h : Fr Nowhere w w') : Grown w w' := by
  refine ⟨⟨h.os, h.output, fun i hi => ?_⟩, fun a => ?_, h.size⟩
  · rw [h.block i hi id]; exact (World.keptBut_refl w (fun _ => False)).2.2 i hi
  · unfold World.frozen?
    by_cases hb : a.block < w.heap.size
    · rw [h.block a.block hb id]
    · have h0 : w.heap[a.block]? = none := by simp; omega
      rw [h0]
      cases h1 : w'.heap[a.block]? with
      | none => rfl
      | some o =>
        rcases h.kind _ _ h1 with h2 | ⟨c, ty, rfl⟩
        · rw [h0] at h2; cases h2
        · simp
end Go.Eng
/- What is told of a small state, used in a great one. -/
namespace Go.Eng

def Bt.sb (θ : Bind) : Bt → Option Bt
  | .lit b => some (.lit b)
  | .lt a b => match a.sb θ, b.sb θ with | some x, some y => some (bLt x y) | _, _ => none
  | .le a b => match a.sb θ, b.sb θ with | some x, some y => some (bLe x y) | _, _ => none
  | .eq a b => match a.sb θ, b.sb θ with | some x, some y => some (bEq x y) | _, _ => none
  | .not a => match a.sb θ with | some x => some (bNot x) | none => none
  | .and a b => match a.sb θ, b.sb θ with | some x, some y => some (bAnd x y) | _, _ => none
  | .iff a b => match a.sb θ, b.sb θ with | some x, some y => some (bIff x y) | _, _ => none
  | .fn f a b c => match a.sb θ, b.sb θ, c.sb θ with | some x, some y, some z => some (.fn f x y z) | _, _, _ => none
theorem Bt.sb_ev {ρ : Rho} {θ : Bind} : ∀ {t u : Bt}, t.sb θ = some u → u.ev ρ = t.ev (ρ.sub θ) := by
  intro t
  induction t with
  | lit b => intro u h; simp only [Bt.sb, Option.some.injEq] at h; subst h; rfl
  | lt a b =>
    intro u h; simp only [Bt.sb] at h; split at h
    · rename_i x y h1 h2
      simp only [Option.some.injEq] at h; subst h
      rw [bLt_ev, Tm.sb_ev h1, Tm.sb_ev h2]; rfl
    · cases h
  | le a b =>
    intro u h; simp only [Bt.sb] at h; split at h
    · rename_i x y h1 h2
      simp only [Option.some.injEq] at h; subst h
      rw [bLe_ev, Tm.sb_ev h1, Tm.sb_ev h2]; rfl
    · cases h
  | eq a b =>
    intro u h; simp only [Bt.sb] at h; split at h
    · rename_i x y h1 h2
      simp only [Option.some.injEq] at h; subst h
      rw [bEq_ev, Tm.sb_ev h1, Tm.sb_ev h2]; rfl
    · cases h
  | not a ha =>
    intro u h; simp only [Bt.sb] at h; split at h
    · rename_i x h1
      simp only [Option.some.injEq] at h; subst h
      rw [bNot_ev, ha h1]; rfl
    · cases h
  | and a b ha hb =>
    intro u h; simp only [Bt.sb] at h; split at h
    · rename_i x y h1 h2
      simp only [Option.some.injEq] at h; subst h
      rw [bAnd_ev, ha h1, hb h2]; rfl
    · cases h
  | iff a b ha hb =>
    intro u h; simp only [Bt.sb] at h; split at h
    · rename_i x y h1 h2
      simp only [Option.some.injEq] at h; subst h
      rw [bIff_ev, ha h1, hb h2]; rfl
    · cases h
  | fn f a b c =>
    intro u h; simp only [Bt.sb] at h; split at h
    · rename_i x y z h1 h2 h3
      simp only [Option.some.injEq] at h; subst h
      simp only [Bt.ev, Tm.sb_ev h1, Tm.sb_ev h2, Tm.sb_ev h3, Rho.sub]
    · cases h

mutual
def SV.sb (θ : Bind) (nm : Nat → Nat) : SV → Option SV
  | .bool b => match b.sb θ with | some x => some (.bool x) | none => none
  | .int k t => match t.sb θ with | some x => some (.int k x) | none => none
  | .nilp => some .nilp
  | .ptr n t => match t.sb θ with | some x => some (.ptr (nm n) x) | none => none
  | .sl n a b (.known c) => match a.sb θ, b.sb θ, c.sb θ with | some x, some y, some z => some (.sl (nm n) x y (.known z)) | _, _, _ => none
  | .sl n a b (.room c) => match a.sb θ, b.sb θ with | some x, some y => some (.sl (nm n) x y (.room c)) | _, _ => none
  | .slz => some .slz
  | .nils => some .nils
  | .fn f a c => match SVL.sb θ nm a, SVL.sb θ nm c with | some x, some y => some (.fn f x y) | _, _ => none
  | .nilf => some .nilf
  | .iface t v => match v.sb θ nm with | some x => some (.iface t x) | none => none
  | .nili => some .nili
  | .agg l => match SVL.sb θ nm l with | some x => some (.agg x) | none => none
  | .tup l => match SVL.sb θ nm l with | some x => some (.tup x) | none => none
  | .flt t => match t.sb θ with | some x => some (.flt x) | none => none
  | .cpx a b => match a.sb θ, b.sb θ with | some x, some y => some (.cpx x y) | _, _ => none
  | .any => some .any
  | .unk k => some (.unk k)
  | .raw v => some (.raw v)
def SVL.sb (θ : Bind) (nm : Nat → Nat) : List SV → Option (List SV)
  | [] => some []
  | s :: l => match s.sb θ nm, SVL.sb θ nm l with | some x, some y => some (x :: y) | _, _ => none
end
mutual
theorem SV.sb_R {ρ : Rho} {θ : Bind} {nm : Nat → Nat} {ν0 ν : Nu} (hν : ∀ n x, ν0 n = some x → ν (nm n) = some x) : ∀ {s a : SV} {v : Value}, s.sb θ nm = some a → s.R (ρ.sub θ) ν0 v → a.R ρ ν v
  | .bool b, a, v, h, hr => by
    simp only [SV.sb] at h; split at h
    · rename_i x h1; simp only [Option.some.injEq] at h; subst h; simp only [SV.R] at hr ⊢; rw [Bt.sb_ev h1]; exact hr
    · cases h
  | .int k t, a, v, h, hr => by
    simp only [SV.sb] at h; split at h
    · rename_i x h1; simp only [Option.some.injEq] at h; subst h; simp only [SV.R] at hr ⊢; rw [Tm.sb_ev h1]; exact hr
    · cases h
  | .nilp, a, v, h, hr => by simp only [SV.sb, Option.some.injEq] at h; subst h; exact hr
  | .ptr n t, a, v, h, hr => by
    simp only [SV.sb] at h; split at h
    · rename_i x h1; simp only [Option.some.injEq] at h; subst h; simp only [SV.R] at hr ⊢
      obtain ⟨b, m, o, e1, e2, e3⟩ := hr
      exact ⟨b, m, o, hν _ _ e1, by rw [Tm.sb_ev h1]; exact e2, e3⟩
    · cases h
  | .sl n x y (.known z), a, v, h, hr => by
    simp only [SV.sb] at h; split at h
    · rename_i h1 h2 h3; simp only [Option.some.injEq] at h; subst h; simp only [SV.R] at hr ⊢
      obtain ⟨b, m, o, l, c, e1, e2, e3, e4, e5, e6⟩ := hr
      exact ⟨b, m, o, l, c, hν _ _ e1, by rw [Tm.sb_ev h1]; exact e2, by rw [Tm.sb_ev h2]; exact e3, e4, by rw [Tm.sb_ev h3]; exact e5, e6⟩
    · cases h
  | .sl n x y (.room z), a, v, h, hr => by
    simp only [SV.sb] at h; split at h
    · rename_i h1 h2; simp only [Option.some.injEq] at h; subst h; simp only [SV.R] at hr ⊢
      obtain ⟨b, m, o, l, c, e1, e2, e3, e4, e5, e6⟩ := hr
      exact ⟨b, m, o, l, c, hν _ _ e1, by rw [Tm.sb_ev h1]; exact e2, by rw [Tm.sb_ev h2]; exact e3, e4, e5, e6⟩
    · cases h
  | .slz, a, v, h, hr => by simp only [SV.sb, Option.some.injEq] at h; subst h; exact hr
  | .nils, a, v, h, hr => by simp only [SV.sb, Option.some.injEq] at h; subst h; exact hr
  | .fn f x y, a, v, h, hr => by
    simp only [SV.sb] at h; split at h
    · rename_i h1 h2; simp only [Option.some.injEq] at h; subst h; simp only [SV.R] at hr ⊢
      obtain ⟨as, cs, e1, e2, e3⟩ := hr
      exact ⟨as, cs, e1, SVL.sb_R hν h1 e2, SVL.sb_R hν h2 e3⟩
    · cases h
  | .nilf, a, v, h, hr => by simp only [SV.sb, Option.some.injEq] at h; subst h; exact hr
  | .iface t x, a, v, h, hr => by
    simp only [SV.sb] at h; split at h
    · rename_i h1; simp only [Option.some.injEq] at h; subst h; simp only [SV.R] at hr ⊢
      obtain ⟨y, e1, e2⟩ := hr
      exact ⟨y, e1, SV.sb_R hν h1 e2⟩
    · cases h
  | .nili, a, v, h, hr => by simp only [SV.sb, Option.some.injEq] at h; subst h; exact hr
  | .agg l, a, v, h, hr => by
    simp only [SV.sb] at h; split at h
    · rename_i h1; simp only [Option.some.injEq] at h; subst h; simp only [SV.R] at hr ⊢
      obtain ⟨vs, e1, e2⟩ := hr
      exact ⟨vs, e1, SVL.sb_R hν h1 e2⟩
    · cases h
  | .tup l, a, v, h, hr => by
    simp only [SV.sb] at h; split at h
    · rename_i h1; simp only [Option.some.injEq] at h; subst h; simp only [SV.R] at hr ⊢
      obtain ⟨vs, e1, e2⟩ := hr
      exact ⟨vs, e1, SVL.sb_R hν h1 e2⟩
    · cases h
  | .flt t, a, v, h, hr => by
    simp only [SV.sb] at h; split at h
    · rename_i x h1; simp only [Option.some.injEq] at h; subst h; simp only [SV.R] at hr ⊢; rw [Tm.sb_ev h1]; exact hr
    · cases h
  | .cpx x y, a, v, h, hr => by
    simp only [SV.sb] at h; split at h
    · rename_i h1 h2; simp only [Option.some.injEq] at h; subst h; simp only [SV.R] at hr ⊢; rw [Tm.sb_ev h1, Tm.sb_ev h2]; exact hr
    · cases h
  | .any, a, v, h, hr => by simp only [SV.sb, Option.some.injEq] at h; subst h; simp only [SV.R]
  | .unk k, a, v, h, hr => by simp only [SV.sb, Option.some.injEq] at h; subst h; exact hr
  | .raw u, a, v, h, hr => by simp only [SV.sb, Option.some.injEq] at h; subst h; exact hr
theorem SVL.sb_R {ρ : Rho} {θ : Bind} {nm : Nat → Nat} {ν0 ν : Nu} (hν : ∀ n x, ν0 n = some x → ν (nm n) = some x) : ∀ {l a : List SV} {vs : List Value}, SVL.sb θ nm l = some a → RL (ρ.sub θ) ν0 l vs → RL ρ ν a vs
  | [], a, vs, h, hr => by simp only [SVL.sb, Option.some.injEq] at h; subst h; exact hr
  | s :: l, a, vs, h, hr => by
    simp only [SVL.sb] at h; split at h
    · rename_i h1 h2; simp only [Option.some.injEq] at h; subst h
      simp only [RL] at hr ⊢
      obtain ⟨v, us, e1, e2, e3⟩ := hr
      exact ⟨v, us, e1, SV.sb_R hν h1 e2, SVL.sb_R hν h2 e3⟩
    · cases h
end

def upsSb (θ : Bind) : List (Tm × Tm) → Option (List (Tm × Tm))
  | [] => some []
  | (a, b) :: l => match a.sb θ, b.sb θ, upsSb θ l with | some x, some y, some r => some ((x, y) :: r) | _, _, _ => none
def SBlk.sb (θ : Bind) (nm : Nat → Nat) : SBlk → Option SBlk
  | .cells l => match SVL.sb θ nm l with | some x => some (.cells x) | none => none
  | .arr k none ups len => match upsSb θ ups, len.sb θ with | some x, some y => some (.arr k none x y) | _, _ => none
  | .arr k (some A) ups len => match upsSb θ ups, len.sb θ, assoc θ.arr A with
    | some x, some y, some (b, u) => some (.arr k b (x ++ u) y)
    | some x, some y, none => some (.arr k (some A) x y)
    | _, _, _ => none
theorem upsSb_ev {ρ : Rho} {θ : Bind} {base base' : Option Nat} {u : List (Tm × Tm)} (hb : ∀ i, arrEv (ρ.sub θ) base [] i = arrEv ρ base' u i) : ∀ {l m : List (Tm × Tm)}, upsSb θ l = some m → ∀ i, arrEv (ρ.sub θ) base l i = arrEv ρ base' (m ++ u) i
  | [], m, h, i => by simp only [upsSb, Option.some.injEq] at h; subst h; exact hb i
  | (a, b) :: l, m, h, i => by
    simp only [upsSb] at h
    split at h
    · rename_i x y r h1 h2 h3
      simp only [Option.some.injEq] at h; subst h
      simp only [arrEv, List.cons_append, Tm.sb_ev h1, Tm.sb_ev h2, upsSb_ev hb h3 i]
    · cases h
theorem SBlk.sb_R {ρ : Rho} {θ : Bind} {nm : Nat → Nat} {ν0 ν : Nu} (hν : ∀ n x, ν0 n = some x → ν (nm n) = some x) {B A : SBlk} {c : Array Value} (h : B.sb θ nm = some A) (hr : B.R (ρ.sub θ) ν0 c) : A.R ρ ν c := by
  cases B with
  | cells l =>
    simp only [SBlk.sb] at h; split at h
    · rename_i x h1; simp only [Option.some.injEq] at h; subst h
      obtain ⟨vs, rest, e1, e2⟩ := hr
      exact ⟨vs, rest, SVL.sb_R hν h1 e1, e2⟩
    · cases h
  | arr k base ups len =>
    obtain ⟨r1, r2⟩ := hr
    cases base with
    | none =>
      simp only [SBlk.sb] at h; split at h
      · rename_i x y h1 h2; simp only [Option.some.injEq] at h; subst h
        refine ⟨by rw [Tm.sb_ev h2]; exact r1, fun i hi => ?_⟩
        rw [r2 i hi, upsSb_ev (base' := none) (u := []) (fun _ => rfl) h1 i, List.append_nil]
      · cases h
    | some A0 =>
      simp only [SBlk.sb] at h; split at h
      · rename_i x y b u h1 h2 h3; simp only [Option.some.injEq] at h; subst h
        refine ⟨by rw [Tm.sb_ev h2]; exact r1, fun i hi => ?_⟩
        rw [r2 i hi, upsSb_ev (base' := b) (u := u) (fun j => by simp only [arrEv, Rho.sub, h3]) h1 i]
      · rename_i x y h1 h2 h3; simp only [Option.some.injEq] at h; subst h
        refine ⟨by rw [Tm.sb_ev h2]; exact r1, fun i hi => ?_⟩
        rw [r2 i hi, upsSb_ev (base' := some A0) (u := []) (fun j => by simp only [arrEv, Rho.sub, h3]) h1 i, List.append_nil]
      · cases h

/-! memory laid out of a list -/
def putAll : List (Nat × Option SBlk) → T SBlk → T SBlk
  | [], t => t
  | (n, B) :: l, t => putAll l (T.put 40 t n B)
theorem putAll_out : ∀ {l : List (Nat × Option SBlk)} {t : T SBlk} {n : Nat}, (∀ p ∈ l, nameOk p.1 = true) → (∀ p ∈ l, p.1 ≠ n) → (putAll l t).get n = t.get n
  | [], t, n, _, _ => rfl
  | (m, B) :: l, t, n, ho, h => by
    rw [putAll, putAll_out (fun p hp => ho p (List.mem_cons_of_mem _ hp)) (fun p hp => h p (List.mem_cons_of_mem _ hp))]
    have h1 := ho (m, B) (List.mem_cons_self ..)
    simp only [nameOk, Nat.blt_eq] at h1
    rw [T.get_put 40 _ _ _ _ (by omega), if_neg (fun e => h (m, B) (List.mem_cons_self ..) e.symm)]
theorem putAll_in : ∀ {l : List (Nat × Option SBlk)} {t : T SBlk} {n : Nat} {B : Option SBlk}, (∀ p ∈ l, nameOk p.1 = true) → nodupB (l.map (·.1)) = true → (n, B) ∈ l → (putAll l t).get n = B
  | [], t, n, B, _, _, h => by cases h
  | (m, C) :: l, t, n, B, ho, hd, h => by
    simp only [List.map_cons, nodupB, Bool.and_eq_true, Bool.not_eq_true', List.contains_eq_mem, decide_eq_false_iff_not] at hd
    rw [putAll]
    rcases List.mem_cons.1 h with h1 | h1
    · cases h1
      rw [putAll_out (fun p hp => ho p (List.mem_cons_of_mem _ hp)) (fun p hp e => hd.1 (List.mem_map.2 ⟨p, hp, e⟩))]
      have h1 := ho (m, C) (List.mem_cons_self ..)
      simp only [nameOk, Nat.blt_eq] at h1
      rw [T.get_put 40 _ _ _ _ (by omega), if_pos rfl]
    · exact putAll_in (fun p hp => ho p (List.mem_cons_of_mem _ hp)) hd.2 h1
theorem putAll_none : ∀ {l : List Nat} {t : T SBlk} {n : Nat}, (∀ p ∈ l, nameOk p = true) → n ∈ l → (putAll (l.map fun k => (k, none)) t).get n = none
  | [], t, n, _, h => by cases h
  | m :: l, t, n, ho, h => by
    simp only [List.map_cons, putAll]
    by_cases hm : n ∈ l
    · exact putAll_none (fun p hp => ho p (List.mem_cons_of_mem _ hp)) hm
    · rcases List.mem_cons.1 h with h1 | h1
      · subst h1
        rw [putAll_out (fun p hp => by obtain ⟨q, hq, rfl⟩ := List.mem_map.1 hp; exact ho q (List.mem_cons_of_mem _ hq)) (fun p hp e => by
          obtain ⟨q, hq, rfl⟩ := List.mem_map.1 hp; exact hm (by simpa [← e] using hq))]
        have h1 := ho n (List.mem_cons_self ..)
        simp only [nameOk, Nat.blt_eq] at h1
        rw [T.get_put 40 _ _ _ _ (by omega), if_pos rfl]
      · exact absurd h1 hm

/-! what a call comes to, by the answers to what it asks -/
inductive Tree where
  | leaf (r : SV) (hp : T SBlk) (nx : Nat)
  | node (b : Bt) (t f : Tree)
  | bad
def Tree.at (ρ : Rho) : Tree → Option (SV × T SBlk × Nat)
  | .leaf r hp nx => some (r, hp, nx)
  | .node b t f => bif b.ev ρ then t.at ρ else f.at ρ
  | .bad => none
def TreeOK (P : Program) (ρ : Rho) (g : FuncId) (args : List SV) (hp : T SBlk) (nx : Nat) (tree : Tree) : Prop :=
  ∀ r hp1 nx1, tree.at ρ = some (r, hp1, nx1) → ∀ {ν : Nu} {w : World} {vs : List Value}, Sim ρ ν (fun n => hp.get n) nx w → RL ρ ν args vs →
    Calls P g vs.toArray w fun e w' => ∃ ν' v, e = .returned v ∧ Goes nx ρ ν (fun n => hp.get n) nx w ν' (fun n => hp1.get n) nx1 w' ∧ r.R ρ ν' v

def blksSb (θ : Bind) (nm : Nat → Nat) (hp : T SBlk) : List Nat → Option (List (Nat × Option SBlk))
  | [] => some []
  | k :: ks => match hp.get k, blksSb θ nm hp ks with
    | some B, some l => match B.sb θ nm with
      | some A => some ((nm k, some A) :: l)
      | none => none
    | none, some l => some l
    | _, _ => none
theorem blksSb_mem {θ : Bind} {nm : Nat → Nat} {hp : T SBlk} : ∀ {ks : List Nat} {l : List (Nat × Option SBlk)}, blksSb θ nm hp ks = some l →
    (∀ k ∈ ks, ∀ B, hp.get k = some B → ∃ A, B.sb θ nm = some A ∧ (nm k, some A) ∈ l) ∧ (∀ p ∈ l, ∃ k B A, k ∈ ks ∧ hp.get k = some B ∧ B.sb θ nm = some A ∧ p = (nm k, some A))
  | [], l, h => by simp only [blksSb, Option.some.injEq] at h; subst h; exact ⟨fun k hk => (by cases hk), fun p hp => (by cases hp)⟩
  | k :: ks, l, h => by
    simp only [blksSb] at h
    split at h
    · rename_i B l1 h1 h2
      split at h
      · rename_i A h3
        simp only [Option.some.injEq] at h
        subst h
        obtain ⟨i1, i2⟩ := blksSb_mem h2
        refine ⟨fun j hj C hC => ?_, fun p hp => ?_⟩
        · rcases List.mem_cons.1 hj with e | e
          · subst e; rw [h1] at hC; cases hC; exact ⟨A, h3, List.mem_cons_self ..⟩
          · obtain ⟨A', a1, a2⟩ := i1 j e C hC; exact ⟨A', a1, List.mem_cons_of_mem _ a2⟩
        · rcases List.mem_cons.1 hp with e | e
          · exact ⟨k, B, A, List.mem_cons_self .., h1, h3, e⟩
          · obtain ⟨j, C, D, a1, a2⟩ := i2 p e; exact ⟨j, C, D, List.mem_cons_of_mem _ a1, a2⟩
      · cases h
    · rename_i l1 h1 h2
      simp only [Option.some.injEq] at h
      subst h
      obtain ⟨i1, i2⟩ := blksSb_mem h2
      refine ⟨fun j hj C hC => ?_, fun p hp => ?_⟩
      · rcases List.mem_cons.1 hj with e | e
        · subst e; rw [h1] at hC; cases hC
        · exact i1 j e C hC
      · obtain ⟨j, C, D, a1, a2⟩ := i2 p hp; exact ⟨j, C, D, List.mem_cons_of_mem _ a1, a2⟩
    · cases h
def nm2 (θ : Bind) (nx big : Nat) : Nat → Nat := fun n => bif Nat.blt n nx then θ.nm n else big + (n - nx)
def treeOut (θ : Bind) (hp : T SBlk) (nx : Nat) : Tree → St → Option (SV × St)
  | .bad, _ => none
  | .node b t f, σ => match b.sb θ with
    | some x => match σ.ask x with
      | some (true, σ1) => treeOut θ hp nx t σ1
      | some (false, σ1) => treeOut θ hp nx f σ1
      | none => none
    | none => none
  | .leaf r hp1 nx1, σ => match r.sb θ (nm2 θ nx σ.nx), blksSb θ (nm2 θ nx σ.nx) hp1 hp1.keys with
    | some s, some l => bif Nat.ble nx nx1 && (nodupB (l.map (·.1)) && (l.all (fun p => nameOk p.1) && (hp.keys.map θ.nm).all nameOk)) then
        some (s, { σ with hp := putAll l (putAll ((hp.keys.map θ.nm).map fun k => (k, none)) σ.hp), nx := σ.nx + (nx1 - nx) }) else none
    | _, _ => none
end Go.Eng
/- Trees are summaries. -/
namespace Go.Eng

def nuBig (ν ν0' : Nu) (N nx nx1 : Nat) : Nu := fun n => if n < N then ν n else if n < N + (nx1 - nx) then ν0' (n - N + nx) else none

theorem hpFit_at {θ : Bind} {nx : Nat} {hp H : T SBlk} (h : hpFit θ nx hp H = true) {k : Nat} {B : SBlk} (hk : hp.get k = some B) : k < nx ∧ (H.get (θ.nm k)).isSome = true := by
  unfold hpFit at h
  simp only [Bool.and_eq_true, List.all_eq_true] at h
  have := h.2 k (T.mem_keys hk)
  simp only [hk] at this
  split at this
  · rename_i e1 e2
    simp only [Bool.and_eq_true, Nat.blt_eq] at this
    exact ⟨this.1, by simp [e2]⟩
  · rename_i e1; cases e1
  · cases this

theorem tree_goes {ρ : Rho} {ν ν0' : Nu} {θ : Bind} {hp hp1 H : T SBlk} {nx nx1 N : Nat} {w w' : World} {l : List (Nat × Option SBlk)}
    (s : Sim ρ ν (fun n => H.get n) N w) (hfit : hpFit θ nx hp H = true)
    (g : Goes nx (ρ.sub θ) (ν.sub θ nx) (fun n => hp.get n) nx w ν0' (fun n => hp1.get n) nx1 w')
    (hl : blksSb θ (nm2 θ nx N) hp1 hp1.keys = some l) (hd : nodupB (l.map (·.1)) = true) (ho : ∀ p ∈ l, nameOk p.1 = true) (ho2 : ∀ k ∈ hp.keys.map θ.nm, nameOk k = true) :
    (∀ n x, ν0' n = some x → nuBig ν ν0' N nx nx1 (nm2 θ nx N n) = some x) ∧
    Goes N ρ ν (fun n => H.get n) N w (nuBig ν ν0' N nx nx1) (fun n => (putAll l (putAll ((hp.keys.map θ.nm).map fun k => (k, none)) H)).get n) (N + (nx1 - nx)) w' := by
  obtain ⟨m1, m2⟩ := blksSb_mem hl
  have hA : ∀ n x, ν0' n = some x → nuBig ν ν0' N nx nx1 (nm2 θ nx N n) = some x := fun n x hn => by
    have hlt : n < nx1 := by
      rcases Nat.lt_or_ge n nx1 with h | h
      · exact h
      · rw [g.sim.fresh n h] at hn; cases hn
    by_cases h : n < nx
    · have e1 : Nat.blt n nx = true := by simpa [Nat.blt_eq] using h
      have e2 := hn
      rw [g.old n h, Nu.sub_at h] at e2
      have e3 : θ.nm n < N := by
        rcases Nat.lt_or_ge (θ.nm n) N with h | h
        · exact h
        · rw [s.fresh _ h] at e2; cases e2
      simp only [nm2, e1, cond_true, nuBig, if_pos e3]
      exact e2
    · have e1 : Nat.blt n nx = false := by
        cases hb : Nat.blt n nx with
        | false => rfl
        | true => rw [Nat.blt_eq] at hb; omega
      simp only [nm2, e1, cond_false, nuBig]
      rw [if_neg (by omega), if_pos (by omega)]
      have : N + (n - nx) - N + nx = n := by omega
      rw [this]; exact hn
  have hle : ν.le (nuBig ν ν0' N nx nx1) := fun n x hn => by
    have : n < N := by
      rcases Nat.lt_or_ge n N with h | h
      · exact h
      · rw [s.fresh _ h] at hn; cases hn
    simp only [nuBig, if_pos this]; exact hn
  -- what stands under a name
  have hin : ∀ n A, (n, some A) ∈ l → (putAll l (putAll ((hp.keys.map θ.nm).map fun k => (k, none)) H)).get n = some A := fun n A h => putAll_in ho hd h
  have hout : ∀ n B, (putAll l (putAll ((hp.keys.map θ.nm).map fun k => (k, none)) H)).get n = some B → (n, some B) ∈ l ∨ (H.get n = some B ∧ n ∉ hp.keys.map θ.nm) := fun n B h => by
    by_cases hx : ∃ p ∈ l, p.1 = n
    · obtain ⟨p, hp', rfl⟩ := hx
      obtain ⟨k, C, A, _, _, _, rfl⟩ := m2 p hp'
      rw [hin _ _ hp'] at h
      cases h
      exact .inl hp'
    · rw [putAll_out ho (fun p hp' e => hx ⟨p, hp', e⟩)] at h
      by_cases hk : n ∈ hp.keys.map θ.nm
      · rw [putAll_none ho2 hk] at h; cases h
      · rw [putAll_out (fun p hp' => by obtain ⟨q, hq, rfl⟩ := List.mem_map.1 hp'; exact ho2 q hq) (fun p hp' e => by
          obtain ⟨q, hq, rfl⟩ := List.mem_map.1 hp'; exact hk (by simpa [← e] using hq))] at h
        exact .inr ⟨h, hk⟩
  have hF := (hpFit_sim hfit s).2
  -- what was not touched
  have hun : ∀ n B b m, H.get n = some B → n ∉ hp.keys.map θ.nm → ν n = some (b, m) → b < w.heap.size ∧ ¬ foot (ν.sub θ nx) (fun n => hp.get n) b := fun n B b m h1 h2 h3 => by
    refine ⟨s.block_lt ⟨n, m, by simp [h1], h3⟩, fun ⟨k, q, k1, k2⟩ => ?_⟩
    obtain ⟨C, hC⟩ := Option.isSome_iff_exists.1 k1
    obtain ⟨f1, f2⟩ := hpFit_at hfit hC
    rw [Nu.sub_at f1] at k2
    have := s.inj n (θ.nm k) b m q (by simp [h1]) f2 h3 k2
    exact h2 (List.mem_map.2 ⟨k, T.mem_keys hC, this.symm⟩)
  have hsmall : ∀ n A, (n, some A) ∈ l → ∃ k B b c ty, n = nm2 θ nx N k ∧ hp1.get k = some B ∧ ν0' k = some (b, c.size) ∧ w'.heap[b]? = some (.cells c ty (0, 0)) ∧ A.R ρ (nuBig ν ν0' N nx nx1) c := fun n A h => by
    obtain ⟨k, B, A', _, k2, k3, k4⟩ := m2 _ h
    cases k4
    obtain ⟨b, c, ty, e1, e2, e3⟩ := g.sim.blk k B k2
    exact ⟨k, B, b, c, ty, rfl, k2, e1, e2, SBlk.sb_R hA k3 e3⟩
  have hlow : ∀ n x, n < N → nuBig ν ν0' N nx nx1 n = some x → ν n = some x := fun n x hn h => by simpa only [nuBig, if_pos hn] using h
  refine ⟨hA, fun n hn => by simp only [nuBig, if_pos hn], hle, ⟨fun n B hB => ?_, fun n n' b m m' h1 h2 e1 e2 => ?_, fun n hn => ?_⟩, Nat.le_add_right _ _, g.fr.mono hF, ?_⟩
  · rcases hout n B hB with h | ⟨h, hk⟩
    · obtain ⟨k, C, b, c, ty, rfl, _, e1, e2, e3⟩ := hsmall n B h
      exact ⟨b, c, ty, hA _ _ e1, e2, e3⟩
    · obtain ⟨b, c, ty, e1, e2, e3⟩ := s.blk n B h
      obtain ⟨u1, u2⟩ := hun n B b _ h hk e1
      exact ⟨b, c, ty, hle _ _ e1, by rw [g.fr.block b u1 u2]; exact e2, B.R_mono hle e3⟩
  · obtain ⟨B, hB⟩ := Option.isSome_iff_exists.1 h1
    obtain ⟨B', hB'⟩ := Option.isSome_iff_exists.1 h2
    -- a touched name's block, and one that was not
    have hmix : ∀ n n' B B' m m', (n, some B) ∈ l → H.get n' = some B' → n' ∉ hp.keys.map θ.nm → nuBig ν ν0' N nx nx1 n = some (b, m) → nuBig ν ν0' N nx nx1 n' = some (b, m') → False := fun n n' B B' m m' h1 h2 h3 e1 e2 => by
      obtain ⟨k, C, b1, c, ty, rfl, k1, k2, _, _⟩ := hsmall n B h1
      have := hA _ _ k2
      rw [e1] at this
      cases this
      obtain ⟨b2, c2, ty2, j1, _, _⟩ := s.blk n' B' h2
      have hj := hle _ _ j1
      rw [e2] at hj
      cases hj
      obtain ⟨u1, u2⟩ := hun n' B' b _ h2 h3 j1
      rcases g.foot b ⟨k, _, by simp [k1], k2⟩ with f | f
      · exact u2 f
      · omega
    rcases hout n B hB with h | ⟨h, hk⟩ <;> rcases hout n' B' hB' with h' | ⟨h', hk'⟩
    · obtain ⟨k, C, b1, c, ty, rfl, k1, k2, _, _⟩ := hsmall n B h
      obtain ⟨k', C', b1', c', ty', rfl, k1', k2', _, _⟩ := hsmall n' B' h'
      have q1 := hA _ _ k2
      have q2 := hA _ _ k2'
      rw [e1] at q1
      rw [e2] at q2
      cases q1
      cases q2
      rw [g.sim.inj k k' b _ _ (by simp [k1]) (by simp [k1']) k2 k2']
    · exact (hmix n n' B B' m m' h h' hk' e1 e2).elim
    · exact (hmix n' n B' B m' m h' h hk e2 e1).elim
    · obtain ⟨b1, c, ty, j1, _, _⟩ := s.blk n B h
      obtain ⟨b2, c2, ty2, j2, _, _⟩ := s.blk n' B' h'
      have q1 := hle _ _ j1
      have q2 := hle _ _ j2
      rw [e1] at q1
      rw [e2] at q2
      cases q1
      cases q2
      exact s.inj n n' b _ _ (by simp [h]) (by simp [h']) j1 j2
  · simp only [nuBig]
    rw [if_neg (by omega), if_neg (by omega)]
  · rintro b ⟨n, m, h1, h2⟩
    obtain ⟨B, hB⟩ := Option.isSome_iff_exists.1 h1
    rcases hout n B hB with h | ⟨h, hk⟩
    · obtain ⟨k, C, b1, c, ty, rfl, k1, k2, _, _⟩ := hsmall n B h
      have q1 := hA _ _ k2
      rw [h2] at q1
      cases q1
      exact (g.foot b ⟨k, _, by simp [k1], k2⟩).elim (fun f => .inl (hF b f)) .inr
    · obtain ⟨b1, c, ty, j1, _, _⟩ := s.blk n B h
      have q1 := hle _ _ j1
      rw [h2] at q1
      cases q1
      exact .inl ⟨n, _, by simp [h], j1⟩

theorem treeOut_sound {ρ : Rho} {θ : Bind} {hp : T SBlk} {nx : Nat} : ∀ {tree : Tree} {σ σ' : St} {s : SV}, treeOut θ hp nx tree σ = some (s, σ') →
    ∃ σ1, Asks ρ σ σ1 ∧ σ'.pc = σ1.pc ∧ σ'.ds = σ1.ds ∧ (pcok ρ σ1.pc → ∃ r hp1 nx1 l, tree.at (ρ.sub θ) = some (r, hp1, nx1) ∧ r.sb θ (nm2 θ nx σ.nx) = some s ∧ blksSb θ (nm2 θ nx σ.nx) hp1 hp1.keys = some l ∧ nodupB (l.map (·.1)) = true ∧
      (∀ p ∈ l, nameOk p.1 = true) ∧ (∀ k ∈ hp.keys.map θ.nm, nameOk k = true) ∧ σ'.hp = putAll l (putAll ((hp.keys.map θ.nm).map fun k => (k, none)) σ.hp) ∧ σ'.nx = σ.nx + (nx1 - nx))
  | .bad, σ, σ', s, h => by simp [treeOut] at h
  | .node b t f, σ, σ', s, h => by
    simp only [treeOut] at h
    split at h
    · rename_i x hx
      split at h
      · rename_i σ2 h2
        obtain ⟨σ1, a1, a2, a3, a4⟩ := treeOut_sound (ρ := ρ) h
        have hA := (ask_sound (ρ := ρ) h2)
        refine ⟨σ1, hA.1.trans a1, a2, a3, fun hk => ?_⟩
        have hb := hA.2 (a1.pc hk)
        rw [Bt.sb_ev hx] at hb
        obtain ⟨r, hp1, nx1, l, e1, e2, e3, e4, e5, e6, e7, e8⟩ := a4 hk
        rw [hA.1.nx] at e2 e3 e8
        rw [hA.1.hp] at e7
        exact ⟨r, hp1, nx1, l, by simp only [Tree.at, hb, cond_true]; exact e1, e2, e3, e4, e5, e6, e7, e8⟩
      · rename_i σ2 h2
        obtain ⟨σ1, a1, a2, a3, a4⟩ := treeOut_sound (ρ := ρ) h
        have hA := (ask_sound (ρ := ρ) h2)
        refine ⟨σ1, hA.1.trans a1, a2, a3, fun hk => ?_⟩
        have hb := hA.2 (a1.pc hk)
        rw [Bt.sb_ev hx] at hb
        obtain ⟨r, hp1, nx1, l, e1, e2, e3, e4, e5, e6, e7, e8⟩ := a4 hk
        rw [hA.1.nx] at e2 e3 e8
        rw [hA.1.hp] at e7
        exact ⟨r, hp1, nx1, l, by simp only [Tree.at, hb, cond_false]; exact e1, e2, e3, e4, e5, e6, e7, e8⟩
      · cases h
    · cases h
  | .leaf r hp1 nx1, σ, σ', s, h => by
    simp only [treeOut] at h
    split at h
    · rename_i s1 l h1 h2
      cases hb : (Nat.ble nx nx1 && (nodupB (l.map (·.1)) && (l.all (fun p => nameOk p.1) && (hp.keys.map θ.nm).all nameOk))) <;> simp only [hb, cond_true, cond_false] at h
      · cases h
      · simp only [Option.some.injEq, Prod.mk.injEq] at h
        obtain ⟨rfl, rfl⟩ := h
        simp only [Bool.and_eq_true, List.all_eq_true] at hb
        obtain ⟨_, b2, b3, b4⟩ := hb
        exact ⟨σ, Asks.refl _ _, rfl, rfl, fun _ => ⟨r, hp1, nx1, l, rfl, h1, h2, b2, b3, b4, rfl, rfl⟩⟩
    · cases h

def treeRec (g0 : FuncId) (args : List SV) (hp : T SBlk) (nx : Nat) (tree : Tree) (bd : List SV → St → Bind) : Rec := fun g l σ =>
  bif Nat.beq g g0 then
    bif svsFit (bd l σ) nx args l && hpFit (bd l σ) nx hp σ.hp then treeOut (bd l σ) hp nx tree σ else none
  else none
theorem treeRec_ok {P : Program} {ρ : Rho} {g0 : FuncId} {args : List SV} {hp : T SBlk} {nx : Nat} {tree : Tree} {bd : List SV → St → Bind}
    (h : ∀ θ, TreeOK P (ρ.sub θ) g0 args hp nx tree) : CallOK P ρ (treeRec g0 args hp nx tree bd) := by
  intro g l σ r σ' hr
  unfold treeRec at hr
  cases hg : Nat.beq g g0 <;> simp only [hg, cond_true, cond_false] at hr
  · cases hr
  have := Nat.eq_of_beq_eq_true hg
  subst this
  generalize bd l σ = θ at hr
  cases hb : (svsFit θ nx args l && hpFit θ nx hp σ.hp) <;> simp only [hb, cond_true, cond_false] at hr
  · cases hr
  simp only [Bool.and_eq_true] at hb
  obtain ⟨b1, b2⟩ := hb
  obtain ⟨σ1, a1, a2, _, a4⟩ := treeOut_sound (ρ := ρ) hr
  refine ⟨fun hk => a1.pc (a2 ▸ hk), fun hk ν w vs hs hv => ?_⟩
  obtain ⟨r0, hp1, nx1, L, e1, e2, e3, e4, e5, e6, e7, e8⟩ := a4 (a2 ▸ hk)
  refine (h θ r0 hp1 nx1 e1 (hpFit_sim b2 hs).1 (svsFit_R b1 hv)).mono fun e w' ⟨ν0', v, he, hg, hr0⟩ => ?_
  obtain ⟨q1, q2⟩ := tree_goes hs b2 hg e3 e4 e5 e6
  refine ⟨_, v, he, ?_, SV.sb_R q1 e2 hr0⟩
  unfold GoesW
  rw [e7, e8]
  exact q2
end Go.Eng
/- Trees of code: what a loop, or any code, comes to from a small state, used in a great one. -/
namespace Go.Eng

inductive CTree where
  | leaf (e : Ex) (tm : T SV) (hp : T SBlk) (nx : Nat)
  | node (b : Bt) (t f : CTree)
  | bad
def CTree.at (ρ : Rho) : CTree → Option (Ex × T SV × T SBlk × Nat)
  | .leaf e tm hp nx => some (e, tm, hp, nx)
  | .node b t f => bif b.ev ρ then t.at ρ else f.at ρ
  | .bad => none
def CTreeOK (P : Program) (ρ : Rho) (nt : Nat) (c : Code) (tm : T SV) (hp : T SBlk) (nx : Nat) (tree : CTree) : Prop :=
  ∀ e tm1 hp1 nx1, tree.at ρ = some (e, tm1, hp1, nx1) → ∀ {ν : Nu} {w : World} {a : Act} {Q : Exit → Act → World → Prop}, Sim ρ ν (fun n => hp.get n) nx w → FrR ρ ν nt tm a.tmps →
    (∀ ν' w' a', Goes nx ρ ν (fun n => hp.get n) nx w ν' (fun n => hp1.get n) nx1 w' → FrR ρ ν' nt tm1 a'.tmps → a'.defers = a.defers → Q e.out a' w') → c.wp P Q a w

def tmSb (θ : Bind) (nm : Nat → Nat) (tm : T SV) : List Nat → T SV → Option (T SV)
  | [], t => some t
  | k :: ks, t => match (slot tm k).sb θ nm with
    | some s => tmSb θ nm tm ks (T.put 40 t k (some s))
    | none => none
theorem tmSb_slot {θ : Bind} {nm : Nat → Nat} {tm : T SV} : ∀ {ks : List Nat} {t t' : T SV}, tmSb θ nm tm ks t = some t' → (∀ k ∈ ks, nameOk k = true) → ks.Nodup → ∀ j, (j ∈ ks → ∃ s, (slot tm j).sb θ nm = some s ∧ slot t' j = s) ∧ (j ∉ ks → slot t' j = slot t j)
  | [], t, t', h, _, _, j => by simp only [tmSb, Option.some.injEq] at h; subst h; exact ⟨fun hj => (by cases hj), fun _ => rfl⟩
  | k :: ks, t, t', h, ho, hd, j => by
    simp only [tmSb] at h
    split at h
    · rename_i s hs
      rw [List.nodup_cons] at hd
      obtain ⟨i1, i2⟩ := tmSb_slot h (fun q hq => ho q (List.mem_cons_of_mem _ hq)) hd.2 j
      have hk := ho k (List.mem_cons_self ..)
      simp only [nameOk, Nat.blt_eq] at hk
      have hp : slot (T.put 40 t k (some s)) j = if j = k then s else slot t j := by
        simp only [slot]
        rw [T.get_put 40 _ _ _ _ (by omega)]
        split <;> rfl
      refine ⟨fun hj => ?_, fun hj => ?_⟩
      · rcases List.mem_cons.1 hj with e | e
        · subst e
          exact ⟨s, hs, by rw [i2 hd.1, hp, if_pos rfl]⟩
        · exact i1 e
      · rw [List.mem_cons, not_or] at hj
        rw [i2 hj.2, hp, if_neg hj.1]
    · cases h

def ctreeOut (θ : Bind) (nt : Nat) (hp : T SBlk) (nx : Nat) : CTree → St → Option (Ex × T SV × St)
  | .bad, _ => none
  | .node b t f, σ => match b.sb θ with
    | some x => match σ.ask x with
      | some (true, σ1) => ctreeOut θ nt hp nx t σ1
      | some (false, σ1) => ctreeOut θ nt hp nx f σ1
      | none => none
    | none => none
  | .leaf e tm1 hp1 nx1, σ => match tmSb θ (nm2 θ nx σ.nx) tm1 (List.range nt) .nil, blksSb θ (nm2 θ nx σ.nx) hp1 hp1.keys with
    | some t, some l => bif Nat.ble nx nx1 && (nodupB (l.map (·.1)) && (l.all (fun p => nameOk p.1) && ((hp.keys.map θ.nm).all nameOk && Nat.ble nt 1000000))) then
        some (e, t, { σ with hp := putAll l (putAll ((hp.keys.map θ.nm).map fun k => (k, none)) σ.hp), nx := σ.nx + (nx1 - nx) }) else none
    | _, _ => none
theorem ctreeOut_sound {ρ : Rho} {θ : Bind} {nt : Nat} {hp : T SBlk} {nx : Nat} : ∀ {tree : CTree} {σ σ' : St} {e : Ex} {t : T SV}, ctreeOut θ nt hp nx tree σ = some (e, t, σ') →
    ∃ σ1, Asks ρ σ σ1 ∧ σ'.pc = σ1.pc ∧ (pcok ρ σ1.pc → ∃ tm1 hp1 nx1 l, tree.at (ρ.sub θ) = some (e, tm1, hp1, nx1) ∧ tmSb θ (nm2 θ nx σ.nx) tm1 (List.range nt) .nil = some t ∧ blksSb θ (nm2 θ nx σ.nx) hp1 hp1.keys = some l ∧ nodupB (l.map (·.1)) = true ∧
      (∀ p ∈ l, nameOk p.1 = true) ∧ (∀ k ∈ hp.keys.map θ.nm, nameOk k = true) ∧ nt ≤ 1000000 ∧ σ'.hp = putAll l (putAll ((hp.keys.map θ.nm).map fun k => (k, none)) σ.hp) ∧ σ'.nx = σ.nx + (nx1 - nx))
  | .bad, σ, σ', e, t, h => by simp [ctreeOut] at h
  | .node b t1 f1, σ, σ', e, t, h => by
    simp only [ctreeOut] at h
    split at h
    · rename_i x hx
      split at h
      · rename_i σ2 h2
        obtain ⟨σ1, a1, a2, a4⟩ := ctreeOut_sound (ρ := ρ) h
        have hA := (ask_sound (ρ := ρ) h2)
        refine ⟨σ1, hA.1.trans a1, a2, fun hk => ?_⟩
        have hb := hA.2 (a1.pc hk)
        rw [Bt.sb_ev hx] at hb
        obtain ⟨tm1, hp1, nx1, l, e1, e2, e3, e4, e5, e6, e9, e7, e8⟩ := a4 hk
        rw [hA.1.nx] at e2 e3 e8
        rw [hA.1.hp] at e7
        exact ⟨tm1, hp1, nx1, l, by simp only [CTree.at, hb, cond_true]; exact e1, e2, e3, e4, e5, e6, e9, e7, e8⟩
      · rename_i σ2 h2
        obtain ⟨σ1, a1, a2, a4⟩ := ctreeOut_sound (ρ := ρ) h
        have hA := (ask_sound (ρ := ρ) h2)
        refine ⟨σ1, hA.1.trans a1, a2, fun hk => ?_⟩
        have hb := hA.2 (a1.pc hk)
        rw [Bt.sb_ev hx] at hb
        obtain ⟨tm1, hp1, nx1, l, e1, e2, e3, e4, e5, e6, e9, e7, e8⟩ := a4 hk
        rw [hA.1.nx] at e2 e3 e8
        rw [hA.1.hp] at e7
        exact ⟨tm1, hp1, nx1, l, by simp only [CTree.at, hb, cond_false]; exact e1, e2, e3, e4, e5, e6, e9, e7, e8⟩
      · cases h
    · cases h
  | .leaf e0 tm1 hp1 nx1, σ, σ', e, t, h => by
    simp only [ctreeOut] at h
    split at h
    · rename_i t1 l h1 h2
      cases hb : (Nat.ble nx nx1 && (nodupB (l.map (·.1)) && (l.all (fun p => nameOk p.1) && ((hp.keys.map θ.nm).all nameOk && Nat.ble nt 1000000)))) <;> simp only [hb, cond_true, cond_false] at h
      · cases h
      · simp only [Option.some.injEq, Prod.mk.injEq] at h
        obtain ⟨rfl, rfl, rfl⟩ := h
        simp only [Bool.and_eq_true, List.all_eq_true] at hb
        obtain ⟨_, b2, b3, b4, b5⟩ := hb
        exact ⟨σ, Asks.refl _ _, rfl, fun _ => ⟨tm1, hp1, nx1, l, rfl, h1, h2, b2, b3, b4, Nat.le_of_ble_eq_true b5, rfl, rfl⟩⟩
    · cases h

def ctreeRec (nt : Nat) (tm : T SV) (hp : T SBlk) (nx : Nat) (tree : CTree) (bd : T SV → St → Bind) : T SV → St → Option (Ex × T SV × St) := fun t σ =>
  bif tmsFit (bd t σ) nx nt tm t && hpFit (bd t σ) nx hp σ.hp then ctreeOut (bd t σ) nt hp nx tree σ else none
theorem ctreeRec_ok {P : Program} {ρ : Rho} {nt : Nat} {c : Code} {tm : T SV} {hp : T SBlk} {nx : Nat} {tree : CTree} {bd : T SV → St → Bind} (hout : ∀ t, nt ≤ t → slot tm t = undefS)
    (h : ∀ θ, CTreeOK P (ρ.sub θ) nt c tm hp nx tree) : ∀ t σ e t' σ', ctreeRec nt tm hp nx tree bd t σ = some (e, t', σ') → CodeOK P ρ nt c t σ e t' σ' := by
  intro t σ e t' σ' hr
  unfold ctreeRec at hr
  generalize bd t σ = θ at hr
  cases hb : (tmsFit θ nx nt tm t && hpFit θ nx hp σ.hp) <;> simp only [hb, cond_true, cond_false] at hr
  · cases hr
  simp only [Bool.and_eq_true] at hb
  obtain ⟨b1, b2⟩ := hb
  obtain ⟨σ1, a1, a2, a4⟩ := ctreeOut_sound (ρ := ρ) hr
  refine ⟨fun hk => a1.pc (a2 ▸ hk), fun hk ν w a Q hs hf hQ => ?_⟩
  obtain ⟨tm1, hp1, nx1, L, e1, e2, e3, e4, e5, e6, e9, e7, e8⟩ := a4 (a2 ▸ hk)
  refine h θ e tm1 hp1 nx1 e1 (hpFit_sim b2 hs).1 (tmsFit_R b1 hf hout) fun ν0' w' a' hg hfr hd => ?_
  obtain ⟨q1, q2⟩ := tree_goes hs b2 hg e3 e4 e5 e6
  refine hQ (nuBig ν ν0' σ.nx nx nx1) w' a' ?_ ⟨fun j s hj => ?_, hfr.size⟩ hd
  · unfold GoesW
    rw [e7, e8]
    exact q2
  · simp only [look, Option.some.injEq] at hj
    subst hj
    obtain ⟨i1, i2⟩ := tmSb_slot e2 (fun k hk => by simp only [nameOk, Nat.blt_eq]; have := List.mem_range.1 hk; omega) List.nodup_range j
    by_cases hj : j ∈ List.range nt
    · obtain ⟨s, s1, s2⟩ := i1 hj
      rw [s2]
      exact SV.sb_R q1 s1 (hfr.slots j _ rfl)
    · rw [i2 hj]
      have : slot (.nil : T SV) j = undefS := rfl
      rw [this]
      have hsz := hfr.size
      have hjn : ¬ j < a'.tmps.size := by
        rw [hsz]; intro hx; exact hj (List.mem_range.2 hx)
      have : a'.tmps.getD j undef = undef := by simp [Array.getD, hjn]
      rw [this]
      exact undefS_R _ _
end Go.Eng
/- Trees made of runs. -/
namespace Go.Eng

def restr (keep : List Nat) (hp : T SBlk) : T SBlk := putAll (keep.map fun k => (k, hp.get k)) .nil
theorem restr_get : ∀ {keep : List Nat} {hp t : T SBlk} {n : Nat} {B : SBlk}, (∀ k ∈ keep, nameOk k = true) → (∀ C, t.get n = some C → hp.get n = some C) → (putAll (keep.map fun k => (k, hp.get k)) t).get n = some B → hp.get n = some B
  | [], hp, t, n, B, _, ht, h => ht B h
  | k :: ks, hp, t, n, B, ho, ht, h => by
    simp only [List.map_cons, putAll] at h
    have hk := ho k (List.mem_cons_self ..)
    simp only [nameOk, Nat.blt_eq] at hk
    refine restr_get (fun q hq => ho q (List.mem_cons_of_mem _ hq)) (fun C hC => ?_) h
    rw [T.get_put 40 _ _ _ _ (by omega)] at hC
    by_cases e : n = k
    · rw [if_pos e] at hC; rw [e]; exact hC
    · rw [if_neg e] at hC; exact ht C hC

theorem pcok_nil {ρ : Rho} : pcok ρ [] := fun _ h => by cases h
theorem pcok_cons {ρ : Rho} {b : Bt} {v : Bool} {l : List (Bt × Bool)} (h : b.ev ρ = v) (k : pcok ρ l) : pcok ρ ((b, v) :: l) := fun p hp => by
  rcases List.mem_cons.1 hp with e | e
  · subst e; exact h
  · exact k p e

def leafRun (rec : Rec) (g : FuncId) (args : List SV) (hp : T SBlk) (nx : Nat) (ds : List Bool) (keep : List Nat) : Option (SV × List (Bt × Bool) × T SBlk × Nat) :=
  bif keep.all nameOk then
    match rec g args ⟨hp, nx, ds, []⟩ with
    | some (r, σ) => some (r, σ.pc, restr keep σ.hp, σ.nx)
    | none => none
  else none
theorem TreeOK.leaf {P : Program} {ρ : Rho} {rec : Rec} (hrec : CallOK P ρ rec) {g : FuncId} {args : List SV} {hp hp1 : T SBlk} {nx nx1 : Nat} {ds : List Bool} {keep : List Nat} {r : SV} {pc : List (Bt × Bool)}
    (h : leafRun rec g args hp nx ds keep = some (r, pc, hp1, nx1)) (hk : pcok ρ pc) : TreeOK P ρ g args hp nx (.leaf r hp1 nx1) := by
  unfold leafRun at h
  cases ho : keep.all nameOk <;> simp only [ho, cond_true, cond_false] at h
  · cases h
  split at h
  · rename_i r' σ hr
    simp only [Option.some.injEq, Prod.mk.injEq] at h
    obtain ⟨rfl, rfl, rfl, rfl⟩ := h
    intro r0 hp0 nx0 he ν w vs hs hv
    simp only [Tree.at, Option.some.injEq, Prod.mk.injEq] at he
    obtain ⟨rfl, rfl, rfl⟩ := he
    refine ((hrec g args _ _ _ hr).2 hk hs hv).mono fun e w' ⟨ν', v, h1, h2, h3⟩ => ⟨ν', v, h1, ?_, h3⟩
    refine Goes.trans h2 ((Goes.forget (lo := σ.nx) h2.sim fun n B hB => ?_).low h2.nx)
    exact restr_get (fun k hk => List.all_eq_true.1 ho k hk) (fun C hC => by simp [T.get] at hC) hB
  · cases h
theorem TreeOK.node {P : Program} {ρ : Rho} {g : FuncId} {args : List SV} {hp : T SBlk} {nx : Nat} {b : Bt} {t f : Tree} (ht : b.ev ρ = true → TreeOK P ρ g args hp nx t) (hf : b.ev ρ = false → TreeOK P ρ g args hp nx f) :
    TreeOK P ρ g args hp nx (.node b t f) := by
  intro r hp1 nx1 h
  simp only [Tree.at] at h
  cases hb : b.ev ρ <;> simp only [hb, cond_true, cond_false] at h
  · exact hf hb r hp1 nx1 h
  · exact ht hb r hp1 nx1 h
theorem TreeOK.bad {P : Program} {ρ : Rho} {g : FuncId} {args : List SV} {hp : T SBlk} {nx : Nat} : TreeOK P ρ g args hp nx .bad := fun r hp1 nx1 h => by simp [Tree.at] at h

def codeRun (P : Program) (rec : Rec) (nt L : Nat) (J : Jmp) (lp : Lps) (c : Code) (tm : T SV) (hp : T SBlk) (nx : Nat) (ds : List Bool) (keep : List Nat) : Option (Ex × T SV × List (Bt × Bool) × T SBlk × Nat) :=
  bif keep.all nameOk then
    match evCode P rec nt L J lp c tm ⟨hp, nx, ds, []⟩ with
    | some (e, tm1, σ) => some (e, tm1, σ.pc, restr keep σ.hp, σ.nx)
    | none => none
  else none
theorem CTreeOK.leaf {P : Program} (hP : Plainly P) (hm : P.follows .mixedOrders = true) {ρ : Rho} {rec : Rec} (hrec : CallOK P ρ rec) {nt L : Nat} {J : Jmp} (hJ : JmpOK P ρ nt J) {lp : Lps} {c : Code} (hl : LoopsOK P ρ nt lp c)
    {tm tm1 : T SV} {hp hp1 : T SBlk} {nx nx1 : Nat} {ds : List Bool} {keep : List Nat} {e : Ex} {pc : List (Bt × Bool)}
    (h : codeRun P rec nt L J lp c tm hp nx ds keep = some (e, tm1, pc, hp1, nx1)) (hk : pcok ρ pc) : CTreeOK P ρ nt c tm hp nx (.leaf e tm1 hp1 nx1) := by
  unfold codeRun at h
  cases ho : keep.all nameOk <;> simp only [ho, cond_true, cond_false] at h
  · cases h
  split at h
  · rename_i e' tm' σ hr
    simp only [Option.some.injEq, Prod.mk.injEq] at h
    obtain ⟨rfl, rfl, rfl, rfl, rfl⟩ := h
    intro e0 tm0 hp0 nx0 he ν w a Q hs hf hQ
    simp only [CTree.at, Option.some.injEq, Prod.mk.injEq] at he
    obtain ⟨rfl, rfl, rfl, rfl⟩ := he
    refine (evCode_sound hP hm hrec hJ c hl hr).2 hk hs hf fun ν' w' a' hg hfr hd => hQ ν' w' a' ?_ hfr hd
    refine Goes.trans hg ((Goes.forget (lo := σ.nx) hg.sim fun n B hB => ?_).low hg.nx)
    exact restr_get (fun k hk => List.all_eq_true.1 ho k hk) (fun C hC => by simp [T.get] at hC) hB
  · cases h
theorem CTreeOK.node {P : Program} {ρ : Rho} {nt : Nat} {c : Code} {tm : T SV} {hp : T SBlk} {nx : Nat} {b : Bt} {t f : CTree} (ht : b.ev ρ = true → CTreeOK P ρ nt c tm hp nx t) (hf : b.ev ρ = false → CTreeOK P ρ nt c tm hp nx f) :
    CTreeOK P ρ nt c tm hp nx (.node b t f) := by
  intro e tm1 hp1 nx1 h
  simp only [CTree.at] at h
  cases hb : b.ev ρ <;> simp only [hb, cond_true, cond_false] at h
  · exact hf hb e tm1 hp1 nx1 h
  · exact ht hb e tm1 hp1 nx1 h
theorem CTreeOK.bad {P : Program} {ρ : Rho} {nt : Nat} {c : Code} {tm : T SV} {hp : T SBlk} {nx : Nat} : CTreeOK P ρ nt c tm hp nx .bad := fun e tm1 hp1 nx1 h => by simp [CTree.at] at h
end Go.Eng
/- What a pattern's names stand for, found by looking. (Nothing is proved of it: treeRec and ctreeRec look again.) -/
namespace Go.Eng

def mTm (p a : Tm) (θ : Bind) : Bind := match p with
  | .var i => match assoc θ.var i with
    | some _ => θ
    | none => { θ with var := (i, a) :: θ.var }
  | _ => θ
def mNm (n m : Nat) (θ : Bind) : Bind := match assoc θ.name n with
  | some _ => θ
  | none => { θ with name := (n, m) :: θ.name }
mutual
def mSV (p a : SV) (θ : Bind) : Bind := match p, a with
  | .int _ x, .int _ y => mTm x y θ
  | .bool (.eq x (.lit 1)), .bool (.eq y _) => mTm x y θ
  | .ptr n x, .ptr m y => mNm n m (mTm x y θ)
  | .sl n x y c, .sl m u v d => mNm n m (mTm x u (mTm y v (match c, d with | .known e, .known f => mTm e f θ | _, _ => θ)))
  | .fn _ x y, .fn _ u v => mSVs x u (mSVs y v θ)
  | .iface _ x, .iface _ y => mSV x y θ
  | .agg l, .agg m => mSVs l m θ
  | .tup l, .tup m => mSVs l m θ
  | .flt x, .flt y => mTm x y θ
  | .cpx x y, .cpx u v => mTm x u (mTm y v θ)
  | _, _ => θ
def mSVs (p a : List SV) (θ : Bind) : Bind := match p, a with
  | x :: l, y :: m => mSVs l m (mSV x y θ)
  | _, _ => θ
end
def mBlk (p a : SBlk) (θ : Bind) : Bind := match p, a with
  | .cells l, .cells m => mSVs l m θ
  | .arr _ (some A) _ x, .arr _ b u y => mTm x y (match assoc θ.arr A with | some _ => θ | none => { θ with arr := (A, (b, u)) :: θ.arr })
  | .arr _ none _ x, .arr _ _ _ y => mTm x y θ
  | _, _ => θ
def mHp (hp H : T SBlk) : List Nat → Bind → Bind
  | [], θ => θ
  | k :: ks, θ => mHp hp H ks (match hp.get k, assoc θ.name k with
    | some B, some m => match H.get m with
      | some A => mBlk B A θ
      | none => θ
    | _, _ => θ)
def bind0 : Bind := ⟨[], [], []⟩
def mkBind (args : List SV) (hp : T SBlk) (nx : Nat) : List SV → St → Bind := fun l σ => mHp hp σ.hp (List.range nx) (mSVs args l bind0)
def mkBindC (nt : Nat) (tm : T SV) (hp : T SBlk) (nx : Nat) : T SV → St → Bind := fun t σ => mHp hp σ.hp (List.range nx) ((List.range nt).foldl (fun θ i => mSV (slot tm i) (slot t i) θ) bind0)
/-- a tree of a call, as a summary of one function -/
def sumOf (g : FuncId) (args : List SV) (hp : T SBlk) (nx : Nat) (tree : Tree) : Rec := treeRec g args hp nx tree (mkBind args hp nx)
end Go.Eng
/- Loops: one that keeps its names, and one told round by round. -/
namespace Go.Eng

theorem nu_sub_same {ν ν' : Nu} {θ : Bind} {nx : Nat} (hθ : θ.name = []) (ho : ∀ n, n < nx → ν' n = ν n) (hf : ∀ n, nx ≤ n → ν n = none) : ν'.sub θ nx = ν := by
  funext n
  by_cases h : n < nx
  · rw [Nu.sub_at h]
    have : θ.nm n = n := by simp [Bind.nm, hθ, assoc]
    rw [this, ho n h]
  · rw [Nu.sub_out (by omega), hf n (by omega)]

/-- a round of a loop, from a pattern to the same pattern -/
theorem CTreeOK.again {P : Program} {ρ : Rho} {nt : Nat} {c : Code} {tm : T SV} {hp : T SBlk} {nx : Nat} {tm1 : T SV} {hp1 : T SBlk} {nx1 : Nat} {θ : Bind} {tmx : T SV} {e : Ex}
    (h : CTreeOK P ρ nt c tm hp nx (.leaf e tm1 hp1 nx1)) (hθ : θ.name = []) (hout : ∀ t, nt ≤ t → slot tmx t = undefS) (f1 : tmsFit θ nx nt tmx tm1 = true) (f2 : hpFit θ nx hp hp1 = true)
    {ν : Nu} {w : World} {a : Act} {Q : Exit → Act → World → Prop} (hs : Sim ρ ν (fun n => hp.get n) nx w) (hf : FrR ρ ν nt tm a.tmps)
    (hQ : ∀ w' a', Sim (ρ.sub θ) ν (fun n => hp.get n) nx w' → FrR (ρ.sub θ) ν nt tmx a'.tmps → Fr (foot ν fun n => hp.get n) w w' → a'.defers = a.defers → Q e.out a' w') : c.wp P Q a w := by
  refine h e tm1 hp1 nx1 rfl hs hf fun ν' w' a' g fr d => ?_
  have hν := nu_sub_same (ν := ν) (ν' := ν') hθ g.old hs.fresh
  have s1 := (hpFit_sim f2 g.sim).1
  have s2 := tmsFit_R f1 fr hout
  rw [hν] at s1 s2
  exact hQ w' a' s1 s2 g.fr d

theorem CTreeOK.loop {P : Program} {ρ : Rho} {nt : Nat} {c : Code} {tm tmx : T SV} {hp : T SBlk} {nx : Nat} {e : Ex} (he : ∀ a w (Q : Exit → Act → World → Prop) (R : Act → World → Prop), Q e.out a w → Exit.then R Q e.out a w)
    (J : Nat → Rho → Prop) (n0 : Nat) (hJ : J n0 ρ)
    (hb : ∀ n ρ1, J n ρ1 → ∀ {ν : Nu} {w : World} {a : Act} {Q : Exit → Act → World → Prop}, Sim ρ1 ν (fun n => hp.get n) nx w → FrR ρ1 ν nt tm a.tmps →
      (∀ ρ2 n2 w' a', n2 < n → J n2 ρ2 → Sim ρ2 ν (fun n => hp.get n) nx w' → FrR ρ2 ν nt tm a'.tmps → Fr (foot ν fun n => hp.get n) w w' → a'.defers = a.defers → Q .normal a' w') →
      (∀ w' a', Sim ρ ν (fun n => hp.get n) nx w' → FrR ρ ν nt tmx a'.tmps → Fr (foot ν fun n => hp.get n) w w' → a'.defers = a.defers → Q e.out a' w') → c.wp P Q a w) :
    CTreeOK P ρ nt (.loop c) tm hp nx (.leaf e tmx hp nx) := by
  intro e1 tm1 hp1 nx1 h ν w a Q hs hf hQ
  simp only [CTree.at, Option.some.injEq, Prod.mk.injEq] at h
  obtain ⟨rfl, rfl, rfl, rfl⟩ := h
  have ftr : ∀ {w1 w2 : World}, Fr (foot ν fun n => hp.get n) w w1 → Fr (foot ν fun n => hp.get n) w1 w2 → Fr (foot ν fun n => hp.get n) w w2 := fun {w1 w2} x y =>
    ⟨y.os.trans x.os, y.tape.trans x.tape, y.output.trans x.output, Nat.le_trans x.size y.size, fun k hk hn => by
      rw [y.block k (Nat.lt_of_lt_of_le hk x.size) hn, x.block k hk hn], fun k o h => (y.kind k o h).elim (fun h1 => x.kind k o h1) .inr⟩
  refine wp_loop_ghost (fun n a1 w1 => ∃ ρ1, J n ρ1 ∧ Sim ρ1 ν (fun n => hp.get n) nx w1 ∧ FrR ρ1 ν nt tm a1.tmps ∧ Fr (foot ν fun n => hp.get n) w w1 ∧ a1.defers = a.defers) n0
    ⟨ρ, hJ, hs, hf, Fr.refl _ _, rfl⟩ ?_
  rintro n a1 w1 ⟨ρ1, hJ1, s1, f1, fr1, d1⟩
  refine hb n ρ1 hJ1 s1 f1 (fun ρ2 n2 w' a' hn hJ2 s2 f2 fr2 d2 => ⟨n2, hn, ρ2, hJ2, s2, f2, ftr fr1 fr2, d2.trans d1⟩) fun w' a' s2 f2 fr2 d2 => he _ _ _ _ ?_
  exact hQ ν w' a' ⟨fun _ _ => rfl, Nu.le_refl _, s2, Nat.le_refl _, ftr fr1 fr2, fun _ hb => .inl hb⟩ f2 (d2.trans d1)

/-! a loop told round by round -/
/-- n rounds that end normally, then the memory that is kept -/
def roundsRun (P : Program) (rec : Rec) (nt L : Nat) (J : Jmp) (lp : Lps) (c : Code) : Nat → T SV → St → Option (T SV × St)
  | 0, tm, σ => some (tm, σ)
  | n + 1, tm, σ => match evCode P rec nt L J lp c tm σ with
    | some (.normal, tm', σ') => roundsRun P rec nt L J lp c n tm' σ'
    | _ => none
def SegOK (P : Program) (ρ : Rho) (nt : Nat) (c : Code) (n : Nat) (tm : T SV) (hp : T SBlk) (nx : Nat) (tm1 : T SV) (hp1 : T SBlk) (nx1 : Nat) : Prop :=
  ∀ {ν : Nu} {w : World} {a : Act} {Q : Exit → Act → World → Prop} {k : Nat}, Sim ρ ν (fun n => hp.get n) nx w → FrR ρ ν nt tm a.tmps →
    (∀ ν' w' a', Goes nx ρ ν (fun n => hp.get n) nx w ν' (fun n => hp1.get n) nx1 w' → FrR ρ ν' nt tm1 a'.tmps → a'.defers = a.defers → Code.rounds P c Q k a' w') → Code.rounds P c Q (k + n) a w
theorem SegOK.trans {P : Program} {ρ : Rho} {nt : Nat} {c : Code} {n m : Nat} {tm : T SV} {hp : T SBlk} {nx : Nat} {tm1 : T SV} {hp1 : T SBlk} {nx1 : Nat} {tm2 : T SV} {hp2 : T SBlk} {nx2 : Nat} (hx : nx ≤ nx1)
    (h : SegOK P ρ nt c n tm hp nx tm1 hp1 nx1) (g : SegOK P ρ nt c m tm1 hp1 nx1 tm2 hp2 nx2) : SegOK P ρ nt c (m + n) tm hp nx tm2 hp2 nx2 := by
  intro ν w a Q k hs hf hQ
  rw [← Nat.add_assoc]
  exact h hs hf fun ν1 w1 a1 g1 f1 d1 => g g1.sim f1 fun ν' w' a' g2 f2 d2 => hQ ν' w' a' (Goes.trans g1 (g2.low hx)) f2 (d2.trans d1)
theorem roundsRun_sound {P : Program} (hP : Plainly P) (hm : P.follows .mixedOrders = true) {ρ : Rho} {rec : Rec} (hrec : CallOK P ρ rec) {nt L : Nat} {J : Jmp} (hJ : JmpOK P ρ nt J) {lp : Lps} {c : Code} (hl : LoopsOK P ρ nt lp c) :
    ∀ (n : Nat) {tm : T SV} {σ : St} {tm' : T SV} {σ' : St}, roundsRun P rec nt L J lp c n tm σ = some (tm', σ') → (pcok ρ σ'.pc → pcok ρ σ.pc) ∧
      (pcok ρ σ'.pc → ∀ {ν : Nu} {w : World} {a : Act} {Q : Exit → Act → World → Prop} {k : Nat}, SimW ρ ν σ w → FrR ρ ν nt tm a.tmps →
        (∀ ν' w' a', GoesW ρ ν σ w ν' σ' w' → FrR ρ ν' nt tm' a'.tmps → a'.defers = a.defers → Code.rounds P c Q k a' w') → Code.rounds P c Q (k + n) a w)
  | 0, tm, σ, tm', σ', h => by
    simp only [roundsRun, Option.some.injEq, Prod.mk.injEq] at h
    obtain ⟨rfl, rfl⟩ := h
    exact ⟨id, fun _ ν w a Q k hs hf hQ => hQ ν w a (Goes.refl hs) hf rfl⟩
  | n + 1, tm, σ, tm', σ', h => by
    simp only [roundsRun] at h
    split at h
    · rename_i tm1 σ1 h1
      obtain ⟨m1, s1⟩ := evCode_sound hP hm hrec hJ c hl h1
      obtain ⟨m2, s2⟩ := roundsRun_sound hP hm hrec hJ hl n h
      refine ⟨fun hk => m1 (m2 hk), fun hk ν w a Q k hs hf hQ => ?_⟩
      rw [← Nat.add_assoc, rounds_succ]
      exact s1 (m2 hk) hs hf fun ν1 w1 a1 g1 f1 d1 => s2 hk g1.sim f1 fun ν' w' a' g f d => hQ ν' w' a' (GoesW.trans g1 g) f (d.trans d1)
    · cases h
def segRun (P : Program) (rec : Rec) (nt L : Nat) (J : Jmp) (lp : Lps) (c : Code) (n : Nat) (tm : T SV) (hp : T SBlk) (nx : Nat) (keep : List Nat) : Option (T SV × List (Bt × Bool) × T SBlk × Nat) :=
  bif keep.all nameOk then
    match roundsRun P rec nt L J lp c n tm ⟨hp, nx, [], []⟩ with
    | some (tm1, σ) => some (tm1, σ.pc, restr keep σ.hp, σ.nx)
    | none => none
  else none
theorem SegOK.run {P : Program} (hP : Plainly P) (hm : P.follows .mixedOrders = true) {ρ : Rho} {rec : Rec} (hrec : CallOK P ρ rec) {nt L : Nat} {J : Jmp} (hJ : JmpOK P ρ nt J) {lp : Lps} {c : Code} (hl : LoopsOK P ρ nt lp c)
    {n : Nat} {tm tm1 : T SV} {hp hp1 : T SBlk} {nx nx1 : Nat} {keep : List Nat} (h : segRun P rec nt L J lp c n tm hp nx keep = some (tm1, [], hp1, nx1)) : SegOK P ρ nt c n tm hp nx tm1 hp1 nx1 := by
  unfold segRun at h
  cases ho : keep.all nameOk <;> simp only [ho, cond_true, cond_false] at h
  · cases h
  split at h
  · rename_i tm' σ hr
    simp only [Option.some.injEq, Prod.mk.injEq] at h
    obtain ⟨rfl, hpc, rfl, rfl⟩ := h
    intro ν w a Q k hs hf hQ
    refine (roundsRun_sound hP hm hrec hJ hl n hr).2 (by rw [hpc]; exact pcok_nil) hs hf fun ν' w' a' hg hfr hd => hQ ν' w' a' ?_ hfr hd
    refine Goes.trans hg ((Goes.forget (lo := σ.nx) hg.sim fun n B hB => ?_).low hg.nx)
    exact restr_get (fun k hk => List.all_eq_true.1 ho k hk) (fun C hC => by simp [T.get] at hC) hB
  · cases h
/-- the last round leaves -/
theorem SegOK.loop {P : Program} {ρ : Rho} {nt : Nat} {c : Code} {n : Nat} {tm : T SV} {hp : T SBlk} {nx : Nat} {tm1 : T SV} {hp1 : T SBlk} {nx1 : Nat} {e : Ex} {tm2 : T SV} {hp2 : T SBlk} {nx2 : Nat} (hx : nx ≤ nx1)
    (he : ∀ a w (Q : Exit → Act → World → Prop) (R : Act → World → Prop), Q e.out a w → Exit.then R Q e.out a w)
    (h : SegOK P ρ nt c n tm hp nx tm1 hp1 nx1) (g : CTreeOK P ρ nt c tm1 hp1 nx1 (.leaf e tm2 hp2 nx2)) : CTreeOK P ρ nt (.loop c) tm hp nx (.leaf e tm2 hp2 nx2) := by
  intro e1 tm' hp' nx' hh ν w a Q hs hf hQ
  simp only [CTree.at, Option.some.injEq, Prod.mk.injEq] at hh
  obtain ⟨rfl, rfl, rfl, rfl⟩ := hh
  refine wp_loop_rounds (1 + n) (h hs hf fun ν1 w1 a1 g1 f1 d1 => ?_)
  rw [show 1 = 0 + 1 from rfl, rounds_succ]
  refine g _ _ _ _ rfl g1.sim f1 fun ν' w' a' g2 f2 d2 => he _ _ _ _ (hQ ν' w' a' (Goes.trans g1 (g2.low hx)) f2 (d2.trans d1))
theorem out_exit {i : Nat} (a : Act) (w : World) (Q : Exit → Act → World → Prop) (R : Act → World → Prop) (h : Q (Ex.exit i).out a w) : Exit.then R Q (Ex.exit i).out a w := h
theorem out_ret (a : Act) (w : World) (Q : Exit → Act → World → Prop) (R : Act → World → Prop) (h : Q Ex.ret.out a w) : Exit.then R Q Ex.ret.out a w := h
end Go.Eng
/- Runs of bodies, and of code that comes back to a pattern. -/
namespace Go.Eng

def exEq : Ex → Ex → Bool
  | .normal, .normal => true
  | .exit i, .exit j => Nat.beq i j
  | .ret, .ret => true
  | .goto i, .goto j => Nat.beq i j
  | _, _ => false
theorem exEq_eq {a b : Ex} (h : exEq a b = true) : a = b := by
  cases a <;> cases b <;> first | rfl | (simp only [exEq] at h; rw [Nat.eq_of_beq_eq_true h]) | (simp [exEq] at h)
def pcEq : List (Bt × Bool) → List (Bt × Bool) → Bool
  | [], [] => true
  | (a, x) :: l, (b, y) :: m => a.beq b && (x == y && pcEq l m)
  | _, _ => false
theorem pcEq_eq : ∀ {l m : List (Bt × Bool)}, pcEq l m = true → l = m
  | [], [], _ => rfl
  | (a, x) :: l, (b, y) :: m, h => by
    simp only [pcEq, Bool.and_eq_true, beq_iff_eq] at h
    rw [Bt.beq_sound h.1, h.2.1, pcEq_eq h.2.2]
  | [], _ :: _, h => by simp [pcEq] at h
  | _ :: _, [], h => by simp [pcEq] at h

/-- from a pattern back to it, by so many answers, that say this -/
def fitsRun (P : Program) (rec : Rec) (nt L : Nat) (J : Jmp) (lp : Lps) (c : Code) (tm : T SV) (hp : T SBlk) (nx : Nat) (ds : List Bool) (e : Ex) (pc : List (Bt × Bool)) (θ : Bind) (tmx : T SV) : Bool :=
  match evCode P rec nt L J lp c tm ⟨hp, nx, ds, []⟩ with
  | some (e', tm1, σ) => exEq e' e && (pcEq σ.pc pc && (tmsFit θ nx nt tmx tm1 && hpFit θ nx hp σ.hp))
  | none => false
theorem fitsRun_sound {P : Program} (hP : Plainly P) (hm : P.follows .mixedOrders = true) {ρ : Rho} {rec : Rec} (hrec : CallOK P ρ rec) {nt L : Nat} {J : Jmp} (hJ : JmpOK P ρ nt J) {lp : Lps} {c : Code} (hl : LoopsOK P ρ nt lp c)
    {tm : T SV} {hp : T SBlk} {nx : Nat} {ds : List Bool} {e : Ex} {pc : List (Bt × Bool)} {θ : Bind} {tmx : T SV}
    (h : fitsRun P rec nt L J lp c tm hp nx ds e pc θ tmx = true) (hk : pcok ρ pc) (hθ : θ.name = []) (hout : ∀ t, nt ≤ t → slot tmx t = undefS)
    {ν : Nu} {w : World} {a : Act} {Q : Exit → Act → World → Prop} (hs : Sim ρ ν (fun n => hp.get n) nx w) (hf : FrR ρ ν nt tm a.tmps)
    (hQ : ∀ w' a', Sim (ρ.sub θ) ν (fun n => hp.get n) nx w' → FrR (ρ.sub θ) ν nt tmx a'.tmps → Fr (foot ν fun n => hp.get n) w w' → a'.defers = a.defers → Q e.out a' w') : c.wp P Q a w := by
  unfold fitsRun at h
  split at h
  · rename_i e' tm1 σ hr
    simp only [Bool.and_eq_true] at h
    obtain ⟨h1, h2, h3, h4⟩ := h
    have := exEq_eq h1
    subst this
    have := pcEq_eq h2
    refine (evCode_sound hP hm hrec hJ c hl hr).2 (by rw [this]; exact hk) hs hf fun ν' w' a' g fr d => ?_
    have hν := nu_sub_same (ν := ν) (ν' := ν') hθ g.old hs.fresh
    have s1 := (hpFit_sim h4 g.sim).1
    have s2 := tmsFit_R h3 fr hout
    rw [hν] at s1 s2
    exact hQ w' a' s1 s2 g.fr d
  · cases h

/-! the loops that are told -/
def tolds (lp : Lps) : Code → List Code
  | .seq a b => tolds lp a ++ tolds lp b
  | .cond _ a b => tolds lp a ++ tolds lp b
  | .block _ a => tolds lp a
  | .scope a => tolds lp a
  | .loop c => match lp (firstReg c) with
    | some _ => [c]
    | none => tolds lp c
  | _ => []
theorem loopsOK_of {P : Program} {ρ : Rho} {nt : Nat} {lp : Lps} : ∀ {c : Code}, (∀ c' ∈ tolds lp c, ∀ F, lp (firstReg c') = some F → ∀ tm σ e tm' σ', F tm σ = some (e, tm', σ') → CodeOK P ρ nt (.loop c') tm σ e tm' σ') → LoopsOK P ρ nt lp c := by
  intro c
  induction c with
  | seq a b ha hb => exact fun h => ⟨ha fun c' hc => h c' (by simp [tolds, hc]), hb fun c' hc => h c' (by simp [tolds, hc])⟩
  | cond _ a b ha hb => exact fun h => ⟨ha fun c' hc => h c' (by simp [tolds, hc]), hb fun c' hc => h c' (by simp [tolds, hc])⟩
  | block _ a ha => exact fun h => ha fun c' hc => h c' (by simpa [tolds] using hc)
  | scope a ha => exact fun h => ha fun c' hc => h c' (by simpa [tolds] using hc)
  | loop c hc =>
    intro h
    simp only [LoopsOK]
    split
    · rename_i F hF
      exact h c (by simp [tolds, hF]) F hF
    · rename_i hF
      exact hc fun c' hc' => h c' (by simpa [tolds, hF] using hc')
  | _ => intro _; trivial
/-- the loop whose first region has a number -/
def loopAt (i : Nat) : Code → Option Code
  | .seq a b => match loopAt i a with | some c => some c | none => loopAt i b
  | .cond _ a b => match loopAt i a with | some c => some c | none => loopAt i b
  | .block _ a => loopAt i a
  | .scope a => loopAt i a
  | .loop c => match firstReg c with
    | some j => bif Nat.beq i j then some c else loopAt i c
    | none => loopAt i c
  | _ => none
def isAt (i : Nat) : Option Nat → Bool
  | some j => Nat.beq j i
  | none => false
/-- one loop is told -/
def lp1 (i : Nat) (F : T SV → St → Option (Ex × T SV × St)) : Lps := fun o => bif isAt i o then some F else none
theorem lp1_ok {P : Program} {ρ : Rho} {nt i : Nat} {F : T SV → St → Option (Ex × T SV × St)} {c c' : Code} (h : tolds (lp1 i F) c = [c']) (hF : ∀ tm σ e tm' σ', F tm σ = some (e, tm', σ') → CodeOK P ρ nt (.loop c') tm σ e tm' σ') :
    LoopsOK P ρ nt (lp1 i F) c := loopsOK_of fun d hd G hG => by
  rw [h] at hd
  rw [List.mem_singleton.1 hd] at hG ⊢
  unfold lp1 at hG
  cases hb : isAt i (firstReg c') <;> simp only [hb, cond_true, cond_false, Option.some.injEq] at hG
  · cases hG
  · subst hG; exact hF

/-- a body's run -/
def bodyRun (P : Program) (rec : Rec) (L : Nat) (lp : Lps) (g : FuncId) (args : List SV) (hp : T SBlk) (nx : Nat) (ds : List Bool) (keep : List Nat) : Option (SV × List (Bt × Bool) × T SBlk × Nat) :=
  bif keep.all nameOk then
    match P.funcs[g]? with
    | some fn => match evBody P rec L lp fn args ⟨hp, nx, ds, []⟩ with
      | some (r, σ) => some (r, σ.pc, restr keep σ.hp, σ.nx)
      | none => none
    | none => none
  else none
theorem TreeOK.body {P : Program} (hP : Plainly P) (hm : P.follows .mixedOrders = true) {ρ : Rho} {rec : Rec} (hrec : CallOK P ρ rec) {L : Nat} {lp : Lps} {g : FuncId} {args : List SV} {hp hp1 : T SBlk} {nx nx1 : Nat} {ds : List Bool} {keep : List Nat} {r : SV} {pc : List (Bt × Bool)}
    (hlp : ∀ fn c, P.funcs[g]? = some fn → fn.body = some c → LoopsOK P ρ (Nat.max args.length fn.ntmps) lp c)
    (h : bodyRun P rec L lp g args hp nx ds keep = some (r, pc, hp1, nx1)) (hk : pcok ρ pc) : TreeOK P ρ g args hp nx (.leaf r hp1 nx1) := by
  unfold bodyRun at h
  cases ho : keep.all nameOk <;> simp only [ho, cond_true, cond_false] at h
  · cases h
  split at h
  · rename_i fn hfn
    split at h
    · rename_i r' σ hr
      simp only [Option.some.injEq, Prod.mk.injEq] at h
      obtain ⟨rfl, rfl, rfl, rfl⟩ := h
      intro r0 hp0 nx0 he ν w vs hs hv
      simp only [Tree.at, Option.some.injEq, Prod.mk.injEq] at he
      obtain ⟨rfl, rfl, rfl⟩ := he
      refine ((evBody_sound hP hm hrec hfn (fun c hc => hlp fn c hfn hc) hr).2 hk hs hv).mono fun e w' ⟨ν', v, h1, h2, h3⟩ => ⟨ν', v, h1, ?_, h3⟩
      refine Goes.trans h2 ((Goes.forget (lo := σ.nx) h2.sim fun n B hB => ?_).low h2.nx)
      exact restr_get (fun k hk => List.all_eq_true.1 ho k hk) (fun C hC => by simp [T.get] at hC) hB
    · cases h
  · cases h

/-! segments of loops, of whose frame only some slots are told -/
def anyTm (ks : List Nat) (tm : T SV) : List Nat → T SV → T SV
  | [], t => t
  | k :: l, t => anyTm ks tm l (T.put 40 t k (some (bif ks.contains k then slot tm k else .any)))
theorem anyTm_slot {ks : List Nat} {tm : T SV} : ∀ {l : List Nat} {t : T SV}, (∀ k ∈ l, nameOk k = true) → ∀ j, slot (anyTm ks tm l t) j = slot t j ∨ slot (anyTm ks tm l t) j = slot tm j ∨ slot (anyTm ks tm l t) j = .any
  | [], t, _, j => .inl rfl
  | k :: l, t, ho, j => by
    simp only [anyTm]
    have hk := ho k (List.mem_cons_self ..)
    simp only [nameOk, Nat.blt_eq] at hk
    have hp : ∀ s, slot (T.put 40 t k (some s)) j = if j = k then s else slot t j := fun s => by
      simp only [slot]
      rw [T.get_put 40 _ _ _ _ (by omega)]
      split <;> rfl
    rcases anyTm_slot (ks := ks) (tm := tm) (l := l) (t := T.put 40 t k (some (bif ks.contains k then slot tm k else .any))) (fun q hq => ho q (List.mem_cons_of_mem _ hq)) j with h | h | h
    · rw [hp] at h
      by_cases e : j = k
      · rw [if_pos e] at h
        cases hc : ks.contains k <;> simp only [hc, cond_true, cond_false] at h
        · exact .inr (.inr (by simpa only [hc, cond_false] using h))
        · subst e; exact .inr (.inl (by simpa only [hc, cond_true] using h))
      · rw [if_neg e] at h
        exact .inl h
    · exact .inr (.inl h)
    · exact .inr (.inr h)
theorem anyTm_out {ks : List Nat} {tm : T SV} : ∀ {l : List Nat} {t : T SV}, (∀ k ∈ l, nameOk k = true) → ∀ j, j ∉ l → slot (anyTm ks tm l t) j = slot t j
  | [], t, _, j, _ => rfl
  | k :: l, t, ho, j, hj => by
    rw [List.mem_cons, not_or] at hj
    simp only [anyTm]
    have hk := ho k (List.mem_cons_self ..)
    simp only [nameOk, Nat.blt_eq] at hk
    rw [anyTm_out (fun q hq => ho q (List.mem_cons_of_mem _ hq)) j hj.2]
    simp only [slot]
    rw [T.get_put 40 _ _ _ _ (by omega), if_neg hj.1]
theorem anyTm_in {ks : List Nat} {tm : T SV} : ∀ {l : List Nat} {t : T SV}, (∀ k ∈ l, nameOk k = true) → ∀ j, j ∈ l → slot (anyTm ks tm l t) j = slot tm j ∨ slot (anyTm ks tm l t) j = .any
  | [], t, _, j, hj => by cases hj
  | k :: l, t, ho, j, hj => by
    simp only [anyTm]
    by_cases hl : j ∈ l
    · exact anyTm_in (fun q hq => ho q (List.mem_cons_of_mem _ hq)) j hl
    · rcases List.mem_cons.1 hj with e | e
      · subst e
        have hk := ho j (List.mem_cons_self ..)
        simp only [nameOk, Nat.blt_eq] at hk
        rw [anyTm_out (fun q hq => ho q (List.mem_cons_of_mem _ hq)) j hl]
        simp only [slot]
        rw [T.get_put 40 _ _ _ _ (by omega), if_pos rfl]
        cases hc : ks.contains j
        · exact .inr rfl
        · exact .inl rfl
      · exact absurd e hl
theorem anyTm_FrR {ρ : Rho} {ν : Nu} {nt : Nat} {ks : List Nat} {tm : T SV} {a : Array Value} (hn : Nat.ble nt 1000000 = true) (h : FrR ρ ν nt tm a) : FrR ρ ν nt (anyTm ks tm (List.range nt) .nil) a := by
  have hn' := Nat.le_of_ble_eq_true hn
  refine ⟨fun t s ht => ?_, h.size⟩
  simp only [look, Option.some.injEq] at ht
  subst ht
  have ho : ∀ k ∈ List.range nt, nameOk k = true := fun k hk => by have := List.mem_range.1 hk; simp only [nameOk, Nat.blt_eq]; omega
  by_cases hj : t < nt
  · rcases anyTm_slot (ks := ks) (tm := tm) (t := .nil) ho t with e | e | e
    · -- a slot below nt is laid
      have : slot (anyTm ks tm (List.range nt) .nil) t = undefS → (slot tm t).R ρ ν (a.getD t undef) → (slot (anyTm ks tm (List.range nt) .nil) t).R ρ ν (a.getD t undef) := fun e1 _ => by
        by_cases hz : (slot (anyTm ks tm (List.range nt) .nil) t).R ρ ν (a.getD t undef)
        · exact hz
        · exact absurd (anyTm_in ho t (List.mem_range.2 hj)) (by
            intro hx
            rcases hx with hx | hx
            · rw [hx] at hz; exact hz (h.slots t _ rfl)
            · rw [hx] at hz; exact hz (by simp only [SV.R]))
      exact this e (h.slots t _ rfl)
    · rw [e]; exact h.slots t _ rfl
    · rw [e]; simp only [SV.R]
  · rw [anyTm_out ho t (fun hx => hj (List.mem_range.1 hx))]
    have h0 : slot (.nil : T SV) t = undefS := rfl
    rw [h0]
    have hsz := h.size
    have : a.getD t undef = undef := by
      have : ¬ t < a.size := by omega
      simp [Array.getD, this]
    rw [this]; exact undefS_R _ _
def segRunA (P : Program) (rec : Rec) (nt L : Nat) (J : Jmp) (lp : Lps) (c : Code) (n : Nat) (tm : T SV) (hp : T SBlk) (nx : Nat) (keep ks : List Nat) : Option (T SV × List (Bt × Bool) × T SBlk × Nat) :=
  bif Nat.ble nt 1000000 then
  match segRun P rec nt L J lp c n tm hp nx keep with
  | some (tm1, x) => some (anyTm ks tm1 (List.range nt) .nil, x)
  | none => none
  else none
theorem SegOK.runA {P : Program} (hP : Plainly P) (hm : P.follows .mixedOrders = true) {ρ : Rho} {rec : Rec} (hrec : CallOK P ρ rec) {nt L : Nat} {J : Jmp} (hJ : JmpOK P ρ nt J) {lp : Lps} {c : Code} (hl : LoopsOK P ρ nt lp c)
    {n : Nat} {tm tm1 : T SV} {hp hp1 : T SBlk} {nx nx1 : Nat} {keep ks : List Nat} (h : segRunA P rec nt L J lp c n tm hp nx keep ks = some (tm1, [], hp1, nx1)) : SegOK P ρ nt c n tm hp nx tm1 hp1 nx1 := by
  unfold segRunA at h
  cases hn : Nat.ble nt 1000000 <;> simp only [hn, cond_true, cond_false] at h
  · cases h
  split at h
  · rename_i tm0 x hr
    obtain ⟨x1, x2, x3⟩ := x
    simp only [Option.some.injEq, Prod.mk.injEq] at h
    obtain ⟨rfl, rfl, rfl, rfl⟩ := h
    intro ν w a Q k hs hf hQ
    exact SegOK.run hP hm hrec hJ hl hr hs hf fun ν' w' a' g f d => hQ ν' w' a' g (anyTm_FrR hn f) d
  · cases h
/-- the last round, likewise -/
def codeRunA (P : Program) (rec : Rec) (nt L : Nat) (J : Jmp) (lp : Lps) (c : Code) (tm : T SV) (hp : T SBlk) (nx : Nat) (ds : List Bool) (keep ks : List Nat) : Option (Ex × T SV × List (Bt × Bool) × T SBlk × Nat) :=
  bif Nat.ble nt 1000000 then
  match codeRun P rec nt L J lp c tm hp nx ds keep with
  | some (e, tm1, x) => some (e, anyTm ks tm1 (List.range nt) .nil, x)
  | none => none
  else none
theorem CTreeOK.leafA {P : Program} (hP : Plainly P) (hm : P.follows .mixedOrders = true) {ρ : Rho} {rec : Rec} (hrec : CallOK P ρ rec) {nt L : Nat} {J : Jmp} (hJ : JmpOK P ρ nt J) {lp : Lps} {c : Code} (hl : LoopsOK P ρ nt lp c)
    {tm tm1 : T SV} {hp hp1 : T SBlk} {nx nx1 : Nat} {ds : List Bool} {keep ks : List Nat} {e : Ex} {pc : List (Bt × Bool)}
    (h : codeRunA P rec nt L J lp c tm hp nx ds keep ks = some (e, tm1, pc, hp1, nx1)) (hk : pcok ρ pc) : CTreeOK P ρ nt c tm hp nx (.leaf e tm1 hp1 nx1) := by
  unfold codeRunA at h
  cases hn : Nat.ble nt 1000000 <;> simp only [hn, cond_true, cond_false] at h
  · cases h
  split at h
  · rename_i e' tm0 x hr
    obtain ⟨x1, x2, x3⟩ := x
    simp only [Option.some.injEq, Prod.mk.injEq] at h
    obtain ⟨rfl, rfl, rfl, rfl, rfl⟩ := h
    have := CTreeOK.leaf hP hm hrec hJ hl hr hk
    intro e0 tm2 hp0 nx0 he ν w a Q hs hf hQ
    simp only [CTree.at, Option.some.injEq, Prod.mk.injEq] at he
    obtain ⟨rfl, rfl, rfl, rfl⟩ := he
    exact this _ _ _ _ rfl hs hf fun ν' w' a' g f d => hQ ν' w' a' g (anyTm_FrR hn f) d
  · cases h
end Go.Eng
/- Tables of summaries; frames told by lists. -/
namespace Go.Eng

theorem callOK_at {P : Program} {ρ : Rho} {f : Rec} (h : CallOK P ρ f) (g : FuncId) : CallOK P ρ (fun g' l σ => bif Nat.beq g' g then f g' l σ else none) := fun g' l σ r σ' hr => by
  cases hb : Nat.beq g' g <;> simp only [hb, cond_true, cond_false] at hr
  · cases hr
  · exact h g' l σ r σ' hr
def summOf (l : List (Nat × Rec)) : FuncId → Option Rec := fun g => assoc l g
theorem summOf_ok {P : Program} {ρ : Rho} : ∀ {l : List (Nat × Rec)}, (∀ p ∈ l, CallOK P ρ p.2) → ∀ g f, summOf l g = some f → CallOK P ρ (fun g' l σ => bif Nat.beq g' g then f g' l σ else none)
  | [], _, g, f, h => by simp [summOf, assoc] at h
  | (k, x) :: l, ha, g, f, h => by
    simp only [summOf, assoc] at h
    cases hb : Nat.beq k g <;> simp only [hb, cond_true, cond_false] at h
    · exact summOf_ok (fun p hp => ha p (List.mem_cons_of_mem _ hp)) g f h
    · simp only [Option.some.injEq] at h
      subst h
      exact callOK_at (ha (k, x) (List.mem_cons_self ..)) g
theorem sumOf_ok {P : Program} {ρ : Rho} {g : FuncId} {args : List SV} {hp : T SBlk} {nx : Nat} {tree : Tree} (h : ∀ ρ', TreeOK P ρ' g args hp nx tree) : CallOK P ρ (sumOf g args hp nx tree) :=
  treeRec_ok fun _ => h _
theorem all_nil {P : Program} {ρ : Rho} : ∀ p ∈ ([] : List (Nat × Rec)), CallOK P ρ p.2 := fun _ h => by cases h
theorem all_cons {P : Program} {ρ : Rho} {k : Nat} {x : Rec} {l : List (Nat × Rec)} (h : CallOK P ρ x) (hl : ∀ p ∈ l, CallOK P ρ p.2) : ∀ p ∈ (k, x) :: l, CallOK P ρ p.2 := fun p hp => by
  rcases List.mem_cons.1 hp with e | e
  · subst e; exact h
  · exact hl p e

def tmOfL (l : List (Nat × SV)) : List Nat → T SV → T SV
  | [], t => t
  | k :: r, t => tmOfL l r (T.put 40 t k (some (match assoc l k with | some s => s | none => .any)))
def tmOf (l : List (Nat × SV)) (nt : Nat) : T SV := tmOfL l (List.range nt) .nil
theorem tmOfL_out {l : List (Nat × SV)} : ∀ {r : List Nat} {t : T SV}, (∀ k ∈ r, nameOk k = true) → ∀ j, j ∉ r → slot (tmOfL l r t) j = slot t j
  | [], t, _, j, _ => rfl
  | k :: r, t, ho, j, hj => by
    rw [List.mem_cons, not_or] at hj
    simp only [tmOfL]
    have hk := ho k (List.mem_cons_self ..)
    simp only [nameOk, Nat.blt_eq] at hk
    rw [tmOfL_out (fun q hq => ho q (List.mem_cons_of_mem _ hq)) j hj.2]
    simp only [slot]
    rw [T.get_put 40 _ _ _ _ (by omega), if_neg hj.1]
theorem tmOf_out {l : List (Nat × SV)} {nt : Nat} (hn : Nat.ble nt 1000000 = true) : ∀ t, nt ≤ t → slot (tmOf l nt) t = undefS := fun t ht => by
  have hn' := Nat.le_of_ble_eq_true hn
  unfold tmOf
  rw [tmOfL_out (fun k hk => by have := List.mem_range.1 hk; simp only [nameOk, Nat.blt_eq]; omega) t (fun hx => by have := List.mem_range.1 hx; omega)]
  rfl
/-- the body of a function -/
def bodyOf (P : Program) (g : FuncId) : Code := match P.funcs[g]? with | some fn => (match fn.body with | some c => c | none => .skip) | none => .skip
def loopOf (P : Program) (g : FuncId) (i : Nat) : Code := match loopAt i (bodyOf P g) with | some c => c | none => .skip
def ntmpsOf (P : Program) (g : FuncId) : Nat := match P.funcs[g]? with | some fn => fn.ntmps | none => 0
theorem bodyOf_eq {P : Program} {g : FuncId} {fn : Func} {c : Code} (h : P.funcs[g]? = some fn) (hb : fn.body = some c) : c = bodyOf P g := by simp [bodyOf, h, hb]
theorem ntmpsOf_eq {P : Program} {g : FuncId} {fn : Func} (h : P.funcs[g]? = some fn) : fn.ntmps = ntmpsOf P g := by simp [ntmpsOf, h]
/-- the hypothesis on loops of a body's run, where one loop is told -/
theorem hlp1 {P : Program} {ρ : Rho} {g : FuncId} {i n nt : Nat} {F : T SV → St → Option (Ex × T SV × St)} (hn : Nat.max n (ntmpsOf P g) = nt) (h : tolds (lp1 i F) (bodyOf P g) = [loopOf P g i])
    (hF : ∀ tm σ e tm' σ', F tm σ = some (e, tm', σ') → CodeOK P ρ nt (.loop (loopOf P g i)) tm σ e tm' σ') :
    ∀ fn c, P.funcs[g]? = some fn → fn.body = some c → LoopsOK P ρ (Nat.max n fn.ntmps) (lp1 i F) c := fun fn c hf hb => by
  rw [bodyOf_eq hf hb, ntmpsOf_eq hf, hn]
  exact lp1_ok h hF
end Go.Eng
/- Loops that count. -/
namespace Go.Eng

def upd (ρ : Rho) (v : Nat) (i : Int) : Rho := { ρ with var := fun k => if k = v then i else ρ.var k }
def bNext (v : Nat) : Bind := ⟨[(v, .wrap .i64 (.add (.var v) (.lit 1)))], [], []⟩
def bZero (v : Nat) : Bind := ⟨[(v, .lit 0)], [], []⟩
theorem wrap_in {n : Int} (h0 : -9223372036854775808 ≤ n) (h1 : n ≤ 9223372036854775807) : IntKind.i64.wrap n = n := by
  rw [← wrapF_eq]; simp only [wrapF]; rw [if_pos ⟨h0, h1⟩]
theorem upd_next {ρ : Rho} {v : Nat} {i : Int} (h0 : 0 ≤ i) (h1 : i < 4611686018427387904) : (upd ρ v i).sub (bNext v) = upd ρ v (i + 1) := by
  have hw : IntKind.i64.wrap (i + 1) = i + 1 := wrap_in (by omega) (by omega)
  unfold upd Rho.sub bNext
  simp only [assoc, Rho.mk.injEq, and_self, and_true]
  funext k
  by_cases e : k = v
  · subst e
    simp [Bind.tm, assoc, Tm.ev, hw]
  · have : Nat.beq v k = false := by
      cases hb : Nat.beq v k with
      | false => rfl
      | true => exact absurd (Nat.eq_of_beq_eq_true hb).symm e
    simp [Bind.tm, assoc, this, Tm.ev, e]
theorem upd_zero {ρ : Rho} {v : Nat} {i : Int} (h0 : ρ.var v = 0) : (upd ρ v i).sub (bZero v) = ρ := by
  obtain ⟨a, b, c, d⟩ := ρ
  unfold upd Rho.sub bZero
  simp only [assoc, Rho.mk.injEq, and_self, and_true]
  funext k
  by_cases e : k = v
  · subst e
    simpa [Bind.tm, assoc, Tm.ev] using h0.symm
  · have : Nat.beq v k = false := by
      cases hb : Nat.beq v k with
      | false => rfl
      | true => exact absurd (Nat.eq_of_beq_eq_true hb).symm e
    simp [Bind.tm, assoc, this, Tm.ev, e]
theorem upd_same {ρ : Rho} {v : Nat} (h0 : ρ.var v = 0) : upd ρ v 0 = ρ := by
  obtain ⟨a, b, c, d⟩ := ρ
  unfold upd
  simp only [Rho.mk.injEq, and_self, and_true]
  funext k
  by_cases e : k = v
  · subst e; simpa using h0.symm
  · simp [e]
theorem btCases {p : Prop} (b : Bool) (ht : b = true → p) (hf : b = false → p) : p := by
  cases b
  · exact hf rfl
  · exact ht rfl
theorem CTreeOK.count {P : Program} {ρ : Rho} {nt : Nat} {c : Code} {tm tmx : T SV} {hp : T SBlk} {nx x : Nat} (v : Nat) (N : Int) (hN : N < 4611686018427387904) (h0 : ρ.var v = 0) (hp0 : 0 ≤ N)
    (hstep : ∀ i : Int, 0 ≤ i → i ≤ N → ∀ {ν : Nu} {w : World} {a : Act} {Q : Exit → Act → World → Prop}, Sim (upd ρ v i) ν (fun n => hp.get n) nx w → FrR (upd ρ v i) ν nt tm a.tmps →
      (i < N → ∀ w' a', Sim ((upd ρ v i).sub (bNext v)) ν (fun n => hp.get n) nx w' → FrR ((upd ρ v i).sub (bNext v)) ν nt tm a'.tmps → Fr (foot ν fun n => hp.get n) w w' → a'.defers = a.defers → Q Ex.normal.out a' w') →
      (∀ w' a', Sim ((upd ρ v i).sub (bZero v)) ν (fun n => hp.get n) nx w' → FrR ((upd ρ v i).sub (bZero v)) ν nt tmx a'.tmps → Fr (foot ν fun n => hp.get n) w w' → a'.defers = a.defers → Q (Ex.exit x).out a' w') → c.wp P Q a w) :
    CTreeOK P ρ nt (.loop c) tm hp nx (.leaf (.exit x) tmx hp nx) := by
  refine CTreeOK.loop out_exit (fun n ρ1 => ∃ i : Int, 0 ≤ i ∧ i ≤ N ∧ ρ1 = upd ρ v i ∧ n = (N - i).toNat) N.toNat ⟨0, Int.le_refl _, hp0, (upd_same h0).symm, by simp⟩ ?_
  rintro n ρ1 ⟨i, hi0, hi1, rfl, rfl⟩ ν w a Q hs hf hR hE
  refine hstep i hi0 hi1 hs hf (fun hlt w' a' s f fr d => ?_) fun w' a' s f fr d => ?_
  · have e := upd_next (ρ := ρ) (v := v) (i := i) hi0 (by omega)
    rw [e] at s f
    exact hR _ (N - (i + 1)).toNat w' a' (by omega) ⟨i + 1, by omega, by omega, rfl, rfl⟩ s f fr d
  · have e := upd_zero (i := i) h0
    rw [e] at s f
    exact hE w' a' s f fr d
theorem le_t {ρ : Rho} {a b : Tm} (h : (Bt.le a b).ev ρ = true) : a.ev ρ ≤ b.ev ρ := of_decide_eq_true h
theorem le_f {ρ : Rho} {a b : Tm} (h : (Bt.le a b).ev ρ = false) : ¬ a.ev ρ ≤ b.ev ρ := of_decide_eq_false h
theorem lt_t {ρ : Rho} {a b : Tm} (h : (Bt.lt a b).ev ρ = true) : a.ev ρ < b.ev ρ := of_decide_eq_true h
theorem lt_f {ρ : Rho} {a b : Tm} (h : (Bt.lt a b).ev ρ = false) : ¬ a.ev ρ < b.ev ρ := of_decide_eq_false h
theorem eq_t {ρ : Rho} {a b : Tm} (h : (Bt.eq a b).ev ρ = true) : a.ev ρ = b.ev ρ := by simpa [Bt.ev] using h
theorem eq_f {ρ : Rho} {a b : Tm} (h : (Bt.eq a b).ev ρ = false) : a.ev ρ ≠ b.ev ρ := by simpa [Bt.ev] using h
end Go.Eng
