/- The engine, part A: terms, values, memory by names, operations. Nothing of the program. -/
import GoSem.Core.Float
import Derived.Calls
import Derived.Orders
import Derived.LoopN
import Derived.Tactics
import Derived.KernelRfl
import Derived.Laws.Entries
import Derived.Laws.Build
import Derived.Laws.Cells
import Derived.Laws.AppendOwn
import Derived.Laws.CopyRow
import Derived.Laws.Small
import Derived.Laws.Pointers
import Derived.Laws.Unary
import Derived.Laws.Slices
import Derived.Laws.StructEq
import Derived.Laws.Tables
import Derived.Laws.Shifts
import Derived.Laws.Cover3
import Derived.WideLaws
import Derived.WalkSpells
import Derived.Laws.ByValue
/- Whole numbers below 2^53, as floats and back. -/
namespace Go.Eng
open Ieee

theorem cut_shift (way : Toward) (neg : Bool) (n d : Nat) (h : d ≤ (n <<< d).log2 + 2) : way.cut neg (n <<< d) d = n := by
  unfold Toward.cut
  have h1 : min d ((n <<< d).log2 + 2) = d := Nat.min_eq_left h
  simp only [h1]
  have h2 : (1 : Nat) <<< d = 2 ^ d := by simp [Nat.shiftLeft_eq]
  have h3 : n <<< d = n * 2 ^ d := Nat.shiftLeft_eq n d
  have hp : 0 < 2 ^ d := Nat.two_pow_pos d
  rw [h2, h3, Nat.mul_mod_left, Nat.mul_div_cancel _ hp]
  cases way <;> simp <;> omega

theorem double_nearest {n : Nat} (h0 : 0 < n) (h : n < 2 ^ 53) :
    Ieee.double.nearest false n 0 = (n.log2 + 1022) * 2 ^ 52 + n <<< (52 - n.log2) := by
  have hl : n.log2 ≤ 52 := by
    have := Nat.log2_lt (by omega : n ≠ 0) (k := 53)
    omega
  have e1 : Ieee.double.leastPlace = -1074 := by decide
  have e2 : Ieee.double.binade = 2 ^ 52 := rfl
  have e3 : Ieee.double.infRung = 2047 * 2 ^ 52 := by decide
  have hf : ((Ieee.double.fractionBits : Nat) : Int) = 52 := rfl
  have hn : n ≠ 0 := by omega
  unfold Format.nearest
  rw [if_neg hn]
  have hmax : max ((0 : Int) + (n.log2 : Int) - (Ieee.double.fractionBits : Nat)) Ieee.double.leastPlace = (n.log2 : Int) - 52 := by
    rw [e1, hf]; omega
  simp only [hmax]
  have k1 : ((0 : Int) - ((n.log2 : Int) - 52)).toNat = 52 - n.log2 := by omega
  have k2 : ((n.log2 : Int) - 52 - 0).toNat = 0 := by omega
  have k3 : ((n.log2 : Int) - 52 - Ieee.double.leastPlace).toNat = n.log2 + 1022 := by rw [e1]; omega
  rw [k1, k2, k3, e2, e3]
  have hc : Toward.even.cut false (n <<< (52 - n.log2)) 0 = n <<< (52 - n.log2) := by
    have := cut_shift .even false (n <<< (52 - n.log2)) 0 (by omega)
    simpa using this
  rw [hc]
  simp only [Format.word, Bool.false_eq_true, if_false]
  have hb : n <<< (52 - n.log2) < 2 ^ 53 := by
    rw [Nat.shiftLeft_eq]
    have h1 : n < 2 ^ (n.log2 + 1) := Nat.lt_log2_self
    calc n * 2 ^ (52 - n.log2) < 2 ^ (n.log2 + 1) * 2 ^ (52 - n.log2) := Nat.mul_lt_mul_of_pos_right h1 (Nat.two_pow_pos _)
      _ = 2 ^ 53 := by rw [← Nat.pow_add]; congr 1; omega
  rw [Nat.min_eq_left]
  generalize n <<< (52 - n.log2) = x at hb
  have p52 : (2 : Nat) ^ 52 = 4503599627370496 := by decide
  have p53 : (2 : Nat) ^ 53 = 9007199254740992 := by decide
  rw [p52]
  rw [p53] at hb
  omega

theorem f64_back {n : Nat} (h : n < 2 ^ 53) : (FloatKind.f64.decode (FloatKind.f64.nearest n)).toInt .zero = some (n : Int) := by
  have e0 : FloatKind.f64.nearest (n : Int) = Ieee.double.nearest false n 0 := by
    have : decide ((n : Int) < 0) = false := by simp
    simp only [FloatKind.nearest, FloatKind.encode, FloatKind.format, Format.write, this, Int.natAbs_natCast]
  have ed : ∀ b, FloatKind.f64.decode b = Ieee.double.read b := fun b => rfl
  rw [ed, e0]
  by_cases h0 : n = 0
  · subst h0; decide
  have hp : 0 < n := by omega
  rw [double_nearest hp h]
  have hl : n.log2 ≤ 52 := by
    have := Nat.log2_lt (by omega : n ≠ 0) (k := 53)
    omega
  generalize hk : n <<< (52 - n.log2) = kept
  have hlo : 2 ^ 52 ≤ kept := by
    rw [← hk, Nat.shiftLeft_eq]
    calc 2 ^ 52 = 2 ^ n.log2 * 2 ^ (52 - n.log2) := by rw [← Nat.pow_add]; congr 1; omega
      _ ≤ n * 2 ^ (52 - n.log2) := Nat.mul_le_mul_right _ (Nat.log2_self_le h0)
  have hhi : kept < 2 ^ 53 := by
    rw [← hk, Nat.shiftLeft_eq]
    calc n * 2 ^ (52 - n.log2) < 2 ^ (n.log2 + 1) * 2 ^ (52 - n.log2) := Nat.mul_lt_mul_of_pos_right Nat.lt_log2_self (Nat.two_pow_pos _)
      _ = 2 ^ 53 := by rw [← Nat.pow_add]; congr 1; omega
  have e1 : Ieee.double.leastPlace = -1074 := by decide
  have e2 : Ieee.double.binade = 4503599627370496 := by decide
  have e3 : Ieee.double.infRung = 9218868437227405312 := by decide
  have e4 : Ieee.double.signWeight = 9223372036854775808 := by decide
  have p52 : (2 : Nat) ^ 52 = 4503599627370496 := by decide
  have p53 : (2 : Nat) ^ 53 = 9007199254740992 := by decide
  rw [p52] at hlo ⊢
  rw [p53] at hhi
  generalize hL : n.log2 = L at hl hk
  have hdiv : ((L + 1022) * 4503599627370496 + kept) / 4503599627370496 = L + 1023 := by omega
  have hmod : ((L + 1022) * 4503599627370496 + kept) % 4503599627370496 = kept - 4503599627370496 := by omega
  have hread : Ieee.double.read ((L + 1022) * 4503599627370496 + kept) = .number false kept ((L : Int) - 52) := by
    unfold Format.read
    have a1 : ((L + 1022) * 4503599627370496 + kept) / 9223372036854775808 = 0 := by omega
    have a2 : ((L + 1022) * 4503599627370496 + kept) % 9223372036854775808 = (L + 1022) * 4503599627370496 + kept := by omega
    simp only [e1, e2, e3, e4, a1, a2, hdiv, hmod]
    rw [if_neg (by omega), if_pos (by omega)]
    have b1 : 4503599627370496 + (kept - 4503599627370496) = kept := by omega
    have b2 : (-1074 : Int) + ((L + 1023 - 1 : Nat) : Int) = (L : Int) - 52 := by omega
    rw [b1, b2]
    rfl
  rw [hread]
  have c1 : ((L : Int) - 52).toNat = 0 := by omega
  have c2 : (-((L : Int) - 52)).toNat = 52 - L := by omega
  simp only [Datum.toInt, Datum.integral, c1, c2, Nat.shiftLeft_zero]
  have hcut : Toward.zero.cut false kept (52 - L) = n := by
    rw [← hk]
    refine cut_shift .zero false n (52 - L) ?_
    rw [hk]
    have : kept.log2 = 52 := by
      have q1 : 52 ≤ kept.log2 := (Nat.le_log2 (by omega)).2 (by omega)
      have q2 : kept.log2 < 53 := (Nat.log2_lt (by omega)).2 (by omega)
      omega
    omega
  rw [hcut]
  simp [signed]
end Go.Eng
/- The engine's words: symbolic terms, values, memory by names. -/
namespace Go.Eng

/-- integer terms -/
inductive Tm where
  | lit (n : Int)
  | var (i : Nat)
  | add (a b : Tm)
  | sub (a b : Tm)
  | mul (a b : Tm)
  | tdiv (a b : Tm)
  | tmod (a b : Tm)
  | fdiv (a b : Tm)
  | bit (o : BinOp) (k : IntKind) (a b : Tm)
  | wrap (k : IntKind) (a : Tm)
  | sel (A : Nat) (i : Tm)
  | fn (f : Nat) (a b c : Tm)

/-- truth terms -/
inductive Bt where
  | lit (b : Bool)
  | lt (a b : Tm)
  | le (a b : Tm)
  | eq (a b : Tm)
  | not (b : Bt)
  | and (a b : Bt)
  | iff (a b : Bt)
  | fn (f : Nat) (a b c : Tm)

/-- what the names stand for -/
structure Rho where
  var : Nat → Int
  arr : Nat → Int → Int
  fn : Nat → Int → Int → Int → Int
  pr : Nat → Int → Int → Int → Bool

def Tm.ev (ρ : Rho) : Tm → Int
  | .lit n => n
  | .var i => ρ.var i
  | .add a b => a.ev ρ + b.ev ρ
  | .sub a b => a.ev ρ - b.ev ρ
  | .mul a b => a.ev ρ * b.ev ρ
  | .tdiv a b => (a.ev ρ).tdiv (b.ev ρ)
  | .tmod a b => (a.ev ρ).tmod (b.ev ρ)
  | .fdiv a b => (a.ev ρ).fdiv (b.ev ρ)
  | .bit o k a b => bits o k (a.ev ρ) (b.ev ρ)
  | .wrap k a => k.wrap (a.ev ρ)
  | .sel A i => ρ.arr A (i.ev ρ)
  | .fn f a b c => ρ.fn f (a.ev ρ) (b.ev ρ) (c.ev ρ)

def Bt.ev (ρ : Rho) : Bt → Bool
  | .lit b => b
  | .lt a b => decide (a.ev ρ < b.ev ρ)
  | .le a b => decide (a.ev ρ ≤ b.ev ρ)
  | .eq a b => a.ev ρ == b.ev ρ
  | .not b => !(b.ev ρ)
  | .and a b => a.ev ρ && b.ev ρ
  | .iff a b => a.ev ρ == b.ev ρ
  | .fn f a b c => ρ.pr f (a.ev ρ) (b.ev ρ) (c.ev ρ)

/-! equality, told by a Bool -/
def intEq : Int → Int → Bool
  | .ofNat m, .ofNat n => Nat.beq m n
  | .negSucc m, .negSucc n => Nat.beq m n
  | _, _ => false
theorem intEq_sound : ∀ {a b : Int}, intEq a b = true → a = b
  | .ofNat m, .ofNat n, h => by simp only [intEq] at h; rw [Nat.eq_of_beq_eq_true h]
  | .negSucc m, .negSucc n, h => by simp only [intEq] at h; rw [Nat.eq_of_beq_eq_true h]
  | .ofNat m, .negSucc n, h => by simp [intEq] at h
  | .negSucc m, .ofNat n, h => by simp [intEq] at h
def kindNo : IntKind → Nat
  | .i8 => 0 | .i16 => 1 | .i32 => 2 | .i64 => 3 | .u8 => 4 | .u16 => 5 | .u32 => 6 | .u64 => 7
theorem kindNo_inj : ∀ {a b : IntKind}, kindNo a = kindNo b → a = b := by
  intro a b h; cases a <;> cases b <;> first | rfl | simp [kindNo] at h
def kindEq (a b : IntKind) : Bool := Nat.beq (kindNo a) (kindNo b)
theorem kindEq_sound {a b : IntKind} (h : kindEq a b = true) : a = b := kindNo_inj (Nat.eq_of_beq_eq_true h)
def opEq (a b : BinOp) : Bool := Nat.beq a.ctorIdx b.ctorIdx
theorem opEq_sound {a b : BinOp} (h : opEq a b = true) : a = b := by
  have := Nat.eq_of_beq_eq_true h
  cases a <;> cases b <;> first | rfl | (simp [BinOp.ctorIdx] at this)

def Tm.beq : Tm → Tm → Bool
  | .lit a, .lit b => intEq a b
  | .var i, .var j => Nat.beq i j
  | .add a b, .add c d => a.beq c && b.beq d
  | .sub a b, .sub c d => a.beq c && b.beq d
  | .mul a b, .mul c d => a.beq c && b.beq d
  | .tdiv a b, .tdiv c d => a.beq c && b.beq d
  | .tmod a b, .tmod c d => a.beq c && b.beq d
  | .fdiv a b, .fdiv c d => a.beq c && b.beq d
  | .bit o k a b, .bit p l c d => opEq o p && kindEq k l && a.beq c && b.beq d
  | .wrap k a, .wrap l b => kindEq k l && a.beq b
  | .sel A i, .sel B j => Nat.beq A B && i.beq j
  | .fn f a b c, .fn g x y z => Nat.beq f g && a.beq x && b.beq y && c.beq z
  | _, _ => false
theorem Tm.beq_sound : ∀ {a b : Tm}, a.beq b = true → a = b := by
  intro a
  induction a with
  | lit n => intro b h; cases b <;> simp_all [Tm.beq]; exact intEq_sound h
  | var i => intro b h; cases b <;> simp_all [Tm.beq]
  | add x y hx hy => intro b h; cases b <;> simp_all [Tm.beq]; exact ⟨hx h.1, hy h.2⟩
  | sub x y hx hy => intro b h; cases b <;> simp_all [Tm.beq]; exact ⟨hx h.1, hy h.2⟩
  | mul x y hx hy => intro b h; cases b <;> simp_all [Tm.beq]; exact ⟨hx h.1, hy h.2⟩
  | tdiv x y hx hy => intro b h; cases b <;> simp_all [Tm.beq]; exact ⟨hx h.1, hy h.2⟩
  | tmod x y hx hy => intro b h; cases b <;> simp_all [Tm.beq]; exact ⟨hx h.1, hy h.2⟩
  | fdiv x y hx hy => intro b h; cases b <;> simp_all [Tm.beq]; exact ⟨hx h.1, hy h.2⟩
  | bit o k x y hx hy => intro b h; cases b <;> simp_all [Tm.beq]; exact ⟨opEq_sound h.1.1.1, kindEq_sound h.1.1.2, hx h.1.2, hy h.2⟩
  | wrap k x hx => intro b h; cases b <;> simp_all [Tm.beq]; exact ⟨kindEq_sound h.1, hx h.2⟩
  | sel A x hx => intro b h; cases b <;> simp_all [Tm.beq]; exact hx h.2
  | fn f x y z hx hy hz => intro b h; cases b <;> simp_all [Tm.beq]; exact ⟨hx h.1.1.2, hy h.1.2, hz h.2⟩

def Bt.beq : Bt → Bt → Bool
  | .lit a, .lit b => a == b
  | .lt a b, .lt c d => a.beq c && b.beq d
  | .le a b, .le c d => a.beq c && b.beq d
  | .eq a b, .eq c d => a.beq c && b.beq d
  | .not a, .not b => a.beq b
  | .and a b, .and c d => a.beq c && b.beq d
  | .iff a b, .iff c d => a.beq c && b.beq d
  | .fn f a b c, .fn g x y z => Nat.beq f g && a.beq x && b.beq y && c.beq z
  | _, _ => false
theorem Bt.beq_sound : ∀ {a b : Bt}, a.beq b = true → a = b := by
  intro a
  induction a with
  | lit x => intro b h; cases b <;> simp_all [Bt.beq]
  | lt x y => intro b h; cases b <;> simp_all [Bt.beq]; exact ⟨Tm.beq_sound h.1, Tm.beq_sound h.2⟩
  | le x y => intro b h; cases b <;> simp_all [Bt.beq]; exact ⟨Tm.beq_sound h.1, Tm.beq_sound h.2⟩
  | eq x y => intro b h; cases b <;> simp_all [Bt.beq]; exact ⟨Tm.beq_sound h.1, Tm.beq_sound h.2⟩
  | not x hx => intro b h; cases b <;> simp_all [Bt.beq]; exact hx h
  | and x y hx hy => intro b h; cases b <;> simp_all [Bt.beq]; exact ⟨hx h.1, hy h.2⟩
  | iff x y hx hy => intro b h; cases b <;> simp_all [Bt.beq]; exact ⟨hx h.1, hy h.2⟩
  | fn f x y z => intro b h; cases b <;> simp_all [Bt.beq]; exact ⟨Tm.beq_sound h.1.1.2, Tm.beq_sound h.1.2, Tm.beq_sound h.2⟩

/-! terms made, with what is known worked out -/
def wrapF (k : IntKind) (n : Int) : Int :=
  match k with
  | .i64 => if -9223372036854775808 ≤ n ∧ n ≤ 9223372036854775807 then n else IntKind.i64.wrap n
  | k => k.wrap n
theorem wrapF_eq (k : IntKind) (n : Int) : wrapF k n = k.wrap n := by
  cases k <;> simp only [wrapF]
  split
  · rename_i h
    simp only [IntKind.wrap, IntKind.bits, IntKind.signed, Bool.true_and]
    by_cases h2 : n % 2 ^ 64 ≥ 2 ^ (64 - 1)
    · rw [if_pos (by simpa using h2)]; omega
    · rw [if_neg (by simpa using h2)]; omega
  · rfl
def mAdd : Tm → Tm → Tm
  | .lit a, .lit b => .lit (a + b)
  | .add x (.lit a), .lit b => .add x (.lit (a + b))
  | x, .lit b => bif intEq b 0 then x else .add x (.lit b)
  | .lit a, y => bif intEq a 0 then y else .add y (.lit a)
  | x, y => .add x y
theorem mAdd_ev (ρ : Rho) (a b : Tm) : (mAdd a b).ev ρ = a.ev ρ + b.ev ρ := by
  unfold mAdd
  split <;> simp only [Tm.ev] <;> (try omega)
  · cases h : intEq _ 0 <;> simp only [cond_true, cond_false, Tm.ev]
    have := intEq_sound h; omega
  · cases h : intEq _ 0 <;> simp only [cond_true, cond_false, Tm.ev]
    · omega
    · have := intEq_sound h; omega
def mSub : Tm → Tm → Tm
  | .lit a, .lit b => .lit (a - b)
  | x, .lit b => mAdd x (.lit (-b))
  | x, y => .sub x y
theorem mSub_ev (ρ : Rho) (a b : Tm) : (mSub a b).ev ρ = a.ev ρ - b.ev ρ := by
  unfold mSub
  split <;> simp only [Tm.ev, mAdd_ev] <;> omega
def mMul : Tm → Tm → Tm
  | .lit a, .lit b => .lit (a * b)
  | x, .lit b => bif intEq b 1 then x else .mul x (.lit b)
  | x, y => .mul x y
theorem mMul_ev (ρ : Rho) (a b : Tm) : (mMul a b).ev ρ = a.ev ρ * b.ev ρ := by
  unfold mMul
  split <;> simp only [Tm.ev]
  cases h : intEq _ 1 <;> simp only [cond_true, cond_false, Tm.ev]
  have := intEq_sound h; subst this; omega
def mWrap (k : IntKind) : Tm → Tm
  | .lit a => .lit (wrapF k a)
  | x => .wrap k x
theorem mWrap_ev (ρ : Rho) (k : IntKind) (a : Tm) : (mWrap k a).ev ρ = k.wrap (a.ev ρ) := by
  unfold mWrap
  split <;> simp only [Tm.ev, wrapF_eq]
def bLt : Tm → Tm → Bt
  | .lit a, .lit b => .lit (decide (a < b))
  | x, y => .lt x y
theorem bLt_ev (ρ : Rho) (a b : Tm) : (bLt a b).ev ρ = decide (a.ev ρ < b.ev ρ) := by
  unfold bLt; split <;> rfl
def bLe : Tm → Tm → Bt
  | .lit a, .lit b => .lit (decide (a ≤ b))
  | x, y => .le x y
theorem bLe_ev (ρ : Rho) (a b : Tm) : (bLe a b).ev ρ = decide (a.ev ρ ≤ b.ev ρ) := by
  unfold bLe; split <;> rfl
def bEq : Tm → Tm → Bt
  | .lit a, .lit b => .lit (intEq a b)
  | x, y => bif x.beq y then .lit true else .eq x y
theorem intEq_iff (a b : Int) : intEq a b = (a == b) := by
  cases h : intEq a b
  · symm
    rw [beq_eq_false_iff_ne]
    rintro rfl
    cases a <;> simp [intEq] at h
  · rw [intEq_sound h]; simp
theorem bEq_ev (ρ : Rho) (a b : Tm) : (bEq a b).ev ρ = (a.ev ρ == b.ev ρ) := by
  unfold bEq
  split
  · simp only [Tm.ev, Bt.ev, intEq_iff]
  · cases h : Tm.beq _ _ <;> simp only [cond_true, cond_false, Bt.ev]
    rw [Tm.beq_sound h]; simp
def bNot : Bt → Bt
  | .lit b => .lit (!b)
  | .not b => b
  | b => .not b
theorem bNot_ev (ρ : Rho) (b : Bt) : (bNot b).ev ρ = !(b.ev ρ) := by
  unfold bNot; split <;> simp [Bt.ev]
def bAnd : Bt → Bt → Bt
  | .lit true, b => b
  | .lit false, _ => .lit false
  | a, .lit true => a
  | _, .lit false => .lit false
  | a, b => .and a b
theorem bAnd_ev (ρ : Rho) (a b : Bt) : (bAnd a b).ev ρ = (a.ev ρ && b.ev ρ) := by
  unfold bAnd; split <;> simp [Bt.ev]
def bIff : Bt → Bt → Bt
  | .lit true, b => b
  | .lit false, b => bNot b
  | a, .lit true => a
  | a, .lit false => bNot a
  | a, b => bif a.beq b then .lit true else .iff a b
theorem bIff_ev (ρ : Rho) (a b : Bt) : (bIff a b).ev ρ = (a.ev ρ == b.ev ρ) := by
  unfold bIff
  split
  · simp [Bt.ev]
  · simp [Bt.ev, bNot_ev]
  · simp [Bt.ev]
  · simp [Bt.ev, bNot_ev]
  · cases h : Bt.beq a b
    · simp [Bt.ev]
    · rw [Bt.beq_sound h]; simp [Bt.ev]

/-! values -/
/-- how much room a slice has: known, or so that it ends with its block (elements of s cells) -/
inductive Cap where
  | known (t : Tm)
  | room (s : Nat)

inductive SV where
  | bool (b : Bt)
  | int (k : IntKind) (t : Tm)
  | nilp
  | ptr (n : Nat) (off : Tm)
  | sl (n : Nat) (off len : Tm) (cap : Cap)
  | slz
  | nils
  | fn (f : Fn) (first caps : List SV)
  | nilf
  | iface (t : TypeId) (v : SV)
  | nili
  | agg (cs : List SV)
  | tup (vs : List SV)
  | flt (t : Tm)
  | cpx (t u : Tm)
  | any
  | unk (k : IntKind)
  | raw (v : Value)

/-- names to blocks, and how many cells these have -/
abbrev Nu := Nat → Option (Nat × Nat)

mutual
def SV.R (ρ : Rho) (ν : Nu) : SV → Value → Prop
  | .bool b, v => v = .bool (b.ev ρ)
  | .int k t, v => v = .int k (t.ev ρ)
  | .nilp, v => v = .pointer none
  | .ptr n off, v => ∃ b m o : Nat, ν n = some (b, m) ∧ off.ev ρ = (o : Int) ∧ v = .pointer (some ⟨b, o, none⟩)
  | .sl n off len cap, v => ∃ b m o l c : Nat, ν n = some (b, m) ∧ off.ev ρ = (o : Int) ∧ len.ev ρ = (l : Int) ∧ l ≤ c ∧
      (match cap with | .known t => t.ev ρ = (c : Int) | .room s => o + c * s ≤ m) ∧ v = .slice (some ⟨b, o, none⟩) l c
  | .slz, v => ∃ a c, v = .slice (some a) 0 c
  | .nils, v => v = .slice none 0 0
  | .fn f a c, v => ∃ as cs : Array Value, v = .func f as cs ∧ RL ρ ν a as.toList ∧ RL ρ ν c cs.toList
  | .nilf, v => v = .nilFunc
  | .iface t x, v => ∃ y, v = .iface t y ∧ x.R ρ ν y
  | .nili, v => v = .nilIface
  | .agg l, v => ∃ vs : Array Value, v = .agg vs ∧ RL ρ ν l vs.toList
  | .tup l, v => ∃ vs : Array Value, v = .tuple vs ∧ RL ρ ν l vs.toList
  | .flt t, v => ∃ n : Nat, n < 2 ^ 53 ∧ t.ev ρ = (n : Int) ∧ v = .float .f64 (FloatKind.f64.nearest n)
  | .cpx t u, v => ∃ n m : Nat, n < 2 ^ 53 ∧ m < 2 ^ 53 ∧ t.ev ρ = (n : Int) ∧ u.ev ρ = (m : Int) ∧ v = .complex .f64 (FloatKind.f64.nearest n) (FloatKind.f64.nearest m)
  | .any, _ => True
  | .unk k, v => ∃ n : Int, v = .int k n
  | .raw u, v => v = u
def RL (ρ : Rho) (ν : Nu) : List SV → List Value → Prop
  | [], l => l = []
  | s :: ss, l => ∃ v vs, l = v :: vs ∧ s.R ρ ν v ∧ RL ρ ν ss vs
end

/-- more names are told -/
def Nu.le (ν ν' : Nu) : Prop := ∀ n x, ν n = some x → ν' n = some x
theorem Nu.le_refl (ν : Nu) : ν.le ν := fun _ _ h => h
theorem Nu.le_trans {a b c : Nu} (h : a.le b) (k : b.le c) : a.le c := fun n x e => k n x (h n x e)

mutual
theorem SV.R_mono {ρ : Rho} {ν ν' : Nu} (h : ν.le ν') : ∀ {s : SV} {v : Value}, s.R ρ ν v → s.R ρ ν' v
  | .bool _, _, e => e
  | .int _ _, _, e => e
  | .nilp, _, e => e
  | .ptr _ _, _, e => by
    simp only [SV.R] at e ⊢
    obtain ⟨b, m, o, h1, h2⟩ := e
    exact ⟨b, m, o, h _ _ h1, h2⟩
  | .sl _ _ _ _, _, e => by
    simp only [SV.R] at e ⊢
    obtain ⟨b, m, o, l, c, h1, h2⟩ := e
    exact ⟨b, m, o, l, c, h _ _ h1, h2⟩
  | .slz, _, e => e
  | .nils, _, e => e
  | .fn _ _ _, _, e => by
    simp only [SV.R] at e ⊢
    obtain ⟨as, cs, rfl, h1, h2⟩ := e
    exact ⟨as, cs, rfl, RL_mono h h1, RL_mono h h2⟩
  | .nilf, _, e => e
  | .iface _ _, _, e => by
    simp only [SV.R] at e ⊢
    obtain ⟨y, rfl, h1⟩ := e
    exact ⟨y, rfl, SV.R_mono h h1⟩
  | .nili, _, e => e
  | .agg _, _, e => by
    simp only [SV.R] at e ⊢
    obtain ⟨as, rfl, h1⟩ := e
    exact ⟨as, rfl, RL_mono h h1⟩
  | .tup _, _, e => by
    simp only [SV.R] at e ⊢
    obtain ⟨as, rfl, h1⟩ := e
    exact ⟨as, rfl, RL_mono h h1⟩
  | .flt _, _, e => e
  | .cpx _ _, _, e => e
  | .any, _, _ => by simp only [SV.R]
  | .unk _, _, e => e
  | .raw _, _, e => e
theorem RL_mono {ρ : Rho} {ν ν' : Nu} (h : ν.le ν') : ∀ {s : List SV} {v : List Value}, RL ρ ν s v → RL ρ ν' s v
  | [], _, e => e
  | _ :: _, _, e => by
    simp only [RL] at e ⊢
    obtain ⟨v, vs, rfl, h1, h2⟩ := e
    exact ⟨v, vs, rfl, SV.R_mono h h1, RL_mono h h2⟩
end
end Go.Eng
/- The engine's memory: names, blocks, how a world fits them, and what steps do to it. -/
namespace Go.Eng

/-! a tree by numbers -/
inductive T (α : Type) where
  | nil
  | node (v : Option α) (l r : T α)
def T.get {α : Type} : T α → Nat → Option α
  | .nil, _ => none
  | .node v l r, k => bif Nat.beq k 0 then v else bif Nat.beq (k % 2) 1 then l.get (k / 2) else r.get (k / 2 - 1)
def T.put {α : Type} : Nat → T α → Nat → Option α → T α
  | 0, t, _, _ => t
  | f + 1, .nil, k, a => bif Nat.beq k 0 then .node a .nil .nil else bif Nat.beq (k % 2) 1 then .node none (T.put f .nil (k / 2) a) .nil else .node none .nil (T.put f .nil (k / 2 - 1) a)
  | f + 1, .node v l r, k, a => bif Nat.beq k 0 then .node a l r else bif Nat.beq (k % 2) 1 then .node v (T.put f l (k / 2) a) r else .node v l (T.put f r (k / 2 - 1) a)
theorem T.get_nil {α : Type} (k : Nat) : (T.nil : T α).get k = none := rfl
theorem T.get_put {α : Type} : ∀ (f : Nat) (t : T α) (k : Nat) (a : Option α) (j : Nat), k + 1 < 2 ^ f → (T.put f t k a).get j = if j = k then a else t.get j := by
  intro f
  induction f with
  | zero => intro t k a j h; simp at h
  | succ f ih =>
    intro t k a j h
    have hp : 2 ^ (f + 1) = 2 * 2 ^ f := by rw [Nat.pow_succ]; omega
    have b0 : ∀ x : Nat, Nat.beq x 0 = decide (x = 0) := fun x => by cases x <;> rfl
    have b1 : ∀ x : Nat, Nat.beq x 1 = decide (x = 1) := fun x => by
      by_cases e : x = 1
      · subst e; rfl
      · rw [decide_eq_false e]; exact Bool.eq_false_iff.2 fun hb => e (Nat.eq_of_beq_eq_true hb)
    cases t with
    | nil =>
      simp only [T.put, b0, b1]
      by_cases k0 : k = 0
      · subst k0
        by_cases j0 : j = 0
        · subst j0; simp [T.get]
        · simp [T.get, b0, b1, j0]
      · by_cases k1 : k % 2 = 1
        · simp only [k0, k1, decide_false, decide_true, cond_true, cond_false]
          simp only [T.get, b0, b1]
          by_cases j0 : j = 0
          · subst j0; simp; omega
          · by_cases j1 : j % 2 = 1
            · simp only [j0, j1, decide_false, decide_true, cond_true, cond_false]
              rw [ih _ _ _ _ (by omega)]
              simp only [T.get]
              have : (j / 2 = k / 2) ↔ j = k := by omega
              simp only [this]
            · simp only [j0, j1, decide_false, cond_false]
              rw [if_neg (by omega)]
        · simp only [k0, k1, decide_false, cond_false]
          simp only [T.get, b0, b1]
          by_cases j0 : j = 0
          · subst j0; simp; omega
          · by_cases j1 : j % 2 = 1
            · simp only [j0, j1, decide_false, decide_true, cond_true, cond_false]
              rw [if_neg (by omega)]
            · simp only [j0, j1, decide_false, cond_false]
              rw [ih _ _ _ _ (by omega)]
              simp only [T.get]
              have : (j / 2 - 1 = k / 2 - 1) ↔ j = k := by omega
              simp only [this]
    | node v l r =>
      simp only [T.put, b0, b1]
      by_cases k0 : k = 0
      · subst k0
        by_cases j0 : j = 0
        · subst j0; simp [T.get]
        · simp [T.get, b0, b1, j0]
      · by_cases k1 : k % 2 = 1
        · simp only [k0, k1, decide_false, decide_true, cond_true, cond_false]
          simp only [T.get, b0, b1]
          by_cases j0 : j = 0
          · subst j0; simp; omega
          · by_cases j1 : j % 2 = 1
            · simp only [j0, j1, decide_false, decide_true, cond_true, cond_false]
              rw [ih _ _ _ _ (by omega)]
              have : (j / 2 = k / 2) ↔ j = k := by omega
              simp only [this]
            · simp only [j0, j1, decide_false, cond_false]
              rw [if_neg (by omega)]
        · simp only [k0, k1, decide_false, cond_false]
          simp only [T.get, b0, b1]
          by_cases j0 : j = 0
          · subst j0; simp; omega
          · by_cases j1 : j % 2 = 1
            · simp only [j0, j1, decide_false, decide_true, cond_true, cond_false]
              rw [if_neg (by omega)]
            · simp only [j0, j1, decide_false, cond_false]
              rw [ih _ _ _ _ (by omega)]
              have : (j / 2 - 1 = k / 2 - 1) ↔ j = k := by omega
              simp only [this]

/-! blocks -/
inductive SBlk where
  | cells (l : List SV)
  | arr (k : IntKind) (base : Option Nat) (ups : List (Tm × Tm)) (len : Tm)

def arrEv (ρ : Rho) (base : Option Nat) : List (Tm × Tm) → Int → Int
  | [], i => match base with | none => 0 | some A => ρ.arr A i
  | (x, v) :: r, i => if i = x.ev ρ then v.ev ρ else arrEv ρ base r i

def SBlk.R (ρ : Rho) (ν : Nu) : SBlk → Array Value → Prop
  | .cells l, c => ∃ vs rest, RL ρ ν l vs ∧ c.toList = vs ++ rest
  | .arr k base ups len, c => len.ev ρ = (c.size : Int) ∧ ∀ i : Nat, i < c.size → c[i]? = some (.int k (arrEv ρ base ups i))
theorem SBlk.R_mono {ρ : Rho} {ν ν' : Nu} (h : ν.le ν') {B : SBlk} {c : Array Value} (e : B.R ρ ν c) : B.R ρ ν' c := by
  cases B with
  | cells l => obtain ⟨vs, rest, h1, h2⟩ := e; exact ⟨vs, rest, RL_mono h h1, h2⟩
  | arr k base ups len => exact e

abbrev Hp := Nat → Option SBlk
def Hp.set (h : Hp) (n : Nat) (B : Option SBlk) : Hp := fun m => if m = n then B else h m

structure Sim (ρ : Rho) (ν : Nu) (h : Hp) (nx : Nat) (w : World) : Prop where
  blk : ∀ n B, h n = some B → ∃ b c ty, ν n = some (b, c.size) ∧ w.heap[b]? = some (.cells c ty (0, 0)) ∧ B.R ρ ν c
  inj : ∀ n n' b m m', (h n).isSome → (h n').isSome → ν n = some (b, m) → ν n' = some (b, m') → n = n'
  fresh : ∀ n, nx ≤ n → ν n = none

def foot (ν : Nu) (h : Hp) (b : Nat) : Prop := ∃ n m, (h n).isSome = true ∧ ν n = some (b, m)

/-- outside S the worlds agree -/
structure Fr (S : Nat → Prop) (w w' : World) : Prop where
  os : w'.os = w.os
  tape : w'.tape = w.tape
  output : w'.output = w.output
  size : w.heap.size ≤ w'.heap.size
  block : ∀ b, b < w.heap.size → ¬ S b → w'.heap[b]? = w.heap[b]?
  kind : ∀ (b : Nat) (o : Obj), w'.heap[b]? = some o → w.heap[b]? = some o ∨ ∃ c ty, o = .cells c ty (0, 0)

structure Goes (lo : Nat) (ρ : Rho) (ν : Nu) (h : Hp) (nx : Nat) (w : World) (ν' : Nu) (h' : Hp) (nx' : Nat) (w' : World) : Prop where
  old : ∀ n, n < lo → ν' n = ν n
  le : ν.le ν'
  sim : Sim ρ ν' h' nx' w'
  nx : nx ≤ nx'
  fr : Fr (foot ν h) w w'
  foot : ∀ b, foot ν' h' b → foot ν h b ∨ w.heap.size ≤ b

theorem Fr.refl (S : Nat → Prop) (w : World) : Fr S w w := ⟨rfl, rfl, rfl, Nat.le_refl _, fun _ _ _ => rfl, fun _ _ h => .inl h⟩
theorem Goes.refl {lo : Nat} {ρ : Rho} {ν : Nu} {h : Hp} {nx : Nat} {w : World} (s : Sim ρ ν h nx w) : Goes lo ρ ν h nx w ν h nx w :=
  ⟨fun _ _ => rfl, Nu.le_refl _, s, Nat.le_refl _, Fr.refl _ _, fun _ hb => .inl hb⟩
theorem Goes.low {lo lo' : Nat} {ρ : Rho} {ν ν' : Nu} {h h' : Hp} {nx nx' : Nat} {w w' : World} (a : Goes lo ρ ν h nx w ν' h' nx' w') (hl : lo' ≤ lo) : Goes lo' ρ ν h nx w ν' h' nx' w' :=
  ⟨fun n hn => a.old n (Nat.lt_of_lt_of_le hn hl), a.le, a.sim, a.nx, a.fr, a.foot⟩
theorem Goes.trans {lo : Nat} {ρ : Rho} {ν ν' ν'' : Nu} {h h' h'' : Hp} {nx nx' nx'' : Nat} {w w' w'' : World} (a : Goes lo ρ ν h nx w ν' h' nx' w')
    (b : Goes lo ρ ν' h' nx' w' ν'' h'' nx'' w'') : Goes lo ρ ν h nx w ν'' h'' nx'' w'' where
  old := fun n hn => (b.old n hn).trans (a.old n hn)
  le := Nu.le_trans a.le b.le
  sim := b.sim
  nx := Nat.le_trans a.nx b.nx
  fr := ⟨b.fr.os.trans a.fr.os, b.fr.tape.trans a.fr.tape, b.fr.output.trans a.fr.output, Nat.le_trans a.fr.size b.fr.size, fun k hk hn => by
    rw [b.fr.block k (Nat.lt_of_lt_of_le hk a.fr.size) (fun hf => (a.foot k hf).elim hn (fun hle => by omega)), a.fr.block k hk hn], fun k o h => (b.fr.kind k o h).elim (fun h1 => a.fr.kind k o h1) .inr⟩
  foot := fun k hk => (b.foot k hk).elim (fun h1 => (a.foot k h1).elim .inl (fun h2 => .inr h2)) (fun h1 => .inr (Nat.le_trans a.fr.size h1))

theorem Sim.block_lt {ρ : Rho} {ν : Nu} {h : Hp} {nx : Nat} {w : World} (s : Sim ρ ν h nx w) {b : Nat} (hb : foot ν h b) : b < w.heap.size := by
  obtain ⟨n, m, hn, hν⟩ := hb
  obtain ⟨B, hB⟩ := Option.isSome_iff_exists.1 hn
  obtain ⟨b', c, ty, h1, h2, _⟩ := s.blk n B hB
  rw [hν] at h1
  cases h1
  exact (Array.getElem?_eq_some_iff.1 h2).1

/-- forget some blocks -/
theorem Goes.forget {lo : Nat} {ρ : Rho} {ν : Nu} {h h' : Hp} {nx : Nat} {w : World} (s : Sim ρ ν h nx w) (hh : ∀ n B, h' n = some B → h n = some B) :
    Goes lo ρ ν h nx w ν h' nx w := by
  have hs : ∀ n, (h' n).isSome = true → (h n).isSome = true := fun n hn => by
    obtain ⟨B, hB⟩ := Option.isSome_iff_exists.1 hn
    simp [hh n B hB]
  exact ⟨fun _ _ => rfl, Nu.le_refl _, ⟨fun n B hB => s.blk n B (hh n B hB), fun n n' b m m' h1 h2 => s.inj n n' b m m' (hs n h1) (hs n' h2), s.fresh⟩, Nat.le_refl _, Fr.refl _ _,
    fun b ⟨n, m, h1, h2⟩ => .inl ⟨n, m, hs n h1, h2⟩⟩

/-- a draw -/
theorem Goes.drew {lo : Nat} {ρ : Rho} {ν : Nu} {h : Hp} {nx : Nat} {w : World} (s : Sim ρ ν h nx w) : Goes lo ρ ν h nx w ν h nx w.drew :=
  ⟨fun _ _ => rfl, Nu.le_refl _, ⟨s.blk, s.inj, s.fresh⟩, Nat.le_refl _, ⟨rfl, rfl, rfl, Nat.le_refl _, fun _ _ _ => rfl, fun _ _ h => .inl h⟩, fun _ hb => .inl hb⟩

theorem heap_alloc (w : World) (o : Obj) (k : Nat) : (w.alloc o).heap[k]? = if k = w.heap.size then some o else w.heap[k]? := by
  show (w.heap.push o)[k]? = _
  rw [Array.getElem?_push]

/-- a new block under a name that is not told yet -/
theorem Goes.alloc {lo : Nat} {ρ : Rho} {ν : Nu} {h : Hp} {nx nx' : Nat} {w : World} (s : Sim ρ ν h nx w) (n : Nat) (B : SBlk) (c : Array Value) (ty : TypeId) (hB : B.R ρ ν c)
    (hn : ν n = none) (_hh : h n = none) (hx : nx ≤ nx') (hnx : n < nx') (hlo : lo ≤ n) : Goes lo ρ ν h nx w (fun m => if m = n then some (w.heap.size, c.size) else ν m) (h.set n (some B)) nx' (w.alloc (.cells c ty)) := by
  have hle : ν.le (fun m => if m = n then some (w.heap.size, c.size) else ν m) := fun m x hx => by
    by_cases e : m = n
    · subst e; rw [hn] at hx; cases hx
    · simp [e, hx]
  have hlt : ∀ m b k, (h m).isSome = true → ν m = some (b, k) → b < w.heap.size := fun m b k h1 h2 => s.block_lt ⟨m, k, h1, h2⟩
  refine ⟨fun k hk => by rw [if_neg (by omega)], hle, ⟨?_, ?_, ?_⟩, hx, ⟨rfl, rfl, rfl, by simp, fun b hb _ => ?_, fun b o ho => by
    rw [heap_alloc] at ho
    split at ho
    · cases ho; exact .inr ⟨c, ty, rfl⟩
    · exact .inl ho⟩, ?_⟩
  · intro m B' hm
    by_cases e : m = n
    · subst e
      simp only [Hp.set, if_true] at hm
      cases hm
      exact ⟨w.heap.size, c, ty, by simp, by rw [heap_alloc]; simp, B.R_mono hle hB⟩
    · simp only [Hp.set, if_neg e] at hm
      obtain ⟨b, c', ty', h1, h2, h3⟩ := s.blk m B' hm
      refine ⟨b, c', ty', by simp [e, h1], ?_, B'.R_mono hle h3⟩
      rw [heap_alloc, if_neg (Nat.ne_of_lt (hlt m b _ (by simp [hm]) h1)), h2]
  · intro m m' b k k' h1 h2 e1 e2
    by_cases e : m = n
    · by_cases e' : m' = n
      · rw [e, e']
      · simp only [e, e', if_true, if_false, Hp.set] at e1 e2 h2
        cases e1
        exact absurd (hlt m' _ _ h2 e2) (Nat.lt_irrefl _)
    · by_cases e' : m' = n
      · simp only [e, e', if_true, if_false, Hp.set] at e1 e2 h1
        cases e2
        exact absurd (hlt m _ _ h1 e1) (Nat.lt_irrefl _)
      · simp only [e, e', if_false, Hp.set] at e1 e2 h1 h2
        exact s.inj m m' b k k' h1 h2 e1 e2
  · intro m hm
    show (if m = n then _ else ν m) = none
    rw [if_neg (by omega)]
    exact s.fresh m (by omega)
  · rw [heap_alloc, if_neg (by omega)]
  · rintro b ⟨m, k, h1, h2⟩
    by_cases e : m = n
    · simp only [e, if_true] at h2
      cases h2
      exact .inr (Nat.le_refl _)
    · simp only [e, if_false, Hp.set] at h1 h2
      exact .inl ⟨m, k, h1, h2⟩

theorem heap_setRow (w : World) (g : Nat) (cs cur : Array Value) (t : TypeId) (hg : w.heap[g]? = some (.cells cur t (0, 0))) (k : Nat) :
    (w.setRow g cs).heap[k]? = if k = g then some (.cells cs t (0, 0)) else w.heap[k]? := by
  by_cases e : k = g
  · subst e; rw [if_pos rfl]; exact setRow_heap w k cur cs t (0, 0) hg
  · rw [if_neg e]
    unfold World.setRow
    simp only [Array.getElem?_modify]
    rw [if_neg (fun h => e h.symm)]

/-- a block is written -/
theorem Goes.write {lo : Nat} {ρ : Rho} {ν : Nu} {h : Hp} {nx : Nat} {w : World} (s : Sim ρ ν h nx w) (n : Nat) (B B' : SBlk) (b : Nat) (c c' : Array Value) (ty : TypeId) (hn : h n = some B)
    (hν : ν n = some (b, c.size)) (hb : w.heap[b]? = some (.cells c ty (0, 0))) (hsz : c'.size = c.size) (hB : B'.R ρ ν c') :
    Goes lo ρ ν h nx w ν (h.set n (some B')) nx (w.setRow b c') := by
  refine ⟨fun _ _ => rfl, Nu.le_refl _, ⟨?_, ?_, s.fresh⟩, Nat.le_refl _, ⟨rfl, rfl, rfl, by simp [World.setRow], fun k hk hf => ?_, fun k o ho => by
    rw [heap_setRow w b c' c ty hb] at ho
    split at ho
    · cases ho; exact .inr ⟨c', ty, rfl⟩
    · exact .inl ho⟩, ?_⟩
  · intro m B1 hm
    by_cases e : m = n
    · subst e
      simp only [Hp.set, if_true] at hm
      cases hm
      exact ⟨b, c', ty, by rw [hsz]; exact hν, by rw [heap_setRow w b c' c ty hb, if_pos rfl], hB⟩
    · simp only [Hp.set, if_neg e] at hm
      obtain ⟨b1, c1, ty1, h1, h2, h3⟩ := s.blk m B1 hm
      refine ⟨b1, c1, ty1, h1, ?_, h3⟩
      rw [heap_setRow w b c' c ty hb, if_neg, h2]
      rintro rfl
      exact e (s.inj m n b1 _ _ (by simp [hm]) (by simp [hn]) h1 hν)
  · intro m m' b1 k k' h1 h2
    refine s.inj m m' b1 k k' ?_ ?_
    · by_cases e : m = n
      · subst e; simp [hn]
      · simpa [Hp.set, e] using h1
    · by_cases e : m' = n
      · subst e; simp [hn]
      · simpa [Hp.set, e] using h2
  · rw [heap_setRow w b c' c ty hb, if_neg]
    rintro rfl
    exact hf ⟨n, _, by simp [hn], hν⟩
  · rintro k ⟨m, q, h1, h2⟩
    refine .inl ⟨m, q, ?_, h2⟩
    by_cases e : m = n
    · subst e; simp [hn]
    · simpa [Hp.set, e] using h1

/-- a block goes on under another name (what stood behind its elder name is not looked at any more) -/
theorem Goes.rename {lo : Nat} {ρ : Rho} {ν : Nu} {h : Hp} {nx nx' : Nat} {w : World} (s : Sim ρ ν h nx w) (n n' : Nat) (B : SBlk) (b m : Nat) (hn : h n = some B) (hν : ν n = some (b, m))
    (hn' : ν n' = none) (hx : nx ≤ nx') (hnx : n' < nx') (hlo : lo ≤ n') :
    Goes lo ρ ν h nx w (fun k => if k = n' then some (b, m) else ν k) ((h.set n none).set n' (some B)) nx' w := by
  have hle : ν.le (fun k => if k = n' then some (b, m) else ν k) := fun k x hx => by
    by_cases e : k = n'
    · subst e; rw [hn'] at hx; cases hx
    · simp [e, hx]
  have hne : n ≠ n' := fun e => by subst e; rw [hν] at hn'; cases hn'
  refine ⟨fun k hk => by rw [if_neg (by omega)], hle, ⟨?_, ?_, ?_⟩, hx, Fr.refl _ _, ?_⟩
  · intro k B1 hk
    by_cases e : k = n'
    · subst e
      simp only [Hp.set, if_true] at hk
      cases hk
      obtain ⟨b1, c1, ty1, h1, h2, h3⟩ := s.blk n B hn
      rw [hν] at h1
      cases h1
      exact ⟨b, c1, ty1, by simp, h2, B.R_mono hle h3⟩
    · by_cases e2 : k = n
      · subst e2; simp [Hp.set, e] at hk
      · simp only [Hp.set, if_neg e, if_neg e2] at hk
        obtain ⟨b1, c1, ty1, h1, h2, h3⟩ := s.blk k B1 hk
        exact ⟨b1, c1, ty1, by simp [e, h1], h2, B1.R_mono hle h3⟩
  · intro k k' b1 q q' h1 h2 e1 e2
    by_cases e : k = n'
    · by_cases e' : k' = n'
      · rw [e, e']
      · by_cases e2' : k' = n
        · subst e2'; simp [Hp.set, e'] at h2
        · simp only [e, e', if_true, if_false, Hp.set, e2'] at e1 e2 h2
          cases e1
          exact absurd (s.inj k' n _ _ _ h2 (by simp [hn]) e2 hν) e2'
    · by_cases e3 : k = n
      · subst e3; simp [Hp.set, e] at h1
      · by_cases e' : k' = n'
        · simp only [e, e', if_true, if_false, Hp.set, e3] at e1 e2 h1
          cases e2
          exact absurd (s.inj k n _ _ _ h1 (by simp [hn]) e1 hν) e3
        · by_cases e2' : k' = n
          · subst e2'; simp [Hp.set, e'] at h2
          · simp only [e, e', if_false, Hp.set, e3, e2'] at e1 e2 h1 h2
            exact s.inj k k' b1 q q' h1 h2 e1 e2
  · intro k hk
    show (if k = n' then _ else ν k) = none
    rw [if_neg (by omega)]
    exact s.fresh k (by omega)
  · rintro k ⟨j, q, h1, h2⟩
    by_cases e : j = n'
    · simp only [e, if_true] at h2
      cases h2
      exact .inl ⟨n, m, by simp [hn], hν⟩
    · by_cases e2 : j = n
      · subst e2; simp [Hp.set, e] at h1
      · simp only [e, e2, if_false, Hp.set] at h1 h2
        exact .inl ⟨j, q, h1, h2⟩
end Go.Eng
/- The engine's operations that look at no memory. -/
namespace Go.Eng

structure St where
  hp : T SBlk
  nx : Nat
  ds : List Bool
  pc : List (Bt × Bool)

def pcok (ρ : Rho) (pc : List (Bt × Bool)) : Prop := ∀ p ∈ pc, p.1.ev ρ = p.2

def pcLook : List (Bt × Bool) → Bt → Option Bool
  | [], _ => none
  | (c, v) :: r, b => bif c.beq b then some v else pcLook r b
def St.ask (σ : St) : Bt → Option (Bool × St)
  | .lit v => some (v, σ)
  | .not b => match σ.ask b with | some (v, σ') => some (!v, σ') | none => none
  | .and a b => match σ.ask a with
    | some (true, σ') => σ'.ask b
    | some (false, σ') => some (false, σ')
    | none => none
  | b => match pcLook σ.pc b with
    | some v => some (v, σ)
    | none => match σ.ds with
      | d :: ds => some (d, { σ with ds := ds, pc := (b, d) :: σ.pc })
      | [] => none

theorem pcLook_sound {ρ : Rho} : ∀ {pc : List (Bt × Bool)} {b : Bt} {v : Bool}, pcLook pc b = some v → pcok ρ pc → b.ev ρ = v
  | [], _, _, h, _ => by simp [pcLook] at h
  | (c, u) :: r, b, v, h, hk => by
    simp only [pcLook] at h
    cases hb : c.beq b <;> simp only [hb, cond_true, cond_false] at h
    · exact pcLook_sound h fun p hp => hk p (List.mem_cons_of_mem _ hp)
    · cases h
      rw [← Bt.beq_sound hb]
      exact hk (c, u) (List.mem_cons_self ..)

/-- σ' is σ but for answers and what they say -/
structure Asks (ρ : Rho) (σ σ' : St) : Prop where
  hp : σ'.hp = σ.hp
  nx : σ'.nx = σ.nx
  pc : pcok ρ σ'.pc → pcok ρ σ.pc
  nod : σ.ds = [] → σ'.ds = [] ∧ σ'.pc = σ.pc
theorem Asks.refl (ρ : Rho) (σ : St) : Asks ρ σ σ := ⟨rfl, rfl, id, fun h => ⟨h, rfl⟩⟩
theorem Asks.trans {ρ : Rho} {a b c : St} (h : Asks ρ a b) (k : Asks ρ b c) : Asks ρ a c :=
  ⟨k.hp.trans h.hp, k.nx.trans h.nx, fun x => h.pc (k.pc x), fun x => let ⟨h1, h2⟩ := h.nod x; let ⟨k1, k2⟩ := k.nod h1; ⟨k1, k2.trans h2⟩⟩

theorem ask_atom {ρ : Rho} {σ σ' : St} {b : Bt} {v : Bool} (h : (match pcLook σ.pc b with
    | some v => some (v, σ)
    | none => match σ.ds with
      | d :: ds => some (d, { σ with ds := ds, pc := (b, d) :: σ.pc })
      | [] => none) = some (v, σ')) : Asks ρ σ σ' ∧ (pcok ρ σ'.pc → b.ev ρ = v) := by
  cases hl : pcLook σ.pc b with
  | some u =>
    rw [hl] at h
    simp only [Option.some.injEq, Prod.mk.injEq] at h
    obtain ⟨rfl, rfl⟩ := h
    exact ⟨Asks.refl _ _, fun hk => pcLook_sound hl hk⟩
  | none =>
    rw [hl] at h
    cases hd : σ.ds with
    | nil => rw [hd] at h; simp at h
    | cons d ds =>
      rw [hd] at h
      simp only [Option.some.injEq, Prod.mk.injEq] at h
      obtain ⟨rfl, rfl⟩ := h
      exact ⟨⟨rfl, rfl, fun hk p hp => hk p (List.mem_cons_of_mem _ hp), fun he => by rw [hd] at he; cases he⟩, fun hk => hk (b, d) (List.mem_cons_self ..)⟩

theorem ask_sound {ρ : Rho} : ∀ {b : Bt} {σ σ' : St} {v : Bool}, σ.ask b = some (v, σ') → Asks ρ σ σ' ∧ (pcok ρ σ'.pc → b.ev ρ = v) := by
  intro b
  induction b with
  | lit x =>
    intro σ σ' v h
    simp only [St.ask, Option.some.injEq, Prod.mk.injEq] at h
    obtain ⟨rfl, rfl⟩ := h
    exact ⟨Asks.refl _ _, fun _ => rfl⟩
  | not x ih =>
    intro σ σ' v h
    simp only [St.ask] at h
    cases hx : σ.ask x with
    | none => rw [hx] at h; simp at h
    | some p =>
      obtain ⟨u, σ1⟩ := p
      rw [hx] at h
      simp only [Option.some.injEq, Prod.mk.injEq] at h
      obtain ⟨rfl, rfl⟩ := h
      obtain ⟨h1, h2⟩ := ih hx
      exact ⟨h1, fun hk => by simp [Bt.ev, h2 hk]⟩
  | and x y hx hy =>
    intro σ σ' v h
    simp only [St.ask] at h
    cases ha : σ.ask x with
    | none => rw [ha] at h; simp at h
    | some p =>
      obtain ⟨u, σ1⟩ := p
      rw [ha] at h
      obtain ⟨h1, h2⟩ := hx ha
      cases u with
      | true =>
        simp only at h
        obtain ⟨h3, h4⟩ := hy h
        exact ⟨h1.trans h3, fun hk => by simp [Bt.ev, h2 (h3.pc hk), h4 hk]⟩
      | false =>
        simp only [Option.some.injEq, Prod.mk.injEq] at h
        obtain ⟨rfl, rfl⟩ := h
        exact ⟨h1, fun hk => by simp [Bt.ev, h2 hk]⟩
  | lt a b => intro σ σ' v h; exact ask_atom (by simpa only [St.ask] using h)
  | le a b => intro σ σ' v h; exact ask_atom (by simpa only [St.ask] using h)
  | eq a b => intro σ σ' v h; exact ask_atom (by simpa only [St.ask] using h)
  | iff a b _ _ => intro σ σ' v h; exact ask_atom (by simpa only [St.ask] using h)
  | fn f a b c => intro σ σ' v h; exact ask_atom (by simpa only [St.ask] using h)

/-- it must be so -/
def St.must (σ : St) (b : Bt) : Option St :=
  match σ.ask b with
  | some (true, σ') => some σ'
  | _ => none
theorem must_sound {ρ : Rho} {b : Bt} {σ σ' : St} (h : σ.must b = some σ') : Asks ρ σ σ' ∧ (pcok ρ σ'.pc → b.ev ρ = true) := by
  unfold St.must at h
  cases ha : σ.ask b with
  | none => rw [ha] at h; simp at h
  | some p =>
    obtain ⟨u, σ1⟩ := p
    rw [ha] at h
    cases u <;> simp at h
    subst h
    exact ask_sound ha

/-! constants -/
def ofV1 : Value → SV
  | .bool b => .bool (.lit b)
  | .int k n => .int k (.lit n)
  | .pointer none => .nilp
  | .slice none 0 0 => .nils
  | .nilFunc => .nilf
  | .nilIface => .nili
  | .float .f64 0 => .flt (.lit 0)
  | .complex .f64 0 0 => .cpx (.lit 0) (.lit 0)
  | v => .raw v
def ofV : Value → SV
  | .agg cs => .agg (cs.toList.map ofV1)
  | .tuple vs => .tup (vs.toList.map ofV1)
  | v => ofV1 v
theorem ofV1_R (ρ : Rho) (ν : Nu) (v : Value) : (ofV1 v).R ρ ν v := by
  have h0 : FloatKind.f64.nearest ((0 : Nat) : Int) = 0 := by decide
  unfold ofV1
  split <;> try (simp [SV.R, Bt.ev, Tm.ev]; done)
  · simp only [SV.R, Tm.ev]; exact ⟨0, by decide, rfl, by rw [h0]⟩
  · simp only [SV.R, Tm.ev]; exact ⟨0, 0, by decide, by decide, rfl, rfl, by rw [h0]⟩
theorem ofV1s_R (ρ : Rho) (ν : Nu) : ∀ l : List Value, RL ρ ν (l.map ofV1) l
  | [] => rfl
  | v :: l => by
    simp only [List.map_cons, RL]
    exact ⟨v, l, rfl, ofV1_R ρ ν v, ofV1s_R ρ ν l⟩
theorem ofV_R (ρ : Rho) (ν : Nu) (v : Value) : (ofV v).R ρ ν v := by
  unfold ofV
  split
  · simp only [SV.R]; exact ⟨_, rfl, ofV1s_R ρ ν _⟩
  · simp only [SV.R]; exact ⟨_, rfl, ofV1s_R ρ ν _⟩
  · exact ofV1_R ρ ν v

/-! a frame's slots -/
def undefS : SV := .tup []
theorem undefS_R (ρ : Rho) (ν : Nu) : undefS.R ρ ν undef := by
  simp only [undefS, SV.R]; exact ⟨#[], rfl, rfl⟩
def slot (tm : T SV) (t : Nat) : SV := (tm.get t).getD undefS
def TmR (ρ : Rho) (ν : Nu) (tm : Nat → Option SV) (a : Array Value) : Prop := ∀ t s, tm t = some s → s.R ρ ν (a.getD t undef)
theorem TmR.mono {ρ : Rho} {ν ν' : Nu} (h : ν.le ν') {tm : Nat → Option SV} {a : Array Value} (e : TmR ρ ν tm a) : TmR ρ ν' tm a := fun t s hs => SV.R_mono h (e t s hs)

def opnd (tm : Nat → Option SV) : Operand → Option SV
  | .tmp t => tm t
  | .const v => some (ofV v)
  | .func f => some (.fn (.func f) [] [])
  | .global _ => none
theorem opnd_R {ρ : Rho} {ν : Nu} {tm : Nat → Option SV} {a : Act} (h : TmR ρ ν tm a.tmps) {x : Operand} {s : SV} (hx : opnd tm x = some s) : s.R ρ ν (a.eval x) := by
  cases x with
  | tmp t => exact h t s hx
  | const v => simp only [opnd, Option.some.injEq] at hx; subst hx; exact ofV_R ρ ν v
  | func f =>
    simp only [opnd, Option.some.injEq] at hx; subst hx
    simp only [SV.R, Act.eval]; exact ⟨#[], #[], rfl, rfl, rfl⟩
  | global g => simp [opnd] at hx
def opnds (tm : Nat → Option SV) : List Operand → Option (List SV)
  | [] => some []
  | x :: xs => match opnd tm x, opnds tm xs with
    | some s, some ss => some (s :: ss)
    | _, _ => none
theorem opnds_R {ρ : Rho} {ν : Nu} {tm : Nat → Option SV} {a : Act} (h : TmR ρ ν tm a.tmps) : ∀ {xs : List Operand} {ss : List SV}, opnds tm xs = some ss → RL ρ ν ss (xs.map a.eval)
  | [], ss, hx => by simp only [opnds, Option.some.injEq] at hx; subst hx; rfl
  | x :: xs, ss, hx => by
    simp only [opnds] at hx
    cases h1 : opnd tm x with
    | none => simp [h1] at hx
    | some s =>
      cases h2 : opnds tm xs with
      | none => simp [h1, h2] at hx
      | some r =>
        simp only [h1, h2, Option.some.injEq] at hx
        subst hx
        simp only [List.map_cons, RL]
        exact ⟨_, _, rfl, opnd_R h h1, opnds_R h h2⟩

theorem RL_length {ρ : Rho} {ν : Nu} : ∀ {ss : List SV} {vs : List Value}, RL ρ ν ss vs → vs.length = ss.length
  | [], _, h => by simp only [RL] at h; subst h; rfl
  | _ :: ss, _, h => by
    simp only [RL] at h
    obtain ⟨v, vs, rfl, _, h2⟩ := h
    simp [RL_length h2]
theorem RL_get {ρ : Rho} {ν : Nu} : ∀ {ss : List SV} {vs : List Value}, RL ρ ν ss vs → ∀ {i : Nat} {s : SV}, ss[i]? = some s → ∃ v, vs[i]? = some v ∧ s.R ρ ν v
  | [], _, _, _, _, hs => by simp at hs
  | s :: ss, _, h, i, x, hs => by
    simp only [RL] at h
    obtain ⟨v, vs, rfl, h1, h2⟩ := h
    cases i with
    | zero => simp only [List.getElem?_cons_zero, Option.some.injEq] at hs; subst hs; exact ⟨v, by simp, h1⟩
    | succ i => simp only [List.getElem?_cons_succ] at hs ⊢; exact RL_get h2 hs
theorem RL_append {ρ : Rho} {ν : Nu} : ∀ {a b : List SV} {x y : List Value}, RL ρ ν a x → RL ρ ν b y → RL ρ ν (a ++ b) (x ++ y)
  | [], _, _, _, h, k => by simp only [RL] at h; subst h; exact k
  | s :: a, b, _, y, h, k => by
    simp only [RL] at h
    obtain ⟨v, vs, rfl, h1, h2⟩ := h
    simp only [List.cons_append, RL]
    exact ⟨v, vs ++ y, rfl, h1, RL_append h2 k⟩
theorem RL_take {ρ : Rho} {ν : Nu} : ∀ (n : Nat) {a : List SV} {x : List Value}, RL ρ ν a x → RL ρ ν (a.take n) (x.take n)
  | 0, _, _, _ => rfl
  | n + 1, [], _, h => by simp only [RL] at h; subst h; rfl
  | n + 1, s :: a, _, h => by
    simp only [RL] at h
    obtain ⟨v, vs, rfl, h1, h2⟩ := h
    simp only [List.take_succ_cons, RL]
    exact ⟨v, vs.take n, rfl, h1, RL_take n h2⟩
theorem RL_drop {ρ : Rho} {ν : Nu} : ∀ (n : Nat) {a : List SV} {x : List Value}, RL ρ ν a x → RL ρ ν (a.drop n) (x.drop n)
  | 0, _, _, h => h
  | n + 1, [], _, h => by simp only [RL] at h; subst h; rfl
  | n + 1, s :: a, _, h => by
    simp only [RL] at h
    obtain ⟨v, vs, rfl, h1, h2⟩ := h
    simp only [List.drop_succ_cons]
    exact RL_drop n h2
end Go.Eng
/- The engine's operations that look at no memory: one by one. -/
namespace Go.Eng

/-- an operation comes to a value, whatever the world -/
def Yv (P : Program) (ρ : Rho) (ν : Nu) (m : Sem Value) (s : SV) : Prop := ∃ v, s.R ρ ν v ∧ ∀ w, m.run P w = .ok v w
theorem Yv.of {P : Program} {ρ : Rho} {ν : Nu} {m : Sem Value} {s : SV} (v : Value) (h : s.R ρ ν v) (k : ∀ w, m.run P w = .ok v w) : Yv P ρ ν m s := ⟨v, h, k⟩

def tyAgg (P : Program) (t : TypeId) : Option Bool :=
  match P.underlying t with
  | some (.struct _) => some true
  | some (.array _ _) => some true
  | some _ => some false
  | none => none
def tySize (P : Program) (t : TypeId) : Option Nat := match P.info? t with | some i => some i.size | none => none
theorem run_isAgg {P : Program} {t : TypeId} {b : Bool} (h : tyAgg P t = some b) (w : World) : (isAgg t).run P w = .ok b w := by
  unfold tyAgg at h
  cases hu : P.underlying t with
  | none => simp [hu] at h
  | some d => cases d <;> simp [hu] at h <;> subst h <;> simp [isAgg, run_underlying hu]
theorem run_sizeOf {P : Program} {t : TypeId} {n : Nat} (h : tySize P t = some n) (w : World) : (sizeOf t).run P w = .ok n w := by
  unfold tySize at h
  cases hi : P.info? t with
  | none => simp [hi] at h
  | some i => simp [hi] at h; subst h; simp [sizeOf, typeInfo, hi]

/-! integers -/
def litOf : Tm → Option Int
  | .lit n => some n
  | _ => none
theorem litOf_eq {t : Tm} {n : Int} (h : litOf t = some n) : t = .lit n := by
  cases t <;> simp [litOf] at h; subst h; rfl

def intBin (op : BinOp) (k : IntKind) (a b : Tm) : Option SV :=
  match op with
  | .add => some (.int k (mWrap k (mAdd a b)))
  | .sub => some (.int k (mWrap k (mSub a b)))
  | .mul => some (.int k (mWrap k (mMul a b)))
  | .quo => match litOf b with
    | some n => bif intEq n 0 then none else some (.int k (mWrap k (match litOf a with | some m => .lit (m.tdiv n) | none => .tdiv a b)))
    | none => none
  | .rem => match litOf b with
    | some n => bif intEq n 0 then none else some (.int k (match litOf a with | some m => .lit (m.tmod n) | none => .tmod a b))
    | none => none
  | .and => some (.int k (match litOf a, litOf b with | some m, some n => .lit (bits .and k m n) | _, _ => .bit .and k a b))
  | .or => some (.int k (match litOf a, litOf b with | some m, some n => .lit (bits .or k m n) | _, _ => .bit .or k a b))
  | .xor => some (.int k (match litOf a, litOf b with | some m, some n => .lit (bits .xor k m n) | _, _ => .bit .xor k a b))
  | .andNot => some (.int k (match litOf a, litOf b with | some m, some n => .lit (bits .andNot k m n) | _, _ => .bit .andNot k a b))
  | .eql => some (.bool (bEq a b))
  | .neq => some (.bool (bNot (bEq a b)))
  | .lss => some (.bool (bLt a b))
  | .leq => some (.bool (bLe a b))
  | .gtr => some (.bool (bLt b a))
  | .geq => some (.bool (bLe b a))
  | .shl | .shr => none
theorem ev_two (ρ : Rho) (a b : Tm) (f : Int → Int → Int) (g : Tm) (hg : g.ev ρ = f (a.ev ρ) (b.ev ρ)) :
    (match litOf a, litOf b with | some m, some n => Tm.lit (f m n) | _, _ => g).ev ρ = f (a.ev ρ) (b.ev ρ) := by
  cases ha : litOf a with
  | none => simpa using hg
  | some m =>
    cases hb : litOf b with
    | none => simpa using hg
    | some n => rw [litOf_eq ha, litOf_eq hb]; simp [Tm.ev]
theorem intBin_sound {P : Program} {ρ : Rho} {ν : Nu} {op : BinOp} {k : IntKind} {a b : Tm} {s : SV} (t : TypeId) (h : intBin op k a b = some s) :
    Yv P ρ ν (binOp op t (.int k (a.ev ρ)) (.int k (b.ev ρ))) s := by
  cases op <;> simp only [intBin, Option.some.injEq] at h
  case shl => cases h
  case shr => cases h
  case add => subst h; exact Yv.of _ rfl fun w => by rw [binOp_add]; simp [Op.intArith, mWrap_ev, mAdd_ev]
  case sub => subst h; exact Yv.of _ rfl fun w => by rw [binOp_sub]; simp [Op.intArith, mWrap_ev, mSub_ev]
  case mul => subst h; exact Yv.of _ rfl fun w => by rw [binOp_mul]; simp [Op.intArith, mWrap_ev, mMul_ev]
  case quo =>
    cases hb : litOf b with
    | none => simp [hb] at h
    | some n =>
      rw [hb] at h
      cases h0 : intEq n 0 <;> simp only [h0, cond_true, cond_false, Option.some.injEq] at h
      · subst h
        have hn : n ≠ 0 := fun e => by subst e; simp [intEq] at h0
        rw [litOf_eq hb]
        refine Yv.of _ rfl fun w => ?_
        rw [binOp_quo]
        have e : ∀ x : Int, (Op.intDiv .quo k x n).run P w = .ok (.int k (k.wrap (x.tdiv n))) w := fun x => by simp [Op.intDiv, hn]
        cases ha : litOf a with
        | none => simp only [Tm.ev, mWrap_ev]; exact e _
        | some m => rw [litOf_eq ha]; simp only [Tm.ev, mWrap_ev]; exact e _
      · cases h
  case rem =>
    cases hb : litOf b with
    | none => simp [hb] at h
    | some n =>
      rw [hb] at h
      cases h0 : intEq n 0 <;> simp only [h0, cond_true, cond_false, Option.some.injEq] at h
      · subst h
        have hn : n ≠ 0 := fun e => by subst e; simp [intEq] at h0
        rw [litOf_eq hb]
        refine Yv.of _ rfl fun w => ?_
        rw [binOp_rem]
        have e : ∀ x : Int, (Op.intDiv .rem k x n).run P w = .ok (.int k (x.tmod n)) w := fun x => by simp [Op.intDiv, hn]
        cases ha : litOf a with
        | none => simp only [Tm.ev]; exact e _
        | some m => rw [litOf_eq ha]; simp only [Tm.ev]; exact e _
      · cases h
  case and => subst h; exact Yv.of _ rfl fun w => by rw [binOp_and, intBits_and]; simp [ev_two ρ a b (bits .and k) (.bit .and k a b) rfl]
  case or => subst h; exact Yv.of _ rfl fun w => by rw [binOp_or, intBits_or]; simp [ev_two ρ a b (bits .or k) (.bit .or k a b) rfl]
  case xor => subst h; exact Yv.of _ rfl fun w => by rw [binOp_xor, intBits_xor]; simp [ev_two ρ a b (bits .xor k) (.bit .xor k a b) rfl]
  case andNot => subst h; exact Yv.of _ rfl fun w => by rw [binOp_andNot, intBits_andNot]; simp [ev_two ρ a b (bits .andNot k) (.bit .andNot k a b) rfl]
  case eql => subst h; exact Yv.of _ rfl fun w => by rw [binOp_eql]; simp [bEq_ev]
  case neq => subst h; exact Yv.of _ rfl fun w => by rw [binOp_neq]; simp [bEq_ev, bNot_ev, bne]
  case lss => subst h; exact Yv.of _ rfl fun w => by rw [binOp_lss]; simp [bLt_ev]
  case leq => subst h; exact Yv.of _ rfl fun w => by rw [binOp_leq]; simp [bLe_ev]
  case gtr => subst h; exact Yv.of _ rfl fun w => by rw [binOp_gtr]; simp [bLt_ev]
  case geq => subst h; exact Yv.of _ rfl fun w => by rw [binOp_geq]; simp [bLe_ev]

def intShift (op : BinOp) (k : IntKind) (a b : Tm) : Option SV :=
  match litOf b with
  | some (.ofNat n) => bif Nat.ble n k.bits then
      match op with
      | .shl => some (.int k (mWrap k (mMul a (.lit (2 ^ n)))))
      | .shr => some (.int k (match litOf a with | some m => .lit (m.fdiv (2 ^ n)) | none => .fdiv a (.lit (2 ^ n))))
      | _ => none
    else none
  | _ => none
theorem intShift_sound {P : Program} {ρ : Rho} {ν : Nu} {op : BinOp} {k yk : IntKind} {a b : Tm} {s : SV} (t : TypeId) (h : intShift op k a b = some s) :
    Yv P ρ ν (binOp op t (.int k (a.ev ρ)) (.int yk (b.ev ρ))) s := by
  unfold intShift at h
  cases hb : litOf b with
  | none => simp [hb] at h
  | some z =>
    rw [hb] at h
    cases z with
    | negSucc n => simp at h
    | ofNat n =>
      simp only at h
      cases hn : Nat.ble n k.bits <;> simp only [hn, cond_true, cond_false] at h
      · cases h
      · have hle : n ≤ k.bits := Nat.le_of_ble_eq_true hn
        rw [litOf_eq hb]
        have h0 : ¬ ((n : Int) < 0) := by omega
        have hmin : min n k.bits = n := by omega
        cases op <;> simp only [Option.some.injEq] at h <;> try (cases h; done)
        · subst h
          refine Yv.of _ rfl fun w => ?_
          rw [binOp_shl]
          simp [Op.shift, Tm.ev, h0, hmin, mWrap_ev, mMul_ev]
        · subst h
          refine Yv.of _ rfl fun w => ?_
          rw [binOp_shr]
          simp only [Op.shift, Tm.ev, Int.ofNat_eq_natCast, if_neg h0, Int.toNat_natCast, hmin, Sem.run_pure]
          cases ha : litOf a with
          | none => simp [Tm.ev]
          | some m => rw [litOf_eq ha]; simp [Tm.ev]

/-! tests of other values -/
def isPtr (P : Program) (t : TypeId) : Bool := match P.underlying t with | some (.pointer _) => true | _ => false
def isIface (P : Program) (t : TypeId) : Bool := match P.underlying t with | some (.interface _) => true | _ => false
def isSlice (P : Program) (t : TypeId) : Bool := match P.underlying t with | some (.slice _) => true | _ => false
def isBool (P : Program) (t : TypeId) : Bool := match P.underlying t with | some .bool => true | _ => false
theorem isPtr_eq {P : Program} {t : TypeId} (h : isPtr P t = true) : P.underlying t = some (.pointer (P.pointee t)) := by
  unfold isPtr at h
  cases hu : P.underlying t with
  | none => simp [hu] at h
  | some d => cases d <;> simp [hu] at h <;> simp [Program.pointee, hu]
theorem isIface_eq {P : Program} {t : TypeId} (h : isIface P t = true) : P.underlying t = some (.interface (P.methodsAt t)) := by
  unfold isIface at h
  cases hu : P.underlying t with
  | none => simp [hu] at h
  | some d => cases d <;> simp [hu] at h <;> simp [Program.methodsAt, hu]
theorem isSlice_eq {P : Program} {t : TypeId} (h : isSlice P t = true) : P.underlying t = some (.slice (P.elem t)) := by
  unfold isSlice at h
  cases hu : P.underlying t with
  | none => simp [hu] at h
  | some d => cases d <;> simp [hu] at h <;> simp [Program.elem, hu]
theorem isBool_eq {P : Program} {t : TypeId} (h : isBool P t = true) : P.underlying t = some .bool := by
  unfold isBool at h
  cases hu : P.underlying t with
  | none => simp [hu] at h
  | some d => cases d <;> simp [hu] at h; rfl

/-- a struct's fields: integers, truths, and structs -/
def eqFlds (P : Program) (inner : List SV → List SV → List Field → Option Bt) (xs ys : List SV) : List Field → Option Bt
  | [] => some (.lit true)
  | f :: fs =>
    if f.name ≠ "_" then
      match eqFlds P inner xs ys fs with
      | none => none
      | some r => match P.underlying f.type with
        | some (.int _) => match xs[f.offset]?, ys[f.offset]? with
          | some (.int k a), some (.int l b) => bif kindEq k l then some (bAnd (bEq a b) r) else none
          | _, _ => none
        | some .bool => match xs[f.offset]?, ys[f.offset]? with
          | some (.bool a), some (.bool b) => some (bAnd (bIff a b) r)
          | _, _ => none
        | some (.struct gs) => match tySize P f.type with
          | some z => bif P.stoodInHeld f.type then none else
            match inner ((xs.drop f.offset).take z) ((ys.drop f.offset).take z) gs.toList with
            | some q => some (bAnd q r)
            | none => none
          | none => none
        | _ => none
    else none
def eqFldsN (P : Program) : Nat → List SV → List SV → List Field → Option Bt
  | 0 => eqFlds P fun _ _ _ => none
  | n + 1 => eqFlds P (eqFldsN P n)
theorem run_part_one {P : Program} {t : TypeId} {cs : Array Value} {off : Nat} {v : Value} (h : tyAgg P t = some false) (hv : cs[off]? = some v) (w : World) :
    (part t cs off).run P w = .ok v w := by
  simp [part, run_isAgg h, hv]
theorem eqFlds_sound {P : Program} {ρ : Rho} {ν : Nu} {inner : List SV → List SV → List Field → Option Bt} (d : Nat)
    (hin : ∀ {xs ys : List SV} {vx vy : Array Value} {gs : List Field} {b : Bt}, RL ρ ν xs vx.toList → RL ρ ν ys vy.toList → inner xs ys gs = some b → ∀ w, (Op.eqFields d vx vy gs).run P w = .ok (b.ev ρ) w)
    {xs ys : List SV} {vx vy : Array Value} (hx : RL ρ ν xs vx.toList) (hy : RL ρ ν ys vy.toList) :
    ∀ {fs : List Field} {b : Bt}, eqFlds P inner xs ys fs = some b → ∀ w, (Op.eqFields (d + 1) vx vy fs).run P w = .ok (b.ev ρ) w
  | [], b, h, w => by simp only [eqFlds, Option.some.injEq] at h; subst h; simp [Op.eqFields, Bt.ev]
  | f :: fs, b, h, w => by
    simp only [eqFlds] at h
    split at h
    case isFalse => cases h
    rename_i hname
    split at h
    · cases h
    rename_i r e3
    have ih := eqFlds_sound d hin hx hy e3 w
    split at h
    · rename_i ik hu
      split at h
      · rename_i k a l b' e1 e2
        cases hk : kindEq k l <;> simp only [hk, cond_true, cond_false] at h
        · cases h
        · cases h
          have := kindEq_sound hk
          subst this
          obtain ⟨u, hu1, hu2⟩ := RL_get hx e1
          obtain ⟨v, hv1, hv2⟩ := RL_get hy e2
          simp only [SV.R] at hu2 hv2
          subst hu2 hv2
          have ht : tyAgg P f.type = some false := by simp [tyAgg, hu]
          have p1 := run_part_one (P := P) ht (cs := vx) (by simpa using hu1) w
          have p2 := run_part_one (P := P) ht (cs := vy) (by simpa using hv1) w
          have p3 := run_equalIn_int (P := P) w d f.type k ik (a.ev ρ) (b'.ev ρ) hu
          simp only [Op.eqFields, if_pos hname, Sem.run_bind, p1, Result.andThen_ok, p2, p3]
          rw [bAnd_ev, bEq_ev]
          cases (a.ev ρ == b'.ev ρ) <;> simp [ih]
      · cases h
    · rename_i hu
      split at h
      · rename_i a b' e1 e2
        cases h
        obtain ⟨u, hu1, hu2⟩ := RL_get hx e1
        obtain ⟨v, hv1, hv2⟩ := RL_get hy e2
        simp only [SV.R] at hu2 hv2
        subst hu2 hv2
        have ht : tyAgg P f.type = some false := by simp [tyAgg, hu]
        have p1 := run_part_one (P := P) ht (cs := vx) (by simpa using hu1) w
        have p2 := run_part_one (P := P) ht (cs := vy) (by simpa using hv1) w
        have p3 := run_equalIn_bool (P := P) w d f.type (a.ev ρ) (b'.ev ρ) hu
        simp only [Op.eqFields, if_pos hname, Sem.run_bind, p1, Result.andThen_ok, p2, p3]
        rw [bAnd_ev, bIff_ev]
        cases (a.ev ρ == b'.ev ρ) <;> simp [ih]
      · cases h
    · rename_i gs hu
      split at h
      · rename_i z hz
        cases hst : P.stoodInHeld f.type <;> simp only [hst, cond_true, cond_false] at h
        · split at h
          · rename_i q hq
            cases h
            have ht : tyAgg P f.type = some true := by simp [tyAgg, hu]
            have p1 : (part f.type vx f.offset).run P w = .ok (.agg (vx.extract f.offset (f.offset + z))) w := by simp [part, run_isAgg ht, run_sizeOf hz]
            have p2 : (part f.type vy f.offset).run P w = .ok (.agg (vy.extract f.offset (f.offset + z))) w := by simp [part, run_isAgg ht, run_sizeOf hz]
            have q1 : RL ρ ν ((xs.drop f.offset).take z) (vx.extract f.offset (f.offset + z)).toList := by
              have := RL_take z (RL_drop f.offset hx)
              simpa [List.extract_eq_take_drop] using this
            have q2 : RL ρ ν ((ys.drop f.offset).take z) (vy.extract f.offset (f.offset + z)).toList := by
              have := RL_take z (RL_drop f.offset hy)
              simpa [List.extract_eq_take_drop] using this
            have hf : P.fieldsOf f.type = gs := by simp [Program.fieldsOf, hu]
            have p3 := run_equalIn_struct (P := P) (w := w) d f.type (vx.extract f.offset (f.offset + z)) (vy.extract f.offset (f.offset + z)) (by rw [hf]; exact hu) hst
            rw [hf, hin q1 q2 hq w] at p3
            simp only [Op.eqFields, if_pos hname, Sem.run_bind, p1, Result.andThen_ok, p2, p3]
            rw [bAnd_ev]
            cases q.ev ρ <;> simp [ih]
          · cases h
        · cases h
      · cases h
    · cases h
theorem eqFldsN_sound {P : Program} {ρ : Rho} {ν : Nu} : ∀ (n d : Nat) {xs ys : List SV} {vx vy : Array Value} {fs : List Field} {b : Bt}, RL ρ ν xs vx.toList → RL ρ ν ys vy.toList → eqFldsN P n xs ys fs = some b → ∀ w, (Op.eqFields (d + n + 1) vx vy fs).run P w = .ok (b.ev ρ) w
  | 0, d, xs, ys, vx, vy, fs, b, hx, hy, h, w => eqFlds_sound d (fun _ _ h => by cases h) hx hy h w
  | n + 1, d, xs, ys, vx, vy, fs, b, hx, hy, h, w => eqFlds_sound (d + n + 1) (fun hx hy h => eqFldsN_sound n d hx hy h) hx hy h w
def eqStruct (P : Program) (t : TypeId) (xs ys : List SV) : Option Bt :=
  match P.underlying t with
  | some (.struct fs) => bif P.stoodInHeld t || P.eqGuardType P.depth t then none else eqFldsN P 3 xs ys fs.toList
  | _ => none
theorem eqStruct_sound {P : Program} {ρ : Rho} {ν : Nu} {t : TypeId} {xs ys : List SV} {vx vy : Array Value} {b : Bt} (hx : RL ρ ν xs vx.toList) (hy : RL ρ ν ys vy.toList)
    (h : eqStruct P t xs ys = some b) : (∀ op x y w, (eqGuard op t x y (.agg vx) (.agg vy)).run P w = .ok () w) ∧ (∀ w, (Op.equalIn 10000 t (.agg vx) (.agg vy)).run P w = .ok (b.ev ρ) w) := by
  unfold eqStruct at h
  cases hu : P.underlying t with
  | none => simp [hu] at h
  | some d =>
    cases d <;> simp only [hu] at h <;> try (cases h; done)
    rename_i fs
    cases hc : P.stoodInHeld t || P.eqGuardType P.depth t <;> simp only [hc, cond_true, cond_false] at h
    · simp only [Bool.or_eq_false_iff] at hc
      refine ⟨fun op x y w => run_eqGuard_agg w op t x y vx vy hc.2, fun w => ?_⟩
      have hf : P.fieldsOf t = fs := by simp [Program.fieldsOf, hu]
      rw [run_equalIn_struct w 9999 t vx vy (by rw [hf]; exact hu) hc.1, hf]
      exact eqFldsN_sound 3 9995 hx hy h w
    · cases h

/-- '==' and '!=' of values that are no integers -/
def valEq (P : Program) (t : TypeId) : SV → SV → Option Bt
  | .bool a, .bool b => bif isBool P t then some (bIff a b) else none
  | .nilp, .nilp => bif isPtr P t then some (.lit true) else none
  | .ptr _ _, .nilp => bif isPtr P t then some (.lit false) else none
  | .iface _ _, .nili => bif isIface P t then some (.lit false) else none
  | .nils, .nils => bif isSlice P t then some (.lit true) else none
  | .sl _ _ _ _, .nils => bif isSlice P t then some (.lit false) else none
  | .slz, .nils => bif isSlice P t then some (.lit false) else none
  | .agg xs, .agg ys => eqStruct P t xs ys
  | _, _ => none
theorem valEq_sound {P : Program} {ρ : Rho} {ν : Nu} {t : TypeId} {x y : SV} {u v : Value} {b : Bt} (hx : x.R ρ ν u) (hy : y.R ρ ν v) (h : valEq P t x y = some b) (ox oy : Operand) :
    (∀ w, ((eqGuard .eql t ox oy u v).run P w).andThen (fun _ w => (binOp .eql t u v).run P w) = .ok (.bool (b.ev ρ)) w) ∧
    (∀ w, ((eqGuard .neq t ox oy u v).run P w).andThen (fun _ w => (binOp .neq t u v).run P w) = .ok (.bool (!(b.ev ρ))) w) := by
  unfold valEq at h
  split at h
  · rename_i a b'
    cases hc : isBool P t <;> simp only [hc, cond_true, cond_false] at h
    · cases h
    · cases h
      simp only [SV.R] at hx hy
      subst hx hy
      exact ⟨fun w => by rw [eqGuard_at_bool]; simp [run_eql_bool w t _ _ (isBool_eq hc), bIff_ev], fun w => by rw [eqGuard_at_bool]; simp [run_neq_bool w t _ _ (isBool_eq hc), bIff_ev]⟩
  · cases hc : isPtr P t <;> simp only [hc, cond_true, cond_false] at h
    · cases h
    · cases h
      simp only [SV.R] at hx hy
      subst hx hy
      exact ⟨fun w => by rw [eqGuard_at_pointer]; simp [run_eql_pointer_nil w t none (isPtr_eq hc), Bt.ev], fun w => by rw [eqGuard_at_pointer]; simp [run_neq_pointer_nil w t none (isPtr_eq hc), Bt.ev]⟩
  · cases hc : isPtr P t <;> simp only [hc, cond_true, cond_false] at h
    · cases h
    · cases h
      simp only [SV.R] at hx hy
      obtain ⟨b, m, o, _, _, rfl⟩ := hx
      subst hy
      exact ⟨fun w => by rw [eqGuard_at_pointer]; simp [run_eql_pointer_nil w t _ (isPtr_eq hc), Bt.ev], fun w => by rw [eqGuard_at_pointer]; simp [run_neq_pointer_nil w t _ (isPtr_eq hc), Bt.ev]⟩
  · cases hc : isIface P t <;> simp only [hc, cond_true, cond_false] at h
    · cases h
    · cases h
      simp only [SV.R] at hx hy
      obtain ⟨z, rfl, _⟩ := hx
      subst hy
      exact ⟨fun w => by rw [eqGuard_at_iface]; simp [run_eql_held_nil w t _ _ (isIface_eq hc), Bt.ev], fun w => by rw [eqGuard_at_iface]; simp [run_neq_held_nil w t _ _ (isIface_eq hc), Bt.ev]⟩
  · cases hc : isSlice P t <;> simp only [hc, cond_true, cond_false] at h
    · cases h
    · cases h
      simp only [SV.R] at hx hy
      subst hx hy
      exact ⟨fun w => by rw [eqGuard_at_slice]; simp [run_eql_nil_slice w t _ none 0 0 0 0 (isSlice_eq hc), Bt.ev], fun w => by rw [eqGuard_at_slice]; simp [run_neq_nil_slice w t _ none 0 0 0 0 (isSlice_eq hc), Bt.ev]⟩
  · cases hc : isSlice P t <;> simp only [hc, cond_true, cond_false] at h
    · cases h
    · cases h
      simp only [SV.R] at hx hy
      obtain ⟨b, m, o, l, c, _, _, _, _, _, rfl⟩ := hx
      subst hy
      exact ⟨fun w => by rw [eqGuard_at_slice]; simp [binOp, Op.equal, Bt.ev, Op.maxDepth, run_equalIn_slice_nil w 9999 t _ _ l c (isSlice_eq hc)], fun w => by rw [eqGuard_at_slice]; simp [run_neq_slice_nil w t _ _ _ _ (isSlice_eq hc), Bt.ev]⟩
  · cases hc : isSlice P t <;> simp only [hc, cond_true, cond_false] at h
    · cases h
    · cases h
      simp only [SV.R] at hx hy
      obtain ⟨a, c, rfl⟩ := hx
      subst hy
      exact ⟨fun w => by rw [eqGuard_at_slice]; simp [binOp, Op.equal, Bt.ev, Op.maxDepth, run_equalIn_slice_nil w 9999 t _ _ 0 c (isSlice_eq hc)], fun w => by rw [eqGuard_at_slice]; simp [run_neq_slice_nil w t _ _ _ _ (isSlice_eq hc), Bt.ev]⟩
  · rename_i xs ys
    simp only [SV.R] at hx hy
    obtain ⟨vx, rfl, h1⟩ := hx
    obtain ⟨vy, rfl, h2⟩ := hy
    obtain ⟨g1, g2⟩ := eqStruct_sound h1 h2 h
    exact ⟨fun w => by rw [g1]; simp [run_eql_struct, g2], fun w => by rw [g1]; simp [run_neq_struct, g2]⟩
  · cases h

def otherEq (P : Program) (op : BinOp) (t : TypeId) (x y : SV) : Option SV :=
  match op with
  | .eql => match valEq P t x y with | some b => some (.bool b) | none => none
  | .neq => match valEq P t x y with | some b => some (.bool (bNot b)) | none => none
  | _ => none
def opBin (P : Program) (op : BinOp) (t : TypeId) (x y : SV) : Option SV :=
  match x, y with
  | .int k a, .int l b => match op with
    | .shl => intShift .shl k a b
    | .shr => intShift .shr k a b
    | op => bif kindEq k l then intBin op k a b else none
  | .unk k, .int l _ => match op with
    | .add => bif kindEq k l then some (.unk k) else none
    | .sub => bif kindEq k l then some (.unk k) else none
    | _ => none
  | x, y => otherEq P op t x y
theorem Yv.unk {P : Program} {ρ : Rho} {ν : Nu} {m : Sem Value} {k : IntKind} {t : Tm} (h : Yv P ρ ν m (.int k t)) : Yv P ρ ν m (.unk k) := by
  obtain ⟨v, h1, h2⟩ := h
  simp only [SV.R] at h1
  exact ⟨v, by simp only [SV.R]; exact ⟨_, h1⟩, h2⟩
theorem opBin_int {P : Program} {ρ : Rho} {ν : Nu} {op : BinOp} {t : TypeId} {k l : IntKind} {a b : Tm} {s : SV} (h : opBin P op t (.int k a) (.int l b) = some s) (ox oy : Operand) :
    Yv P ρ ν (do eqGuard op t ox oy (.int k (a.ev ρ)) (.int l (b.ev ρ)); binOp op t (.int k (a.ev ρ)) (.int l (b.ev ρ))) s := by
  have key : Yv P ρ ν (binOp op t (.int k (a.ev ρ)) (.int l (b.ev ρ))) s := by
    simp only [opBin] at h
    cases op <;> simp only at h
    case shl => exact intShift_sound t h
    case shr => exact intShift_sound t h
    all_goals
      cases hk : kindEq k l <;> simp only [hk, cond_true, cond_false] at h
      · cases h
      · have := kindEq_sound hk
        subst this
        exact intBin_sound t h
  obtain ⟨v, h1, h2⟩ := key
  exact ⟨v, h1, fun w => by rw [eqGuard_at_int]; simp [h2]⟩
theorem opBin_sound {P : Program} {ρ : Rho} {ν : Nu} {op : BinOp} {t : TypeId} {x y : SV} {u v : Value} {s : SV} (hx : x.R ρ ν u) (hy : y.R ρ ν v) (h : opBin P op t x y = some s) (ox oy : Operand) :
    Yv P ρ ν (do eqGuard op t ox oy u v; binOp op t u v) s := by
  by_cases hi : ∃ k a l b, x = .int k a ∧ y = .int l b
  · obtain ⟨k, a, l, b, rfl, rfl⟩ := hi
    simp only [SV.R] at hx hy
    subst hx hy
    exact opBin_int h ox oy
  · by_cases hu : ∃ k l b, x = .unk k ∧ y = .int l b
    · obtain ⟨k, l, b, rfl, rfl⟩ := hu
      simp only [SV.R] at hx hy
      obtain ⟨n, rfl⟩ := hx
      subst hy
      simp only [opBin] at h
      cases op <;> simp only at h <;> try (cases h; done)
      · cases hk : kindEq k l <;> simp only [hk, cond_true, cond_false] at h
        · cases h
        · cases h
          exact Yv.unk (opBin_int (P := P) (ρ := ρ) (ν := ν) (op := .add) (t := t) (k := k) (l := l) (a := .lit n) (b := b) (by simp only [opBin, hk, cond_true, intBin]; rfl) ox oy)
      · cases hk : kindEq k l <;> simp only [hk, cond_true, cond_false] at h
        · cases h
        · cases h
          exact Yv.unk (opBin_int (P := P) (ρ := ρ) (ν := ν) (op := .sub) (t := t) (k := k) (l := l) (a := .lit n) (b := b) (by simp only [opBin, hk, cond_true, intBin]; rfl) ox oy)
    have h' : otherEq P op t x y = some s := by
      unfold opBin at h
      split at h
      · exact absurd ⟨_, _, _, _, rfl, rfl⟩ hi
      · exact absurd ⟨_, _, _, rfl, rfl⟩ hu
      · exact h
    cases op <;> simp only [otherEq] at h' <;> try (cases h'; done)
    · cases he : valEq P t x y with
      | none => simp [he] at h'
      | some b =>
        simp only [he, Option.some.injEq] at h'
        subst h'
        exact Yv.of _ rfl fun w => by simpa using (valEq_sound hx hy he ox oy).1 w
    · cases he : valEq P t x y with
      | none => simp [he] at h'
      | some b =>
        simp only [he, Option.some.injEq] at h'
        subst h'
        exact Yv.of _ rfl fun w => by simpa [bNot_ev] using (valEq_sound hx hy he ox oy).2 w

/-- the same, where an operand's text is looked at: nil and nil, of an interface -/
def opBinO (P : Program) (op : BinOp) (t : TypeId) (oy : Operand) (x y : SV) : Option SV :=
  match x, y with
  | .nili, .nili => match oy, op with
    | .const _, .eql => bif isIface P t then some (.bool (.lit true)) else none
    | .const _, .neq => bif isIface P t then some (.bool (.lit false)) else none
    | _, _ => none
  | x, y => opBin P op t x y
theorem opBinO_sound {P : Program} {ρ : Rho} {ν : Nu} {op : BinOp} {t : TypeId} {x y : SV} {u v : Value} {s : SV} {ox oy : Operand} (hx : x.R ρ ν u) (hy : y.R ρ ν v) (h : opBinO P op t oy x y = some s) :
    Yv P ρ ν (do eqGuard op t ox oy u v; binOp op t u v) s := by
  unfold opBinO at h
  split at h
  · simp only [SV.R] at hx hy
    subst hx hy
    split at h
    · rename_i c
      cases hc : isIface P t <;> simp only [hc, cond_true, cond_false] at h
      · cases h
      · cases h
        exact Yv.of (.bool true) rfl fun w => by rw [eqGuard_nil_constR]; simp [run_eql_nil_nil w t (isIface_eq hc)]
    · rename_i c
      cases hc : isIface P t <;> simp only [hc, cond_true, cond_false] at h
      · cases h
      · cases h
        exact Yv.of (.bool false) rfl fun w => by rw [eqGuard_nil_constR]; simp [run_neq_nil_nil w t (isIface_eq hc)]
    · cases h
  · exact opBin_sound hx hy h ox oy
end Go.Eng
/- The engine's operations that look at no memory: places, parts, and all together. -/
namespace Go.Eng

abbrev Good (P : Program) (ρ : Rho) (ν : Nu) (σ σ' : St) (m : Sem Value) (s : SV) : Prop := Asks ρ σ σ' ∧ (pcok ρ σ'.pc → Yv P ρ ν m s)

/-! a struct's field by its address -/
def fieldOff (P : Program) (t : TypeId) (f : Nat) : Option Nat :=
  match P.underlying t with
  | some (.struct fs) => match fs[f]? with
    | some fd => match tySize P fd.type with
      | some (_ + 1) => some fd.offset
      | _ => none
    | none => none
  | _ => none
def opFieldAddr (P : Program) (t : TypeId) (f : Nat) : SV → Option SV
  | .ptr n off => match fieldOff P t f with
    | some c => some (.ptr n (mAdd off (.lit c)))
    | none => none
  | _ => none
theorem opFieldAddr_sound {P : Program} {ρ : Rho} {ν : Nu} {t f : Nat} {x : SV} {u : Value} {s : SV} (hx : x.R ρ ν u) (h : opFieldAddr P t f x = some s) : Yv P ρ ν (Instr.fieldAt t u f) s := by
  cases x <;> simp only [opFieldAddr] at h <;> try (cases h; done)
  rename_i n off
  cases hf : fieldOff P t f with
  | none => simp [hf] at h
  | some c =>
    simp only [hf, Option.some.injEq] at h
    subst h
    simp only [SV.R] at hx
    obtain ⟨b, m, o, h1, h2, rfl⟩ := hx
    unfold fieldOff at hf
    cases hu : P.underlying t with
    | none => simp [hu] at hf
    | some d =>
      cases d <;> simp only [hu] at hf <;> try (cases hf; done)
      rename_i fs
      cases hfd : fs[f]? with
      | none => simp [hfd] at hf
      | some fd =>
        simp only [hfd] at hf
        split at hf
        · rename_i k hk
          cases hf
          refine Yv.of (.pointer (some ⟨b, o + fd.offset, none⟩)) ?_ fun w => ?_
          · simp only [SV.R]; exact ⟨b, m, o + fd.offset, h1, by rw [mAdd_ev, h2]; simp [Tm.ev], rfl⟩
          · simp [Instr.fieldAt, run_underlying hu, hfd, Instr.sureAddr, fieldPlace, run_sizeOf hk, Addr.add_lit]
        · cases hf

/-! an element's address -/
def opIndexAddr (P : Program) (t : TypeId) (x i : SV) (σ : St) : Option (SV × St) :=
  match P.underlying t, x, i with
  | some (.slice e), .sl n off len _, .int _ a =>
    match tySize P e, σ.must (bLe (.lit 0) a) with
    | some z, some σ1 => match σ1.must (bLt a len) with
      | some σ2 => some (.ptr n (mAdd off (mMul a (.lit z))), σ2)
      | none => none
    | _, _ => none
  | some (.array k e), .ptr n off, .int _ a =>
    match tySize P e, σ.must (bLe (.lit 0) a) with
    | some z, some σ1 => match σ1.must (bLt a (.lit k)) with
      | some σ2 => some (.ptr n (mAdd off (mMul a (.lit z))), σ2)
      | none => none
    | _, _ => none
  | _, _, _ => none
theorem opIndexAddr_sound {P : Program} {ρ : Rho} {ν : Nu} {t : Nat} {x i : SV} {u v : Value} {s : SV} {σ σ' : St} (hx : x.R ρ ν u) (hi : i.R ρ ν v) (h : opIndexAddr P t x i σ = some (s, σ')) :
    Good P ρ ν σ σ' (Instr.indexAt t u v) s := by
  unfold opIndexAddr at h
  split at h
  · rename_i e n off len cap k a hu
    split at h
    · rename_i z σ1 hz h1
      split at h
      · rename_i σ2 h2
        cases h
        obtain ⟨a1, b1⟩ := must_sound (ρ := ρ) h1
        obtain ⟨a2, b2⟩ := must_sound (ρ := ρ) h2
        refine ⟨a1.trans a2, fun hk => ?_⟩
        have c1 := b1 (a2.pc hk)
        have c2 := b2 hk
        simp only [SV.R] at hx hi
        obtain ⟨b, m, o, l, c, n1, n2, n3, n4, _, rfl⟩ := hx
        subst hi
        rw [bLe_ev] at c1
        rw [bLt_ev, n3] at c2
        replace c1 : 0 ≤ a.ev ρ := of_decide_eq_true c1
        replace c2 := of_decide_eq_true c2
        try simp only [Tm.ev] at c2
        refine Yv.of (.pointer (some ⟨b, o + (a.ev ρ).toNat * z, none⟩)) ?_ fun w => ?_
        · simp only [SV.R]
          refine ⟨b, m, _, n1, ?_, rfl⟩
          rw [mAdd_ev, mMul_ev, n2]
          simp only [Tm.ev, Int.natCast_add, Int.natCast_mul]
          rw [Int.toNat_of_nonneg c1]
        · have he : P.elem t = e := by simp [Program.elem, hu]
          rw [run_indexAt_slice w t _ _ _ _ _ (by rw [he]; exact hu), if_pos ⟨c1, c2⟩, he, run_sizeOf hz]
          simp [Addr.add_lit]
      · cases h
    · cases h
  · rename_i kk e n off k a hu
    split at h
    · rename_i z σ1 hz h1
      split at h
      · rename_i σ2 h2
        cases h
        obtain ⟨a1, b1⟩ := must_sound (ρ := ρ) h1
        obtain ⟨a2, b2⟩ := must_sound (ρ := ρ) h2
        refine ⟨a1.trans a2, fun hk => ?_⟩
        have c1 := b1 (a2.pc hk)
        have c2 := b2 hk
        simp only [SV.R] at hx hi
        obtain ⟨b, m, o, n1, n2, rfl⟩ := hx
        subst hi
        rw [bLe_ev] at c1
        rw [bLt_ev] at c2
        replace c1 : 0 ≤ a.ev ρ := of_decide_eq_true c1
        replace c2 := of_decide_eq_true c2
        try simp only [Tm.ev] at c2
        refine Yv.of (.pointer (some ⟨b, o + (a.ev ρ).toNat * z, none⟩)) ?_ fun w => ?_
        · simp only [SV.R]
          refine ⟨b, m, _, n1, ?_, rfl⟩
          rw [mAdd_ev, mMul_ev, n2]
          simp only [Tm.ev, Int.natCast_add, Int.natCast_mul]
          rw [Int.toNat_of_nonneg c1]
        · have he : P.elem t = e := by simp [Program.elem, hu]
          have hl : P.arrayLen t = kk := by simp [Program.arrayLen, hu]
          rw [run_indexAt_array w t _ _ _ (by rw [he, hl]; exact hu), hl, if_pos ⟨c1, c2⟩, he, run_sizeOf hz]
          simp [Addr.add_lit]
      · cases h
    · cases h
  · cases h

/-! parts of what is held -/
def partS (P : Program) (t : TypeId) (cs : List SV) (off : Nat) : Option SV :=
  match tyAgg P t, tySize P t with
  | some true, some n => bif Nat.ble (off + n) cs.length then some (.agg ((cs.drop off).take n)) else none
  | some false, _ => cs[off]?
  | _, _ => none
theorem partS_sound {P : Program} {ρ : Rho} {ν : Nu} {t : Nat} {cs : List SV} {vs : Array Value} {off : Nat} {s : SV} (hv : RL ρ ν cs vs.toList) (h : partS P t cs off = some s) : Yv P ρ ν (part t vs off) s := by
  unfold partS at h
  split at h
  · rename_i n ht hn
    cases hb : Nat.ble (off + n) cs.length <;> simp only [hb, cond_true, cond_false] at h
    · cases h
    · cases h
      refine Yv.of (.agg (vs.extract off (off + n))) ?_ fun w => by simp [part, run_isAgg ht, run_sizeOf hn]
      simp only [SV.R]
      refine ⟨_, rfl, ?_⟩
      have := RL_take n (RL_drop off hv)
      simpa [List.extract_eq_take_drop] using this
  · rename_i ht
    obtain ⟨v, h1, h2⟩ := RL_get hv h
    exact Yv.of v h2 fun w => run_part_one ht (by simpa using h1) w
  · cases h

def opField (P : Program) (t : TypeId) (f : Nat) : SV → Option SV
  | .agg cs => match P.underlying t with
    | some (.struct fs) => match fs[f]? with
      | some fd => partS P fd.type cs fd.offset
      | none => none
    | _ => none
  | _ => none
theorem opField_sound {P : Program} {ρ : Rho} {ν : Nu} {t f : Nat} {x : SV} {u : Value} {s : SV} (hx : x.R ρ ν u) (h : opField P t f x = some s) : Yv P ρ ν (Instr.field t u f) s := by
  cases x <;> simp only [opField] at h <;> try (cases h; done)
  simp only [SV.R] at hx
  obtain ⟨vs, rfl, hv⟩ := hx
  split at h
  · rename_i fs hu
    split at h
    · rename_i fd hf
      obtain ⟨v, h1, h2⟩ := partS_sound hv h
      exact Yv.of v h1 fun w => by simp [Instr.field, run_underlying hu, hf, asAgg, h2]
    · cases h
  · cases h

def opIndex (P : Program) (t : TypeId) : SV → SV → Option SV
  | .agg cs, .int _ (.lit (.ofNat i)) => match P.underlying t with
    | some (.array len e) => match tySize P e with
      | some z => bif Nat.blt i len then partS P e cs (i * z) else none
      | none => none
    | _ => none
  | _, _ => none
theorem opIndex_sound {P : Program} {ρ : Rho} {ν : Nu} {t : Nat} {x i : SV} {u v : Value} {s : SV} (hx : x.R ρ ν u) (hi : i.R ρ ν v) (h : opIndex P t x i = some s) : Yv P ρ ν (Instr.index t u v) s := by
  unfold opIndex at h
  split at h
  · rename_i cs k i
    simp only [SV.R] at hx hi
    obtain ⟨vs, rfl, hv⟩ := hx
    subst hi
    split at h
    · rename_i len e hu
      split at h
      · rename_i z hz
        cases hb : Nat.blt i len <;> simp only [hb, cond_true, cond_false] at h
        · cases h
        · have hlt : i < len := by simpa [Nat.blt_eq] using hb
          obtain ⟨v, h1, h2⟩ := partS_sound hv h
          refine Yv.of v h1 fun w => ?_
          simp [Instr.index, asIntOf, Tm.ev, run_underlying hu, hlt, run_sizeOf hz, h2]
      · cases h
    · cases h
  · cases h

/-! a struct put together -/
def cellsOf : SV → Option (List SV)
  | .agg l => some l
  | .tup _ => none
  | .any => none
  | .raw _ => none
  | s => some [s]
theorem cellsOf_sound {ρ : Rho} {ν : Nu} {s : SV} {l : List SV} {v : Value} (hs : s.R ρ ν v) (h : cellsOf s = some l) : RL ρ ν l v.cells.toList := by
  have one : ∀ {u : Value}, s.R ρ ν u → u.cells = #[u] → RL ρ ν [s] u.cells.toList := fun {u} h1 h2 => by
    rw [h2]; simp only [RL]; exact ⟨u, [], rfl, h1, rfl⟩
  cases s <;> simp only [cellsOf, Option.some.injEq] at h <;> try (cases h; done)
  case agg l' => subst h; simp only [SV.R] at hs; obtain ⟨vs, rfl, hv⟩ := hs; exact hv
  all_goals
    subst h
    refine one hs ?_
    simp only [SV.R] at hs
  case ptr => obtain ⟨b, m, o, _, _, rfl⟩ := hs; rfl
  case sl => obtain ⟨b, m, o, l, c, _, _, _, _, _, rfl⟩ := hs; rfl
  case slz => obtain ⟨a, c, rfl⟩ := hs; rfl
  case fn => obtain ⟨a, c, rfl, _, _⟩ := hs; rfl
  case iface => obtain ⟨y, rfl, _⟩ := hs; rfl
  case flt => obtain ⟨n, _, _, rfl⟩ := hs; rfl
  case unk => obtain ⟨n, rfl⟩ := hs; rfl
  case cpx => obtain ⟨n, m, _, _, _, _, rfl⟩ := hs; rfl
  all_goals subst hs; rfl
def fillS (place : Nat → Option (Nat × Nat)) (cells : List SV) : List (Nat × SV) → Option (List SV)
  | [] => some cells
  | (i, s) :: rest => match place i, cellsOf s with
    | some (off, size), some l => bif Nat.beq l.length size && Nat.ble (off + l.length) cells.length then fillS place (cells.take off ++ (l ++ cells.drop (off + l.length))) rest else none
    | _, _ => none
theorem foldl_set (off : Nat) : ∀ (vs : List Value) (j : Nat) (c : Array Value), off + j + vs.length ≤ c.size →
    ((vs.zipIdx j).foldl (fun (cs : Array Value) (x : Value × Nat) => cs.setIfInBounds (off + x.2) x.1) c).toList = c.toList.take (off + j) ++ (vs ++ c.toList.drop (off + j + vs.length))
  | [], j, c, _ => by simp
  | v :: vs, j, c, h => by
    simp only [List.zipIdx_cons, List.foldl_cons]
    rw [foldl_set off vs (j + 1) _ (by simp at h ⊢; omega)]
    have e := list_seg_step c.toList (off + j) v vs (by simp at h ⊢; omega)
    simp only [Array.toList_setIfInBounds, List.append_assoc] at e ⊢
    rw [show off + (j + 1) = off + j + 1 by omega, e]
    simp [Nat.add_assoc]
theorem fillS_sound {ρ : Rho} {ν : Nu} {place place' : Nat → Option (Nat × Nat)} (hp : ∀ i, place i = place' i) : ∀ {parts : List (Nat × SV)} {pv : List (Nat × Value)} {cells cells' : List SV} {cv : Array Value},
    RL ρ ν cells cv.toList → parts.length = pv.length → (∀ (j : Nat) (s : Nat × SV), parts[j]? = some s → ∃ v, pv[j]? = some (s.1, v) ∧ s.2.R ρ ν v) → fillS place cells parts = some cells' →
    ∃ cv', Instr.fill place' cv pv = some cv' ∧ RL ρ ν cells' cv'.toList
  | [], pv, cells, cells', cv, hc, hl, _, h => by
    cases pv with
    | cons x xs => simp at hl
    | nil => simp only [fillS, Option.some.injEq] at h; subst h; exact ⟨cv, rfl, hc⟩
  | (i, s) :: rest, pv, cells, cells', cv, hc, hl, hr, h => by
    cases pv with
    | nil => simp at hl
    | cons x xs =>
      obtain ⟨v, h1, h2⟩ := hr 0 (i, s) rfl
      simp only [List.getElem?_cons_zero, Option.some.injEq] at h1
      subst h1
      simp only [fillS] at h
      split at h
      · rename_i off size l e1 e2
        cases hb : Nat.beq l.length size && Nat.ble (off + l.length) cells.length <;> simp only [hb, cond_true, cond_false] at h
        · cases h
        · simp only [Bool.and_eq_true] at hb
          have hsz : l.length = size := Nat.eq_of_beq_eq_true hb.1
          have hle : off + l.length ≤ cells.length := Nat.le_of_ble_eq_true hb.2
          have hv := cellsOf_sound h2 e2
          have hvl := RL_length hv
          have hcl := RL_length hc
          have hfold := foldl_set off v.cells.toList 0 cv (by simp at hvl hcl ⊢; omega)
          simp only [Nat.add_zero] at hfold
          obtain ⟨cv', k1, k2⟩ := fillS_sound hp (parts := rest) (pv := xs) (cells := cells.take off ++ (l ++ cells.drop (off + l.length)))
            (cv := (v.cells.zipIdx.foldl (fun cs (c, j) => cs.setIfInBounds (off + j) c) cv))
            (by
              have e : (v.cells.zipIdx.foldl (fun cs (c, j) => cs.setIfInBounds (off + j) c) cv).toList = cv.toList.take off ++ (v.cells.toList ++ cv.toList.drop (off + v.cells.toList.length)) := by
                rw [← hfold, ← Array.foldl_toList, Array.toList_zipIdx]
              rw [e, hvl]
              exact RL_append (RL_take _ hc) (RL_append hv (RL_drop _ hc)))
            (by simpa using hl) (fun j s hj => hr (j + 1) s hj) h
          refine ⟨cv', ?_, k2⟩
          have c1 : ¬ (v.cells.size ≠ size) := by simp at hvl; omega
          have c2 : ¬ (off + v.cells.size > cv.size) := by simp at hvl hcl; omega
          simp only [Instr.fill, ← hp, e1]
          rw [if_neg (by simp; simp at c1 c2; omega)]
          exact k1
      · cases h
def opBuild (P : Program) (t : TypeId) (parts : List (Nat × SV)) : Option SV :=
  match P.info? t, P.underlying t with
  | some it, some (.struct fields) =>
    match it.zero, fields.toList.mapM (fun f => (P.info? f.type).map fun i => (f.offset, i.size)) with
    | some z, some places => match fillS (fun i => places[i]?) (z.cells.toList.map ofV1) parts with
      | some l => some (.agg l)
      | none => none
    | _, _ => none
  | some it, some (.array _ e) =>
    match it.zero, P.info? e with
    | some z, some ie => match fillS (fun i => some (i * ie.size, ie.size)) (z.cells.toList.map ofV1) parts with
      | some l => some (.agg l)
      | none => none
    | _, _ => none
  | _, _ => none
theorem opBuild_sound {P : Program} {ρ : Rho} {ν : Nu} {t : Nat} {parts : List (Nat × SV)} {pv : Array (Nat × Value)} {s : SV} (hl : parts.length = pv.size)
    (hr : ∀ (j : Nat) (s : Nat × SV), parts[j]? = some s → ∃ v, pv[j]? = some (s.1, v) ∧ s.2.R ρ ν v) (h : opBuild P t parts = some s) : Yv P ρ ν (Instr.build t pv) s := by
  unfold opBuild at h
  split at h
  · rename_i it fields hi hu
    split at h
    · rename_i z places hz hp
      split at h
      · rename_i l hf
        cases h
        obtain ⟨cv', k1, k2⟩ := fillS_sound (place' := (places.toArray[·]?)) (fun i => by simp) (pv := pv.toList) (cv := z.cells) (ofV1s_R ρ ν _) (by simpa using hl) (fun j s hj => by simpa using hr j s hj) hf
        refine Yv.of (.agg cv') (by simp only [SV.R]; exact ⟨_, rfl, k2⟩) fun w => run_build w t pv cv' ?_
        simp only [Program.built, hi, hu, hz, hp]
        exact k1
      · cases h
    · cases h
  · rename_i it n e hi hu
    split at h
    · rename_i z ie hz hie
      split at h
      · rename_i l hf
        cases h
        obtain ⟨cv', k1, k2⟩ := fillS_sound (place' := fun i => some (i * ie.size, ie.size)) (fun i => rfl) (pv := pv.toList) (cv := z.cells) (ofV1s_R ρ ν _) (by simpa using hl) (fun j s hj => by simpa using hr j s hj) hf
        refine Yv.of (.agg cv') (by simp only [SV.R]; exact ⟨_, rfl, k2⟩) fun w => run_build w t pv cv' ?_
        simp only [Program.built, hi, hu, hz, hie]
        exact k1
      · cases h
    · cases h
  · cases h
end Go.Eng
/- The engine's operations that look at no memory: the rest, and all together. -/
namespace Go.Eng

/-! slices of slices -/
def loT : Option SV → Option Tm
  | none => some (.lit 0)
  | some (.int _ t) => some t
  | _ => none
def hiT (len : Tm) : Option SV → Option Tm
  | none => some len
  | some (.int _ t) => some t
  | _ => none
def isLit0 (t : Tm) : Bool := match litOf t with | some n => intEq n 0 | none => false
theorem isLit0_eq {t : Tm} (h : isLit0 t = true) : t = .lit 0 := by
  unfold isLit0 at h
  cases hl : litOf t with
  | none => simp [hl] at h
  | some n => simp only [hl] at h; rw [litOf_eq hl, intEq_sound h]
def capTop (len : Tm) : Cap → Tm
  | .known t => t
  | .room _ => len
def capLess (L : Tm) (z : Nat) : Cap → Option Cap
  | .known t => some (.known (mSub t L))
  | .room s => bif Nat.beq s z then some (.room s) else none
def opSlice (P : Program) (t : TypeId) (x : SV) (lo hi : Option SV) (σ : St) : Option (SV × St) :=
  match P.underlying t, x with
  | some (.slice e), .sl n off len cap =>
    match tySize P e, loT lo, hiT len hi with
    | some z, some L, some H =>
      match σ.must (bLe (.lit 0) L) with
      | some σ1 => match σ1.must (bLe L H) with
        | some σ2 => match σ2.must (bLe H (capTop len cap)) with
          | some σ3 =>
            bif isLit0 L then some (.sl n off H cap, σ3) else
            match σ3.ask (bLt L H), capLess L z cap with
            | some (true, σ4), some cap' => some (.sl n (mAdd off (mMul L (.lit z))) (mSub H L) cap', σ4)
            | some (false, σ4), _ => some (.slz, σ4)
            | _, _ => none
          | none => none
        | none => none
      | none => none
    | _, _, _ => none
  | some (.array k e), .ptr n off =>
    match tySize P e, lo, hi with
    | some _, none, none => some (.sl n off (.lit k) (.known (.lit k)), σ)
    | _, _, _ => none
  | _, _ => none
theorem opt_int {ρ : Rho} {ν : Nu} {x : Option SV} {u : Option Value} (h : match x, u with | none, none => True | some s, some v => s.R ρ ν v | _, _ => False) :
    (x = none ∧ u = none) ∨ ∃ s v, x = some s ∧ u = some v ∧ s.R ρ ν v := by
  cases x <;> cases u <;> simp_all
def OR (ρ : Rho) (ν : Nu) (x : Option SV) (u : Option Value) : Prop := (x = none ∧ u = none) ∨ ∃ s v, x = some s ∧ u = some v ∧ s.R ρ ν v
theorem run_bounds {P : Program} {ρ : Rho} {ν : Nu} {lo hi : Option SV} {vlo vhi : Option Value} (hlo : OR ρ ν lo vlo) (hhi : OR ρ ν hi vhi) {len L H : Tm} {l c : Nat}
    (hl : len.ev ρ = (l : Int)) (e1 : loT lo = some L) (e2 : hiT len hi = some H) (h0 : 0 ≤ L.ev ρ) (h1 : L.ev ρ ≤ H.ev ρ) (h2 : H.ev ρ ≤ c) (w : World) :
    (Instr.sliceBounds true l c vlo vhi none).run P w = .ok ((L.ev ρ).toNat, (H.ev ρ).toNat, c) w := by
  have A : ∃ f : Nat → Sem Nat, True := ⟨fun _ => pure 0, trivial⟩
  rcases hlo with ⟨rfl, rfl⟩ | ⟨s, v, rfl, rfl, hs⟩ <;> rcases hhi with ⟨rfl, rfl⟩ | ⟨s', v', rfl, rfl, hs'⟩
  · simp only [loT, hiT, Option.some.injEq] at e1 e2
    subst e1 e2
    simp [Instr.sliceBounds, Tm.ev, hl]
  · cases s' <;> simp only [hiT, Option.some.injEq] at e2 <;> try (cases e2; done)
    simp only [loT, Option.some.injEq] at e1
    subst e1 e2
    simp only [SV.R] at hs'
    subst hs'
    simp only [Tm.ev] at h0 h1
    simp [Instr.sliceBounds, Tm.ev, run_sliceBound, h1, h2]
  · cases s <;> simp only [loT, Option.some.injEq] at e1 <;> try (cases e1; done)
    simp only [hiT, Option.some.injEq] at e2
    subst e1 e2
    simp only [SV.R] at hs
    subst hs
    rw [hl] at h1
    simp [Instr.sliceBounds, hl, run_sliceBound, h0, h1]
  · cases s <;> simp only [loT, Option.some.injEq] at e1 <;> try (cases e1; done)
    cases s' <;> simp only [hiT, Option.some.injEq] at e2 <;> try (cases e2; done)
    subst e1 e2
    simp only [SV.R] at hs hs'
    subst hs hs'
    have hn : 0 ≤ Tm.ev ρ _ := Int.le_trans h0 h1
    simp [Instr.sliceBounds, run_sliceBound, h0, h2, hn, Int.toNat_of_nonneg hn, h1]
theorem opSlice_sound {P : Program} {ρ : Rho} {ν : Nu} {t : Nat} {x : SV} {u : Value} {lo hi : Option SV} {vlo vhi : Option Value} {s : SV} {σ σ' : St} (hx : x.R ρ ν u)
    (hlo : OR ρ ν lo vlo) (hhi : OR ρ ν hi vhi) (h : opSlice P t x lo hi σ = some (s, σ')) : Good P ρ ν σ σ' (Instr.sliceAt t u vlo vhi none) s := by
  unfold opSlice at h
  split at h
  · rename_i e n off len cap hu
    split at h
    · rename_i z L H hz e1 e2
      split at h
      · rename_i σ1 m1
        split at h
        · rename_i σ2 m2
          split at h
          · rename_i σ3 m3
            obtain ⟨a1, b1⟩ := must_sound (ρ := ρ) m1
            obtain ⟨a2, b2⟩ := must_sound (ρ := ρ) m2
            obtain ⟨a3, b3⟩ := must_sound (ρ := ρ) m3
            simp only [SV.R] at hx
            obtain ⟨b, m, o, l, c, n1, n2, n3, n4, n5, rfl⟩ := hx
            have hcap : (capTop len cap).ev ρ ≤ (c : Int) := by
              cases cap with
              | known t => simp only at n5; simp [capTop, n5]
              | room s => simp only [capTop, n3]; omega
            have bnd : pcok ρ σ3.pc → 0 ≤ L.ev ρ ∧ L.ev ρ ≤ H.ev ρ ∧ H.ev ρ ≤ (c : Int) := fun hk => by
              have c1 := b1 (a2.pc (a3.pc hk))
              have c2 := b2 (a3.pc hk)
              have c3 := b3 hk
              rw [bLe_ev] at c1 c2 c3
              replace c1 : 0 ≤ L.ev ρ := of_decide_eq_true c1
              replace c2 := of_decide_eq_true c2
              replace c3 := of_decide_eq_true c3
              exact ⟨c1, c2, Int.le_trans c3 hcap⟩
            have he : P.elem t = e := by simp [Program.elem, hu]
            have hrun : pcok ρ σ3.pc → ∀ w, (Instr.sliceAt t (.slice (some ⟨b, o, none⟩) l c) vlo vhi none).run P w = .ok (sliced (some ⟨b, o, none⟩) (L.ev ρ).toNat (H.ev ρ).toNat c z) w := fun hk w => by
              obtain ⟨h0, h1, h2⟩ := bnd hk
              rw [run_sliceAt_slice w t _ _ _ _ (by rw [he]; exact hu), run_slice_any w t _ l c (by rw [he]; exact hu), run_bounds hlo hhi n3 e1 e2 h0 h1 h2, he]
              simp [run_sizeOf hz]
            cases hl0 : isLit0 L <;> simp only [hl0, cond_true, cond_false] at h
            · split at h
              · rename_i σ4 cap' ha hc'
                cases h
                obtain ⟨a4, b4⟩ := ask_sound (ρ := ρ) ha
                refine ⟨((a1.trans a2).trans a3).trans a4, fun hk => ?_⟩
                obtain ⟨h0, h1, h2⟩ := bnd (a4.pc hk)
                have c4 := b4 hk
                rw [bLt_ev] at c4
                replace c4 := of_decide_eq_true c4
                have hmne : c ≠ (L.ev ρ).toNat := by omega
                refine Yv.of _ ?_ (hrun (a4.pc hk))
                simp only [SV.R, sliced, if_neg hmne, Option.map_some, Addr.add_lit]
                refine ⟨b, m, o + (L.ev ρ).toNat * z, (H.ev ρ).toNat - (L.ev ρ).toNat, c - (L.ev ρ).toNat, n1, ?_, ?_, by omega, ?_, rfl⟩
                · rw [mAdd_ev, mMul_ev, n2]; simp only [Tm.ev, Int.natCast_add, Int.natCast_mul]; rw [Int.toNat_of_nonneg h0]
                · rw [mSub_ev]; omega
                · cases cap with
                  | known t => simp only [capLess, Option.some.injEq] at hc'; subst hc'; simp only at n5 ⊢; rw [mSub_ev, n5]; omega
                  | room s =>
                    simp only [capLess] at hc'
                    cases hb : Nat.beq s z <;> simp only [hb, cond_true, cond_false] at hc'
                    · cases hc'
                    · cases hc'
                      have := Nat.eq_of_beq_eq_true hb
                      subst this
                      simp only at n5 ⊢
                      have hLc : (L.ev ρ).toNat ≤ c := by omega
                      rw [Nat.add_assoc, ← Nat.add_mul, Nat.add_sub_cancel' hLc]
                      exact n5
              · rename_i σ4 _ ha
                cases h
                obtain ⟨a4, b4⟩ := ask_sound (ρ := ρ) ha
                refine ⟨((a1.trans a2).trans a3).trans a4, fun hk => ?_⟩
                obtain ⟨h0, h1, h2⟩ := bnd (a4.pc hk)
                have c4 := b4 hk
                rw [bLt_ev] at c4
                replace c4 := of_decide_eq_false c4
                refine Yv.of _ ?_ (hrun (a4.pc hk))
                simp only [SV.R, sliced]
                have hz' : (H.ev ρ).toNat - (L.ev ρ).toNat = 0 := by omega
                rw [hz']
                by_cases hm : c = (L.ev ρ).toNat
                · rw [if_pos hm]; exact ⟨_, _, rfl⟩
                · rw [if_neg hm]; exact ⟨_, _, rfl⟩
              · cases h
            · cases h
              refine ⟨(a1.trans a2).trans a3, fun hk => ?_⟩
              obtain ⟨h0, h1, h2⟩ := bnd hk
              have hL := isLit0_eq hl0
              subst hL
              refine Yv.of _ ?_ (hrun hk)
              have hz0 : (Tm.ev ρ (.lit 0)).toNat = 0 := rfl
              rw [hz0]
              simp only [SV.R, sliced, Nat.zero_mul, Nat.sub_zero, Option.map_some, Addr.add_zero', ite_self]
              refine ⟨b, m, o, (H.ev ρ).toNat, c, n1, n2, ?_, by omega, n5, rfl⟩
              simp only [Tm.ev] at h1
              omega
          · cases h
        · cases h
      · cases h
    · cases h
  · rename_i k e n off hu
    split at h
    · rename_i z hz
      cases h
      refine ⟨Asks.refl _ _, fun _ => ?_⟩
      simp only [SV.R] at hx
      obtain ⟨b, m, o, n1, n2, rfl⟩ := hx
      rcases hlo with ⟨_, rfl⟩ | ⟨s, v, h1, _⟩
      · rcases hhi with ⟨_, rfl⟩ | ⟨s, v, h1, _⟩
        · have he : P.elem t = e := by simp [Program.elem, hu]
          have hl : P.arrayLen t = k := by simp [Program.arrayLen, hu]
          refine Yv.of (.slice (some ⟨b, o, none⟩) k k) ?_ fun w => ?_
          · simp only [SV.R]; exact ⟨b, m, o, k, k, n1, n2, rfl, Nat.le_refl _, rfl, rfl⟩
          · rw [run_sliceAt_array_all w t _ (by rw [he, hl]; exact hu), he, run_sizeOf hz, hl]
            simp [slicedAt, Addr.add_zero']
        · cases h1
      · cases h1
    · cases h
  · cases h

/-! one value -/
def methOf (P : Program) (t : TypeId) (name : String) : Option FuncId :=
  match P.info? t with
  | some i => match i.methods.find? (·.name == name) with
    | some m => match m.path.toList, m.func, P.underlying t with
      | [], some (f, true), some (.pointer _) => some f
      | [], some (f, false), some (.struct _) => some f
      | _, _, _ => none
    | none => none
  | none => none
theorem methOf_nilAhead {P : Program} {t : TypeId} {name : String} {f : FuncId} (h : methOf P t name = some f) (n : Nat) (v : Value) (w : World) : (nilAhead (n + 1) t v name).run P w = .ok (some false) w := by
  unfold methOf at h
  split at h
  · rename_i i hi
    split at h
    · rename_i m hm
      split at h
      · rename_i g e hp hf hu
        simp [nilAhead, typeInfo, hi, hm, hp, followBlind, hf]
      · rename_i g fs hp hf hu
        simp [nilAhead, typeInfo, hi, hm, hp, followBlind, hf, run_underlying hu]
      · cases h
    · cases h
  · cases h
theorem methOf_method {P : Program} {t : TypeId} {name : String} {f : FuncId} (h : methOf P t name = some f) (n : Nat) (v : Value) (w : World) : (method (n + 1) t v name).run P w = .ok (f, v) w := by
  unfold methOf at h
  split at h
  · rename_i i hi
    split at h
    · rename_i m hm
      split at h
      · rename_i g e hp hf hu
        cases h
        simp [method, typeInfo, hi, hm, hp, follow, hf, receiverAt, run_underlying hu, Place.get]
      · rename_i g fs hp hf hu
        cases h
        simp [method, typeInfo, hi, hm, hp, follow, hf, receiverAt, run_underlying hu, Place.get]
      · cases h
    · cases h
  · cases h

def opNilCheck (P : Program) : SV → Option SV
  | .ptr n off => some (.ptr n off)
  | .fn (.func f) a c => some (.fn (.func f) a c)
  | .fn (.method name) [.iface t x] c => match methOf P t name with
    | some _ => some (.fn (.method name) [.iface t x] c)
    | none => none
  | .iface t x => some (.iface t x)
  | _ => none

def opUn (op : UnOp) : SV → Option SV
  | .bool b => match op with | .not => some (.bool (bNot b)) | _ => none
  | .int k a => match op with | .neg => some (.int k (mWrap k (mSub (.lit 0) a))) | _ => none
  | _ => none
theorem opUn_sound {P : Program} {ρ : Rho} {ν : Nu} {op : UnOp} {x : SV} {u : Value} {s : SV} (hx : x.R ρ ν u) (h : opUn op x = some s) : Yv P ρ ν (Op.unary op u) s := by
  unfold opUn at h
  split at h
  · split at h
    · cases h; simp only [SV.R] at hx; subst hx
      exact Yv.of _ rfl fun w => by simp [unary_not, bNot_ev]
    · cases h
  · split at h
    · cases h; simp only [SV.R] at hx; subst hx
      exact Yv.of _ rfl fun w => by rw [unary_neg]; simp [Op.intArith, mWrap_ev, mSub_ev, Tm.ev]
    · cases h
  · cases h

def opConv (P : Program) (src dst : TypeId) : SV → Option SV
  | .int _ a => match P.underlying src, P.underlying dst with
    | some _, some (.int k) => some (.int k (mWrap k a))
    | _, _ => none
  | _ => none
theorem opConv_sound {P : Program} {ρ : Rho} {ν : Nu} {src dst : TypeId} {x : SV} {u : Value} {s : SV} (hx : x.R ρ ν u) (h : opConv P src dst x = some s) : Yv P ρ ν (convert src dst u) s := by
  cases x <;> simp only [opConv] at h <;> try (cases h; done)
  split at h
  · rename_i d k hs hd
    cases h
    simp only [SV.R] at hx
    subst hx
    have hk : P.intKind dst = k := by simp [Program.intKind, hd]
    exact Yv.of _ rfl fun w => by rw [run_convert_int w src dst _ _ (by simp [hs]) (by rw [hk]; exact hd), hk]; simp [mWrap_ev]
  · cases h

def opConvS (P : Program) (src dst : TypeId) (x : SV) (σ : St) : Option (SV × St) :=
  match x with
  | .int k a => match P.underlying src, P.underlying dst with
    | some _, some (.float .f64) => match σ.must (bLe (.lit 0) a) with
      | some σ1 => match σ1.must (bLt a (.lit 9007199254740992)) with
        | some σ2 => some (.flt a, σ2)
        | none => none
      | none => none
    | _, _ => match opConv P src dst (.int k a) with
      | some s => some (s, σ)
      | none => none
  | .flt a => match P.underlying src, P.underlying dst with
    | some _, some (.int .i64) => some (.int .i64 a, σ)
    | _, _ => none
  | .cpx a b => match P.underlying src, P.underlying dst with
    | some _, some (.complex .f64) => some (.cpx a b, σ)
    | _, _ => none
  | _ => none
theorem opConvS_sound {P : Program} {ρ : Rho} {ν : Nu} {src dst : TypeId} {x : SV} {u : Value} {s : SV} {σ σ' : St} (hx : x.R ρ ν u) (h : opConvS P src dst x σ = some (s, σ')) :
    Asks ρ σ σ' ∧ (pcok ρ σ'.pc → Yv P ρ ν (convert src dst u) s) := by
  unfold opConvS at h
  split at h
  · rename_i k a
    split at h
    · rename_i d hs hd
      split at h
      · rename_i σ1 h1
        split at h
        · rename_i σ2 h2
          simp only [Option.some.injEq, Prod.mk.injEq] at h
          obtain ⟨rfl, rfl⟩ := h
          obtain ⟨a1, b1⟩ := must_sound (ρ := ρ) h1
          obtain ⟨a2, b2⟩ := must_sound (ρ := ρ) h2
          refine ⟨a1.trans a2, fun hk => ?_⟩
          have q1 := b1 (a2.pc hk)
          have q2 := b2 hk
          rw [bLe_ev] at q1
          rw [bLt_ev] at q2
          have q1 := of_decide_eq_true q1
          have q2 := of_decide_eq_true q2
          simp only [Tm.ev] at q1 q2
          simp only [SV.R] at hx
          subst hx
          have hn : a.ev ρ = ((a.ev ρ).toNat : Int) := by omega
          refine Yv.of (.float .f64 (FloatKind.f64.nearest (a.ev ρ))) (by simp only [SV.R]; exact ⟨(a.ev ρ).toNat, by omega, hn, by rw [← hn]⟩) fun w => ?_
          simp [convert, run_underlying hs, run_underlying hd, Conv.intToFloat]
        · cases h
      · cases h
    · split at h
      · rename_i s1 h1
        simp only [Option.some.injEq, Prod.mk.injEq] at h
        obtain ⟨rfl, rfl⟩ := h
        exact ⟨Asks.refl _ _, fun _ => opConv_sound hx h1⟩
      · cases h
  · rename_i a
    split at h
    · rename_i d hs hd
      simp only [Option.some.injEq, Prod.mk.injEq] at h
      obtain ⟨rfl, rfl⟩ := h
      refine ⟨Asks.refl _ _, fun _ => ?_⟩
      simp only [SV.R] at hx
      obtain ⟨n, h1, h2, rfl⟩ := hx
      refine Yv.of (.int .i64 n) (by simp only [SV.R]; rw [h2]) fun w => ?_
      have hb := f64_back h1
      have hr : IntKind.i64.min ≤ (n : Int) ∧ (n : Int) ≤ IntKind.i64.max := by
        have e1 : IntKind.i64.min = -9223372036854775808 := by decide
        have e2 : IntKind.i64.max = 9223372036854775807 := by decide
        rw [e1, e2]
        have : (2 : Nat) ^ 53 = 9007199254740992 := by decide
        omega
      simp only [convert, Sem.run_bind, run_underlying hs, run_underlying hd, Result.andThen_ok]
      cases d <;> simp only [Conv.floatToInt, hb, if_pos hr, Sem.run_pure]
    · cases h
  · rename_i a b
    split at h
    · rename_i d hs hd
      simp only [Option.some.injEq, Prod.mk.injEq] at h
      obtain ⟨rfl, rfl⟩ := h
      refine ⟨Asks.refl _ _, fun _ => ?_⟩
      have hx' := hx
      simp only [SV.R] at hx
      obtain ⟨n, m, h1, h2, h3, h4, rfl⟩ := hx
      refine Yv.of _ hx' fun w => ?_
      simp only [convert, Sem.run_bind, run_underlying hs, run_underlying hd, Result.andThen_ok]
      cases d <;> simp [Conv.complexToComplex, Conv.floatToFloat]
    · cases h
  · cases h

theorem opConvS_asks {P : Program} {ρ : Rho} {src dst : TypeId} {x : SV} {s : SV} {σ σ' : St} (h : opConvS P src dst x σ = some (s, σ')) : Asks ρ σ σ' := by
  unfold opConvS at h
  split at h
  · split at h
    · split at h
      · rename_i σ1 h1
        split at h
        · rename_i σ2 h2
          simp only [Option.some.injEq, Prod.mk.injEq] at h
          obtain ⟨_, rfl⟩ := h
          exact (must_sound h1).1.trans (must_sound h2).1
        · cases h
      · cases h
    · split at h
      · simp only [Option.some.injEq, Prod.mk.injEq] at h; obtain ⟨_, rfl⟩ := h; exact Asks.refl _ _
      · cases h
  · split at h
    · simp only [Option.some.injEq, Prod.mk.injEq] at h; obtain ⟨_, rfl⟩ := h; exact Asks.refl _ _
    · cases h
  · split at h
    · simp only [Option.some.injEq, Prod.mk.injEq] at h; obtain ⟨_, rfl⟩ := h; exact Asks.refl _ _
    · cases h
  · cases h

def opCpx : SV → SV → Option SV
  | .flt a, .flt b => some (.cpx a b)
  | _, _ => none
theorem opCpx_sound {P : Program} {ρ : Rho} {ν : Nu} {x y s : SV} {u v : Value} {ts : Array TypeId} {t : TypeId} (hx : x.R ρ ν u) (hy : y.R ρ ν v) (h : opCpx x y = some s) : Yv P ρ ν (Builtin.complex_ ts t #[u, v]) s := by
  unfold opCpx at h
  split at h
  · simp only [Option.some.injEq] at h
    subst h
    simp only [SV.R] at hx hy
    obtain ⟨n, h1, h2, rfl⟩ := hx
    obtain ⟨m, h3, h4, rfl⟩ := hy
    exact Yv.of _ (by simp only [SV.R]; exact ⟨n, m, h1, h3, h2, h4, rfl⟩) fun w => rfl
  · cases h
def opRe : SV → Option SV
  | .cpx a _ => some (.flt a)
  | _ => none
theorem opRe_sound {P : Program} {ρ : Rho} {ν : Nu} {x s : SV} {u : Value} {ts : Array TypeId} {t : TypeId} (hx : x.R ρ ν u) (h : opRe x = some s) : Yv P ρ ν (Builtin.real_ ts t #[u]) s := by
  unfold opRe at h
  split at h
  · simp only [Option.some.injEq] at h
    subst h
    simp only [SV.R] at hx
    obtain ⟨n, m, h1, h2, h3, h4, rfl⟩ := hx
    exact Yv.of _ (by simp only [SV.R]; exact ⟨n, h1, h3, rfl⟩) fun w => rfl
  · cases h
def opIm : SV → Option SV
  | .cpx _ b => some (.flt b)
  | _ => none
theorem opIm_sound {P : Program} {ρ : Rho} {ν : Nu} {x s : SV} {u : Value} {ts : Array TypeId} {t : TypeId} (hx : x.R ρ ν u) (h : opIm x = some s) : Yv P ρ ν (Builtin.imag_ ts t #[u]) s := by
  unfold opIm at h
  split at h
  · simp only [Option.some.injEq] at h
    subst h
    simp only [SV.R] at hx
    obtain ⟨n, m, h1, h2, h3, h4, rfl⟩ := hx
    exact Yv.of _ (by simp only [SV.R]; exact ⟨m, h2, h4, rfl⟩) fun w => rfl
  · cases h

def opMkIface (P : Program) (t : TypeId) (x : SV) : Option SV := bif P.concrete t then some (.iface t x) else none
theorem opMkIface_sound {P : Program} {ρ : Rho} {ν : Nu} {t : TypeId} {x : SV} {u : Value} {s : SV} (hx : x.R ρ ν u) (h : opMkIface P t x = some s) : Yv P ρ ν (Instr.makeInterface t u) s := by
  unfold opMkIface at h
  cases hc : P.concrete t <;> simp only [hc, cond_true, cond_false] at h
  · cases h
  · cases h
    exact Yv.of (.iface t u) (by simp only [SV.R]; exact ⟨u, rfl, hx⟩) fun w => run_makeInterface w t u hc

def opExtract (x : SV) (i : Nat) : Option SV :=
  match x with
  | .tup l => l[i]?
  | _ => none
theorem opExtract_sound {P : Program} {ρ : Rho} {ν : Nu} {x : SV} {i : Nat} {u : Value} {s : SV} (hx : x.R ρ ν u) (h : opExtract x i = some s) : Yv P ρ ν (Instr.extract u i) s := by
  cases x <;> simp only [opExtract] at h <;> try (cases h; done)
  simp only [SV.R] at hx
  obtain ⟨vs, rfl, hv⟩ := hx
  obtain ⟨v, h1, h2⟩ := RL_get hv h
  exact Yv.of v h2 fun w => by simp [Instr.extract, (by simpa using h1 : vs[i]? = some v)]

/-! builtins that look at no memory -/
def opLen (P : Program) (t : TypeId) : SV → Option SV
  | .sl _ _ len _ => bif isSlice P t then some (.int .i64 len) else none
  | .nils => bif isSlice P t then some (.int .i64 (.lit 0)) else none
  | .slz => bif isSlice P t then some (.int .i64 (.lit 0)) else none
  | _ => match P.underlying t with
    | some (.array n _) => some (.int .i64 (.lit n))
    | _ => none
theorem opLen_sound {P : Program} {ρ : Rho} {ν : Nu} {t ty : TypeId} {x : SV} {u : Value} {s : SV} (hx : x.R ρ ν u) (h : opLen P t x = some s) : Yv P ρ ν (Builtin.len_ #[t] ty #[u]) s := by
  have arr : (match P.underlying t with | some (.array n _) => some (SV.int .i64 (.lit n)) | _ => none) = some s → Yv P ρ ν (Builtin.len_ #[t] ty #[u]) s := fun h => by
    split at h
    · rename_i n e hu
      cases h
      exact Yv.of _ rfl fun w => by simp [Builtin.len_, run_underlying hu, goInt, Tm.ev]
    · cases h
  unfold opLen at h
  split at h
  · cases hc : isSlice P t <;> simp only [hc, cond_true, cond_false] at h
    · cases h
    · cases h
      simp only [SV.R] at hx
      obtain ⟨b, m, o, l, c, _, _, n3, _, _, rfl⟩ := hx
      exact Yv.of _ rfl fun w => by rw [run_len_slice w t ty _ _ _ (isSlice_eq hc), n3]; rfl
  · cases hc : isSlice P t <;> simp only [hc, cond_true, cond_false] at h
    · cases h
    · cases h
      simp only [SV.R] at hx
      subst hx
      exact Yv.of _ rfl fun w => by rw [run_len_slice w t ty _ _ _ (isSlice_eq hc)]; rfl
  · cases hc : isSlice P t <;> simp only [hc, cond_true, cond_false] at h
    · cases h
    · cases h
      simp only [SV.R] at hx
      obtain ⟨a, c, rfl⟩ := hx
      exact Yv.of _ rfl fun w => by rw [run_len_slice w t ty _ _ _ (isSlice_eq hc)]; rfl
  · exact arr h
def opMinMax (mx : Bool) (x y : SV) (σ : St) : Option (SV × St) :=
  match x, y with
  | .int k a, .int _ b => match σ.ask (bif mx then bLt a b else bLt b a) with
    | some (v, σ1) => some (.int k (bif v then b else a), σ1)
    | none => none
  | _, _ => none
theorem opMax_sound {P : Program} {ρ : Rho} {ν : Nu} {ts : Array TypeId} {ty : TypeId} {x y : SV} {u v : Value} {s : SV} {σ σ' : St} (hx : x.R ρ ν u) (hy : y.R ρ ν v) (h : opMinMax true x y σ = some (s, σ')) :
    Good P ρ ν σ σ' (Builtin.max_ ts ty #[u, v]) s := by
  unfold opMinMax at h
  split at h
  · rename_i k a l b
    simp only [cond_true] at h
    split at h
    · rename_i r σ1 ha
      cases h
      obtain ⟨a1, b1⟩ := ask_sound (ρ := ρ) ha
      refine ⟨a1, fun hk => ?_⟩
      have c1 := b1 hk
      rw [bLt_ev] at c1
      simp only [SV.R] at hx hy
      subst hx hy
      refine Yv.of _ rfl fun w => ?_
      rw [run_max_int2]
      cases r
      · rw [if_neg (of_decide_eq_false c1)]; simp
      · rw [if_pos (of_decide_eq_true c1)]; simp
    · cases h
  · cases h
theorem opMin_sound {P : Program} {ρ : Rho} {ν : Nu} {ts : Array TypeId} {ty : TypeId} {x y : SV} {u v : Value} {s : SV} {σ σ' : St} (hx : x.R ρ ν u) (hy : y.R ρ ν v) (h : opMinMax false x y σ = some (s, σ')) :
    Good P ρ ν σ σ' (Builtin.min_ ts ty #[u, v]) s := by
  unfold opMinMax at h
  split at h
  · rename_i k a l b
    simp only [cond_false] at h
    split at h
    · rename_i r σ1 ha
      cases h
      obtain ⟨a1, b1⟩ := ask_sound (ρ := ρ) ha
      refine ⟨a1, fun hk => ?_⟩
      have c1 := b1 hk
      rw [bLt_ev] at c1
      simp only [SV.R] at hx hy
      subst hx hy
      refine Yv.of _ rfl fun w => ?_
      rw [run_min_int2]
      cases r
      · rw [if_neg (of_decide_eq_false c1)]; simp
      · rw [if_pos (of_decide_eq_true c1)]; simp
    · cases h
  · cases h
end Go.Eng
/- The engine's operations that look at no memory, as operations of the code. -/
namespace Go.Eng

def optOpnd (tm : Nat → Option SV) : Option Operand → Option (Option SV)
  | none => some none
  | some x => match opnd tm x with
    | some s => some (some s)
    | none => none
theorem optOpnd_OR {ρ : Rho} {ν : Nu} {tm : Nat → Option SV} {a : Act} (h : TmR ρ ν tm a.tmps) {x : Option Operand} {s : Option SV} (hx : optOpnd tm x = some s) : OR ρ ν s (x.map a.eval) := by
  cases x with
  | none => simp only [optOpnd, Option.some.injEq] at hx; subst hx; exact .inl ⟨rfl, rfl⟩
  | some x =>
    simp only [optOpnd] at hx
    cases h1 : opnd tm x with
    | none => simp [h1] at hx
    | some s' => simp only [h1, Option.some.injEq] at hx; subst hx; exact .inr ⟨s', a.eval x, rfl, rfl, opnd_R h h1⟩
def partsS (tm : Nat → Option SV) : List (Nat × Operand) → Option (List (Nat × SV))
  | [] => some []
  | (i, x) :: r => match opnd tm x, partsS tm r with
    | some s, some l => some ((i, s) :: l)
    | _, _ => none
theorem partsS_R {ρ : Rho} {ν : Nu} {tm : Nat → Option SV} {a : Act} (h : TmR ρ ν tm a.tmps) : ∀ {ps : List (Nat × Operand)} {l : List (Nat × SV)}, partsS tm ps = some l →
    l.length = ps.length ∧ ∀ (j : Nat) (s : Nat × SV), l[j]? = some s → ∃ v, (ps.map fun (i, x) => (i, a.eval x))[j]? = some (s.1, v) ∧ s.2.R ρ ν v
  | [], l, hx => by simp only [partsS, Option.some.injEq] at hx; subst hx; exact ⟨rfl, fun j s hj => by simp at hj⟩
  | (i, x) :: r, l, hx => by
    simp only [partsS] at hx
    cases h1 : opnd tm x with
    | none => simp [h1] at hx
    | some s' =>
      cases h2 : partsS tm r with
      | none => simp [h1, h2] at hx
      | some l' =>
        simp only [h1, h2, Option.some.injEq] at hx
        subst hx
        obtain ⟨k1, k2⟩ := partsS_R h h2
        refine ⟨by simp [k1], fun j s hj => ?_⟩
        cases j with
        | zero => simp only [List.getElem?_cons_zero, Option.some.injEq] at hj; subst hj; exact ⟨a.eval x, by simp, opnd_R h h1⟩
        | succ j => simp only [List.getElem?_cons_succ] at hj; simpa using k2 j s hj

def same (σ : St) : Option SV → Option (SV × St)
  | some s => some (s, σ)
  | none => none
def opPure (P : Program) (tm : Nat → Option SV) (o : Oper) (σ : St) : Option (SV × St) :=
  match o.op with
  | .move x => same σ (opnd tm x)
  | .assign x => same σ (opnd tm x)
  | .pick c a b => match opnd tm c with
    | some (.bool t) => match σ.ask t with
      | some (true, σ1) => same σ1 (opnd tm a)
      | some (false, σ1) => same σ1 (opnd tm b)
      | none => none
    | _ => none
  | .build t ps => match partsS tm ps.toList with
    | some l => same σ (opBuild P t l)
    | none => none
  | .nilCheck x => match opnd tm x with
    | some s => same σ (opNilCheck P s)
    | none => none
  | .binOp op t x y _ => match opnd tm x, opnd tm y with
    | some s, some r => same σ (opBinO P op t y s r)
    | _, _ => none
  | .unOp op _ x => match opnd tm x with
    | some s => same σ (opUn op s)
    | none => none
  | .convert src dst x => match opnd tm x with
    | some s => opConvS P src dst s σ
    | none => none
  | .makeInterface t x => match opnd tm x with
    | some s => same σ (opMkIface P t s)
    | none => none
  | .makeFunc fn first caps => match opnds tm first.toList, opnds tm caps.toList with
    | some l, some r => some (.fn fn l r, σ)
    | _, _ => none
  | .slice t x lo hi none => match opnd tm x, optOpnd tm lo, optOpnd tm hi with
    | some s, some l, some h => opSlice P t s l h σ
    | _, _, _ => none
  | .fieldAddr t x f => match opnd tm x with
    | some s => same σ (opFieldAddr P t f s)
    | none => none
  | .field t x f => match opnd tm x with
    | some s => same σ (opField P t f s)
    | none => none
  | .indexAddr t x i => match opnd tm x, opnd tm i with
    | some s, some r => opIndexAddr P t s r σ
    | _, _ => none
  | .index t x i => match opnd tm x, opnd tm i with
    | some s, some r => same σ (opIndex P t s r)
    | _, _ => none
  | .extract x i => match opnd tm x with
    | some s => same σ (opExtract s i)
    | none => none
  | .call ⟨.builtin .len, args, tys⟩ => match args.toList, tys.toList with
    | [x], [t] => match opnd tm x with
      | some s => same σ (opLen P t s)
      | none => none
    | _, _ => none
  | .call ⟨.builtin .complex, args, _⟩ => match args.toList with
    | [x, y] => match opnd tm x, opnd tm y with
      | some s, some r => same σ (opCpx s r)
      | _, _ => none
    | _ => none
  | .call ⟨.builtin .real, args, _⟩ => match args.toList with
    | [x] => match opnd tm x with
      | some s => same σ (opRe s)
      | none => none
    | _ => none
  | .call ⟨.builtin .imag, args, _⟩ => match args.toList with
    | [x] => match opnd tm x with
      | some s => same σ (opIm s)
      | none => none
    | _ => none
  | .call ⟨.builtin .max, args, _⟩ => match args.toList with
    | [x, y] => match opnd tm x, opnd tm y with
      | some s, some r => opMinMax true s r σ
      | _, _ => none
    | _ => none
  | .call ⟨.builtin .min, args, _⟩ => match args.toList with
    | [x, y] => match opnd tm x, opnd tm y with
      | some s, some r => opMinMax false s r σ
      | _, _ => none
    | _ => none
  | _ => none

def Yn (P : Program) (ρ : Rho) (ν : Nu) (m : Sem Next) (s : SV) : Prop := ∃ v, s.R ρ ν v ∧ ∀ w, m.run P w = .ok (.value v) w
abbrev GoodN (P : Program) (ρ : Rho) (ν : Nu) (σ σ' : St) (m : Sem Next) (s : SV) : Prop := Asks ρ σ σ' ∧ (pcok ρ σ'.pc → Yn P ρ ν m s)
theorem goodN_of {P : Program} {ρ : Rho} {ν : Nu} {σ σ' : St} {m : Sem Value} {s : SV} (h : Good P ρ ν σ σ' m s) : GoodN P ρ ν σ σ' (do pure (.value (← m))) s :=
  ⟨h.1, fun hk => let ⟨v, h1, h2⟩ := h.2 hk; ⟨v, h1, fun w => by simp [h2]⟩⟩
theorem goodN_same {P : Program} {ρ : Rho} {ν : Nu} {σ σ' : St} {m : Sem Value} {s : SV} {x : Option SV} (hs : same σ x = some (s, σ')) (h : x = some s → Yv P ρ ν m s) : GoodN P ρ ν σ σ' (do pure (.value (← m))) s := by
  cases x with
  | none => simp [same] at hs
  | some y =>
    simp only [same, Option.some.injEq, Prod.mk.injEq] at hs
    obtain ⟨rfl, rfl⟩ := hs
    exact goodN_of ⟨Asks.refl _ _, fun _ => h rfl⟩
theorem goodN_val {P : Program} {ρ : Rho} {ν : Nu} {σ σ' : St} {s : SV} {x : Option SV} {v : Value} (hs : same σ x = some (s, σ')) (h : x = some s → s.R ρ ν v) : GoodN P ρ ν σ σ' (pure (.value v)) s := by
  cases x with
  | none => simp [same] at hs
  | some y =>
    simp only [same, Option.some.injEq, Prod.mk.injEq] at hs
    obtain ⟨rfl, rfl⟩ := hs
    exact ⟨Asks.refl _ _, fun _ => ⟨v, h rfl, fun w => rfl⟩⟩
theorem types_depth (P : Program) : P.types.size + Made.depth = (P.types.size + 99) + 1 := rfl

theorem opPure_sound {P : Program} {ρ : Rho} {ν : Nu} {tm : Nat → Option SV} {a : Act} {o : Oper} {σ σ' : St} {s : SV} (hT : TmR ρ ν tm a.tmps) (h : opPure P tm o σ = some (s, σ')) :
    GoodN P ρ ν σ σ' (execOp a.eval o) s := by
  unfold opPure at h
  unfold execOp
  generalize o.op = op at h ⊢
  cases op <;> simp only at h ⊢ <;> try (cases h; done)
  case move x => exact goodN_val h fun e => opnd_R hT e
  case assign x => exact goodN_val h fun e => opnd_R hT e
  case pick c x y =>
    split at h
    · rename_i t hc
      have hb := opnd_R hT hc
      simp only [SV.R] at hb
      split at h
      · rename_i σ1 ha
        obtain ⟨a1, b1⟩ := ask_sound (ρ := ρ) ha
        cases hx : opnd tm x with
        | none => simp [hx, same] at h
        | some s' =>
          simp only [hx, same, Option.some.injEq, Prod.mk.injEq] at h
          obtain ⟨rfl, rfl⟩ := h
          refine ⟨a1, fun hk => ⟨a.eval x, opnd_R hT hx, fun w => ?_⟩⟩
          rw [hb, b1 hk]
          simp [asBool]
      · rename_i σ1 ha
        obtain ⟨a1, b1⟩ := ask_sound (ρ := ρ) ha
        cases hx : opnd tm y with
        | none => simp [hx, same] at h
        | some s' =>
          simp only [hx, same, Option.some.injEq, Prod.mk.injEq] at h
          obtain ⟨rfl, rfl⟩ := h
          refine ⟨a1, fun hk => ⟨a.eval y, opnd_R hT hx, fun w => ?_⟩⟩
          rw [hb, b1 hk]
          simp [asBool]
      · cases h
    · cases h
  case build t ps =>
    split at h
    · rename_i l hl
      obtain ⟨k1, k2⟩ := partsS_R hT hl
      exact goodN_same h fun e => opBuild_sound (by simp [k1]) (fun j s hj => by
        obtain ⟨v, e1, e2⟩ := k2 j s hj
        refine ⟨v, ?_, e2⟩
        rw [← Array.getElem?_toList, Array.toList_map]
        exact e1) e
    · cases h
  case nilCheck x =>
    split at h
    · rename_i s0 hx
      have hr := opnd_R hT hx
      unfold opNilCheck at h
      split at h
      · simp only [same, Option.some.injEq, Prod.mk.injEq] at h
        obtain ⟨rfl, rfl⟩ := h
        refine ⟨Asks.refl _ _, fun _ => ⟨a.eval x, hr, fun w => ?_⟩⟩
        simp only [SV.R] at hr
        obtain ⟨b, m, o', _, _, hv⟩ := hr
        rw [hv]; rfl
      · simp only [same, Option.some.injEq, Prod.mk.injEq] at h
        obtain ⟨rfl, rfl⟩ := h
        refine ⟨Asks.refl _ _, fun _ => ⟨a.eval x, hr, fun w => ?_⟩⟩
        simp only [SV.R] at hr
        obtain ⟨as, cs, hv, _, _⟩ := hr
        rw [hv]; rfl
      · split at h
        · rename_i f hm
          simp only [same, Option.some.injEq, Prod.mk.injEq] at h
          obtain ⟨rfl, rfl⟩ := h
          refine ⟨Asks.refl _ _, fun _ => ⟨a.eval x, hr, fun w => ?_⟩⟩
          simp only [SV.R, RL] at hr
          obtain ⟨as, cs, hv, ⟨v1, vs, h1, ⟨y, rfl, hy⟩, h2⟩, _⟩ := hr
          subst h2
          obtain ⟨asl⟩ := as
          simp only at h1
          subst h1
          rw [hv]
          have hn := methOf_nilAhead hm (P.types.size + 99) y w
          rw [← types_depth P] at hn
          simp [hn]
        · simp [same] at h
      · simp only [same, Option.some.injEq, Prod.mk.injEq] at h
        obtain ⟨rfl, rfl⟩ := h
        refine ⟨Asks.refl _ _, fun _ => ⟨a.eval x, hr, fun w => ?_⟩⟩
        simp only [SV.R] at hr
        obtain ⟨y, hv, _⟩ := hr
        rw [hv]; rfl
      · simp [same] at h
    · cases h
  case binOp op t x y ty =>
    split at h
    · rename_i s1 s2 h1 h2
      exact goodN_same h fun e => opBinO_sound (opnd_R hT h1) (opnd_R hT h2) e
    · cases h
  case unOp op t x =>
    split at h
    · rename_i s1 h1
      exact goodN_same h fun e => opUn_sound (opnd_R hT h1) e
    · cases h
  case convert src dst x =>
    split at h
    · rename_i s1 h1
      exact goodN_of (opConvS_sound (opnd_R hT h1) h)
    · cases h
  case makeInterface t x =>
    split at h
    · rename_i s1 h1
      exact goodN_same h fun e => opMkIface_sound (opnd_R hT h1) e
    · cases h
  case makeFunc fn first caps =>
    split at h
    · rename_i l r h1 h2
      cases h
      refine ⟨Asks.refl _ _, fun _ => ⟨.func fn (first.map a.eval) (caps.map a.eval), ?_, fun w => by simp [Instr.makeFunc]⟩⟩
      simp only [SV.R]
      exact ⟨_, _, rfl, by simpa using opnds_R hT h1, by simpa using opnds_R hT h2⟩
    · cases h
  case slice t x lo hi mx =>
    cases mx with
    | some m => simp at h
    | none =>
      simp only at h
      split at h
      · rename_i s1 l r h1 h2 h3
        exact goodN_of (opSlice_sound (opnd_R hT h1) (optOpnd_OR hT h2) (optOpnd_OR hT h3) h)
      · cases h
  case fieldAddr t x f =>
    split at h
    · rename_i s1 h1
      exact goodN_same h fun e => opFieldAddr_sound (opnd_R hT h1) e
    · cases h
  case field t x f =>
    split at h
    · rename_i s1 h1
      exact goodN_same h fun e => opField_sound (opnd_R hT h1) e
    · cases h
  case indexAddr t x i =>
    split at h
    · rename_i s1 s2 h1 h2
      exact goodN_of (opIndexAddr_sound (opnd_R hT h1) (opnd_R hT h2) h)
    · cases h
  case index t x i =>
    split at h
    · rename_i s1 s2 h1 h2
      exact goodN_same h fun e => opIndex_sound (opnd_R hT h1) (opnd_R hT h2) e
    · cases h
  case extract x i =>
    split at h
    · rename_i s1 h1
      exact goodN_same h fun e => opExtract_sound (opnd_R hT h1) e
    · cases h
  case call c =>
    obtain ⟨callee, args, tys⟩ := c
    cases callee <;> (try simp only at h) <;> try (cases h; done)
    rename_i b
    cases b <;> (try simp only at h) <;> try (cases h; done)
    case len =>
      split at h
      · rename_i x t e1 e2
        split at h
        · rename_i s1 h1
          have ea : args = #[x] := by apply Array.ext'; simpa using e1
          have et : tys = #[t] := by apply Array.ext'; simpa using e2
          subst ea et
          have g := goodN_same (m := Builtin.len_ #[t] o.type #[a.eval x]) h fun e => opLen_sound (opnd_R hT h1) e
          refine ⟨g.1, fun hk => ?_⟩
          obtain ⟨v, k1, k2⟩ := g.2 hk
          exact ⟨v, k1, fun w => by simpa [resolve, invoke, builtin] using k2 w⟩
        · cases h
      · cases h
    case complex =>
      split at h
      · rename_i x y e1
        split at h
        · rename_i s1 s2 h1 h2
          have ea : args = #[x, y] := by apply Array.ext'; simpa using e1
          subst ea
          have g := goodN_same (P := P) (m := Builtin.complex_ tys o.type #[a.eval x, a.eval y]) h fun e => opCpx_sound (opnd_R hT h1) (opnd_R hT h2) e
          refine ⟨g.1, fun hk => ?_⟩
          obtain ⟨v, k1, k2⟩ := g.2 hk
          exact ⟨v, k1, fun w => by simpa [resolve, invoke, builtin] using k2 w⟩
        · cases h
      · cases h
    case real =>
      split at h
      · rename_i x e1
        split at h
        · rename_i s1 h1
          have ea : args = #[x] := by apply Array.ext'; simpa using e1
          subst ea
          have g := goodN_same (P := P) (m := Builtin.real_ tys o.type #[a.eval x]) h fun e => opRe_sound (opnd_R hT h1) e
          refine ⟨g.1, fun hk => ?_⟩
          obtain ⟨v, k1, k2⟩ := g.2 hk
          exact ⟨v, k1, fun w => by simpa [resolve, invoke, builtin] using k2 w⟩
        · cases h
      · cases h
    case imag =>
      split at h
      · rename_i x e1
        split at h
        · rename_i s1 h1
          have ea : args = #[x] := by apply Array.ext'; simpa using e1
          subst ea
          have g := goodN_same (P := P) (m := Builtin.imag_ tys o.type #[a.eval x]) h fun e => opIm_sound (opnd_R hT h1) e
          refine ⟨g.1, fun hk => ?_⟩
          obtain ⟨v, k1, k2⟩ := g.2 hk
          exact ⟨v, k1, fun w => by simpa [resolve, invoke, builtin] using k2 w⟩
        · cases h
      · cases h
    case max =>
      split at h
      · rename_i x y e1
        split at h
        · rename_i s1 s2 h1 h2
          have ea : args = #[x, y] := by apply Array.ext'; simpa using e1
          subst ea
          have g := goodN_of (opMax_sound (P := P) (ts := tys) (ty := o.type) (opnd_R hT h1) (opnd_R hT h2) h)
          refine ⟨g.1, fun hk => ?_⟩
          obtain ⟨v, k1, k2⟩ := g.2 hk
          exact ⟨v, k1, fun w => by simpa [resolve, invoke, builtin] using k2 w⟩
        · cases h
      · cases h
    case min =>
      split at h
      · rename_i x y e1
        split at h
        · rename_i s1 s2 h1 h2
          have ea : args = #[x, y] := by apply Array.ext'; simpa using e1
          subst ea
          have g := goodN_of (opMin_sound (P := P) (ts := tys) (ty := o.type) (opnd_R hT h1) (opnd_R hT h2) h)
          refine ⟨g.1, fun hk => ?_⟩
          obtain ⟨v, k1, k2⟩ := g.2 hk
          exact ⟨v, k1, fun w => by simpa [resolve, invoke, builtin] using k2 w⟩
        · cases h
      · cases h
end Go.Eng
