/- What the operators of num make of elements, as plain functions of lists of bytes and whole numbers. No program in sight. -/
import Derived.Test.YtepmacimknblpaaFloatI
namespace Go.Proofs.Ytepmacimknblpaa
namespace Fl
open Ieee Go.RowKit

/-- Is an element the NaN (or any NaN's bits)? -/
def isN (x : Int) : Bool := isNaN single x.toNat

def okF (x : Int) : Bool := decide (0 ≤ x ∧ x < 4294967296) && (!isN x || x == 2143289344)

/-- Check. -/
def chk (t x : Int) : Bool :=
  if t = 1 then okF x else if t = 6 then decide (-2147483648 ≤ x ∧ x ≤ 2147483647) else if t = 9 then decide (x = 0 ∨ x = 1) else decide (t = 7)

def wholeT (t : Int) : Bool := decide (t = 6 ∨ t = 7)
def cutT (t x : Int) : Int := if t = 6 then wrap32 x else x

/-- The operators of one, of Float. -/
def unF (op : List UInt8) (x : Int) : Option Int :=
  if op = [78, 101, 103] then some (if isN x then x else (x + 2147483648) % 4294967296)
  else if op = [65, 98, 115] then some (x % 2147483648)
  else if op = [82, 101, 108, 117] then some (if isN x then x else if 0 < sv single x.toNat then x else 0)
  else if op = [83, 113, 114, 116] then some (sqrtS x.toNat)
  else if op = [70, 108, 111, 111, 114] then some (floorS x.toNat)
  else if op = [69, 120, 112] then some (canon (expN x.toNat))
  else if op = [83, 105, 103, 109, 111, 105, 100] then some (sigS x.toNat)
  else if op = [84, 97, 110, 104] then some (tanhS x.toNat)
  else none

/-- Unary over what its callees answer: the element and the error. -/
def unR (c wh : Bool) (o : Option Int) (op : List UInt8) (t x y : Int) : Int × Int :=
  if c = false then (0, 1)
  else if op = [73, 100, 101, 110, 116, 105, 116, 121] then (x, 0)
  else if op = [78, 111, 116] ∧ t = 9 then (1 - x, 0)
  else if op = [78, 101, 103] ∧ wh = true then (y, 0)
  else if op = [65, 98, 115] ∧ wh = true then (if x < 0 then y else x, 0)
  else if t = 1 then (match o with | some y => (y, 0) | none => (0, 1))
  else (0, 1)

/-- Unary: the element and the error. -/
def un (op : List UInt8) (t x : Int) : Int × Int := unR (chk t x) (wholeT t) (unF op x) op t x (cutT t (wrap64 (-x)))

def flg (b : Bool) : Int := if b then 1 else 0

/-- The operators of two, of Float. -/
def binF (op : List UInt8) (x y : Int) : Option Int :=
  if op = [65, 100, 100] then some (cnO (floatBits .add .f32 x.toNat y.toNat))
  else if op = [83, 117, 98] then some (cnO (floatBits .sub .f32 x.toNat y.toNat))
  else if op = [77, 117, 108] then some (cnO (floatBits .mul .f32 x.toNat y.toNat))
  else if op = [68, 105, 118] then some (cnO (floatBits .quo .f32 x.toNat y.toNat))
  else if op = [69, 113, 117, 97, 108] then some (flg (!isN x && !isN y && decide (sv single x.toNat = sv single y.toNat)))
  else if op = [76, 101, 115, 115] then some (flg (!isN x && !isN y && decide (sv single x.toNat < sv single y.toNat)))
  else if op = [71, 114, 101, 97, 116, 101, 114] then some (flg (!isN x && !isN y && decide (sv single y.toNat < sv single x.toNat)))
  else if op = [77, 97, 120] then some (if isN x || isN y then 2143289344 else if sv single x.toNat = sv single y.toNat then min x y else if sv single y.toNat < sv single x.toNat then x else y)
  else if op = [77, 105, 110] then some (if isN x || isN y then 2143289344 else if sv single x.toNat = sv single y.toNat then max x y else if sv single x.toNat < sv single y.toNat then x else y)
  else none

/-- The operators of two, of whole numbers. -/
def binI (op : List UInt8) (t x y : Int) : Int × Int :=
  if op = [65, 100, 100] then (cutT t (wrap64 (x + y)), 0)
  else if op = [83, 117, 98] then (cutT t (wrap64 (x - y)), 0)
  else if op = [77, 117, 108] then (cutT t (wrap64 (x * y)), 0)
  else if op = [68, 105, 118] then (if y = 0 then (0, 7) else if y = -1 then (cutT t (wrap64 (-x)), 0) else (x.tdiv y, 0))
  else if op = [77, 97, 120] then (max x y, 0)
  else if op = [77, 105, 110] then (min x y, 0)
  else if op = [69, 113, 117, 97, 108] then (flg (decide (x = y)), 0)
  else if op = [76, 101, 115, 115] then (flg (decide (x < y)), 0)
  else if op = [71, 114, 101, 97, 116, 101, 114] then (flg (decide (y < x)), 0)
  else (0, 1)

/-- Binary over what its callees answer: the element and the error. -/
def binR (c d wh : Bool) (o : Option Int) (i : Int × Int) (op : List UInt8) (t x y : Int) : Int × Int :=
  if c = false ∨ d = false then (0, 1)
  else if wh = true then i
  else if t = 1 then (match o with | some z => (z, 0) | none => (0, 1))
  else if op = [65, 110, 100] then (x * y, 0)
  else if op = [79, 114] then (max x y, 0)
  else if op = [88, 111, 114] then (flg (decide (x ≠ y)), 0)
  else if op = [69, 113, 117, 97, 108] then (flg (decide (x = y)), 0)
  else (0, 1)

/-- Binary: the element and the error. -/
def bin (op : List UInt8) (t x y : Int) : Int × Int := binR (chk t x) (chk t y) (wholeT t) (binF op x y) (binI op t x y) op t x y

/-- A Float cut to a whole number between two. -/
def cutF (lo hi top : Int) (v : Nat) : Int :=
  if isNaN single v then 0 else if sv single v ≤ lo * (V1 : Int) then lo else if top * (V1 : Int) ≤ sv single v then hi else (sv single v).tdiv (V1 : Int)
/-- A Float as a whole number of a type. -/
def toW (t : Int) (v : Nat) : Int := if t = 6 then cutF (-2147483648) 2147483647 2147483647 v else cutF (-9223372036854775808) 9223372036854775807 9223372036854775808 v

/-- Cast: the element and the error. -/
def cst (a b x : Int) : Int × Int :=
  if chk a x = false ∨ chk b 0 = false then (0, 1)
  else if a = b then (x, 0)
  else if b = 9 ∧ a = 1 then (flg (decide (x % 2147483648 ≠ 0)), 0)
  else if b = 9 then (flg (decide (x ≠ 0)), 0)
  else if b = 1 then (canon (floatOfInt .f32 x), 0)
  else if a = 1 then (toW b x.toNat, 0)
  else (cutT b x, 0)

/-! ### bits -/

theorem xor_top {x : Nat} (_h : x < 4294967296) : x ^^^ 2147483648 = (x + 2147483648) % 4294967296 := by
  have e1 : (x ^^^ 2147483648) % 2 ^ 31 = x % 2 ^ 31 := by rw [Nat.xor_mod_two_pow]; simp
  have e2 : (x ^^^ 2147483648) / 2 ^ 31 = (x / 2 ^ 31) ^^^ 1 := by rw [Nat.xor_div_two_pow]
  have h1 : x / 2 ^ 31 = 0 ∨ x / 2 ^ 31 = 1 := by omega
  have h2 := Nat.div_add_mod (x ^^^ 2147483648) (2 ^ 31)
  rw [e1, e2] at h2
  rcases h1 with h1 | h1 <;> rw [h1] at h2 <;> simp at h2 <;> omega

theorem and_inf {x : Nat} : (x &&& 2139095040 = 2139095040) ↔ x / 8388608 % 256 = 255 := by
  have e1 : (x &&& 2139095040) % 2 ^ 23 = 0 := by rw [Nat.and_mod_two_pow]; simp
  have e2 : (x &&& 2139095040) / 2 ^ 23 = x / 2 ^ 23 % 256 := by
    rw [Nat.and_div_two_pow]
    exact Nat.and_two_pow_sub_one_eq_mod _ 8
  have h2 := Nat.div_add_mod (x &&& 2139095040) (2 ^ 23)
  rw [e1, e2] at h2
  constructor
  · intro h; omega
  · intro h; rw [show (8388608 : Nat) = 2 ^ 23 from rfl] at h; rw [h] at h2; omega

theorem and_frac {x : Nat} : x &&& 8388607 = x % 8388608 := Nat.and_two_pow_sub_one_eq_mod _ 23

theorem isNaN_bits {x : Nat} : isNaN single x = (decide (x / 8388608 % 256 = 255) && decide (x % 8388608 ≠ 0)) := by
  unfold isNaN
  rw [infS, swS, Bool.eq_iff_iff]
  simp only [decide_eq_true_eq, Bool.and_eq_true]
  omega

theorem bits_xor_nat {a b : Nat} (ha : a < 2 ^ 63) (hb : b < 2 ^ 63) : bits .xor .i64 (a : Int) (b : Int) = ((a ^^^ b : Nat) : Int) := by
  have hx : a ^^^ b < 2 ^ 63 := Nat.xor_lt_two_pow ha hb
  have eb : 2 ^ IntKind.i64.bits = 18446744073709551616 := by decide
  simp only [bits, BitVec.ofInt_natCast, BitVec.toNat_xor, BitVec.toNat_ofNat, eb]
  rw [Nat.mod_eq_of_lt (by omega : a < 18446744073709551616), Nat.mod_eq_of_lt (by omega : b < 18446744073709551616)]
  generalize a ^^^ b = c at *
  rw [IntKind.wrap_i64]; omega

theorem wraps_i64 (n : Int) (h₀ : 0 ≤ n) (h₁ : n < 2 ^ 63) : IntKind.i64.wrap n = n := by rw [IntKind.wrap_i64]; omega

theorem bits_and_nat {a b : Nat} (ha : a < 2 ^ 63) (hb : b < 2 ^ 63) : bits .and .i64 (a : Int) (b : Int) = ((a &&& b : Nat) : Int) :=
  (bits_nat .i64 63 (by decide) wraps_i64 a b ha hb).1

theorem bits_or_nat {a b : Nat} (ha : a < 2 ^ 63) (hb : b < 2 ^ 63) : bits .or .i64 (a : Int) (b : Int) = ((a ||| b : Nat) : Int) :=
  (bits_nat .i64 63 (by decide) wraps_i64 a b ha hb).2

theorem bits_andNot_top {x : Nat} (h : x < 4294967296) : bits .andNot .i64 (x : Int) 2147483648 = ((x % 2147483648 : Nat) : Int) := by
  have hb : (2147483648 : Int) = ((2147483648 : Nat) : Int) := rfl
  rw [hb]
  have eb : 2 ^ IntKind.i64.bits = 18446744073709551616 := by decide
  simp only [bits, BitVec.ofInt_natCast, BitVec.toNat_and, BitVec.toNat_not, BitVec.toNat_ofNat, eb]
  rw [Nat.mod_eq_of_lt (by omega : x < 18446744073709551616)]
  have e1 : (x &&& (18446744073709551616 - 1 - 2147483648 % 18446744073709551616)) % 2 ^ 31 = x % 2 ^ 31 := by
    rw [Nat.and_mod_two_pow, show (18446744073709551616 - 1 - 2147483648 % 18446744073709551616) % 2 ^ 31 = 2 ^ 31 - 1 by decide, Nat.and_two_pow_sub_one_eq_mod, Nat.mod_mod]
  have e2 : (x &&& (18446744073709551616 - 1 - 2147483648 % 18446744073709551616)) / 2 ^ 31 = 0 := by
    rw [Nat.and_div_two_pow, show (18446744073709551616 - 1 - 2147483648 % 18446744073709551616) / 2 ^ 31 = 8589934590 by decide]
    have h1 : x / 2 ^ 31 = 0 ∨ x / 2 ^ 31 = 1 := by omega
    rcases h1 with h1 | h1 <;> rw [h1] <;> decide
  have h2 := Nat.div_add_mod (x &&& (18446744073709551616 - 1 - 2147483648 % 18446744073709551616)) (2 ^ 31)
  rw [e1, e2] at h2
  have h3 : (x &&& (18446744073709551616 - 1 - 2147483648 % 18446744073709551616)) = x % 2147483648 := by omega
  rw [h3, IntKind.wrap_i64]; omega

theorem bits_xor_top {x : Nat} (h : x < 4294967296) : bits .xor .i64 (x : Int) 2147483648 = (((x + 2147483648) % 4294967296 : Nat) : Int) := by
  rw [← xor_top h]
  exact bits_xor_nat (b := 2147483648) (by omega) (by decide)

theorem and_top {x : Nat} (h : x < 4294967296) : x &&& 2147483648 = x / 2147483648 * 2147483648 := by
  have e1 : (x &&& 2147483648) % 2 ^ 31 = 0 := by rw [Nat.and_mod_two_pow]; simp
  have e2 : (x &&& 2147483648) / 2 ^ 31 = (x / 2 ^ 31) &&& 1 := by rw [Nat.and_div_two_pow]
  have h1 : x / 2 ^ 31 = 0 ∨ x / 2 ^ 31 = 1 := by omega
  have h2 := Nat.div_add_mod (x &&& 2147483648) (2 ^ 31)
  rw [e1, e2] at h2
  rcases h1 with h1 | h1 <;> rw [h1] at h2 <;> simp at h2 <;> omega

theorem bits_and_top {x : Nat} (h : x < 4294967296) : bits .and .i64 (x : Int) 2147483648 = ((x / 2147483648 * 2147483648 : Nat) : Int) := by
  rw [← and_top h]
  exact bits_and_nat (b := 2147483648) (by omega) (by decide)

theorem or_top {x : Nat} (h : x < 2147483648) : x ||| 2147483648 = x + 2147483648 := by
  have := Nat.two_pow_add_eq_or_of_lt (i := 31) h 1
  rw [Nat.or_comm]
  simp at this
  omega

theorem bits_or_top {x : Nat} (h : x < 2147483648) : bits .or .i64 (x : Int) 2147483648 = ((x + 2147483648 : Nat) : Int) := by
  rw [← or_top h]
  exact bits_or_nat (b := 2147483648) (by omega) (by decide)

theorem isNaN_mod (v : Nat) : isNaN single v = isNaN single (v % 2147483648) := by
  unfold isNaN; rw [swS, Nat.mod_mod]
theorem notNaN_ten : isNaN single 1092616192 = false := by decide
theorem div_top {v : Nat} (h : v < 4294967296) : v / 2147483648 = 0 ∨ v / 2147483648 = 1 := by omega

/-- Where the order of words of one sign shows. -/
theorem sv_of_lt {a : Nat} (h : a < 2147483648) : sv single a = (mg single a : Int) := by
  have hr : rung single a = a := by unfold rung; rw [swS]; exact Nat.mod_eq_of_lt h
  have hs : sgn single a = false := by unfold sgn; rw [swS, Nat.div_eq_of_lt h]; rfl
  unfold sv; rw [hs, hr]; rfl

theorem width32 : 2 ^ single.width = 4294967296 := by decide

theorem sgn32 {a : Nat} (h : a < 4294967296) : sgn single a = decide (2147483648 ≤ a) := by
  unfold sgn; rw [swS]
  have : a / 2147483648 = 0 ∨ a / 2147483648 = 1 := by omega
  rcases this with h1 | h1
  · rw [h1]; simp; omega
  · rw [h1]; simp; omega

theorem rung32 (a : Nat) : rung single a = a % 2147483648 := by unfold rung; rw [swS]

theorem sv32 {a : Nat} (h : a < 4294967296) : sv single a = if 2147483648 ≤ a then -(mg single (a % 2147483648) : Int) else (mg single (a % 2147483648) : Int) := by
  unfold sv; rw [sgn32 h, rung32]
  by_cases h1 : 2147483648 ≤ a <;> simp [h1]

/-- Two words of the same number are the same, or the two zeros. -/
theorem same_sv {a b : Nat} (ha : a < 4294967296) (hb : b < 4294967296) (h : sv single a = sv single b) : a = b ∨ (a % 2147483648 = 0 ∧ b % 2147483648 = 0) := by
  rw [sv32 ha, sv32 hb] at h
  by_cases h0 : a % 2147483648 = 0
  · right
    refine ⟨h0, ?_⟩
    rw [h0, mg_zero] at h
    apply mg_eq_zero (f := single)
    split at h <;> split at h <;> omega
  · left
    have hp : 0 < mg single (a % 2147483648) := by
      have := mg_lt (f := single) (show 0 < a % 2147483648 by omega)
      rw [mg_zero] at this; exact this
    by_cases h1 : 2147483648 ≤ a <;> by_cases h2 : 2147483648 ≤ b <;> simp only [h1, h2, if_true, if_false] at h
    · have := mg_inj (f := single) (a := a % 2147483648) (b := b % 2147483648) (by omega); omega
    · omega
    · omega
    · have := mg_inj (f := single) (a := a % 2147483648) (b := b % 2147483648) (by omega); omega

theorem sv_zero_iff {a : Nat} (ha : a < 4294967296) : sv single a = 0 ↔ a % 2147483648 = 0 := by
  constructor
  · intro h
    rcases same_sv (b := 0) ha (by decide) (by rw [h]; rfl) with h1 | h1 <;> omega
  · intro h; rw [sv32 ha, h, mg_zero]; split <;> rfl

end Fl
end Go.Proofs.Ytepmacimknblpaa
