/- The plain laws of num, second part: either order; order; two times; differences; the greater and the less one. No program in sight. -/
import Derived.Test.YtepmacimknblpaaNumZ
namespace Go.Proofs.Ytepmacimknblpaa
namespace Fl
open Ieee Go.RowKit

/-! ### either order -/

theorem sum_comm (a b : Datum) : a.sum b = b.sum a := by
  cases a <;> cases b <;> simp only [Datum.sum]
  · rename_i s m i t n j
    rw [Int.min_comm j i, Int.add_comm (signed t n (j - min i j).toNat), Bool.and_comm t s]
  · rename_i s t
    by_cases h : s = t
    · rw [if_pos h, if_pos h.symm, h]
    · rw [if_neg h, if_neg (fun g => h g.symm)]

theorem product_comm (a b : Datum) : a.product b = b.product a := by
  cases a <;> cases b <;> simp only [Datum.product]
  · rename_i s m i t n j
    rw [Bool.xor_comm t s, Nat.mul_comm n m, Int.add_comm j i]
  all_goals (rename_i s t; first | rw [Bool.xor_comm t s] | (rw [Bool.xor_comm]))

theorem add_comm32 (x y : Nat) : floatBits .add .f32 x y = floatBits .add .f32 y x := by
  show single.add x y = single.add y x
  unfold Format.add; rw [sum_comm]
theorem mul_comm32 (x y : Nat) : floatBits .mul .f32 x y = floatBits .mul .f32 y x := by
  show single.mul x y = single.mul y x
  unfold Format.mul; rw [product_comm]

theorem bin_turns {op : List UInt8} {t x y : Int} (h1 : op ≠ [83, 117, 98]) (h2 : op ≠ [68, 105, 118]) (h3 : op ≠ [76, 101, 115, 115]) (h4 : op ≠ [71, 114, 101, 97, 116, 101, 114]) :
    bin op t x y = bin op t y x := by
  have hF : binF op x y = binF op y x := by
    unfold binF
    rw [add_comm32 x.toNat, mul_comm32 x.toNat]
    generalize sv single x.toNat = a
    generalize sv single y.toNat = b
    generalize isN x = p
    generalize isN y = q
    grind
  have hI : binI op t x y = binI op t y x := by
    unfold binI
    rw [Int.add_comm x y, Int.mul_comm x y]
    grind
  unfold bin binR
  rw [hF, hI]
  rw [Int.mul_comm x y]
  grind

/-! ### order -/

theorem bin_less (t x y : Int) : bin [76, 101, 115, 115] t x y = if chk t x = false ∨ chk t y = false then (0, 1) else if wholeT t = true then (flg (decide (x < y)), 0) else if t = 1 then (flg (!isN x && !isN y && decide (sv single x.toNat < sv single y.toNat)), 0) else (0, 1) := by
  unfold bin binR binI binF; simp
theorem bin_greater (t x y : Int) : bin [71, 114, 101, 97, 116, 101, 114] t x y = if chk t x = false ∨ chk t y = false then (0, 1) else if wholeT t = true then (flg (decide (y < x)), 0) else if t = 1 then (flg (!isN x && !isN y && decide (sv single y.toNat < sv single x.toNat)), 0) else (0, 1) := by
  unfold bin binR binI binF; simp
theorem bin_equal (t x y : Int) : bin [69, 113, 117, 97, 108] t x y = if chk t x = false ∨ chk t y = false then (0, 1) else if wholeT t = true then (flg (decide (x = y)), 0) else if t = 1 then (flg (!isN x && !isN y && decide (sv single x.toNat = sv single y.toNat)), 0) else (flg (decide (x = y)), 0) := by
  unfold bin binR binI binF; simp
theorem bin_max (t x y : Int) : bin [77, 97, 120] t x y = if chk t x = false ∨ chk t y = false then (0, 1) else if wholeT t = true then (max x y, 0) else if t = 1 then (if isN x || isN y then 2143289344 else if sv single x.toNat = sv single y.toNat then min x y else if sv single y.toNat < sv single x.toNat then x else y, 0) else (0, 1) := by
  unfold bin binR binI binF; simp
theorem bin_min (t x y : Int) : bin [77, 105, 110] t x y = if chk t x = false ∨ chk t y = false then (0, 1) else if wholeT t = true then (min x y, 0) else if t = 1 then (if isN x || isN y then 2143289344 else if sv single x.toNat = sv single y.toNat then max x y else if sv single x.toNat < sv single y.toNat then x else y, 0) else (0, 1) := by
  unfold bin binR binI binF; simp
theorem bin_sub (t x y : Int) : bin [83, 117, 98] t x y = if chk t x = false ∨ chk t y = false then (0, 1) else if wholeT t = true then (cutT t (wrap64 (x - y)), 0) else if t = 1 then (cnO (floatBits .sub .f32 x.toNat y.toNat), 0) else (0, 1) := by
  unfold bin binR binI binF; simp
theorem bin_add (t x y : Int) : bin [65, 100, 100] t x y = if chk t x = false ∨ chk t y = false then (0, 1) else if wholeT t = true then (cutT t (wrap64 (x + y)), 0) else if t = 1 then (cnO (floatBits .add .f32 x.toNat y.toNat), 0) else (0, 1) := by
  unfold bin binR binI binF; simp

theorem cmp_vals (t x y : Int) :
    (bin [76, 101, 115, 115] t x y).2 = (bin [71, 114, 101, 97, 116, 101, 114] t x y).2 ∧ (bin [76, 101, 115, 115] t x y).2 = (bin [76, 101, 115, 115] t y x).2 := by
  rw [bin_less, bin_greater, bin_less]
  constructor <;> grind

theorem isNaN_NaN : isNaN single 2143289344 = true := by decide
attribute [local irreducible] sv isNaN mg

theorem less_law {t x y : Int} (h1 : (bin [76, 101, 115, 115] t x y).2 = 0) :
    (bin [71, 114, 101, 97, 116, 101, 114] t x y).1 = (bin [76, 101, 115, 115] t y x).1 ∧
    ((bin [76, 101, 115, 115] t x y).1 + (bin [71, 114, 101, 97, 116, 101, 114] t x y).1 + (bin [69, 113, 117, 97, 108] t x y).1 = 1 ∨
      ((t = 1 ∧ (x = 2143289344 ∨ y = 2143289344)) ∧ (bin [76, 101, 115, 115] t x y).1 + (bin [71, 114, 101, 97, 116, 101, 114] t x y).1 + (bin [69, 113, 117, 97, 108] t x y).1 = 0)) := by
  rw [bin_less, bin_greater, bin_equal, bin_less]
  rw [bin_less] at h1
  by_cases hc : chk t x = false ∨ chk t y = false
  · rw [if_pos hc] at h1; cases h1
  have hc' : ¬ (chk t y = false ∨ chk t x = false) := fun g => hc g.symm
  simp only [if_neg hc, if_neg hc'] at h1 ⊢
  have hx : chk t x = true := by cases g : chk t x; exact absurd (Or.inl g) hc; rfl
  have hy : chk t y = true := by cases g : chk t y; exact absurd (Or.inr g) hc; rfl
  by_cases hw : wholeT t = true
  · simp only [if_pos hw] at h1 ⊢
    unfold flg
    grind
  simp only [if_neg hw] at h1 ⊢
  by_cases ht : t = 1
  · subst ht
    rw [chk_one] at hx hy
    obtain ⟨n, rfl, hn, cn⟩ := okF_inv hx
    obtain ⟨m, rfl, hm, cm⟩ := okF_inv hy
    simp only [if_true] at h1 ⊢
    unfold isN
    simp only [Int.toNat_natCast]
    unfold flg
    cases hN : isNaN single n <;> cases hM : isNaN single m
    · clear hc hc' hw hx hy cn cm; grind
    · have := cm hM; subst this; simp
    · have := cn hN; subst this; simp
    · have := cn hN; subst this; simp
  · simp [if_neg ht] at h1

theorem less_equal {t x y : Int} (h1 : (bin [76, 101, 115, 115] t x y).2 = 0) : (bin [69, 113, 117, 97, 108] t x y).2 = 0 := by
  rw [bin_less] at h1
  rw [bin_equal]
  grind

/-! ### the greater and the less one -/

theorem both_err (t x y : Int) : (bin [77, 97, 120] t x y).2 = (bin [77, 105, 110] t x y).2 := by
  rw [bin_max, bin_min]
  grind

theorem both_law {t x y : Int} (h1 : (bin [77, 97, 120] t x y).2 = 0) :
    (t = 1 ∧ (x = 2143289344 ∨ y = 2143289344) ∧ (bin [77, 97, 120] t x y).1 = 2143289344 ∧ (bin [77, 105, 110] t x y).1 = 2143289344) ∨
    (¬ (t = 1 ∧ (x = 2143289344 ∨ y = 2143289344)) ∧ (((bin [77, 97, 120] t x y).1 = x ∧ (bin [77, 105, 110] t x y).1 = y) ∨ ((bin [77, 97, 120] t x y).1 = y ∧ (bin [77, 105, 110] t x y).1 = x))) := by
  rw [bin_max] at h1
  rw [bin_max, bin_min]
  by_cases hc : chk t x = false ∨ chk t y = false
  · rw [if_pos hc] at h1; cases h1
  simp only [if_neg hc] at h1 ⊢
  have hx : chk t x = true := by cases g : chk t x; exact absurd (Or.inl g) hc; rfl
  have hy : chk t y = true := by cases g : chk t y; exact absurd (Or.inr g) hc; rfl
  by_cases hw : wholeT t = true
  · simp only [if_pos hw] at h1 ⊢
    have ht : ¬ t = 1 := by rcases wholeT_cases hw with rfl | rfl <;> decide
    clear hc hx hy hw h1
    grind
  simp only [if_neg hw] at h1 ⊢
  by_cases ht : t = 1
  · subst ht
    rw [chk_one] at hx hy
    obtain ⟨n, rfl, hn, cn⟩ := okF_inv hx
    obtain ⟨m, rfl, hm, cm⟩ := okF_inv hy
    simp only [if_true] at h1 ⊢
    unfold isN
    simp only [Int.toNat_natCast]
    have nN := isNaN_NaN
    cases hN : isNaN single n <;> cases hM : isNaN single m
    · have g1 : n ≠ 2143289344 := by rintro rfl; rw [nN] at hN; cases hN
      have g2 : m ≠ 2143289344 := by rintro rfl; rw [nN] at hM; cases hM
      simp only [Bool.or_self, Bool.false_eq_true, if_false]
      clear hc hx hy hw h1 nN cn cm
      right
      refine ⟨by omega, ?_⟩
      grind
    · have := cm hM; left; simp [this]
    · have := cn hN; left; simp [this]
    · have := cn hN; left; simp [this]
  · simp [if_neg ht] at h1

end Fl
end Go.Proofs.Ytepmacimknblpaa
