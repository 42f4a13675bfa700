/- The plain laws of num, fourth part: a difference is the sum with the sign turned; Abs and Relu as the greater one; whole numbers behind Float and back. No program in sight. -/
import Derived.Test.YtepmacimknblpaaNumX
namespace Go.Proofs.Ytepmacimknblpaa
namespace Fl
open Ieee Go.RowKit

theorem read_turn {n : Nat} (h : n < 4294967296) : single.read ((n + 2147483648) % 4294967296) = (single.read n).opposite := by
  have e1 : (n + 2147483648) % 4294967296 % 2147483648 = n % 2147483648 := by omega
  have e2 : ((n + 2147483648) % 4294967296 / 2147483648 % 2 == 1) = !(n / 2147483648 % 2 == 1) := by
    rcases div_top h with g | g
    · rw [g, show (n + 2147483648) % 4294967296 / 2147483648 = 1 by omega]; rfl
    · rw [g, show (n + 2147483648) % 4294967296 / 2147483648 = 0 by omega]; rfl
  unfold Format.read
  simp only [swS, e1, e2]
  split
  · rfl
  · split
    · rfl
    · split <;> rfl

theorem sub_turn {n m : Nat} (hm : m < 4294967296) : floatBits .sub .f32 n m = floatBits .add .f32 n ((m + 2147483648) % 4294967296) := by
  show single.sub n m = single.add n _
  unfold Format.sub Format.add
  rw [read_turn hm]

theorem pair_ext {a b c : Int} (h : a = b) : (a, c) = (b, c) := by rw [h]

theorem wrap_minus {t x y : Int} (hw : wholeT t = true) (_hx : chk t x = true) (hy : chk t y = true) :
    cutT t (wrap64 (x + cutT t (wrap64 (-y)))) = cutT t (wrap64 (x - y)) := by
  rcases wholeT_cases hw with rfl | rfl
  · rw [chk_i32] at hy
    simp only [decide_eq_true_eq] at hy
    unfold cutT wrap32 wrap64
    simp only [if_true]
    omega
  · unfold cutT wrap64
    simp only [if_neg (show ¬ (7 : Int) = 6 by decide)]
    omega

/-- A DIFFERENCE IS THE SUM WITH THE SIGN TURNED. -/
theorem minus_law {t x y : Int} (h : (bin [83, 117, 98] t x y).2 = 0) (h2 : (un [78, 101, 103] t y).2 = 0) :
    bin [65, 100, 100] t x (un [78, 101, 103] t y).1 = ((bin [83, 117, 98] t x y).1, 0) := by
  have hs := un_stays _ t y h2
  rw [bin_sub] at h
  by_cases hc : chk t x = false ∨ chk t y = false
  · rw [if_pos hc] at h; cases h
  have hx : chk t x = true := by cases g : chk t x; exact absurd (Or.inl g) hc; rfl
  have hy : chk t y = true := by cases g : chk t y; exact absurd (Or.inr g) hc; rfl
  rw [bin_add, if_neg (by rw [hx, hs]; decide), bin_sub, if_neg hc]
  rw [if_neg hc] at h
  have eun : un [78, 101, 103] t y = (if wholeT t = true then (cutT t (wrap64 (-y)), 0) else if t = 1 then (if isN y then y else (y + 2147483648) % 4294967296, 0) else (0, 1)) := by rw [un_neg, if_neg (by rw [hy]; decide)]
  rw [eun]
  by_cases hw : wholeT t = true
  · simp only [if_pos hw]
    rw [wrap_minus hw hx hy]
  · simp only [if_neg hw] at h ⊢
    by_cases ht : t = 1
    · subst ht
      rw [chk_one] at hy
      obtain ⟨m, rfl, hm, cm⟩ := okF_inv hy
      simp only [if_true]
      unfold isN
      rw [Int.toNat_natCast]
      cases hN : isNaN single m
      · simp only [Bool.false_eq_true, if_false]
        have e : ((m : Int) + 2147483648) % 4294967296 = (((m + 2147483648) % 4294967296 : Nat) : Int) := by omega
        rw [e, Int.toNat_natCast, sub_turn hm]
      · simp only [if_true, Int.toNat_natCast]
        rw [floatBits_nan (k := .f32) (Or.inr hN), floatBits_nan (k := .f32) (Or.inr hN)]
    · simp [if_neg ht] at h

theorem sv_turn {n : Nat} (h : n < 4294967296) : sv single ((n + 2147483648) % 4294967296) = - sv single n := by
  have hl : (n + 2147483648) % 4294967296 < 4294967296 := Nat.mod_lt _ (by decide)
  rw [sv32 hl, sv32 h, show (n + 2147483648) % 4294967296 % 2147483648 = n % 2147483648 by omega]
  generalize mg single (n % 2147483648) = a
  by_cases h1 : 2147483648 ≤ n
  · rw [if_pos h1, if_neg (by omega)]; omega
  · rw [if_neg h1, if_pos (by omega)]

theorem sv_pos {n : Nat} (h : n < 4294967296) : (0 < sv single n → n < 2147483648) ∧ (sv single n < 0 → 2147483648 ≤ n) := by
  rw [sv32 h]
  by_cases h1 : 2147483648 ≤ n
  · rw [if_pos h1]; omega
  · rw [if_neg h1]; omega

/-- ABS IS THE GREATER ONE OF AN ELEMENT AND OF IT WITH THE SIGN TURNED. -/
theorem abs_law {t x : Int} (h0 : -9223372036854775808 ≤ x) (h1 : x ≤ 9223372036854775807) (h : (un [65, 98, 115] t x).2 = 0) (h2 : (un [78, 101, 103] t x).2 = 0) :
    bin [77, 97, 120] t x (un [78, 101, 103] t x).1 = ((un [65, 98, 115] t x).1, 0) := by
  have hs := un_stays _ t x h2
  rw [un_abs] at h
  by_cases hc : chk t x = false
  · rw [if_pos hc] at h; cases h
  have hx : chk t x = true := by cases g : chk t x; exact absurd g hc; rfl
  rw [if_neg hc] at h
  rw [bin_max, if_neg (by rw [hx, hs]; decide), un_neg, if_neg hc, un_abs, if_neg hc]
  by_cases hw : wholeT t = true
  · simp only [if_pos hw]
    rcases wholeT_cases hw with rfl | rfl
    · rw [chk_i32] at hx
      simp only [decide_eq_true_eq] at hx
      unfold cutT wrap32 wrap64
      simp only [if_true]
      by_cases hx0 : x < 0
      · simp only [if_pos hx0]; refine pair_ext ?_; omega
      · simp only [if_neg hx0]; refine pair_ext ?_; omega
    · unfold cutT wrap64
      simp only [if_neg (show ¬ (7 : Int) = 6 by decide)]
      by_cases hx0 : x < 0
      · simp only [if_pos hx0]; refine pair_ext ?_; omega
      · simp only [if_neg hx0]; refine pair_ext ?_; omega
  · simp only [if_neg hw] at h ⊢
    by_cases ht : t = 1
    · subst ht
      rw [chk_one] at hx
      obtain ⟨n, rfl, hn, cn⟩ := okF_inv hx
      simp only [if_true]
      unfold isN
      rw [Int.toNat_natCast]
      cases hN : isNaN single n
      · simp only [Bool.false_eq_true, if_false]
        have e : ((n : Int) + 2147483648) % 4294967296 = (((n + 2147483648) % 4294967296 : Nat) : Int) := by omega
        rw [e, Int.toNat_natCast, isNaN_turn hn, hN, sv_turn hn]
        simp only [Bool.or_self, Bool.false_eq_true, if_false]
        have hp := sv_pos hn
        have hz := sv_zero_iff hn
        refine pair_ext ?_
        generalize sv single n = s at *
        rcases Int.lt_trichotomy s 0 with g | g | g
        · have := hp.2 g
          rw [if_neg (by omega), if_neg (by omega)]; omega
        · have := hz.1 g
          rw [if_pos (by omega)]; omega
        · have := hp.1 g
          rw [if_neg (by omega), if_pos (by omega)]; omega
      · have := cn hN
        subst this
        simp [hN]
    · simp [if_neg ht] at h

/-- RELU OF A FLOAT IS THE GREATER ONE OF IT AND +0. -/
theorem relu_law {t x : Int} (h : (un [82, 101, 108, 117] t x).2 = 0) : bin [77, 97, 120] t x 0 = ((un [82, 101, 108, 117] t x).1, 0) := by
  rw [un_relu] at h
  by_cases hc : chk t x = false
  · rw [if_pos hc] at h; cases h
  have hx : chk t x = true := by cases g : chk t x; exact absurd g hc; rfl
  rw [if_neg hc] at h
  by_cases ht : t = 1
  · subst ht
    rw [bin_max, if_neg (by rw [hx]; decide), if_neg (by decide), un_relu, if_neg hc]
    rw [chk_one] at hx
    obtain ⟨n, rfl, hn, cn⟩ := okF_inv hx
    simp only [if_true]
    have z1 : isN 0 = false := by decide
    have z2 : sv single (0 : Int).toNat = 0 := by decide
    rw [z1, z2]
    unfold isN
    rw [Int.toNat_natCast]
    cases hN : isNaN single n
    · simp only [Bool.or_self, Bool.false_eq_true, if_false]
      refine pair_ext ?_
      generalize hs : sv single n = s at *
      rcases Int.lt_trichotomy s 0 with g | g | g
      · rw [if_neg (by omega), if_neg (by omega)]
      · rw [if_pos g, if_neg (by omega)]; omega
      · rw [if_neg (by omega), if_pos g]
    · have := cn hN
      subst this
      simp
  · simp [if_neg ht] at h

/-! ### behind Float and back -/

theorem foi32 (y : Int) : floatOfInt .f32 y = single.nearest (decide (y < 0)) y.natAbs 0 := rfl

theorem foi_small {y : Int} (h : y.natAbs ≤ 16777216) : fin single (floatOfInt .f32 y) = true ∧ sv single (floatOfInt .f32 y) = y * (V1 : Int) := by
  rw [foi32]
  rcases Nat.lt_or_ge y.natAbs 16777216 with g | g
  · obtain ⟨a, b, _⟩ := swhole (decide (y < 0)) y.natAbs (by rw [binS]; exact g)
    refine ⟨b, ?_⟩
    rw [a]
    congr 1
    by_cases hs : y < 0
    · simp only [hs, decide_true, if_true]; omega
    · simp only [hs, decide_false, Bool.false_eq_true, if_false]; omega
  · rcases (by omega : y = 16777216 ∨ y = -16777216) with rfl | rfl
    · exact ⟨by decide +kernel, of_decide_eq_true (by kernel_rfl)⟩
    · exact ⟨by decide +kernel, of_decide_eq_true (by kernel_rfl)⟩

theorem cst_67 {x : Int} (h1 : -2147483648 ≤ x) (h2 : x ≤ 2147483647) : cst 6 7 x = (x, 0) := by
  have c1 : chk 6 x = true := by rw [chk_i32]; simp; omega
  have c2 : chk 7 0 = true := rfl
  unfold cst
  rw [c1, c2]
  unfold cutT
  simp
theorem cst_76 {x : Int} (h1 : -2147483648 ≤ x) (h2 : x ≤ 2147483647) : cst 7 6 x = (x, 0) := by
  have c1 : chk 7 x = true := rfl
  have c2 : chk 6 0 = true := rfl
  unfold cst
  rw [c1, c2]
  unfold cutT wrap32
  simp
  omega
theorem cst_61 {y : Int} (h : y.natAbs ≤ 16777216) : cst 6 1 y = (canon (floatOfInt .f32 y), 0) := by
  have c1 : chk 6 y = true := by rw [chk_i32]; simp; omega
  have c2 : chk 1 0 = true := by decide
  unfold cst
  rw [c1, c2]
  simp
theorem cst_16 {y : Int} (h : y.natAbs ≤ 16777216) : cst 1 6 (canon (floatOfInt .f32 y)) = (y, 0) := by
  obtain ⟨f1, f2⟩ := foi_small h
  have hn := nan_of_fin f1
  have hl : floatOfInt .f32 y < 4294967296 := by rw [foi32]; exact single.write_lt (.number _ _ _)
  have e : canon (floatOfInt .f32 y) = (floatOfInt .f32 y : Int) := by unfold canon; rw [hn]; rfl
  have c1 : chk 1 (floatOfInt .f32 y : Int) = true := by rw [chk_one]; exact okF_nat hl hn
  have c2 : chk 6 0 = true := rfl
  have hV := V1_pos
  rw [e]
  unfold cst
  rw [c1, c2]
  simp only [Bool.true_eq_false, or_self, if_false, Int.toNat_natCast, if_true]
  rw [if_neg (by decide), if_neg (by decide), if_neg (by decide), if_neg (by decide)]
  refine pair_ext ?_
  unfold toW cutF
  rw [if_pos rfl, hn, f2, Int.mul_tdiv_cancel _ (by omega)]
  have b1 : ¬ y * (V1 : Int) ≤ -2147483648 * (V1 : Int) := by
    intro g
    have := Int.le_of_mul_le_mul_right g (by omega)
    omega
  have b2 : ¬ 2147483647 * (V1 : Int) ≤ y * (V1 : Int) := by
    intro g
    have := Int.le_of_mul_le_mul_right g (by omega)
    omega
  rw [if_neg (by decide), if_neg b1, if_neg b2]

end Fl
end Go.Proofs.Ytepmacimknblpaa
