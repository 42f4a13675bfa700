/- The plain laws of num, third part: two times; a difference; the greater one of both signs; behind Float and back. No program in sight. -/
import Derived.Test.YtepmacimknblpaaNumY
namespace Go.Proofs.Ytepmacimknblpaa
namespace Fl
open Ieee Go.RowKit

/-! ### Floor of a Floor -/

theorem v1_of_big : mg single (8388608 * 150) = 8388608 * V1 := by kernel_rfl

theorem floor_rep {v : Nat} (hf : fin single v = true) : ∃ c, isNaN single c = false ∧ sv single c = (sv single v / (V1 : Int)) * (V1 : Int) := by
  have hV := V1_pos
  have hb := sv_natAbs single v
  rcases Nat.lt_or_ge (rung single v) (8388608 * 150) with h | h
  · have h2 := mg_lt (f := single) h
    rw [v1_of_big] at h2
    have hlo : -(8388608 : Int) ≤ sv single v / (V1 : Int) := by
      rw [Int.le_ediv_iff_mul_le (by omega)]; omega
    have hhi : sv single v / (V1 : Int) < 8388608 := by
      rw [Int.ediv_lt_iff_lt_mul (by omega)]; omega
    obtain ⟨c, h3, h4⟩ := exists_word (f := single) (sv single v / (V1 : Int)) 149 (by rw [binS]; omega) (bigS (by decide) (by omega))
    exact ⟨c, h3, by rw [h4, pw_eq, pw149]⟩
  · refine ⟨v, nan_of_fin hf, ?_⟩
    have h9 : V1 ∣ mg single (rung single v) := by
      rw [mg_high (by rw [binS]; omega), binS]
      have h10 : 2 ^ (rung single v / 8388608 - 1) = 2 ^ (rung single v / 8388608 - 150) * V1 := by
        rw [show rung single v / 8388608 - 1 = (rung single v / 8388608 - 150) + 149 by omega]
        exact v149 _
      rw [h10, ← Nat.mul_assoc]
      exact Nat.dvd_mul_left _ _
    have h11 : (V1 : Int) ∣ (mg single (rung single v) : Int) := Int.natCast_dvd_natCast.2 h9
    have h12 : (V1 : Int) ∣ sv single v := by
      unfold sv
      cases sgn single v
      · exact h11
      · exact Int.dvd_neg.2 h11
    rw [Int.ediv_mul_cancel h12]

theorem floorS_fin {v : Nat} (hf : fin single v = true) : ∃ u : Nat, floorS v = (u : Int) ∧ u < 4294967296 ∧ fin single u = true ∧ sgn single u = sgn single v ∧ sv single u = (sv single v / (V1 : Int)) * (V1 : Int) := by
  obtain ⟨k, e, hk, fk, sk, vk, bk⟩ := floor_wide hf
  refine ⟨single.write (double.read k), ?_, ?_, ?_, ?_, ?_⟩
  · unfold floorS; rw [nan_of_fin hf, if_neg (by decide), e]
  · exact single.write_lt _
  · have hb := back_of_fin fk bk
    have hn := (isNaN_write (f := single) (read_notNaN okD hb.1)).1
    cases hfu : fin single (single.write (double.read k))
    · have hi := inf_of hn hfu
      have := hb.2 fk
      rw [read_inf okS hi] at this
      cases this
    · rfl
  · rw [(narrow_rounds fk).2, sk]
  · obtain ⟨c, c1, c2⟩ := floor_rep hf
    have eU : (U : Int) = (V1 : Int) * (P925 : Int) := by rw [← P925_U, Int.natCast_mul]
    have := (narrow_rounds fk).1.exact c1 (by rw [vk, c2, eU, Int.mul_assoc])
    rw [this, c2]

theorem floorS_inf {v : Nat} (hv : v < 4294967296) (hn : isNaN single v = false) (hf : fin single v = false) : floorS v = (v : Int) := by
  have hi := inf_of hn hf
  have e : single.read v = .infinity (sgn single v) := read_inf okS hi
  have e2 : double.read (double.write (single.read v)) = .infinity (sgn single v) := by
    rw [e]
    have h1 : double.write (.infinity (sgn single v)) = double.word (sgn single v) double.infRung := rfl
    have h2 : sgn double (double.word (sgn single v) double.infRung) = sgn single v := sgn_word double.infRung_lt
    rw [h1, read_inf okD (rung_word double.infRung_lt), h2]
  unfold floorS
  rw [hn, if_neg (by decide), e2]
  have h3 : double.write ((Datum.infinity (sgn single v)).integral .down) = double.word (sgn single v) double.infRung := rfl
  have h2 : sgn double (double.word (sgn single v) double.infRung) = sgn single v := sgn_word double.infRung_lt
  rw [h3, read_inf okD (rung_word double.infRung_lt), h2]
  have h4 : single.write (.infinity (sgn single v)) = single.word (sgn single v) single.infRung := rfl
  have h5 := word_of (f := single) (w := v) hv
  rw [hi] at h5
  rw [h4, ← h5]

theorem floor_floor {v : Nat} (hv : v < 4294967296) : floorS (floorS v).toNat = floorS v := by
  cases hn : isNaN single v
  · cases hf : fin single v
    · rw [floorS_inf hv hn hf, Int.toNat_natCast, floorS_inf hv hn hf]
    · obtain ⟨u, e, hu, fu, su, vu⟩ := floorS_fin hf
      rw [e, Int.toNat_natCast]
      obtain ⟨u', e', hu', _, su', vu'⟩ := floorS_fin fu
      rw [e']
      have hV := V1_pos
      rw [vu, Int.mul_ediv_cancel _ (by omega)] at vu'
      have : u' = u := word_ext (f := single) hu' hu (by rw [su', su]) (by rw [vu', vu])
      rw [this]
  · have e : floorS v = 2143289344 := by unfold floorS; rw [hn]; rfl
    rw [e]; unfold floorS; rw [show (2143289344 : Int).toNat = 2143289344 from rfl, isNaN_NaN]; rfl

/-! ### what the operators of one are, one by one -/

theorem un_id (t x : Int) : un [73, 100, 101, 110, 116, 105, 116, 121] t x = if chk t x = false then (0, 1) else (x, 0) := by
  unfold un unR; simp
theorem un_not (t x : Int) : un [78, 111, 116] t x = if chk t x = false then (0, 1) else if t = 9 then (1 - x, 0) else (0, 1) := by
  unfold un unR unF; simp
theorem un_neg (t x : Int) : un [78, 101, 103] t x = if chk t x = false then (0, 1) else if wholeT t = true then (cutT t (wrap64 (-x)), 0) else if t = 1 then (if isN x then x else (x + 2147483648) % 4294967296, 0) else (0, 1) := by
  unfold un unR unF; simp
theorem un_abs (t x : Int) : un [65, 98, 115] t x = if chk t x = false then (0, 1) else if wholeT t = true then (if x < 0 then cutT t (wrap64 (-x)) else x, 0) else if t = 1 then (x % 2147483648, 0) else (0, 1) := by
  unfold un unR unF; simp
theorem un_relu (t x : Int) : un [82, 101, 108, 117] t x = if chk t x = false then (0, 1) else if t = 1 then (if isN x then x else if 0 < sv single x.toNat then x else 0, 0) else (0, 1) := by
  unfold un unR unF; simp
theorem un_floor (t x : Int) : un [70, 108, 111, 111, 114] t x = if chk t x = false then (0, 1) else if t = 1 then (floorS x.toNat, 0) else (0, 1) := by
  unfold un unR unF; simp

/-- Which operators of one there are. -/
def unOk (op : List UInt8) : Bool :=
  decide (op = [78, 101, 103]) || decide (op = [65, 98, 115]) || decide (op = [82, 101, 108, 117]) || decide (op = [83, 113, 114, 116]) || decide (op = [70, 108, 111, 111, 114]) || decide (op = [69, 120, 112]) || decide (op = [83, 105, 103, 109, 111, 105, 100]) || decide (op = [84, 97, 110, 104])

theorem unF_ok_iff (op : List UInt8) (x : Int) : (unF op x).isSome = unOk op := by
  unfold unF unOk
  by_cases h1 : op = [78, 101, 103]
  · rw [if_pos h1, Option.isSome_some]; simp [h1]
  by_cases h2 : op = [65, 98, 115]
  · rw [if_neg h1, if_pos h2, Option.isSome_some]; simp [h2]
  by_cases h3 : op = [82, 101, 108, 117]
  · rw [if_neg h1, if_neg h2, if_pos h3, Option.isSome_some]; simp [h3]
  by_cases h4 : op = [83, 113, 114, 116]
  · rw [if_neg h1, if_neg h2, if_neg h3, if_pos h4, Option.isSome_some]; simp [h4]
  by_cases h5 : op = [70, 108, 111, 111, 114]
  · rw [if_neg h1, if_neg h2, if_neg h3, if_neg h4, if_pos h5, Option.isSome_some]; simp [h5]
  by_cases h6 : op = [69, 120, 112]
  · rw [if_neg h1, if_neg h2, if_neg h3, if_neg h4, if_neg h5, if_pos h6, Option.isSome_some]; simp [h6]
  by_cases h7 : op = [83, 105, 103, 109, 111, 105, 100]
  · rw [if_neg h1, if_neg h2, if_neg h3, if_neg h4, if_neg h5, if_neg h6, if_pos h7, Option.isSome_some]; simp [h7]
  by_cases h8 : op = [84, 97, 110, 104]
  · rw [if_neg h1, if_neg h2, if_neg h3, if_neg h4, if_neg h5, if_neg h6, if_neg h7, if_pos h8, Option.isSome_some]; simp [h8]
  · rw [if_neg h1, if_neg h2, if_neg h3, if_neg h4, if_neg h5, if_neg h6, if_neg h7, if_neg h8, Option.isSome_none]; simp [h1, h2, h3, h4, h5, h6, h7, h8]

theorem unF_some (op : List UInt8) (x y : Int) : (unF op x).isSome = (unF op y).isSome := by
  rw [unF_ok_iff, unF_ok_iff]

theorem un_err (op : List UInt8) (t x y : Int) (hx : chk t x = true) (hy : chk t y = true) : (un op t x).2 = (un op t y).2 := by
  have h := unF_some op x y
  unfold un unR
  rw [hx, hy]
  generalize unF op x = a at *
  generalize unF op y = b at *
  cases a <;> cases b <;> simp at h ⊢
  · grind
  · grind

/-- AN OPERATOR THAT HAS ANSWERED answers to what it answered. -/
theorem un_again (op : List UInt8) (t x : Int) (h : (un op t x).2 = 0) : (un op t (un op t x).1).2 = 0 := by
  have hs := un_stays op t x h
  have hx : chk t x = true := by
    cases g : chk t x
    · unfold un unR at h; rw [g] at h; cases h
    · rfl
  rw [un_err op t _ x hs hx]; exact h

theorem okF_range {x : Int} (h : okF x = true) : -9223372036854775808 ≤ x ∧ x ≤ 9223372036854775807 := by
  obtain ⟨n, rfl, hn, _⟩ := okF_inv h
  omega

theorem un_range (op : List UInt8) (t x : Int) (h0 : -9223372036854775808 ≤ x) (h1 : x ≤ 9223372036854775807) : -9223372036854775808 ≤ (un op t x).1 ∧ (un op t x).1 ≤ 9223372036854775807 := by
  have hz : -9223372036854775808 ≤ cutT t (wrap64 (-x)) ∧ cutT t (wrap64 (-x)) ≤ 9223372036854775807 := by
    unfold cutT wrap32 wrap64
    split <;> omega
  unfold un unR
  by_cases hc : chk t x = false
  · rw [if_pos hc]; decide
  rw [if_neg hc]
  have hx : chk t x = true := by cases g : chk t x; exact absurd g hc; rfl
  by_cases e1 : op = [73, 100, 101, 110, 116, 105, 116, 121]
  · rw [if_pos e1]; exact ⟨h0, h1⟩
  rw [if_neg e1]
  by_cases e2 : op = [78, 111, 116] ∧ t = 9
  · rw [if_pos e2]
    obtain ⟨_, rfl⟩ := e2
    rw [chk_bool] at hx
    simp at hx ⊢
    omega
  rw [if_neg e2]
  by_cases e3 : op = [78, 101, 103] ∧ wholeT t = true
  · rw [if_pos e3]; exact hz
  rw [if_neg e3]
  by_cases e4 : op = [65, 98, 115] ∧ wholeT t = true
  · rw [if_pos e4]
    by_cases h5 : x < 0
    · rw [if_pos h5]; exact hz
    · rw [if_neg h5]; exact ⟨h0, h1⟩
  rw [if_neg e4]
  by_cases e5 : t = 1
  · rw [if_pos e5]
    subst e5
    rw [chk_one] at hx
    obtain ⟨n, rfl, hn, hN⟩ := okF_inv hx
    cases hu : unF op n with
    | none => decide
    | some y => exact okF_range (unF_ok hn hN hu)
  · rw [if_neg e5]; decide

theorem wrap_neg {t x : Int} (hw : wholeT t = true) (h : chk t x = true) (h0 : -9223372036854775808 ≤ x) (h1 : x ≤ 9223372036854775807) : cutT t (wrap64 (-(cutT t (wrap64 (-x))))) = x := by
  rcases wholeT_cases hw with rfl | rfl
  · rw [chk_i32] at h
    simp only [decide_eq_true_eq] at h
    unfold cutT wrap32 wrap64
    simp only [if_true]
    omega
  · unfold cutT wrap64
    rw [if_neg (by decide), if_neg (by decide)]
    omega

/-- TWO TURNED SIGNS ARE NONE. -/
theorem neg_neg_law {t x : Int} (h0 : -9223372036854775808 ≤ x) (h1 : x ≤ 9223372036854775807) (h : (un [78, 101, 103] t x).2 = 0) : (un [78, 101, 103] t (un [78, 101, 103] t x).1).1 = x := by
  have hs := un_stays _ t x h
  rw [un_neg] at h
  by_cases hc : chk t x = false
  · rw [if_pos hc] at h; cases h
  have hx : chk t x = true := by cases g : chk t x; exact absurd g hc; rfl
  rw [un_neg t x, if_neg hc] at hs ⊢
  rw [if_neg hc] at h
  rw [un_neg, if_neg (by rw [hs]; decide)]
  by_cases hw : wholeT t = true
  · simp only [if_pos hw]
    exact wrap_neg hw hx h0 h1
  · simp only [if_neg hw] at h ⊢
    by_cases ht : t = 1
    · subst ht
      rw [chk_one] at hx
      obtain ⟨n, rfl, hn, cn⟩ := okF_inv hx
      simp only [if_true]
      unfold isN
      rw [Int.toNat_natCast]
      cases hN : isNaN single n
      · simp only [Bool.false_eq_true, if_false]
        have e : ((n : Int) + 2147483648) % 4294967296 = (((n + 2147483648) % 4294967296 : Nat) : Int) := by omega
        rw [e, Int.toNat_natCast, isNaN_turn hn, hN]
        simp only [Bool.false_eq_true, if_false]
        omega
      · simp [hN]
    · simp [if_neg ht] at h

theorem not_not_law {t x : Int} (h : (un [78, 111, 116] t x).2 = 0) : (un [78, 111, 116] t (un [78, 111, 116] t x).1).1 = x := by
  have hs := un_stays _ t x h
  rw [un_not] at h
  by_cases hc : chk t x = false
  · rw [if_pos hc] at h; cases h
  rw [un_not t x, if_neg hc] at hs ⊢
  rw [if_neg hc] at h
  by_cases ht : t = 9
  · rw [if_pos ht] at hs ⊢
    rw [un_not, if_neg (by rw [hs]; decide), if_pos ht]
    omega
  · rw [if_neg ht] at h; cases h

theorem id_id_law {t x : Int} (h : (un [73, 100, 101, 110, 116, 105, 116, 121] t x).2 = 0) : (un [73, 100, 101, 110, 116, 105, 116, 121] t (un [73, 100, 101, 110, 116, 105, 116, 121] t x).1).1 = x := by
  have hs := un_stays _ t x h
  rw [un_id] at h
  by_cases hc : chk t x = false
  · rw [if_pos hc] at h; cases h
  rw [un_id t x, if_neg hc] at hs ⊢
  rw [un_id, if_neg (by rw [hs]; decide)]

theorem abs_abs_law {t x : Int} (h0 : -9223372036854775808 ≤ x) (h1 : x ≤ 9223372036854775807) (h : (un [65, 98, 115] t x).2 = 0) : (un [65, 98, 115] t (un [65, 98, 115] t x).1).1 = (un [65, 98, 115] t x).1 := by
  have hs := un_stays _ t x h
  rw [un_abs] at h
  by_cases hc : chk t x = false
  · rw [if_pos hc] at h; cases h
  have hx : chk t x = true := by cases g : chk t x; exact absurd g hc; rfl
  rw [un_abs t x, if_neg hc] at hs ⊢
  rw [if_neg hc] at h
  rw [un_abs, if_neg (by rw [hs]; decide)]
  by_cases hw : wholeT t = true
  · simp only [if_pos hw]
    rcases wholeT_cases hw with rfl | rfl
    · rw [chk_i32] at hx
      simp only [decide_eq_true_eq] at hx
      unfold cutT wrap32 wrap64
      simp only [if_true]
      by_cases hx0 : x < 0
      · simp only [if_pos hx0]; split <;> omega
      · simp only [if_neg hx0]
    · unfold cutT wrap64
      simp only [if_neg (show ¬ (7 : Int) = 6 by decide)]
      by_cases hx0 : x < 0
      · simp only [if_pos hx0]; split <;> omega
      · simp only [if_neg hx0]
  · simp only [if_neg hw] at h ⊢
    by_cases ht : t = 1
    · simp only [if_pos ht]; omega
    · simp [if_neg ht] at h

theorem relu_relu_law {t x : Int} (h : (un [82, 101, 108, 117] t x).2 = 0) : (un [82, 101, 108, 117] t (un [82, 101, 108, 117] t x).1).1 = (un [82, 101, 108, 117] t x).1 := by
  have hs := un_stays _ t x h
  rw [un_relu] at h
  by_cases hc : chk t x = false
  · rw [if_pos hc] at h; cases h
  rw [un_relu t x, if_neg hc] at hs ⊢
  rw [if_neg hc] at h
  rw [un_relu, if_neg (by rw [hs]; decide)]
  by_cases ht : t = 1
  · simp only [if_pos ht]
    by_cases hN : isN x = true
    · simp [hN]
    · simp only [hN, Bool.false_eq_true, if_false]
      by_cases hp : 0 < sv single x.toNat
      · simp [hp, hN]
      · simp only [hp, if_false]
        have e1 : isN 0 = false := by decide
        rw [e1]; simp
  · simp [if_neg ht] at h

theorem floor_floor_law {t x : Int} (h : (un [70, 108, 111, 111, 114] t x).2 = 0) : (un [70, 108, 111, 111, 114] t (un [70, 108, 111, 111, 114] t x).1).1 = (un [70, 108, 111, 111, 114] t x).1 := by
  have hs := un_stays _ t x h
  rw [un_floor] at h
  by_cases hc : chk t x = false
  · rw [if_pos hc] at h; cases h
  have hx : chk t x = true := by cases g : chk t x; exact absurd g hc; rfl
  rw [un_floor t x, if_neg hc] at hs ⊢
  rw [if_neg hc] at h
  rw [un_floor, if_neg (by rw [hs]; decide)]
  by_cases ht : t = 1
  · subst ht
    rw [chk_one] at hx
    obtain ⟨n, rfl, hn, cn⟩ := okF_inv hx
    simp only [if_true, Int.toNat_natCast]
    exact floor_floor hn
  · simp [if_neg ht] at h

end Fl
end Go.Proofs.Ytepmacimknblpaa
