/- Plain facts on floating-point words, third part: differences; words of whole numbers; the same number in the wider format and back; whole numbers below a number; numbers cut to integers. No program in sight. -/
import Derived.Test.YtepmacimknblpaaFloatR
import Derived.KernelRfl
namespace Go.Proofs.Ytepmacimknblpaa
namespace Fl
open Ieee

theorem read_fin' {f : Format} {w : Nat} (h : rung f w < f.infRung) :
    ∃ m p, f.read w = .number (sgn f w) m p ∧ f.leastPlace ≤ p ∧ m * 2 ^ (p - f.leastPlace).toNat = mg f (rung f w) ∧ m < 2 * f.binade := by
  have hB := binade_pos f
  unfold Format.read
  simp only [rung] at h ⊢
  by_cases h1 : w % f.signWeight < f.binade
  · rw [if_pos h1]
    refine ⟨_, _, rfl, Int.le_refl _, ?_, by omega⟩
    rw [mg_low h1]; simp
  · rw [if_neg h1, if_pos h]
    refine ⟨_, _, rfl, by omega, ?_, ?_⟩
    · rw [mg_high (by omega)]
      congr 2
      omega
    · have := Nat.mod_lt (w % f.signWeight) hB
      omega

theorem sum_near {f : Format} {s t : Bool} {m n : Nat} {p q X Y : Int} (h1 : f.leastPlace ≤ p) (h2 : f.leastPlace ≤ q)
    (k1 : signed s m (p - min p q).toNat * ((2 ^ (min p q - f.leastPlace).toNat : Nat) : Int) = X)
    (k2 : signed t n (q - min p q).toNat * ((2 ^ (min p q - f.leastPlace).toNat : Nat) : Int) = Y) :
    ∃ r, ((Datum.number s m p).sum (Datum.number t n q)).map f.write = some r ∧ Rounds f r (X + Y) 1 ∧ sgn f r = (if X + Y = 0 then s && t else decide (X + Y < 0)) := by
  refine ⟨_, rfl, ?_, ?_⟩
  · simp only [Format.write]
    generalize signed s m (p - min p q).toNat = x at *
    generalize signed t n (q - min p q).toNat = y at *
    have hr := rounds_nearest f (if x + y = 0 then s && t else decide (x + y < 0)) (x + y).natAbs (min p q)
    have hz : (f.leastPlace - min p q).toNat = 0 := by omega
    rw [hz] at hr
    refine hr.scale (by decide) (by decide) ?_
    rw [← k1, ← k2, ← Int.add_mul]
    generalize 2 ^ (min p q - f.leastPlace).toNat = c at *
    by_cases h0 : x + y = 0
    · rw [h0]; simp
    · rw [if_neg h0]
      have := natAbs_if (x + y)
      by_cases hs : x + y < 0
      · rw [if_pos (by simpa using hs)] at this ⊢
        have e : ((x + y).natAbs : Int) = -(x + y) := by omega
        simp only [Int.natCast_mul, e]; simp [Int.neg_mul]
      · rw [if_neg (by simpa using hs)] at this ⊢
        simp only [Int.natCast_mul, this]
  · simp only [Format.write]
    rw [nearest_eq, sgn_word (rnd_lt _ _ _)]
    rw [← k1, ← k2, ← Int.add_mul]
    generalize signed s m (p - min p q).toNat = x at *
    generalize signed t n (q - min p q).toNat = y at *
    have hc : (0 : Int) < ((2 ^ (min p q - f.leastPlace).toNat : Nat) : Int) := by
      have := Nat.two_pow_pos (min p q - f.leastPlace).toNat; omega
    generalize ((2 ^ (min p q - f.leastPlace).toNat : Nat) : Int) = c at *
    by_cases h0 : x + y = 0
    · rw [h0]; simp
    · have h3 : ¬ (x + y) * c = 0 := by
        intro h; rcases Int.mul_eq_zero.1 h with h5 | h5 <;> omega
      rw [if_neg h0, if_neg h3]
      congr 1
      refine propext ⟨fun h => Int.mul_neg_of_neg_of_pos h hc, fun h => ?_⟩
      rcases (by omega : x + y < 0 ∨ 0 ≤ x + y) with h5 | h5
      · exact h5
      · have := Int.mul_nonneg h5 (by omega : (0 : Int) ≤ c); omega

theorem sub_fin {f : Format} {a b : Nat} (ha : fin f a = true) (hb : fin f b = true) :
    ∃ r, f.sub a b = some r ∧ Rounds f r (sv f a - sv f b) 1 ∧ sgn f r = (if sv f a - sv f b = 0 then sgn f a && !sgn f b else decide (sv f a - sv f b < 0)) := by
  obtain ⟨m, p, e1, h1, g1⟩ := read_fin (fin_lt ha)
  obtain ⟨n, q, e2, h2, g2⟩ := read_fin (fin_lt hb)
  have k1 := signed_sv (f := f) (w := a) (b := min p q) (by omega) (by omega) g1
  have k2 := signed_sv (f := f) (w := b) (b := min p q) (by omega) (by omega) g2
  have hneg : signed (!sgn f b) n (q - min p q).toNat = - signed (sgn f b) n (q - min p q).toNat := by
    rw [signed_eq, signed_eq]; cases sgn f b <;> simp
  have k3 : signed (!sgn f b) n (q - min p q).toNat * ((2 ^ (min p q - f.leastPlace).toNat : Nat) : Int) = -(sv f b) := by
    rw [hneg, Int.neg_mul, k2]
  obtain ⟨r, hr⟩ := sum_near h1 h2 k1 k3
  refine ⟨r, ?_⟩
  unfold Format.sub
  rw [e1, e2]
  exact hr

/-- A word is known by its sign and its number. -/
theorem word_of {f : Format} {w : Nat} (h : w < 2 ^ f.width) : w = f.word (sgn f w) (rung f w) := by
  have two : 2 ^ f.width = 2 * f.signWeight := by
    unfold Format.width Format.signWeight
    rw [Nat.add_assoc, Nat.add_comm 1, Nat.pow_succ, Nat.mul_comm]
  have hd := Nat.div_add_mod w f.signWeight
  have hp := signWeight_pos f
  have hq : w / f.signWeight < 2 := Nat.div_lt_of_lt_mul (by omega)
  unfold Format.word sgn rung
  have hq2 : w / f.signWeight = 0 ∨ w / f.signWeight = 1 := by generalize w / f.signWeight = d at hq; omega
  rcases hq2 with h1 | h1
  · rw [h1] at hd ⊢; simp at hd ⊢; exact hd.symm
  · rw [h1] at hd ⊢; simp at hd ⊢; exact hd.symm

theorem mg_eq_zero {f : Format} {c : Nat} (h : mg f c = 0) : c = 0 := mg_inj (f := f) (by rw [h, mg_zero])

theorem word_ext {f : Format} {a b : Nat} (ha : a < 2 ^ f.width) (hb : b < 2 ^ f.width) (hs : sgn f a = sgn f b) (hv : sv f a = sv f b) : a = b := by
  have : mg f (rung f a) = mg f (rung f b) := by
    unfold sv at hv; rw [hs] at hv
    by_cases hh : sgn f b = true
    · rw [if_pos hh, if_pos hh] at hv; omega
    · rw [if_neg hh, if_neg hh] at hv; omega
  rw [word_of ha, word_of hb, hs, mg_inj this]

theorem sv_natAbs (f : Format) (w : Nat) : (sv f w).natAbs = mg f (rung f w) := by
  unfold sv; split <;> omega

theorem sgn_of_neg {f : Format} {w : Nat} (h : sv f w < 0) : sgn f w = true := by
  unfold sv at h; cases hs : sgn f w
  · rw [hs] at h; simp at h; omega
  · rfl

theorem sgn_of_pos {f : Format} {w : Nat} (h : 0 < sv f w) : sgn f w = false := by
  unfold sv at h; cases hs : sgn f w
  · rfl
  · rw [hs] at h; simp at h; omega

theorem fin_of_abs {f : Format} {w : Nat} (h : (sv f w).natAbs < mg f f.infRung) : fin f w = true := by
  rw [sv_natAbs, mg_lt_iff] at h; simpa [fin] using h

theorem fin_of_bounds {f : Format} {w : Nat} (h1 : -(mg f f.infRung : Int) < sv f w) (h2 : sv f w < (mg f f.infRung : Int)) : fin f w = true :=
  fin_of_abs (by omega)

/-- There is a word for each number of few digits. -/
theorem exists_word {f : Format} (X : Int) (e : Nat) (hX : X.natAbs < 2 * f.binade) (hi : X.natAbs * 2 ^ e ≤ mg f f.infRung) : ∃ c, isNaN f c = false ∧ sv f c = X * ((2 ^ e : Nat) : Int) := by
  obtain ⟨c, hc⟩ := mg_exact (f := f) X.natAbs e hX
  have hle : c ≤ f.infRung := by
    rcases Nat.lt_or_ge f.infRung c with h | h
    · have := mg_lt (f := f) h; omega
    · exact h
  refine ⟨f.word (decide (X < 0)) c, isNaN_word hle, ?_⟩
  rw [sv_word (Nat.lt_of_le_of_lt hle f.infRung_lt), hc]
  by_cases hs : X < 0
  · have : ((X.natAbs : Nat) : Int) = -X := by omega
    simp only [hs, decide_true, if_true, Int.natCast_mul, this]; simp [Int.neg_mul]
  · have : ((X.natAbs : Nat) : Int) = X := by omega
    simp only [hs, decide_false, Bool.false_eq_true, if_false, Int.natCast_mul, this]

theorem Rounds.le {f : Format} {w : Nat} {X : Int} {D : Nat} (h : Rounds f w X D) (Y : Int) (e : Nat) (hY : Y.natAbs < 2 * f.binade) (hi : Y.natAbs * 2 ^ e ≤ mg f f.infRung)
    (hx : X ≤ Y * ((2 ^ e : Nat) : Int) * (D : Int)) : sv f w ≤ Y * ((2 ^ e : Nat) : Int) := by
  obtain ⟨c, h1, h2⟩ := exists_word Y e hY hi
  have := h.up c h1 (by rw [h2]; exact hx)
  rw [h2] at this; exact this

theorem Rounds.ge {f : Format} {w : Nat} {X : Int} {D : Nat} (h : Rounds f w X D) (Y : Int) (e : Nat) (hY : Y.natAbs < 2 * f.binade) (hi : Y.natAbs * 2 ^ e ≤ mg f f.infRung)
    (hx : Y * ((2 ^ e : Nat) : Int) * (D : Int) ≤ X) : Y * ((2 ^ e : Nat) : Int) ≤ sv f w := by
  obtain ⟨c, h1, h2⟩ := exists_word Y e hY hi
  have := h.down c h1 (by rw [h2]; exact hx)
  rw [h2] at this; exact this

/-- A whole number of few digits IS its word's number. -/
theorem sv_whole {f : Format} (hL : f.leastPlace ≤ 0) (neg : Bool) (m : Nat) (hm : m < 2 * f.binade) (hi : m * 2 ^ (-f.leastPlace).toNat < mg f f.infRung) :
    sv f (f.nearest neg m 0) = (if neg then -(m : Int) else (m : Int)) * ((2 ^ (-f.leastPlace).toNat : Nat) : Int) ∧ fin f (f.nearest neg m 0) = true ∧ sgn f (f.nearest neg m 0) = neg := by
  obtain ⟨c, hc⟩ := mg_exact (f := f) m (-f.leastPlace).toNat hm
  have hle : c < f.infRung := by rw [← mg_lt_iff (f := f), hc]; exact hi
  have hr : rnd f m 0 = c := by
    refine rnd_eq (Nat.le_of_lt hle) ?_
    have e1 : (0 - f.leastPlace).toNat = (-f.leastPlace).toNat := by omega
    have e2 : (f.leastPlace - 0).toNat = 0 := by omega
    rw [e1, e2, hc]; simp
  have hlt : c < f.signWeight := Nat.lt_trans hle f.infRung_lt
  rw [nearest_eq, hr, sv_word hlt, sgn_word hlt, hc]
  refine ⟨?_, ?_, rfl⟩
  · cases neg <;> simp [Int.neg_mul]
  · simp [fin, rung_word hlt, hle]

/-! ### the wider format, and back -/

theorem dL : double.leastPlace = -1074 := by decide
theorem sL : single.leastPlace = -149 := by decide

/-- A power of two, kept as it is. -/
def pw (n : Nat) : Nat := 2 ^ n
theorem pw_eq (n : Nat) : 2 ^ n = pw n := rfl
theorem pw_add (a b : Nat) : 2 ^ (a + b) = 2 ^ a * pw b := Nat.pow_add 2 a b
theorem pw_pos (n : Nat) : 0 < pw n := Nat.two_pow_pos n
/-- From the narrow format's units to the wide one's. -/
def P925 : Nat := pw 925
theorem p925 (a : Nat) : 2 ^ (a + 925) = 2 ^ a * P925 := pw_add a 925
theorem p925_pos : 0 < P925 := pw_pos 925

theorem wide_eq {v : Nat} (h : fin single v = true) :
    fin double (double.write (single.read v)) = true ∧ sv double (double.write (single.read v)) = sv single v * (P925 : Int) ∧ sgn double (double.write (single.read v)) = sgn single v ∧ double.write (single.read v) < 2 ^ double.width := by
  obtain ⟨m, p, e, hp, hg, hm⟩ := read_fin' (fin_lt h)
  rw [e]
  simp only [Format.write]
  have hp' : -149 ≤ p := by rw [sL] at hp; exact hp
  obtain ⟨c, hc⟩ := mg_exact (f := double) m (p + 1074).toNat (Nat.lt_of_lt_of_le hm (by decide))
  have hval : m * 2 ^ (p + 1074).toNat = mg single (rung single v) * P925 := by
    rw [sL] at hg
    have e1 : (p + 1074).toNat = (p - -149).toNat + 925 := by omega
    rw [e1, p925, ← Nat.mul_assoc, hg]
  have hle : c < double.infRung := by
    rw [← mg_lt_iff (f := double), hc, hval]
    have h1 : mg single (rung single v) * P925 < mg single single.infRung * P925 := Nat.mul_lt_mul_of_pos_right (mg_lt (fin_lt h)) p925_pos
    have h2 : mg single single.infRung * P925 ≤ mg double double.infRung := Nat.le_of_ble_eq_true (by kernel_rfl)
    exact Nat.lt_of_lt_of_le h1 h2
  have hr : rnd double m p = c := by
    refine rnd_eq (Nat.le_of_lt hle) ?_
    have e1 : (p - double.leastPlace).toNat = (p + 1074).toNat := by rw [dL]; omega
    have e2 : (double.leastPlace - p).toNat = 0 := by rw [dL]; omega
    rw [e1, e2, hc]; simp
  have hlt : c < double.signWeight := Nat.lt_trans hle double.infRung_lt
  rw [nearest_eq, hr, sv_word hlt, sgn_word hlt, hc, hval]
  refine ⟨by simp [fin, rung_word hlt, hle], ?_, rfl, double.word_lt _ hlt⟩
  unfold sv
  cases sgn single v <;> simp [Int.neg_mul]

theorem cut_le_half {neg : Bool} {n drop N : Nat} (h : 2 * n < (2 * N + 1) * 2 ^ drop) : Toward.even.cut neg n drop ≤ N := by
  by_cases h0 : n ≤ N * 2 ^ drop
  · exact cut_le h0
  have hlog : n < 2 ^ (n.log2 + 1) := Nat.lt_log2_self
  have hN : (2 * N + 1) * 2 ^ drop = 2 * (N * 2 ^ drop) + 2 ^ drop := by rw [Nat.add_mul, Nat.mul_assoc]; simp
  unfold Toward.cut
  simp only [Nat.shiftLeft_eq, Nat.one_mul]
  by_cases hd : drop ≤ n.log2 + 2
  · rw [Nat.min_eq_left hd]
    have hp : 0 < 2 ^ drop := Nat.two_pow_pos _
    generalize 2 ^ drop = g at *
    have hdm := Nat.div_add_mod n g
    have hm := Nat.mod_lt n hp
    have he : n / g = N := by
      refine Nat.div_eq_of_lt_le ?_ ?_
      · omega
      · rw [Nat.succ_mul]; omega
    rw [he] at hdm ⊢
    have hc : g * N = N * g := Nat.mul_comm _ _
    have h1 : (decide (g < 2 * (n % g)) || (g == 2 * (n % g) && N % 2 == 1)) = false := by
      have h2 : ¬ g < 2 * (n % g) := by omega
      have h3 : (g == 2 * (n % g)) = false := by simp; omega
      simp [h2, h3]
    rw [h1]; simp
  · have hmin : min drop (n.log2 + 2) = n.log2 + 2 := Nat.min_eq_right (by omega)
    rw [hmin]
    have h2 : 2 ^ (n.log2 + 2) = 2 * 2 ^ (n.log2 + 1) := by rw [Nat.pow_succ]; omega
    have hlt : n < 2 ^ (n.log2 + 2) := by omega
    rw [Nat.div_eq_of_lt hlt, Nat.mod_eq_of_lt hlt]
    have h0 : (decide (2 ^ (n.log2 + 2) < 2 * n) || (2 ^ (n.log2 + 2) == 2 * n && 0 % 2 == 1)) = false := by
      simp; omega
    rw [h0]; simp

end Fl
end Go.Proofs.Ytepmacimknblpaa
