/- Plain facts on floating-point words, second part: sums, products and quotients of finite words come out as the nearest word: bounds from both sides. No program in sight. -/
import Derived.Test.YtepmacimknblpaaFloatA
namespace Go.Proofs.Ytepmacimknblpaa
namespace Fl
open Ieee

theorem signWeight_pos (f : Format) : 0 < f.signWeight := Nat.two_pow_pos _

theorem rung_word {f : Format} {neg : Bool} {r : Nat} (h : r < f.signWeight) : rung f (f.word neg r) = r := by
  unfold rung Format.word
  cases neg
  · simp [Nat.mod_eq_of_lt h]
  · simp [Nat.add_mod_left, Nat.mod_eq_of_lt h]

theorem sgn_word {f : Format} {neg : Bool} {r : Nat} (h : r < f.signWeight) : sgn f (f.word neg r) = neg := by
  unfold sgn Format.word
  cases neg
  · simp [Nat.div_eq_of_lt h]
  · have : (f.signWeight + r) / f.signWeight = 1 := by
      rw [Nat.add_div_left _ (signWeight_pos f), Nat.div_eq_of_lt h]
    simp [this]

theorem sv_word {f : Format} {neg : Bool} {r : Nat} (h : r < f.signWeight) : sv f (f.word neg r) = if neg then -(mg f r : Int) else (mg f r : Int) := by
  unfold sv; rw [rung_word h, sgn_word h]

theorem rnd_lt (f : Format) (mag : Nat) (place : Int) : rnd f mag place < f.signWeight :=
  Nat.lt_of_le_of_lt (rnd_le_inf f mag place) f.infRung_lt

/-- A word is the rounding of 'X / D' units: it is on the same side of every word as that number is. -/
structure Rounds (f : Format) (w : Nat) (X : Int) (D : Nat) : Prop where
  nan : isNaN f w = false
  lt : w < 2 ^ f.width
  up : ∀ c, isNaN f c = false → X ≤ sv f c * (D : Int) → sv f w ≤ sv f c
  down : ∀ c, isNaN f c = false → sv f c * (D : Int) ≤ X → sv f c ≤ sv f w

theorem Rounds.scale {f : Format} {w : Nat} {X Y : Int} {D E : Nat} (h : Rounds f w X D) (hD : 0 < D) (hE : 0 < E) (e : X * (E : Int) = Y * (D : Int)) : Rounds f w Y E := by
  have hD' : (0 : Int) < D := by omega
  have hE' : (0 : Int) < E := by omega
  refine ⟨h.nan, h.lt, fun c hc h1 => h.up c hc ?_, fun c hc h1 => h.down c hc ?_⟩
  · have h2 : Y * (D : Int) ≤ sv f c * (E : Int) * (D : Int) := Int.mul_le_mul_of_nonneg_right h1 (by omega)
    rw [← e, Int.mul_right_comm] at h2
    exact Int.le_of_mul_le_mul_right h2 hE'
  · have h2 : sv f c * (E : Int) * (D : Int) ≤ Y * (D : Int) := Int.mul_le_mul_of_nonneg_right h1 (by omega)
    rw [← e, Int.mul_right_comm] at h2
    exact Int.le_of_mul_le_mul_right h2 hE'

theorem Rounds.exact {f : Format} {w c : Nat} {X : Int} {D : Nat} (h : Rounds f w X D) (hc : isNaN f c = false) (e : X = sv f c * (D : Int)) : sv f w = sv f c :=
  Int.le_antisymm (h.up c hc (Int.le_of_eq e)) (h.down c hc (Int.le_of_eq e.symm))

theorem isNaN_word {f : Format} {neg : Bool} {r : Nat} (h : r ≤ f.infRung) : isNaN f (f.word neg r) = false := by
  have := rung_word (f := f) (neg := neg) (r := r) (Nat.lt_of_le_of_lt h f.infRung_lt)
  unfold isNaN
  unfold rung at this
  rw [this]
  simp; omega

theorem le_inf_of {f : Format} {c : Nat} (h : isNaN f c = false) : rung f c ≤ f.infRung := by
  simp only [isNaN, decide_eq_false_iff_not, Nat.not_lt] at h
  exact h

/-- The word nearest to a number rounds it. -/
theorem rounds_nearest (f : Format) (neg : Bool) (mag : Nat) (place : Int) :
    Rounds f (f.nearest neg mag place) (if neg then -((mag * 2 ^ (place - f.leastPlace).toNat : Nat) : Int) else ((mag * 2 ^ (place - f.leastPlace).toNat : Nat) : Int)) (2 ^ (f.leastPlace - place).toNat) := by
  rw [nearest_eq]
  have hr := rnd_lt f mag place
  refine ⟨isNaN_word (rnd_le_inf f mag place), f.word_lt _ hr, ?_, ?_⟩
  · intro c hc h
    rw [sv_word hr]
    have hci := le_inf_of hc
    generalize hV : mag * 2 ^ (place - f.leastPlace).toNat = V at *
    generalize hD : 2 ^ (f.leastPlace - place).toNat = D at *
    have hDp : 0 < D := by rw [← hD]; exact Nat.two_pow_pos _
    unfold sv at h ⊢
    cases neg <;> cases hs : sgn f c <;> simp only [hs, if_true, if_false, Bool.false_eq_true] at h ⊢
    · have h1 : V ≤ mg f (rung f c) * D := by exact_mod_cast h
      have := mg_le (f := f) (rnd_le (f := f) (mag := mag) (place := place) (c := rung f c) (by rw [hV, hD]; exact h1))
      omega
    · have h1 : (0 : Int) ≤ (mg f (rung f c) : Int) * (D : Int) := Int.mul_nonneg (by omega) (by omega)
      rw [Int.neg_mul] at h
      have h2 : V = 0 := by omega
      have h3 : (mg f (rung f c) : Int) * (D : Int) = 0 := by omega
      have h4 : mg f (rung f c) = 0 := by
        rcases Int.mul_eq_zero.1 h3 with h5 | h5 <;> omega
      have h6 := rnd_le (f := f) (mag := mag) (place := place) (c := 0) (by rw [hV, h2]; omega)
      have h7 : rnd f mag place = 0 := by omega
      rw [h7, mg_zero, h4]; simp
    · omega
    · have h1 : mg f (rung f c) * D ≤ V := by
        rw [Int.neg_mul] at h
        have : (mg f (rung f c) : Int) * (D : Int) ≤ V := by omega
        exact_mod_cast this
      have := mg_le (f := f) (le_rnd (f := f) (mag := mag) (place := place) (c := rung f c) hci (by rw [hV, hD]; exact h1))
      omega
  · intro c hc h
    rw [sv_word hr]
    have hci := le_inf_of hc
    generalize hV : mag * 2 ^ (place - f.leastPlace).toNat = V at *
    generalize hD : 2 ^ (f.leastPlace - place).toNat = D at *
    have hDp : 0 < D := by rw [← hD]; exact Nat.two_pow_pos _
    unfold sv at h ⊢
    cases neg <;> cases hs : sgn f c <;> simp only [hs, if_true, if_false, Bool.false_eq_true] at h ⊢
    · have h1 : mg f (rung f c) * D ≤ V := by exact_mod_cast h
      have := mg_le (f := f) (le_rnd (f := f) (mag := mag) (place := place) (c := rung f c) hci (by rw [hV, hD]; exact h1))
      omega
    · omega
    · have h1 : (0 : Int) ≤ (mg f (rung f c) : Int) * (D : Int) := Int.mul_nonneg (by omega) (by omega)
      have h2 : V = 0 := by omega
      have h3 : (mg f (rung f c) : Int) * (D : Int) = 0 := by omega
      have h4 : mg f (rung f c) = 0 := by
        rcases Int.mul_eq_zero.1 h3 with h5 | h5 <;> omega
      have h6 := rnd_le (f := f) (mag := mag) (place := place) (c := 0) (by rw [hV, h2]; omega)
      have h7 : rnd f mag place = 0 := by omega
      rw [h7, mg_zero, h4]; simp
    · have h1 : V ≤ mg f (rung f c) * D := by
        rw [Int.neg_mul] at h
        have : (V : Int) ≤ (mg f (rung f c) : Int) * (D : Int) := by omega
        exact_mod_cast this
      have := mg_le (f := f) (rnd_le (f := f) (mag := mag) (place := place) (c := rung f c) (by rw [hV, hD]; exact h1))
      omega

/-- Is a word's number finite? -/
def fin (f : Format) (w : Nat) : Bool := decide (rung f w < f.infRung)

theorem fin_lt {f : Format} {w : Nat} (h : fin f w = true) : rung f w < f.infRung := by simpa [fin] using h
theorem nan_of_fin {f : Format} {w : Nat} (h : fin f w = true) : isNaN f w = false := by
  have := fin_lt h
  unfold rung at this
  simp [isNaN]; omega

theorem natAbs_if (t : Int) : (if decide (t < 0) = true then -(t.natAbs : Int) else (t.natAbs : Int)) = t := by
  by_cases h : t < 0
  · rw [if_pos (by simpa using h)]; omega
  · rw [if_neg (by simpa using h)]; omega

theorem add_fin {f : Format} {a b : Nat} (ha : fin f a = true) (hb : fin f b = true) :
    ∃ r, f.add a b = some r ∧ Rounds f r (sv f a + sv f b) 1 ∧ sgn f r = (if sv f a + sv f b = 0 then sgn f a && sgn f b else decide (sv f a + sv f b < 0)) := by
  obtain ⟨m, p, e1, h1, g1⟩ := read_fin (fin_lt ha)
  obtain ⟨n, q, e2, h2, g2⟩ := read_fin (fin_lt hb)
  have k1 := signed_sv (f := f) (w := a) (b := min p q) (by omega) (by omega) g1
  have k2 := signed_sv (f := f) (w := b) (b := min p q) (by omega) (by omega) g2
  refine ⟨_, by unfold Format.add; rw [e1, e2]; rfl, ?_, ?_⟩
  · simp only [Format.write]
    generalize signed (sgn f a) m (p - min p q).toNat = x at *
    generalize signed (sgn f b) n (q - min p q).toNat = y at *
    have hr := rounds_nearest f (if x + y = 0 then sgn f a && sgn f b else decide (x + y < 0)) (x + y).natAbs (min p q)
    have hz : (f.leastPlace - min p q).toNat = 0 := by omega
    rw [hz] at hr
    refine hr.scale (by decide) (by decide) ?_
    rw [← k1, ← k2, ← Int.add_mul]
    generalize 2 ^ (min p q - f.leastPlace).toNat = c at *
    by_cases h0 : x + y = 0
    · rw [h0]; simp
    · rw [if_neg h0]
      have := natAbs_if (x + y)
      by_cases hs : x + y < 0
      · rw [if_pos (by simpa using hs)] at this ⊢
        have e : ((x + y).natAbs : Int) = -(x + y) := by omega
        simp only [Int.natCast_mul, e]; simp [Int.neg_mul]
      · rw [if_neg (by simpa using hs)] at this ⊢
        simp only [Int.natCast_mul, this]
  · simp only [Format.write]
    rw [nearest_eq, sgn_word (rnd_lt _ _ _)]
    rw [← k1, ← k2, ← Int.add_mul]
    generalize signed (sgn f a) m (p - min p q).toNat = x at *
    generalize signed (sgn f b) n (q - min p q).toNat = y at *
    have hc : (0 : Int) < ((2 ^ (min p q - f.leastPlace).toNat : Nat) : Int) := by
      have := Nat.two_pow_pos (min p q - f.leastPlace).toNat; omega
    generalize ((2 ^ (min p q - f.leastPlace).toNat : Nat) : Int) = c at *
    by_cases h0 : x + y = 0
    · rw [h0]; simp
    · have h3 : ¬ (x + y) * c = 0 := by
        intro h; rcases Int.mul_eq_zero.1 h with h5 | h5 <;> omega
      rw [if_neg h0, if_neg h3]
      congr 1
      refine propext ⟨fun h => Int.mul_neg_of_neg_of_pos h hc, fun h => ?_⟩
      rcases (by omega : x + y < 0 ∨ 0 ≤ x + y) with h5 | h5
      · exact h5
      · have := Int.mul_nonneg h5 (by omega : (0 : Int) ≤ c); omega

theorem mul_fin {f : Format} (hL : f.leastPlace ≤ 0) {a b : Nat} (ha : fin f a = true) (hb : fin f b = true) :
    ∃ r, f.mul a b = some r ∧ Rounds f r (sv f a * sv f b) (2 ^ (-f.leastPlace).toNat) ∧ sgn f r = (sgn f a ^^ sgn f b) := by
  obtain ⟨m, p, e1, h1, g1⟩ := read_fin (fin_lt ha)
  obtain ⟨n, q, e2, h2, g2⟩ := read_fin (fin_lt hb)
  refine ⟨_, by unfold Format.mul; rw [e1, e2]; rfl, ?_, ?_⟩
  · simp only [Format.write]
    refine (rounds_nearest f (sgn f a ^^ sgn f b) (m * n) (p + q)).scale (Nat.two_pow_pos _) (Nat.two_pow_pos _) ?_
    have key : m * n * 2 ^ (p + q - f.leastPlace).toNat * 2 ^ (-f.leastPlace).toNat = mg f (rung f a) * mg f (rung f b) * 2 ^ (f.leastPlace - (p + q)).toNat := by
      rw [← g1, ← g2]
      have e : 2 ^ (p + q - f.leastPlace).toNat * 2 ^ (-f.leastPlace).toNat = 2 ^ (p - f.leastPlace).toNat * 2 ^ (q - f.leastPlace).toNat * 2 ^ (f.leastPlace - (p + q)).toNat := by
        rw [← Nat.pow_add, ← Nat.pow_add, ← Nat.pow_add]; congr 1; omega
      calc m * n * 2 ^ (p + q - f.leastPlace).toNat * 2 ^ (-f.leastPlace).toNat = m * n * (2 ^ (p + q - f.leastPlace).toNat * 2 ^ (-f.leastPlace).toNat) := by ac_rfl
        _ = _ := by rw [e]; ac_rfl
    generalize m * n * 2 ^ (p + q - f.leastPlace).toNat = V at *
    generalize 2 ^ (-f.leastPlace).toNat = l at *
    generalize 2 ^ (f.leastPlace - (p + q)).toNat = d at *
    have key' : (V : Int) * (l : Int) = (mg f (rung f a) : Int) * (mg f (rung f b) : Int) * (d : Int) := by exact_mod_cast key
    unfold sv
    cases sgn f a <;> cases sgn f b <;> simp [Int.neg_mul, Int.mul_neg, key']
  · simp only [Format.write]
    rw [nearest_eq, sgn_word (rnd_lt _ _ _)]

/-- A quotient of finite words, the divisor not zero: its sign, that it is no NaN, and a bound. -/
theorem div_fin {f : Format} (hL : f.leastPlace ≤ 0) {a b : Nat} (ha : fin f a = true) (hb : fin f b = true) (hb0 : sv f b ≠ 0) :
    ∃ r, f.div a b = some r ∧ isNaN f r = false ∧ r < 2 ^ f.width ∧ sgn f r = (sgn f a ^^ sgn f b) ∧
      ∀ c, mg f (rung f a) * 2 ^ (-f.leastPlace).toNat * (2 ^ (f.fractionBits + 2) + 1) ≤ mg f c * mg f (rung f b) * 2 ^ (f.fractionBits + 2) → rung f r ≤ c := by
  obtain ⟨m, p, e1, h1, g1⟩ := read_fin (fin_lt ha)
  obtain ⟨n, q, e2, h2, g2⟩ := read_fin (fin_lt hb)
  have hn : n ≠ 0 := by
    intro h; subst h
    apply hb0; unfold sv; rw [← g2]; simp
  refine ⟨_, by unfold Format.div; rw [e1, e2]; simp only [Datum.quotient]; rw [if_neg hn]; rfl, ?_⟩
  simp only [Format.write, Nat.shiftLeft_eq]
  rw [nearest_eq]
  have hr := rnd_lt f
  refine ⟨isNaN_word (rnd_le_inf _ _ _), f.word_lt _ (hr _ _), sgn_word (hr _ _), ?_⟩
  intro c hc
  rw [rung_word (hr _ _)]
  refine rnd_le ?_
  by_cases hm : m = 0
  · subst hm; simp
  have a1 : 2 ^ m.log2 ≤ m := Nat.log2_self_le hm
  have a2 : n < 2 ^ (n.log2 + 1) := Nat.lt_log2_self
  generalize hmore : f.fractionBits + 2 + n.log2 - m.log2 = more
  have hdm := Nat.div_add_mod (m * 2 ^ more) n
  have hml := Nat.mod_lt (m * 2 ^ more) (Nat.pos_of_ne_zero hn)
  have hst : (m * 2 ^ more % n != 0).toNat ≤ 1 := Bool.toNat_le _
  generalize hQ : 2 * (m * 2 ^ more / n) + (m * 2 ^ more % n != 0).toNat = Q
  have hQn : Q * n ≤ 2 * (m * 2 ^ more) + n := by
    rw [← hQ, Nat.add_mul]
    have b1 : (m * 2 ^ more % n != 0).toNat * n ≤ 1 * n := Nat.mul_le_mul_right _ hst
    have b2 : 2 * (m * 2 ^ more / n) * n = 2 * (n * (m * 2 ^ more / n)) := by ac_rfl
    omega
  -- the digit more weighs no more than the number by 2 ^ digits
  have hsm : n * 2 ^ (f.fractionBits + 2) ≤ m * 2 ^ (more + 1) := by
    have c1 : n * 2 ^ (f.fractionBits + 2) ≤ 2 ^ (n.log2 + 1) * 2 ^ (f.fractionBits + 2) := Nat.mul_le_mul_right _ (Nat.le_of_lt a2)
    have c2 : 2 ^ m.log2 * 2 ^ (more + 1) ≤ m * 2 ^ (more + 1) := Nat.mul_le_mul_right _ a1
    have c3 : 2 ^ (n.log2 + 1) * 2 ^ (f.fractionBits + 2) ≤ 2 ^ m.log2 * 2 ^ (more + 1) := by
      rw [← Nat.pow_add, ← Nat.pow_add]
      exact Nat.pow_le_pow_right (by decide) (by omega)
    omega
  have hpp : 2 ^ (more + 1) = 2 * 2 ^ more := by rw [Nat.pow_succ]; omega
  -- Q times n, in the words' own units
  have hmain : Q * n * 2 ^ (f.fractionBits + 2) ≤ m * 2 ^ (more + 1) * (2 ^ (f.fractionBits + 2) + 1) := by
    calc Q * n * 2 ^ (f.fractionBits + 2) ≤ (2 * (m * 2 ^ more) + n) * 2 ^ (f.fractionBits + 2) := Nat.mul_le_mul_right _ hQn
      _ = m * 2 ^ (more + 1) * 2 ^ (f.fractionBits + 2) + n * 2 ^ (f.fractionBits + 2) := by
          rw [Nat.add_mul, hpp]; congr 1; ac_rfl
      _ ≤ m * 2 ^ (more + 1) * 2 ^ (f.fractionBits + 2) + m * 2 ^ (more + 1) := Nat.add_le_add_left hsm _
      _ = m * 2 ^ (more + 1) * (2 ^ (f.fractionBits + 2) + 1) := by rw [Nat.mul_add, Nat.mul_one]
  rw [← g1, ← g2] at hc
  generalize hu : (p - f.leastPlace).toNat = u at *
  generalize hv : (q - f.leastPlace).toNat = v at *
  generalize hl : (-f.leastPlace).toNat = l at *
  generalize hx : (p - q - more - 1 - f.leastPlace).toNat = x
  generalize hy : (f.leastPlace - (p - q - more - 1)).toNat = y
  have hpow : 2 ^ x * 2 ^ (v + more + 1) = 2 ^ y * 2 ^ (u + l) := by
    rw [← Nat.pow_add, ← Nat.pow_add]; congr 1; omega
  have hT : 0 < 2 ^ (f.fractionBits + 2) := Nat.two_pow_pos _
  generalize 2 ^ (f.fractionBits + 2) = T at *
  -- cancel n, T, 2 ^ (u + l)
  have step : Q * 2 ^ (u + l) ≤ mg f c * 2 ^ (v + more + 1) := by
    have hnT : 0 < n * T := Nat.mul_pos (Nat.pos_of_ne_zero hn) hT
    refine Nat.le_of_mul_le_mul_right ?_ hnT
    calc Q * 2 ^ (u + l) * (n * T) = Q * n * T * 2 ^ (u + l) := by ac_rfl
      _ ≤ m * 2 ^ (more + 1) * (T + 1) * 2 ^ (u + l) := Nat.mul_le_mul_right _ hmain
      _ = m * 2 ^ u * 2 ^ l * (T + 1) * 2 ^ (more + 1) := by rw [Nat.pow_add 2 u l]; ac_rfl
      _ ≤ mg f c * (n * 2 ^ v) * T * 2 ^ (more + 1) := Nat.mul_le_mul_right _ hc
      _ = mg f c * 2 ^ (v + more + 1) * (n * T) := by rw [Nat.add_assoc, Nat.pow_add 2 v (more + 1)]; ac_rfl
  refine Nat.le_of_mul_le_mul_right ?_ (Nat.two_pow_pos (v + more + 1))
  calc Q * 2 ^ x * 2 ^ (v + more + 1) = Q * (2 ^ y * 2 ^ (u + l)) := by rw [Nat.mul_assoc, hpow]
    _ = Q * 2 ^ (u + l) * 2 ^ y := by ac_rfl
    _ ≤ mg f c * 2 ^ (v + more + 1) * 2 ^ y := Nat.mul_le_mul_right _ step
    _ = mg f c * 2 ^ y * 2 ^ (v + more + 1) := by ac_rfl

end Fl
end Go.Proofs.Ytepmacimknblpaa
