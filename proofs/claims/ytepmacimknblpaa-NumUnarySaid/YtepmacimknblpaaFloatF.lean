/- Plain facts on Exp in doubles, second part: the series' thirteen steps, the sum times a power of two, and the way back to a single. No program in sight. -/
import Derived.Test.YtepmacimknblpaaFloatE
namespace Go.Proofs.Ytepmacimknblpaa
namespace Fl
open Ieee

theorem mg_exactP (m e : Nat) (h : m < 2 * double.binade) : ∃ c, mg double c = m * pw e := mg_exact m e h
theorem pw1 : pw 1 = 2 := rfl
theorem pw52 : pw 52 = 4503599627370496 := by decide
attribute [local irreducible] pw U T P925 V1

theorem infD : double.infRung = 9218868437227405312 := by decide
theorem swD : double.signWeight = 9223372036854775808 := by decide
theorem binD : double.binade = 4503599627370496 := by decide

theorem small_word {w : Nat} (h : w < 9223372036854775808) : rung double w = w ∧ sgn double w = false ∧ sv double w = (mg double w : Int) := by
  have h1 : rung double w = w := by unfold rung; rw [swD]; exact Nat.mod_eq_of_lt h
  have h2 : sgn double w = false := by unfold sgn; rw [swD, Nat.div_eq_of_lt h]; rfl
  refine ⟨h1, h2, ?_⟩
  unfold sv; rw [h1, h2]; rfl

/-- 'float64(n)' of a small whole number. -/
def fi (n : Nat) : Nat := double.nearest false n 0
theorem sv_fi {n : Nat} (h : n < 9007199254740992) : sv double (fi n) = (n : Int) * (U : Int) ∧ fin double (fi n) = true ∧ sgn double (fi n) = false := dwhole false n h

/-- One step of the series. -/
structure Step (p r n q d p' : Nat) : Prop where
  h1 : double.mul p r = some q
  h2 : double.div q (fi n) = some d
  h3 : double.add one64 d = some p'

theorem mg_of_rung {w : Nat} : mg double (rung double w) = (sv double w).natAbs := (sv_natAbs double w).symm

theorem step_of {p r n : Nat} (hp : fin double p = true) (hpb : (sv double p).natAbs ≤ 41 * pw 1069) (hr : (sv double r).natAbs ≤ 3 * pw 1071) (hn : 1 ≤ n) (hn2 : n ≤ 13) :
    ∃ q d p', Step p r n q d p' ∧ fin double p' = true ∧ p' < 2 ^ double.width ∧
      (2 ≤ n → 23 * (pw 1069 : Int) ≤ sv double p' ∧ sv double p' ≤ 41 * (pw 1069 : Int)) ∧ (pw 1073 : Int) ≤ sv double p' ∧ sv double p' ≤ 3 * (pw 1073 : Int) ∧
      (0 ≤ sv double p → 0 ≤ sv double r → (U : Int) ≤ sv double p') := by
  have hT := T_pos
  have e69 := pw1069
  have e71 := pw1071
  have e73 := pw1073
  have e66 := pw1066
  have eU := U_T
  have fr : fin double r = true := fin_of_T (by omega)
  obtain ⟨q, e1, r1, s1⟩ := dmul hp fr
  have hq : (sv double q).natAbs ≤ 123 * pw 1066 := by
    refine r1.absP 123 1066 (by decide) (by decide) ?_
    rw [Int.natAbs_mul]
    have h1 : (sv double p).natAbs * (sv double r).natAbs ≤ (11540474045136896 * T) * (3377699720527872 * T) := Nat.mul_le_mul (by omega) (by omega)
    refine Nat.le_trans h1 ?_
    have h2 : 123 * pw 1066 = 4327677766926336 * T := by omega
    have h3 : U = 9007199254740992 * T := by omega
    rw [h2, h3]
    have h4 : 11540474045136896 * T * (3377699720527872 * T) = (11540474045136896 * 3377699720527872) * (T * T) := by ac_rfl
    have h5 : 4327677766926336 * T * (9007199254740992 * T) = (4327677766926336 * 9007199254740992) * (T * T) := by ac_rfl
    rw [h4, h5]
    exact Nat.mul_le_mul_right _ (by decide)
  have fq : fin double q = true := fin_of_T (by omega)
  obtain ⟨w1, w2, w3⟩ := sv_fi (n := n) (by omega)
  have hUp := U_pos
  have hnU : (0 : Int) < (n : Int) * (U : Int) := Int.mul_pos (by omega) (by omega)
  obtain ⟨d, e2, nd, ld, sd, bd⟩ := ddiv fq w2 (by rw [w1]; omega)
  -- how great the quotient may be
  have hmgn : mg double (rung double (fi n)) = n * U := by
    rw [mg_of_rung, w1, Int.natAbs_mul]; simp
  rw [hmgn, mg_of_rung] at bd
  have key : ∀ (z c : Nat), mg double c = z * pw 1066 → 123 * (2 ^ 54 + 1) ≤ z * n * 2 ^ 54 → rung double d ≤ c := by
    intro z c hc hz
    refine bd c ?_
    rw [hc]
    calc (sv double q).natAbs * U * (2 ^ 54 + 1) ≤ 123 * pw 1066 * U * (2 ^ 54 + 1) := Nat.mul_le_mul_right _ (Nat.mul_le_mul_right _ hq)
      _ = 123 * (2 ^ 54 + 1) * (pw 1066 * U) := by ac_rfl
      _ ≤ z * n * 2 ^ 54 * (pw 1066 * U) := Nat.mul_le_mul_right _ hz
      _ = z * pw 1066 * (n * U) * 2 ^ 54 := by ac_rfl
  have hd1 : (sv double d).natAbs ≤ 128 * pw 1066 := by
    obtain ⟨c, hc⟩ := mg_exactP 128 1066 (by decide)
    have := key 128 c hc (by
      have : 128 * 1 * 2 ^ 54 ≤ 128 * n * 2 ^ 54 := Nat.mul_le_mul_right _ (Nat.mul_le_mul_left _ hn)
      omega)
    have := mg_le (f := double) this
    rw [hc, mg_of_rung] at this; exact this
  have hd2 : 2 ≤ n → (sv double d).natAbs ≤ 72 * pw 1066 := by
    intro h2
    obtain ⟨c, hc⟩ := mg_exactP 72 1066 (by decide)
    have := key 72 c hc (by
      have : 72 * 2 * 2 ^ 54 ≤ 72 * n * 2 ^ 54 := Nat.mul_le_mul_right _ (Nat.mul_le_mul_left _ h2)
      omega)
    have := mg_le (f := double) this
    rw [hc, mg_of_rung] at this; exact this
  have fd : fin double d = true := fin_of_T (by omega)
  obtain ⟨p', e3, r3, _⟩ := add_fin fin_one fd
  rw [sv_one] at r3
  have b1 : (1 : Int) * (pw 1073 : Int) ≤ sv double p' := r3.geP 1 1073 (by decide) (by decide) (by omega)
  have b2 : sv double p' ≤ 3 * (pw 1073 : Int) := r3.leP 3 1073 (by decide) (by decide) (by omega)
  refine ⟨q, d, p', ⟨e1, e2, e3⟩, fin_of_T (by omega), r3.lt, ?_, by omega, b2, ?_⟩
  · intro h2
    have hd := hd2 h2
    exact ⟨r3.geP 23 1069 (by decide) (by decide) (by omega), r3.leP 41 1069 (by decide) (by decide) (by omega)⟩
  · intro hp0 hr0
    have q0 : 0 ≤ sv double q := by
      have := r1.geP 0 1074 (by decide) (by decide) (by have := Int.mul_nonneg hp0 hr0; simpa using this)
      simpa using this
    have d0 : 0 ≤ sv double d := by
      rcases (by omega : sv double d < 0 ∨ 0 ≤ sv double d) with h | h
      · exfalso
        have s2 := sgn_of_neg h
        rw [s2, w3] at sd
        have s3 : sgn double q = true := by simpa using sd.symm
        have z : sv double q = 0 := by
          have : sv double q ≤ 0 := by unfold sv; rw [s3]; simp
          omega
        have := bd 0 (by rw [z]; simp)
        have := mg_le (f := double) this
        rw [mg_zero, mg_of_rung] at this
        omega
      · exact h
    have := r3.geP 1 1074 (by decide) (by decide) (by rw [pwU]; omega)
    rw [pwU] at this; omega

/-- The sum behind 'j' steps (of thirteen). -/
def exP (r : Nat) : Nat → Nat
  | 0 => one64
  | j + 1 => ((double.add one64 (((double.div (((double.mul (exP r j) r).getD 0)) (fi (13 - j))).getD 0))).getD 0)

theorem exP_step {r j q d p' : Nat} (h : Step (exP r j) r (13 - j) q d p') : exP r (j + 1) = p' := by
  simp only [exP, h.h1, h.h2, h.h3, Option.getD_some]

structure Sum (r j : Nat) : Prop where
  fin : fin double (exP r j) = true
  lt : exP r j < 2 ^ double.width
  ge : 23 * (pw 1069 : Int) ≤ sv double (exP r j)
  le : sv double (exP r j) ≤ 41 * (pw 1069 : Int)
  one : 0 ≤ sv double r → (U : Int) ≤ sv double (exP r j)

theorem sum_of {r : Nat} (hr : (sv double r).natAbs ≤ 3 * pw 1071) : ∀ j, j ≤ 12 → Sum r j := by
  have e69 := pw1069
  have eU := U_T
  have hT := T_pos
  intro j
  induction j with
  | zero =>
    intro _
    exact ⟨fin_one, by show one64 < _; decide, by show _ ≤ sv double one64; rw [sv_one]; omega, by show sv double one64 ≤ _; rw [sv_one]; omega, fun _ => by show _ ≤ sv double one64; rw [sv_one]; omega⟩
  | succ j ih =>
    intro hj
    obtain ⟨s1, s2, s3, s4, s5⟩ := ih (by omega)
    obtain ⟨q, d, p', hs, f, l, b, _, _, o⟩ := step_of (n := 13 - j) s1 (by omega) hr (by omega) (by omega)
    have e := exP_step hs
    obtain ⟨b1, b2⟩ := b (by omega)
    exact ⟨by rw [e]; exact f, by rw [e]; exact l, by rw [e]; exact b1, by rw [e]; exact b2, fun h0 => by rw [e]; exact o (by omega) h0⟩

theorem steps_of {r : Nat} (hr : (sv double r).natAbs ≤ 3 * pw 1071) (j : Nat) (hj : j < 13) : ∃ q d, Step (exP r j) r (13 - j) q d (exP r (j + 1)) := by
  have e69 := pw1069
  have hT := T_pos
  obtain ⟨s1, s2, s3, s4, s5⟩ := sum_of hr j (by omega)
  obtain ⟨q, d, p', hs, _⟩ := step_of (n := 13 - j) s1 (by omega) hr (by omega) (by omega)
  have e := exP_step hs
  rw [← e] at hs
  exact ⟨q, d, hs⟩

theorem mg_half : mg double 4602678819172646912 = pw 1073 := by kernel_rfl
theorem mg_more : mg double 4609434218613702656 = 3 * pw 1073 := by kernel_rfl
theorem mg_one64 : mg double one64 = U := by kernel_rfl

/-- The whole sum: a word between a half and one and a half. -/
structure Whole (r : Nat) : Prop where
  ge : 4602678819172646912 ≤ exP r 13
  le : exP r 13 ≤ 4609434218613702656
  one : 0 ≤ sv double r → 4607182418800017408 ≤ exP r 13

theorem whole_of {r : Nat} (hr : (sv double r).natAbs ≤ 3 * pw 1071) : Whole r := by
  have e69 := pw1069
  have e73 := pw1073
  have eU := U_T
  have hT := T_pos
  obtain ⟨s1, s2, s3, s4, s5⟩ := sum_of hr 12 (by omega)
  obtain ⟨q, d, p', hs, f, l, _, b1, b2, o⟩ := step_of (n := 1) s1 (by omega) hr (by omega) (by omega)
  have e : exP r 13 = p' := exP_step (j := 12) hs
  have hsg : sgn double p' = false := sgn_of_pos (by omega)
  have hw := word_of l
  rw [hsg] at hw
  have hw2 : p' = rung double p' := hw
  have hsv : sv double p' = (mg double p' : Int) := by
    unfold sv; rw [hsg, ← hw2]; rfl
  refine ⟨?_, ?_, ?_⟩ <;> rw [e]
  · rcases Nat.lt_or_ge p' 4602678819172646912 with h | h
    · have := mg_lt (f := double) h; rw [mg_half] at this; omega
    · exact h
  · rcases Nat.lt_or_ge 4609434218613702656 p' with h | h
    · have := mg_lt (f := double) h; rw [mg_more] at this; omega
    · exact h
  · intro h0
    have := o (by omega) h0
    rcases Nat.lt_or_ge p' 4607182418800017408 with h | h
    · have := mg_lt (f := double) h; rw [show mg double 4607182418800017408 = U from mg_one64] at this; omega
    · exact h

/-! ### times a power of two -/

theorem mg_shift {c : Nat} (k : Nat) (h : 4503599627370496 ≤ c) : mg double (c + k * 4503599627370496) = mg double c * pw k := by
  have h1 : (c + k * 4503599627370496) / 4503599627370496 = c / 4503599627370496 + k := by omega
  have h2 : (c + k * 4503599627370496) % 4503599627370496 = c % 4503599627370496 := by omega
  rw [mg_high (by rw [binD]; omega), mg_high (r := c) (by rw [binD]; omega), binD, h1, h2]
  have h3 : c / 4503599627370496 + k - 1 = (c / 4503599627370496 - 1) + k := by omega
  rw [h3, pw_add]
  exact (Nat.mul_assoc _ _ _).symm

theorem mul_word {w z c : Nat} (hw : w < 9218868437227405312) (hz : z < 9218868437227405312) (hc : c < 9218868437227405312) (h : mg double w * mg double z = mg double c * U) : double.mul w z = some c := by
  obtain ⟨w1, w2, w3⟩ := small_word (w := w) (by omega)
  obtain ⟨z1, z2, z3⟩ := small_word (w := z) (by omega)
  obtain ⟨c1, c2, c3⟩ := small_word (w := c) (by omega)
  have fw : fin double w = true := by simp only [fin, w1, infD, decide_eq_true_eq]; exact hw
  have fz : fin double z = true := by simp only [fin, z1, infD, decide_eq_true_eq]; exact hz
  have fc : fin double c = true := by simp only [fin, c1, infD, decide_eq_true_eq]; exact hc
  obtain ⟨r, e, hr, hs⟩ := dmul fw fz
  rw [w3, z3] at hr
  have hv : sv double r = sv double c := hr.exact (nan_of_fin fc) (by rw [c3]; exact_mod_cast h)
  rw [w2, z2] at hs
  have hwd : 2 ^ double.width = 18446744073709551616 := by decide
  have : r = c := word_ext hr.lt (by rw [hwd]; omega) (by rw [hs, c2]; rfl) hv
  rw [e, this]

theorem mg_pow2 {e : Nat} (h : 1 ≤ e) : mg double (e * 4503599627370496) = pw (52 + (e - 1)) := by
  have h1 : e * 4503599627370496 / 4503599627370496 = e := by omega
  have h2 : e * 4503599627370496 % 4503599627370496 = 0 := by omega
  rw [mg_high (by rw [binD]; omega), binD, h1, h2]
  rw [Nat.add_zero, ← pw52, pw_eq (e - 1)]
  exact (pw_mul 52 (e - 1) _ rfl).symm

/-- THE SUM TIMES A POWER OF TWO: the places are added to the exponent field. -/
theorem mul_places {p : Nat} {K : Int} (hp1 : 4602678819172646912 ≤ p) (hp2 : p ≤ 4609434218613702656) (h1 : -152 ≤ K) (h2 : K ≤ 130) :
    double.mul p ((K + 1023).toNat * 4503599627370496) = some ((p : Int) + K * 4503599627370496).toNat := by
  refine mul_word (by omega) (by omega) (by omega) ?_
  rw [mg_pow2 (by omega)]
  rcases (by omega : 0 ≤ K ∨ K < 0) with h | h
  · obtain ⟨k, rfl⟩ := Int.eq_ofNat_of_zero_le h
    have e : ((p : Int) + (k : Int) * 4503599627370496).toNat = p + k * 4503599627370496 := by omega
    rw [e, mg_shift k (by omega), Nat.mul_assoc]
    congr 1
    refine Eq.trans ?_ (Nat.mul_comm _ _)
    unfold U
    refine pw_mul 1074 k _ (by omega)
  · have e : p = ((p : Int) + K * 4503599627370496).toNat + (-K).toNat * 4503599627370496 := by omega
    have hm := mg_shift (c := ((p : Int) + K * 4503599627370496).toNat) (-K).toNat (by omega)
    rw [← e] at hm
    rw [hm, Nat.mul_assoc]
    congr 1
    unfold U
    refine (pw_mul (-K).toNat (52 + ((K + 1023).toNat - 1)) 1074 (by omega)).symm

theorem mul_two {p : Nat} (h1 : 4503599627370496 ≤ p) (h2 : p + 4503599627370496 < 9218868437227405312) : double.mul p 4611686018427387904 = some (p + 4503599627370496) := by
  refine mul_word (by omega) (by omega) h2 ?_
  have e := mg_shift (c := p) 1 h1
  rw [Nat.one_mul] at e
  have h3 : mg double 4611686018427387904 = pw 1 * U := by
    have h4 := mg_pow2 (e := 1024) (by decide)
    have h5 : pw (52 + (1024 - 1)) = pw 1 * U := by
      unfold U
      exact pw_mul 1 1074 _ (by decide)
    rw [h5] at h4
    exact h4
  rw [e, h3, Nat.mul_assoc]

/-- HALVED. -/
theorem div_two {p c : Nat} (hpc : p = c + 4503599627370496) (h1 : 4503599627370496 ≤ c) (h2 : p < 9218868437227405312) : double.div p 4611686018427387904 = some c := by
  obtain ⟨w1, w2, w3⟩ := small_word (w := p) (by omega)
  obtain ⟨m, q, e1, hq, hg, hm⟩ := read_fin' (f := double) (w := p) (by rw [w1, infD]; exact h2)
  have e2 : double.read 4611686018427387904 = .number false 4503599627370496 (-51) := by decide +kernel
  have hm0 : m ≠ 0 := by
    intro h; subst h
    rw [w1, Nat.zero_mul] at hg
    have := mg_eq_zero hg.symm
    omega
  have hlog : m.log2 ≤ 52 := by
    have h3 := Nat.log2_self_le hm0
    rcases Nat.lt_or_ge 52 m.log2 with h | h
    · have : 2 ^ 53 ≤ 2 ^ m.log2 := Nat.pow_le_pow_right (by decide) h
      rw [binD] at hm
      omega
    · exact h
  unfold Format.div
  rw [e1, e2]
  simp only [Datum.quotient]
  rw [if_neg (by decide)]
  have hl2 : Nat.log2 4503599627370496 = 52 := by decide
  have hfb : double.fractionBits = 52 := rfl
  rw [hl2, hfb]
  generalize hmore : 52 + 2 + 52 - m.log2 = more
  have hge : 54 ≤ more := by omega
  have hsh : m <<< more = m * 2 ^ (more - 52) * 4503599627370496 := by
    rw [Nat.shiftLeft_eq, show more = (more - 52) + 52 by omega, Nat.pow_add]
    simp only [Nat.add_sub_cancel]
    rw [Nat.mul_assoc]
  rw [hsh, Nat.mul_div_cancel _ (by decide), Nat.mul_mod_left]
  simp only [Option.map_some, Format.write, bne_self_eq_false, Bool.toNat_false, Nat.add_zero, nearest_eq]
  refine congrArg some ?_
  have hc : mg double p = mg double c * 2 := by
    have := mg_shift (c := c) 1 h1
    rw [Nat.one_mul, ← hpc, pw1] at this
    exact this
  have hr : rnd double (2 * (m * 2 ^ (more - 52))) (q - -51 - more - 1) = c := by
    refine rnd_eq (by rw [infD]; omega) ?_
    rw [dL] at hq hg ⊢
    rw [w1] at hg
    -- both sides twice
    refine Nat.eq_of_mul_eq_mul_right (show 0 < 2 by decide) ?_
    have e3 : mg double c * 2 ^ (-1074 - (q - -51 - more - 1)).toNat * 2 = mg double p * 2 ^ (-1074 - (q - -51 - more - 1)).toNat := by rw [hc, Nat.mul_right_comm]
    rw [e3, ← hg]
    have e4 : 2 * (m * 2 ^ (more - 52)) * 2 ^ (q - -51 - more - 1 - -1074).toNat * 2 = m * 2 ^ ((more - 52) + (q - -51 - more - 1 - -1074).toNat + 2) := by
      rw [Nat.pow_add, Nat.pow_add, show (2 : Nat) ^ 2 = 2 * 2 from rfl]; ac_rfl
    have e5 : m * 2 ^ (q - -1074).toNat * 2 ^ (-1074 - (q - -51 - more - 1)).toNat = m * 2 ^ ((q - -1074).toNat + (-1074 - (q - -51 - more - 1)).toNat) := by
      rw [Nat.pow_add, Nat.mul_assoc]
    rw [e4, e5]
    have e6 : (more - 52) + (q - -51 - more - 1 - -1074).toNat + 2 = (q - -1074).toNat + (-1074 - (q - -51 - more - 1)).toNat := by omega
    rw [e6]
  rw [hr, w2]
  exact if_neg (by decide)

end Fl
end Go.Proofs.Ytepmacimknblpaa
