/- Plain facts on floating-point words, fourth part: the greatest whole number not above a number, numbers cut towards zero, doubles' own units, narrowing without overflow. No program in sight. -/
import Derived.Test.YtepmacimknblpaaFloatC
namespace Go.Proofs.Ytepmacimknblpaa
namespace Fl
open Ieee

theorem toNat_ne (r : Nat) : ((r != 0) : Bool).toNat = if r = 0 then 0 else 1 := by
  by_cases h : r = 0 <;> simp [h]

theorem cut_down (neg : Bool) (n drop : Nat) :
    (if neg then -((Toward.down.cut neg n drop : Nat) : Int) else ((Toward.down.cut neg n drop : Nat) : Int)) = (if neg then -(n : Int) else (n : Int)) / ((2 ^ drop : Nat) : Int) := by
  have hlog : n < 2 ^ (n.log2 + 1) := Nat.lt_log2_self
  unfold Toward.cut
  simp only [Nat.shiftLeft_eq, Nat.one_mul]
  by_cases hd : drop ≤ n.log2 + 2
  · rw [Nat.min_eq_left hd]
    have hp : 0 < 2 ^ drop := Nat.two_pow_pos _
    generalize 2 ^ drop = g at *
    have hdm := Nat.div_add_mod n g
    have hm := Nat.mod_lt n hp
    cases neg
    · simp
    · simp only [if_true, Bool.true_and]
      rw [toNat_ne]
      symm
      rw [Int.ediv_eq_iff_of_pos (by omega)]
      have e : ((n : Int)) = (g : Int) * ((n / g : Nat) : Int) + ((n % g : Nat) : Int) := by exact_mod_cast hdm.symm
      generalize n / g = q at *
      generalize n % g = r at *
      have e2 : ((q : Int) * (g : Int)) = (g : Int) * q := Int.mul_comm _ _
      by_cases h0 : r = 0
      · rw [if_pos h0]
        simp only [Nat.add_zero]
        constructor
        · rw [Int.neg_mul]; omega
        · rw [Int.neg_mul]; omega
      · rw [if_neg h0]
        have e3 : (((q + 1 : Nat) : Int)) * (g : Int) = (q : Int) * g + g := by rw [Int.natCast_add, Int.add_mul]; simp
        constructor
        · rw [Int.neg_mul, e3]; omega
        · rw [Int.neg_mul, e3]; omega
  · have hmin : min drop (n.log2 + 2) = n.log2 + 2 := Nat.min_eq_right (by omega)
    rw [hmin]
    have h2 : 2 ^ (n.log2 + 2) = 2 * 2 ^ (n.log2 + 1) := by rw [Nat.pow_succ]; omega
    have hlt : n < 2 ^ (n.log2 + 2) := by omega
    have hle : 2 ^ (n.log2 + 2) ≤ 2 ^ drop := Nat.pow_le_pow_right (by decide) (by omega)
    rw [Nat.div_eq_of_lt hlt, Nat.mod_eq_of_lt hlt]
    generalize 2 ^ drop = g at *
    cases neg
    · simp only [Bool.false_eq_true, if_false, Bool.false_and, Nat.zero_add]
      rw [← Int.natCast_ediv, Nat.div_eq_of_lt (Nat.lt_of_lt_of_le hlt hle)]; rfl
    · simp only [if_true, Bool.true_and, Nat.zero_add]
      rw [toNat_ne]
      symm
      rw [Int.ediv_eq_iff_of_pos (by omega)]
      by_cases h0 : n = 0
      · rw [if_pos h0]; subst h0; simp; omega
      · rw [if_neg h0]; constructor <;> simp <;> omega

theorem cut_zero (neg : Bool) (n drop : Nat) : Toward.zero.cut neg n drop = n / 2 ^ drop := by
  have hlog : n < 2 ^ (n.log2 + 1) := Nat.lt_log2_self
  unfold Toward.cut
  simp only [Nat.shiftLeft_eq, Nat.one_mul]
  by_cases hd : drop ≤ n.log2 + 2
  · rw [Nat.min_eq_left hd]; simp
  · have hmin : min drop (n.log2 + 2) = n.log2 + 2 := Nat.min_eq_right (by omega)
    rw [hmin]
    have h2 : 2 ^ (n.log2 + 2) = 2 * 2 ^ (n.log2 + 1) := by rw [Nat.pow_succ]; omega
    have hlt : n < 2 ^ (n.log2 + 2) := by omega
    have hle : 2 ^ (n.log2 + 2) ≤ 2 ^ drop := Nat.pow_le_pow_right (by decide) (by omega)
    rw [Nat.div_eq_of_lt hlt, Nat.div_eq_of_lt (Nat.lt_of_lt_of_le hlt hle)]; simp

/-- THE GREATEST WHOLE NUMBER NOT ABOVE. -/
theorem integral_down {f : Format} (hL : f.leastPlace ≤ 0) {w : Nat} (h : fin f w = true) :
    ∃ M : Nat, (f.read w).integral .down = .number (sgn f w) M 0 ∧ (if sgn f w then -(M : Int) else (M : Int)) = sv f w / ((2 ^ (-f.leastPlace).toNat : Nat) : Int) := by
  obtain ⟨m, p, e, hp, hg⟩ := read_fin (fin_lt h)
  rw [e]
  refine ⟨_, rfl, ?_⟩
  rw [cut_down]
  unfold sv
  rw [← hg, Nat.shiftLeft_eq]
  generalize hl : (-f.leastPlace).toNat = l
  have hc : (0 : Int) < ((2 ^ (l - (-p).toNat) : Nat) : Int) := by
    have := Nat.two_pow_pos (l - (-p).toNat); omega
  have e1 : (p - f.leastPlace).toNat = p.toNat + (l - (-p).toNat) := by omega
  have e2 : (l : Nat) = (-p).toNat + (l - (-p).toNat) := by omega
  rw [e1]
  have e3 : 2 ^ l = 2 ^ (-p).toNat * 2 ^ (l - (-p).toNat) := by rw [← Nat.pow_add, ← e2]
  rw [e3, Nat.pow_add, ← Nat.mul_assoc]
  generalize 2 ^ (l - (-p).toNat) = c at *
  generalize m * 2 ^ p.toNat = n at *
  generalize 2 ^ (-p).toNat = d at *
  rw [Int.natCast_mul d c]
  cases sgn f w
  · simp only [Bool.false_eq_true, if_false]
    rw [Int.natCast_mul, Int.mul_ediv_mul_of_pos_left _ _ hc]
  · simp only [if_true]
    rw [Int.natCast_mul, ← Int.neg_mul, Int.mul_ediv_mul_of_pos_left _ _ hc]

/-- CUT TOWARDS ZERO. -/
theorem toInt_zero {f : Format} (hL : f.leastPlace ≤ 0) {w : Nat} (h : fin f w = true) :
    (f.read w).toInt .zero = some ((sv f w).tdiv ((2 ^ (-f.leastPlace).toNat : Nat) : Int)) := by
  obtain ⟨m, p, e, hp, hg⟩ := read_fin (fin_lt h)
  rw [e]
  simp only [Datum.toInt, Datum.integral, cut_zero, signed_eq, Nat.pow_zero, Nat.mul_one]
  congr 1
  unfold sv
  rw [← hg, Nat.shiftLeft_eq]
  generalize hl : (-f.leastPlace).toNat = l
  have hc : 0 < 2 ^ (l - (-p).toNat) := Nat.two_pow_pos _
  have e1 : (p - f.leastPlace).toNat = p.toNat + (l - (-p).toNat) := by omega
  have e2 : (l : Nat) = (-p).toNat + (l - (-p).toNat) := by omega
  rw [e1]
  have e3 : 2 ^ l = 2 ^ (-p).toNat * 2 ^ (l - (-p).toNat) := by rw [← Nat.pow_add, ← e2]
  rw [e3, Nat.pow_add, ← Nat.mul_assoc]
  generalize 2 ^ (l - (-p).toNat) = c at *
  generalize m * 2 ^ p.toNat = n at *
  generalize 2 ^ (-p).toNat = d at *
  have key : n * c / (d * c) = n / d := Nat.mul_div_mul_right _ _ hc
  cases sgn f w
  · simp only [Bool.false_eq_true, if_false]
    rw [← Int.ofNat_tdiv, key]
  · simp only [if_true]
    rw [Int.neg_tdiv, ← Int.ofNat_tdiv, key]

/-! ### doubles -/

theorem pw_mul (a b c : Nat) (h : c = a + b) : pw c = pw a * pw b := by subst h; exact Nat.pow_add 2 a b

/-- One, in a double's units. -/
def U : Nat := pw 1074
theorem U_pos : 0 < U := pw_pos 1074
theorem dU : 2 ^ (-double.leastPlace).toNat = U := by
  have e : (-double.leastPlace).toNat = 1074 := by decide
  rw [e]; exact pw_eq 1074
theorem dL0 : double.leastPlace ≤ 0 := by decide
theorem sL0 : single.leastPlace ≤ 0 := by decide
/-- One, in a single's units. -/
def V1 : Nat := pw 149
theorem V1_pos : 0 < V1 := pw_pos 149
theorem sU : 2 ^ (-single.leastPlace).toNat = V1 := by
  have e : (-single.leastPlace).toNat = 149 := by decide
  rw [e]; exact pw_eq 149
theorem U_V1 : U = V1 * P925 := by
  unfold U V1 P925
  exact pw_mul 149 925 1074 (by decide)

theorem dmul {a b : Nat} (ha : fin double a = true) (hb : fin double b = true) :
    ∃ r, double.mul a b = some r ∧ Rounds double r (sv double a * sv double b) U ∧ sgn double r = (sgn double a ^^ sgn double b) := by
  have := mul_fin dL0 ha hb
  rw [dU] at this; exact this

theorem ddiv {a b : Nat} (ha : fin double a = true) (hb : fin double b = true) (hb0 : sv double b ≠ 0) :
    ∃ r, double.div a b = some r ∧ isNaN double r = false ∧ r < 2 ^ double.width ∧ sgn double r = (sgn double a ^^ sgn double b) ∧
      ∀ c, mg double (rung double a) * U * (2 ^ 54 + 1) ≤ mg double c * mg double (rung double b) * 2 ^ 54 → rung double r ≤ c := by
  have := div_fin dL0 ha hb hb0
  rw [dU] at this; exact this

theorem dfloor {w : Nat} (h : fin double w = true) :
    ∃ M : Nat, (double.read w).integral .down = .number (sgn double w) M 0 ∧ (if sgn double w then -(M : Int) else (M : Int)) = sv double w / (U : Int) := by
  have := integral_down dL0 h
  rw [dU] at this; exact this

theorem dtoInt {w : Nat} (h : fin double w = true) : (double.read w).toInt .zero = some ((sv double w).tdiv (U : Int)) := by
  have := toInt_zero dL0 h
  rw [dU] at this; exact this

/-- The greatest finite single's and the greatest finite double's magnitudes are beyond a few powers of two. -/
theorem dinf_big : 2 * double.binade * U ≤ mg double double.infRung := Nat.le_of_ble_eq_true (by kernel_rfl)

theorem dwhole (neg : Bool) (m : Nat) (hm : m < 2 * double.binade) :
    sv double (double.nearest neg m 0) = (if neg then -(m : Int) else (m : Int)) * (U : Int) ∧ fin double (double.nearest neg m 0) = true ∧ sgn double (double.nearest neg m 0) = neg := by
  have hi : m * U < mg double double.infRung := Nat.lt_of_lt_of_le (Nat.mul_lt_mul_of_pos_right hm U_pos) dinf_big
  have := sv_whole dL0 neg m hm (by rw [dU]; exact hi)
  rw [dU] at this; exact this

theorem sinf_big : 2 * single.binade * V1 ≤ mg single single.infRung := Nat.le_of_ble_eq_true (by kernel_rfl)

theorem swhole (neg : Bool) (m : Nat) (hm : m < 2 * single.binade) :
    sv single (single.nearest neg m 0) = (if neg then -(m : Int) else (m : Int)) * (V1 : Int) ∧ fin single (single.nearest neg m 0) = true ∧ sgn single (single.nearest neg m 0) = neg := by
  have hi : m * V1 < mg single single.infRung := Nat.lt_of_lt_of_le (Nat.mul_lt_mul_of_pos_right hm V1_pos) sinf_big
  have := sv_whole sL0 neg m hm (by rw [sU]; exact hi)
  rw [sU] at this; exact this

end Fl
end Go.Proofs.Ytepmacimknblpaa
