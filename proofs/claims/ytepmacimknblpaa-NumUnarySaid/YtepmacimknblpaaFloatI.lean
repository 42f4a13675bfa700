/- Exp, Sigmoid and Tanh of a word as plain functions, and that each of their steps has an answer. No program in sight. -/
import Derived.Test.YtepmacimknblpaaFloatH
namespace Go.Proofs.Ytepmacimknblpaa
namespace Fl
open Ieee

theorem sv_one32 : sv single 1065353216 = (V1 : Int) := of_decide_eq_true (by kernel_rfl)
theorem sv_ten32 : sv single 1092616192 = 10 * (V1 : Int) := of_decide_eq_true (by kernel_rfl)
theorem sv_89 : sv single 1118961664 = 89 * (V1 : Int) := of_decide_eq_true (by kernel_rfl)
theorem sv_105 : sv single 3268542464 = -105 * (V1 : Int) := of_decide_eq_true (by kernel_rfl)
theorem bigS {Y : Int} {e : Nat} (he : e ≤ 149) (hY : Y.natAbs < 16777216) : Y.natAbs * 2 ^ e ≤ mg single single.infRung := by
  have h1 : Y.natAbs * 2 ^ e ≤ 16777216 * pw 149 := Nat.mul_le_mul (Nat.le_of_lt hY) (pw_le he)
  exact Nat.le_trans h1 sinf_big
theorem pw149 : pw 149 = V1 := rfl
theorem inf_far : 36893488147419103232 * V1 ≤ mg single single.infRung := Nat.le_of_ble_eq_true (by kernel_rfl)
theorem dinf_far : 36893488147419103232 * U ≤ mg double double.infRung := Nat.le_of_ble_eq_true (by kernel_rfl)
attribute [local irreducible] pw U T P925 V1 maxD

/-- Exp's steps, of a word. -/
def exY (v : Nat) : Nat := double.write (single.read v)
def exT1 (v : Nat) : Nat := (double.mul (exY v) cLog).getD 0
def exT2 (v : Nat) : Nat := (double.add (exT1 v) cHalf).getD 0
def exK (v : Nat) : Nat := double.write ((double.read (exT2 v)).integral .down)
def exM (v : Nat) : Nat := (double.mul (exK v) cLn).getD 0
def exR (v : Nat) : Nat := (double.sub (exY v) (exM v)).getD 0
def exN (v : Nat) : Int := ((double.read (exK v)).toInt .zero).getD 0
/-- The sum with its places. -/
def exC (v : Nat) : Nat := ((exP (exR v) 13 : Int) + exN v * 4503599627370496).toNat
/-- Exp of a word: a word. -/
def expN (v : Nat) : Nat :=
  if isNaN single v then v
  else if sv single 1118961664 < sv single v then 2139095040
  else if sv single v < sv single 3268542464 then 0
  else if sv double 5183643170835005440 ≤ sv double (exC v) then 2139095040
  else single.write (double.read (exC v))

theorem head_ex {v : Nat} (_hn : isNaN single v = false) (h1 : ¬ sv single 1118961664 < sv single v) (h2 : ¬ sv single v < sv single 3268542464) :
    fin single v = true ∧ sv double (exY v) = sv single v * (P925 : Int) ∧ fin double (exY v) = true ∧ Head (exY v) (exT1 v) (exT2 v) (exK v) (exM v) (exR v) (exN v) := by
  rw [sv_89] at h1
  rw [sv_105] at h2
  have hV := V1_pos
  have hP := p925_pos
  have hf : fin single v = true := by
    refine fin_of_abs ?_
    have h3 : 200 * V1 < 2 * single.binade * V1 := Nat.mul_lt_mul_of_pos_right (by decide) hV
    have h4 := sinf_big
    omega
  obtain ⟨f1, f2, f3, f4⟩ := wide_eq hf
  have eU : (U : Int) = (V1 : Int) * (P925 : Int) := by rw [← P925_U, Int.natCast_mul]
  have y1 : -105 * (U : Int) ≤ sv double (exY v) := by
    show _ ≤ sv double (double.write (single.read v))
    rw [f2, eU, ← Int.mul_assoc]
    exact Int.mul_le_mul_of_nonneg_right (by omega) (by omega)
  have y2 : sv double (exY v) ≤ 89 * (U : Int) := by
    show sv double (double.write (single.read v)) ≤ _
    rw [f2, eU, ← Int.mul_assoc]
    exact Int.mul_le_mul_of_nonneg_right (by omega) (by omega)
  obtain ⟨t1, t2, k, m, r, K, H⟩ := head_of (y := exY v) f1 y1 y2
  refine ⟨hf, f2, f1, ?_⟩
  have e1 : exT1 v = t1 := by unfold exT1; rw [H.h1]; rfl
  have e2 : exT2 v = t2 := by unfold exT2; rw [e1, H.h2]; rfl
  have e3 : exK v = k := by unfold exK; rw [e2]; exact H.hk.symm
  have e4 : exM v = m := by unfold exM; rw [e3, H.h3]; rfl
  have e5 : exR v = r := by unfold exR; rw [e4, H.h4]; rfl
  have e6 : exN v = K := by
    unfold exN
    have hU := U_pos
    rw [e3, dtoInt H.fink, H.hK, Int.mul_tdiv_cancel _ (by omega)]
    rfl
  rw [e1, e2, e3, e4, e5, e6]
  exact H

/-- What is known of the sum with its places. -/
structure Tail (v : Nat) : Prop where
  p1 : 4602678819172646912 ≤ exP (exR v) 13
  p2 : exP (exR v) 13 ≤ 4609434218613702656
  k1 : -152 ≤ exN v
  k2 : exN v ≤ 130
  cut : ∀ w : Nat, w = exC v → ((exP (exR v) 13 : Int) + exN v * 4503599627370496).toNat = w
  mul : double.mul (exP (exR v) 13) ((exN v + 1023).toNat * 4503599627370496) = some (exC v)
  c1 : 3900000000000000000 ≤ exC v
  c2 : exC v ≤ 5200000000000000000

theorem tail_ex {v : Nat} (hn : isNaN single v = false) (h1 : ¬ sv single 1118961664 < sv single v) (h2 : ¬ sv single v < sv single 3268542464) : Tail v := by
  obtain ⟨_, _, _, H⟩ := head_ex hn h1 h2
  have W := whole_of H.small
  have p1 := W.ge
  have p2 := W.le
  have k1 := H.least
  have k2 := H.most
  refine ⟨p1, p2, k1, k2, fun w hw => hw.symm, mul_places p1 p2 k1 k2, ?_, ?_⟩
  · unfold exC; omega
  · unfold exC; omega

theorem fin_exC {v : Nat} (t : Tail v) : fin double (exC v) = true ∧ rung double (exC v) = exC v ∧ sv double (exC v) = (mg double (exC v) : Int) := by
  have h := t.c2
  obtain ⟨a, b, c⟩ := small_word (w := exC v) (by omega)
  exact ⟨by simp only [fin, a, infD, decide_eq_true_eq]; omega, a, c⟩

/-- Below the bound the sum comes back finite. -/
theorem back_exC {v : Nat} (t : Tail v) (h : ¬ sv double 5183643170835005440 ≤ sv double (exC v)) : Back (exC v) := by
  obtain ⟨a, b, c⟩ := fin_exC t
  refine back_of_fin a ?_
  rw [b, ← mg_huge]
  rw [c, (small_word (by decide)).2.2] at h
  omega

theorem narrow_rounds {c : Nat} (h : fin double c = true) : Rounds single (single.write (double.read c)) (sv double c) P925 ∧ sgn single (single.write (double.read c)) = sgn double c := by
  obtain ⟨m, p, e, hp, hg⟩ := read_fin (fin_lt h)
  have hu := narrow_units hp hg
  rw [e]
  simp only [Format.write]
  refine ⟨(rounds_nearest single (sgn double c) m p).scale (Nat.two_pow_pos _) p925_pos ?_, by rw [nearest_eq]; exact sgn_word (rnd_lt _ _ _)⟩
  generalize m * 2 ^ (p - single.leastPlace).toNat = a at *
  generalize 2 ^ (single.leastPlace - p).toNat = d at *
  have hu' : (a : Int) * (P925 : Int) = (mg double (rung double c) : Int) * (d : Int) := by exact_mod_cast hu
  unfold sv
  cases sgn double c <;> simp [Int.neg_mul, hu']

theorem expN_lt {v : Nat} (hv : v < 4294967296) : expN v < 4294967296 := by
  unfold expN
  split
  · exact hv
  · split
    · decide
    · split
      · decide
      · split
        · decide
        · exact single.write_lt _

/-- Exp of no NaN is no NaN. -/
theorem expN_notNaN {v : Nat} (hn : isNaN single v = false) : isNaN single (expN v) = false := by
  unfold expN
  rw [hn]
  simp only [Bool.false_eq_true, if_false]
  split
  · decide
  · split
    · decide
    · split
      · decide
      · rename_i h1 h2 h3
        exact (isNaN_write (read_notNaN okD (back_exC (tail_ex hn h1 h2) h3).1)).1

theorem expN_nan {v : Nat} (hn : isNaN single v = true) : expN v = v := by unfold expN; rw [if_pos hn]

/-- EXP OF WHAT LIES BETWEEN 0 AND 20 is between 1 and 2^31. -/
theorem expN_one {u : Nat} (hn : isNaN single u = false) (h0 : 0 ≤ sv single u) (h20 : sv single u ≤ 20 * (V1 : Int)) :
    fin single (expN u) = true ∧ (V1 : Int) ≤ sv single (expN u) ∧ sgn single (expN u) = false ∧ sv single (expN u) ≤ sv single 1333788672 := by
  have hV := V1_pos
  have hP := p925_pos
  have eU : (U : Int) = (V1 : Int) * (P925 : Int) := by rw [← P925_U, Int.natCast_mul]
  have g1 : ¬ sv single 1118961664 < sv single u := by rw [sv_89]; omega
  have g2 : ¬ sv single u < sv single 3268542464 := by rw [sv_105]; omega
  obtain ⟨hf, hy, hfy, H⟩ := head_ex hn g1 g2
  have t := tail_ex hn g1 g2
  have W := whole_of H.small
  have hy0 : 0 ≤ sv double (exY u) := by rw [hy]; exact Int.mul_nonneg h0 (by omega)
  obtain ⟨K0, Kr⟩ := H.pos hy0
  have K29 := H.ten (by rw [hy, eU, ← Int.mul_assoc]; exact Int.mul_le_mul_of_nonneg_right h20 (by omega))
  have p1 := t.p1
  have p2 := t.p2
  have c1 : 4607182418800017408 ≤ exC u := by
    unfold exC
    rcases (by omega : exN u = 0 ∨ 1 ≤ exN u) with h | h
    · have := W.one (Kr h); rw [h]; omega
    · omega
  have c2 : exC u ≤ 4609434218613702656 + 29 * 4503599627370496 := by unfold exC; omega
  obtain ⟨a, b, c⟩ := fin_exC t
  have g3 : ¬ sv double 5183643170835005440 ≤ sv double (exC u) := by
    rw [c, (small_word (by decide)).2.2]
    have := mg_lt (f := double) (show exC u < 5183643170835005440 by omega)
    omega
  have e : expN u = single.write (double.read (exC u)) := by
    unfold expN
    rw [hn, if_neg (by decide), if_neg g1, if_neg g2, if_neg g3]
  have hR := (narrow_rounds a).1
  have hs := (narrow_rounds a).2
  rw [← e] at hR hs
  have low : (U : Int) ≤ sv double (exC u) := by
    rw [c, ← mg_one64]
    have := mg_le (f := double) c1
    exact_mod_cast this
  have hlow : (1 : Int) * (pw 149 : Int) ≤ sv single (expN u) := by
    have h5 := hR.ge 1 149 (by decide) (bigS (by decide) (by decide)) (by rw [pw_eq, pw149, Int.one_mul, ← eU]; exact low)
    rw [pw_eq] at h5; exact h5
  rw [pw149] at hlow
  have hhigh : sv single (expN u) ≤ sv single 1333788672 := by
    refine hR.up 1333788672 (by decide) ?_
    have h6 : sv single 1333788672 * (P925 : Int) = ((mg double 4751297606875873280 : Nat) : Int) := of_decide_eq_true (by kernel_rfl)
    rw [h6, c]
    have := mg_le (f := double) (show exC u ≤ 4751297606875873280 by omega)
    exact_mod_cast this
  refine ⟨fin_of_bounds (by have := hV; have h7 := sinf_big; have : 0 ≤ mg single single.infRung := Nat.zero_le _; omega) ?_, by omega, ?_, hhigh⟩
  · refine Int.lt_of_le_of_lt hhigh ?_
    exact of_decide_eq_true (by kernel_rfl)
  · rw [hs]; exact (small_word (by omega)).2.1

/-! ### Sigmoid -/

def sigS (v : Nat) : Int :=
  match floatBits .add .f32 1065353216 (expN (Op.negFloat .f32 v)) with
  | none => 2143289344
  | some s => cnO (floatBits .quo .f32 1065353216 s)

/-! ### Tanh -/

/-- Of what is between 0 and 10. -/
def tanE (a : Nat) : Nat := expN ((single.add a a).getD 0)
def tanU (a : Nat) : Nat := (single.sub (tanE a) 1065353216).getD 0
def tanD (a : Nat) : Nat := (single.add (tanE a) 1065353216).getD 0
def tanQ (a : Nat) : Nat := (single.div (tanU a) (tanD a)).getD 0
def tanT (a : Nat) : Nat := if sv single a ≤ sv single 1092616192 then tanQ a else 1065353216
/-- Tanh of a word, as an element. -/
def tanhS (v : Nat) : Int := if isNaN single v then 2143289344 else ((tanT (v % 2147483648) + v / 2147483648 * 2147483648 : Nat) : Int)

structure Tan (a : Nat) : Prop where
  h1 : single.add a a = some ((single.add a a).getD 0)
  nan : isNaN single ((single.add a a).getD 0) = false
  lt : (single.add a a).getD 0 < 4294967296
  h2 : single.sub (tanE a) 1065353216 = some (tanU a)
  h3 : single.add (tanE a) 1065353216 = some (tanD a)
  h4 : single.div (tanU a) (tanD a) = some (tanQ a)
  qn : isNaN single (tanQ a) = false
  ql : tanQ a < 2147483648

theorem some_getD {o : Option Nat} {r : Nat} (h : o = some r) : o = some (o.getD 0) := by rw [h]; rfl

theorem lt_of_sgn {w : Nat} (h : w < 2 ^ single.width) (hs : sgn single w = false) : w < 2147483648 := by
  have := word_of h
  rw [hs] at this
  have h2 : w = rung single w := this
  have h3 : rung single w < single.signWeight := Nat.mod_lt _ (signWeight_pos _)
  rw [swS] at h3; omega

theorem tan_of {a : Nat} (ha : a < 2147483648) (h : sv single a ≤ sv single 1092616192) : Tan a := by
  have hV := V1_pos
  rw [sv_ten32] at h
  have hr : rung single a = a := by unfold rung; rw [swS]; exact Nat.mod_eq_of_lt ha
  have hs : sgn single a = false := by unfold sgn; rw [swS, Nat.div_eq_of_lt ha]; rfl
  have h0 : 0 ≤ sv single a := by unfold sv; rw [hs]; simp
  have hinf := sinf_big
  rw [binS] at hinf
  have hf : fin single a = true := fin_of_bounds (by omega) (by omega)
  obtain ⟨u, e1, r1, _⟩ := add_fin hf hf
  have u1 : 0 ≤ sv single u := by
    have := r1.ge 0 149 (by decide) (bigS (by decide) (by decide)) (by simp; omega)
    simpa using this
  have u2 : sv single u ≤ 20 * (V1 : Int) := by
    have := r1.le 20 149 (by decide) (bigS (by decide) (by decide)) (by rw [pw_eq, pw149]; omega)
    rw [pw_eq, pw149] at this; exact this
  have eu : (single.add a a).getD 0 = u := by rw [e1]; rfl
  obtain ⟨x1, x2, x3, hhigh⟩ := expN_one r1.nan u1 u2
  have ee : tanE a = expN u := by unfold tanE; rw [eu]
  have fo : fin single 1065353216 = true := by decide
  have so : sgn single 1065353216 = false := by decide
  obtain ⟨up, e2, r2, s2⟩ := sub_fin x1 fo
  obtain ⟨dn, e3, r3, s3⟩ := add_fin x1 fo
  rw [sv_one32] at r2 s2 r3 s3
  have sup : sgn single up = false := by
    rw [s2]
    by_cases hz : sv single (expN u) - (V1 : Int) = 0
    · rw [if_pos hz, x3]; rfl
    · rw [if_neg hz]; simp; omega
  have sdn : sgn single dn = false := by
    rw [s3, if_neg (by omega)]; simp; omega
  have d1 : (1 : Int) * (V1 : Int) ≤ sv single dn := by
    have := r3.ge 1 149 (by decide) (bigS (by decide) (by decide)) (by rw [pw_eq, pw149]; omega)
    rw [pw_eq, pw149] at this; exact this
  have eup : tanU a = up := by unfold tanU; rw [ee, e2]; rfl
  have edn : tanD a = dn := by unfold tanD; rw [ee, e3]; rfl
  -- both are finite: what is between 1 and 2^31
  have b31 : sv single 1333788672 = 4294967296 * (V1 : Int) := of_decide_eq_true (by kernel_rfl)
  have b32 : sv single 1342177280 = 8589934592 * (V1 : Int) := of_decide_eq_true (by kernel_rfl)
  have up2 : sv single up ≤ sv single 1342177280 := r2.up _ (by decide) (by rw [b32]; omega)
  have dn2 : sv single dn ≤ sv single 1342177280 := r3.up _ (by decide) (by rw [b32]; omega)
  have up1 : 0 ≤ sv single up := by unfold sv; rw [sup]; simp
  have big : sv single 1342177280 < (mg single single.infRung : Int) := of_decide_eq_true (by kernel_rfl)
  have fup : fin single up = true := fin_of_bounds (by omega) (by omega)
  have fdn : fin single dn = true := fin_of_bounds (by omega) (by omega)
  obtain ⟨q, e4, n4, l4, s4, _⟩ := div_fin sL0 fup fdn (by omega)
  have eq : tanQ a = q := by unfold tanQ; rw [eup, edn, e4]; rfl
  rw [sup, sdn] at s4
  exact ⟨some_getD e1, by rw [eu]; exact r1.nan, by rw [eu]; exact r1.lt, by rw [ee, eup]; exact e2, by rw [ee, edn]; exact e3, by rw [eup, edn, eq]; exact e4, by rw [eq]; exact n4, by rw [eq]; exact lt_of_sgn l4 s4⟩

end Fl
end Go.Proofs.Ytepmacimknblpaa
