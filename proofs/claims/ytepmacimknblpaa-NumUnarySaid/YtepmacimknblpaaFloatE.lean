/- Plain facts on Exp's steps in doubles: the number of binary places, what is left over is small, the sum of the series stays near one. No program in sight. -/
import Derived.Test.YtepmacimknblpaaFloatD
namespace Go.Proofs.Ytepmacimknblpaa
namespace Fl
open Ieee

/-- The unit of this page. -/
def T : Nat := pw 1021
theorem T_pos : 0 < T := pw_pos 1021
theorem U_T : (U : Int) = 9007199254740992 * (T : Int) := by
  have : U = pw 53 * T := by unfold U T; exact pw_mul 53 1021 1074 (by decide)
  rw [this, Int.natCast_mul]; rfl
theorem pw1034 : (pw 1034 : Int) = 8192 * (T : Int) := by
  have : pw 1034 = pw 13 * T := by unfold T; exact pw_mul 13 1021 1034 (by decide)
  rw [this, Int.natCast_mul]; rfl
theorem pw1066 : (pw 1066 : Int) = 35184372088832 * (T : Int) := by
  have : pw 1066 = pw 45 * T := by unfold T; exact pw_mul 45 1021 1066 (by decide)
  rw [this, Int.natCast_mul]; rfl
theorem pw1069 : (pw 1069 : Int) = 281474976710656 * (T : Int) := by
  have : pw 1069 = pw 48 * T := by unfold T; exact pw_mul 48 1021 1069 (by decide)
  rw [this, Int.natCast_mul]; rfl
theorem pw1071 : (pw 1071 : Int) = 1125899906842624 * (T : Int) := by
  have : pw 1071 = pw 50 * T := by unfold T; exact pw_mul 50 1021 1071 (by decide)
  rw [this, Int.natCast_mul]; rfl
theorem pw1073 : (pw 1073 : Int) = 4503599627370496 * (T : Int) := by
  have : pw 1073 = pw 52 * T := by unfold T; exact pw_mul 52 1021 1073 (by decide)
  rw [this, Int.natCast_mul]; rfl
theorem pw1074 : (pw 1074 : Int) = 9007199254740992 * (T : Int) := by have := U_T; unfold U at this; exact this

theorem pwU : (pw 1074 : Int) = (U : Int) := by unfold U; rfl
theorem pw_le {a b : Nat} (h : a ≤ b) : pw a ≤ pw b := Nat.pow_le_pow_right (by decide) h
theorem mulK (K a b T : Int) : K * a * (b * T) = a * b * (K * T) := by ac_rfl
theorem mulL (K a T : Int) : K * (a * T) = a * (K * T) := Int.mul_left_comm _ _ _
attribute [local irreducible] pw
theorem dinf_pw : 2 * double.binade * pw 1074 ≤ mg double double.infRung := by
  have := dinf_big
  unfold U at this
  exact this

theorem bound_pw {e : Nat} (he : e ≤ 1074) {Y : Int} (hY : Y.natAbs < 9007199254740992) : Y.natAbs * 2 ^ e ≤ mg double double.infRung := by
  rw [pw_eq e]
  have h1 : Y.natAbs * pw e ≤ 9007199254740992 * pw 1074 := Nat.mul_le_mul (Nat.le_of_lt hY) (pw_le he)
  have h2 : 9007199254740992 = 2 * double.binade := by decide
  rw [h2] at h1
  exact Nat.le_trans h1 dinf_pw

theorem Rounds.leP {w : Nat} {X : Int} {D : Nat} (h : Rounds double w X D) (Y : Int) (e : Nat) (he : e ≤ 1074) (hY : Y.natAbs < 9007199254740992)
    (hx : X ≤ Y * (pw e : Int) * (D : Int)) : sv double w ≤ Y * (pw e : Int) := by
  have := h.le Y e hY (bound_pw he hY) (by rw [pw_eq e]; exact hx)
  rw [pw_eq e] at this; exact this

theorem Rounds.geP {w : Nat} {X : Int} {D : Nat} (h : Rounds double w X D) (Y : Int) (e : Nat) (he : e ≤ 1074) (hY : Y.natAbs < 9007199254740992)
    (hx : Y * (pw e : Int) * (D : Int) ≤ X) : Y * (pw e : Int) ≤ sv double w := by
  have := h.ge Y e hY (bound_pw he hY) (by rw [pw_eq e]; exact hx)
  rw [pw_eq e] at this; exact this

theorem Rounds.absP {w : Nat} {X : Int} {D : Nat} (h : Rounds double w X D) (Z : Nat) (e : Nat) (he : e ≤ 1074) (hZ : Z < 9007199254740992)
    (hx : X.natAbs ≤ Z * pw e * D) : (sv double w).natAbs ≤ Z * pw e := by
  have h1 := h.leP (Z : Int) e he (by omega) (by
    have : ((X.natAbs : Nat) : Int) ≤ ((Z * pw e * D : Nat) : Int) := by exact_mod_cast hx
    simp only [Int.natCast_mul] at this
    omega)
  have h2 := h.geP (-(Z : Int)) e he (by omega) (by
    have : ((X.natAbs : Nat) : Int) ≤ ((Z * pw e * D : Nat) : Int) := by exact_mod_cast hx
    simp only [Int.natCast_mul] at this
    rw [Int.neg_mul, Int.neg_mul]
    omega)
  rw [Int.neg_mul] at h2
  have h3 : ((Z * pw e : Nat) : Int) = (Z : Int) * (pw e : Int) := Int.natCast_mul _ _
  omega

theorem fin_of_T {w : Nat} (h : (sv double w).natAbs ≤ 200 * U) : fin double w = true := by
  refine fin_of_abs (Nat.lt_of_le_of_lt h ?_)
  exact Nat.lt_of_lt_of_le (Nat.mul_lt_mul_of_pos_right (by decide) U_pos) dinf_big

def cLog : Nat := 4609176140021203710
def cHalf : Nat := 4602678819172646912
def cLn : Nat := 4604418534313441775
def one64 : Nat := 4607182418800017408
theorem sv_cLog : sv double cLog = 12994641697113596 * (T : Int) := of_decide_eq_true (by kernel_rfl)
theorem sv_cHalf : sv double cHalf = 4503599627370496 * (T : Int) := of_decide_eq_true (by kernel_rfl)
theorem sv_cLn : sv double cLn = 6243314768165359 * (T : Int) := of_decide_eq_true (by kernel_rfl)
theorem sv_one : sv double one64 = (U : Int) := of_decide_eq_true (by kernel_rfl)
theorem fin_cLog : fin double cLog = true := by decide
theorem fin_cHalf : fin double cHalf = true := by decide
theorem fin_cLn : fin double cLn = true := by decide
theorem fin_one : fin double one64 = true := by decide

/-- The whole number with a sign. -/
def sg (s : Bool) (M : Nat) : Int := if s then -(M : Int) else (M : Int)

/-- What the table asks of one number of places: its product with the logarithm lies where it must. -/
def chkM (s : Bool) (M : Nat) : Bool :=
  match double.mul (double.nearest s M 0) cLn with
  | some m => fin double m && decide ((2 * sg s M + 1) * (4503599627370496 * (T : Int)) * (U : Int) ≤ (sv double m + 3377699720527872 * (T : Int)) * (12994641697113596 * (T : Int)))
      && decide ((sv double m - 3377699720527872 * (T : Int)) * (12994641697113596 * (T : Int)) ≤ (sg s M * 1099511627776 - 549755813888 - 1) * (8192 * (T : Int)) * (U : Int))
  | none => false

theorem chkM_true : (List.range 153).all (chkM true) = true := by kernel_rfl
theorem chkM_false : (List.range 131).all (chkM false) = true := by kernel_rfl

theorem chkM_of {s : Bool} {M : Nat} (h1 : -152 ≤ sg s M) (h2 : sg s M ≤ 130) : chkM s M = true := by
  cases s
  · have : M < 131 := by simp [sg] at h2; omega
    exact List.all_eq_true.1 chkM_false M (List.mem_range.2 this)
  · have : M < 153 := by simp [sg] at h1; omega
    exact List.all_eq_true.1 chkM_true M (List.mem_range.2 this)

/-- What is known behind Exp's first steps, of a double 'y' between -105 and 89. -/
structure Head (y t1 t2 k m r : Nat) (K : Int) : Prop where
  h1 : double.mul y cLog = some t1
  h2 : double.add t1 cHalf = some t2
  fin2 : fin double t2 = true
  hk : k = double.write ((double.read t2).integral .down)
  hK : sv double k = K * (U : Int)
  fink : fin double k = true
  least : -152 ≤ K
  most : K ≤ 130
  h3 : double.mul k cLn = some m
  h4 : double.sub y m = some r
  small : (sv double r).natAbs ≤ 3 * pw 1071
  wid : r < 2 ^ double.width
  /-- of a number not below zero neither K is below zero, nor is what is left over where K is zero -/
  pos : 0 ≤ sv double y → 0 ≤ K ∧ (K = 0 → 0 ≤ sv double r)
  ten : sv double y ≤ 20 * (U : Int) → K ≤ 29

theorem head_of {y : Nat} (hf : fin double y = true) (hy1 : -105 * (U : Int) ≤ sv double y) (hy2 : sv double y ≤ 89 * (U : Int)) : ∃ t1 t2 k m r K, Head y t1 t2 k m r K := by
  have hT : (0 : Int) < (T : Int) := by have := T_pos; omega
  have hU := U_T
  have hUp : (0 : Int) < (U : Int) := by have := U_pos; omega
  obtain ⟨t1, e1, r1, _⟩ := dmul hf fin_cLog
  rw [sv_cLog] at r1
  -- the first product
  have a1 : sv double t1 ≤ 129 * (pw 1074 : Int) := by
    refine r1.leP 129 1074 (by decide) (by decide) ?_
    have c1 : sv double y * (12994641697113596 * (T : Int)) ≤ 89 * (U : Int) * (12994641697113596 * (T : Int)) := Int.mul_le_mul_of_nonneg_right hy2 (by omega)
    refine Int.le_trans c1 ?_
    rw [pwU]
    have c2 : 89 * (U : Int) * (12994641697113596 * (T : Int)) = (U : Int) * (1156523111043110044 * (T : Int)) := by
      rw [Int.mul_comm 89, Int.mul_assoc, show 89 * (12994641697113596 * (T : Int)) = 1156523111043110044 * (T : Int) by omega]
    have c3 : 129 * (U : Int) * (U : Int) = (U : Int) * (129 * (U : Int)) := Int.mul_comm _ _
    rw [c2, c3]
    exact Int.mul_le_mul_of_nonneg_left (by omega) (by omega)
  have a2 : -152 * (pw 1074 : Int) ≤ sv double t1 := by
    refine r1.geP (-152) 1074 (by decide) (by decide) ?_
    have c1 : -105 * (U : Int) * (12994641697113596 * (T : Int)) ≤ sv double y * (12994641697113596 * (T : Int)) := Int.mul_le_mul_of_nonneg_right hy1 (by omega)
    refine Int.le_trans ?_ c1
    rw [pwU]
    have c2 : -105 * (U : Int) * (12994641697113596 * (T : Int)) = (U : Int) * (-1364437378196927580 * (T : Int)) := by
      rw [Int.mul_comm (-105), Int.mul_assoc, show -105 * (12994641697113596 * (T : Int)) = -1364437378196927580 * (T : Int) by omega]
    have c3 : -152 * (U : Int) * (U : Int) = (U : Int) * (-152 * (U : Int)) := Int.mul_comm _ _
    rw [c2, c3]
    exact Int.mul_le_mul_of_nonneg_left (by omega) (by omega)
  rw [pwU] at a1 a2
  have f1 : fin double t1 = true := fin_of_T (by omega)
  obtain ⟨t2, e2, r2, _⟩ := add_fin f1 fin_cHalf
  rw [sv_cHalf] at r2
  have b1 : sv double t2 ≤ 130 * (pw 1074 : Int) := r2.leP 130 1074 (by decide) (by decide) (by rw [pwU]; omega)
  have b2 : -152 * (pw 1074 : Int) ≤ sv double t2 := r2.geP (-152) 1074 (by decide) (by decide) (by rw [pwU]; omega)
  rw [pwU] at b1 b2
  have f2 : fin double t2 = true := fin_of_T (by omega)
  obtain ⟨M, eM, hM⟩ := dfloor f2
  generalize hK : sv double t2 / (U : Int) = K at *
  have k1 : K * (U : Int) ≤ sv double t2 := by rw [← hK]; exact Int.ediv_mul_le _ (by omega)
  have k2 : sv double t2 < (K + 1) * (U : Int) := by rw [← hK]; exact Int.lt_ediv_add_one_mul_self _ hUp
  have K1 : -152 ≤ K := by
    rcases (by omega : K < -152 ∨ -152 ≤ K) with h | h
    · have : (K + 1) * (U : Int) ≤ -152 * (U : Int) := Int.mul_le_mul_of_nonneg_right (by omega) (by omega)
      omega
    · exact h
  have K2 : K ≤ 130 := by
    rcases (by omega : 131 ≤ K ∨ K ≤ 130) with h | h
    · have : 131 * (U : Int) ≤ K * (U : Int) := Int.mul_le_mul_of_nonneg_right h (by omega)
      omega
    · exact h
  have hMl : M < 9007199254740992 := by
    by_cases hs : sgn double t2 = true
    · rw [if_pos hs] at hM; omega
    · rw [if_neg hs] at hM; omega
  obtain ⟨w1, w2, w3⟩ := dwhole (sgn double t2) M hMl
  rw [hM] at w1
  have hsg : sg (sgn double t2) M = K := hM
  have hchk := chkM_of (s := sgn double t2) (M := M) (by rw [hsg]; exact K1) (by rw [hsg]; exact K2)
  unfold chkM at hchk
  generalize hkw : double.nearest (sgn double t2) M 0 = k at *
  -- where the number of places puts the product
  have p5 : sv double t1 + 4503599627370496 * (T : Int) < (K + 1) * (U : Int) := by
    rcases (by omega : (K + 1) * (U : Int) ≤ sv double t1 + 4503599627370496 * (T : Int) ∨ sv double t1 + 4503599627370496 * (T : Int) < (K + 1) * (U : Int)) with h | h
    · have := r2.geP (K + 1) 1074 (by decide) (by omega) (by rw [pwU]; omega)
      rw [pwU] at this
      omega
    · exact h
  have q5 : K * (U : Int) - 8192 * (T : Int) < sv double t1 + 4503599627370496 * (T : Int) := by
    rcases (by omega : sv double t1 + 4503599627370496 * (T : Int) ≤ K * (U : Int) - 8192 * (T : Int) ∨ K * (U : Int) - 8192 * (T : Int) < sv double t1 + 4503599627370496 * (T : Int)) with h | h
    · have e : (K * 1099511627776 - 1) * (pw 1034 : Int) = K * (U : Int) - 8192 * (T : Int) := by
        rw [pw1034, hU, Int.sub_mul, mulK, mulL K 9007199254740992]; omega
      have := r2.leP (K * 1099511627776 - 1) 1034 (by decide) (by omega) (by rw [e]; omega)
      rw [e] at this
      omega
    · exact h
  have eKU : K * (U : Int) = 9007199254740992 * (K * (T : Int)) := by rw [hU, mulL]
  have eKU1 : (K + 1) * (U : Int) = 9007199254740992 * (K * (T : Int)) + 9007199254740992 * (T : Int) := by rw [Int.add_mul, eKU, Int.one_mul, hU]
  have p6 : sv double y * (12994641697113596 * (T : Int)) < (2 * K + 1) * (4503599627370496 * (T : Int)) * (U : Int) := by
    rcases (by omega : (2 * K + 1) * (4503599627370496 * (T : Int)) * (U : Int) ≤ sv double y * (12994641697113596 * (T : Int)) ∨ sv double y * (12994641697113596 * (T : Int)) < (2 * K + 1) * (4503599627370496 * (T : Int)) * (U : Int)) with h | h
    · have := r1.geP (2 * K + 1) 1073 (by decide) (by omega) (by rw [pw1073]; exact h)
      rw [pw1073, Int.add_mul, Int.mul_comm 2 K, mulK] at this
      omega
    · exact h
  have q6 : (K * 1099511627776 - 549755813888 - 1) * (8192 * (T : Int)) * (U : Int) < sv double y * (12994641697113596 * (T : Int)) := by
    rcases (by omega : sv double y * (12994641697113596 * (T : Int)) ≤ (K * 1099511627776 - 549755813888 - 1) * (8192 * (T : Int)) * (U : Int) ∨ (K * 1099511627776 - 549755813888 - 1) * (8192 * (T : Int)) * (U : Int) < sv double y * (12994641697113596 * (T : Int))) with h | h
    · have := r1.leP (K * 1099511627776 - 549755813888 - 1) 1034 (by decide) (by omega) (by rw [pw1034]; exact h)
      rw [pw1034, Int.sub_mul, Int.sub_mul, mulK] at this
      omega
    · exact h
  have hC : (0 : Int) < 12994641697113596 * (T : Int) := by omega
  cases e3 : double.mul k cLn with
  | none => rw [e3] at hchk; cases hchk
  | some m =>
    rw [e3] at hchk
    simp only [Bool.and_eq_true, decide_eq_true_eq, hsg] at hchk
    obtain ⟨⟨fm, c1⟩, c2⟩ := hchk
    have d1 : sv double y < sv double m + 3377699720527872 * (T : Int) := Int.lt_of_mul_lt_mul_right (Int.lt_of_lt_of_le p6 c1) (by omega)
    have d2 : sv double m - 3377699720527872 * (T : Int) < sv double y := Int.lt_of_mul_lt_mul_right (Int.lt_of_le_of_lt c2 q6) (by omega)
    obtain ⟨r, e4, r4, _⟩ := sub_fin hf fm
    have hsmall : (sv double r).natAbs ≤ 3 * pw 1071 := by
      refine r4.absP 3 1071 (by decide) (by decide) ?_
      have := pw1071
      omega
    refine ⟨t1, t2, k, m, r, K, e1, e2, f2, ?_, w1, w2, K1, K2, e3, e4, hsmall, r4.lt, ?_, ?_⟩
    · rw [eM]; exact hkw.symm
    · intro h0
      have t1p : 0 ≤ sv double t1 := by
        have := r1.geP 0 1074 (by decide) (by decide) (by
          have := Int.mul_nonneg h0 (Int.le_of_lt hC); simp; exact this)
        simpa using this
      have t2p : 0 ≤ sv double t2 := by
        have := r2.geP 0 1074 (by decide) (by decide) (by simp; omega)
        simpa using this
      refine ⟨?_, ?_⟩
      · rw [← hK]; exact Int.ediv_nonneg t2p (by omega)
      · intro hK0
        -- no places: nothing is taken away
        obtain ⟨m', em', rm', _⟩ := dmul w2 fin_cLn
        rw [e3] at em'
        cases em'
        have z : sv double m = 0 := by
          rw [w1, hK0] at rm'
          have z1 := rm'.leP 0 1074 (by decide) (by decide) (by simp)
          have z2 := rm'.geP 0 1074 (by decide) (by decide) (by simp)
          simp at z1 z2; omega
        rw [z] at r4
        have := r4.geP 0 1074 (by decide) (by decide) (by simp; omega)
        simpa using this
    · intro h20
      rcases (by omega : K ≤ 29 ∨ 30 ≤ K) with h | h
      · exact h
      · exfalso
        have g1 : (30 * 1099511627776 - 549755813888 - 1) * (8192 * (T : Int)) ≤ (K * 1099511627776 - 549755813888 - 1) * (8192 * (T : Int)) := Int.mul_le_mul_of_nonneg_right (by omega) (by omega)
        have g2 := Int.mul_le_mul_of_nonneg_right g1 (Int.le_of_lt hUp)
        have g3 : sv double y * (12994641697113596 * (T : Int)) ≤ 20 * (U : Int) * (12994641697113596 * (T : Int)) := Int.mul_le_mul_of_nonneg_right h20 (by omega)
        have g4 : 20 * (U : Int) * (12994641697113596 * (T : Int)) = (259892833942271920 * (T : Int)) * (U : Int) := by
          rw [Int.mul_comm 20, Int.mul_assoc, Int.mul_comm (U : Int), show 20 * (12994641697113596 * (T : Int)) = 259892833942271920 * (T : Int) by omega]
        have g5 : 259892833942271920 * (T : Int) * (U : Int) ≤ (30 * 1099511627776 - 549755813888 - 1) * (8192 * (T : Int)) * (U : Int) := Int.mul_le_mul_of_nonneg_right (by omega) (by omega)
        omega

end Fl
end Go.Proofs.Ytepmacimknblpaa
