/- Plain facts on floats: roots and whole numbers below of singles, by way of doubles; Exp, step by step, as one function of a word. No program in sight. -/
import Derived.Test.YtepmacimknblpaaFloatG
namespace Go.Proofs.Ytepmacimknblpaa
namespace Fl
open Ieee

/-- The greatest finite single, in a double's units. -/
def maxD : Nat := (2 ^ 24 - 1) * pw 1178
theorem mg_maxS : mg single 2139095039 * P925 = maxD := by kernel_rfl
theorem mg_maxS1 : (mg single 2139095039 + mg single 2139095040) * P925 = (2 ^ 25 - 1) * pw 1178 := by kernel_rfl
theorem mg_infS : mg single 2139095040 * P925 = 2 ^ 24 * pw 1178 := by kernel_rfl
theorem mg_max_pw : maxD ≤ mg double 5183643170566569984 := Nat.le_of_ble_eq_true (by kernel_rfl)
theorem mg_max_pw' : mg double 5183643170566569984 ≤ maxD := Nat.le_of_ble_eq_true (by kernel_rfl)
theorem mg_huge : 2 * mg double 5183643170835005440 = (2 ^ 25 - 1) * pw 1178 := by kernel_rfl
theorem P925_U : V1 * P925 = U := U_V1.symm
theorem pw24 : 2 ^ 24 = pw 24 := rfl
theorem lt_of_pw {a b : Nat} (h : pw a < pw b) : a < b := (Nat.pow_lt_pow_iff_right (by decide)).1 h
theorem v149 (a : Nat) : 2 ^ (a + 149) = 2 ^ a * V1 := pw_add a 149
attribute [local irreducible] pw U T P925 V1 maxD

theorem wide_nan {x : Nat} {w : World} (h : isNaN single x = true) : isNaN double (wide x w) = true := by
  unfold wide widen; rw [h]; exact nanBy_conv w .f64 x

theorem wide_val {x : Nat} (w : World) (h : isNaN single x = false) : wide x w = double.write (single.read x) ∧ wideW x w = w := by
  unfold wide wideW widen; rw [h]; exact ⟨rfl, rfl⟩

theorem wide_notNaN {x : Nat} (h : isNaN single x = false) : isNaN double (double.write (single.read x)) = false ∧ double.write (single.read x) < 2 ^ double.width :=
  isNaN_write (read_notNaN okS h)

/-- What a finite double is worth in a single's units, both ways of counting. -/
theorem narrow_units {c m : Nat} {p : Int} (hp : double.leastPlace ≤ p) (hg : m * 2 ^ (p - double.leastPlace).toNat = mg double (rung double c)) :
    m * 2 ^ (p - single.leastPlace).toNat * P925 = mg double (rung double c) * 2 ^ (single.leastPlace - p).toNat := by
  rw [dL] at hp hg
  rw [sL, ← hg]
  have e : 2 ^ (p - -149).toNat * P925 = 2 ^ (p - -1074).toNat * 2 ^ (-149 - p).toNat := by
    rw [← p925, ← Nat.pow_add]; congr 1; omega
  calc m * 2 ^ (p - -149).toNat * P925 = m * (2 ^ (p - -149).toNat * P925) := Nat.mul_assoc _ _ _
    _ = _ := by rw [e]; ac_rfl

/-- A FINITE DOUBLE BELOW THE GREATEST SINGLE AND HALF A STEP comes back finite. -/
theorem narrow_below {c : Nat} (hf : fin double c = true) (h : 2 * mg double (rung double c) < (2 ^ 25 - 1) * pw 1178) : (single.read (single.write (double.read c))).isInfinity = false := by
  obtain ⟨m, p, e, hp, hg⟩ := read_fin (fin_lt hf)
  rw [e]
  simp only [Format.write, nearest_eq]
  have hu := narrow_units hp hg
  have hr : rnd single m p ≤ 2139095039 := by
    by_cases hm : m = 0
    · unfold rnd; rw [if_pos hm]; omega
    · refine near_le_half hm ?_
      refine Nat.lt_of_mul_lt_mul_right (a := P925) ?_
      rw [Nat.mul_assoc, hu, Nat.mul_right_comm, mg_maxS1, ← Nat.mul_assoc]
      exact Nat.mul_lt_mul_of_pos_right h (Nat.two_pow_pos _)
  have hw := rung_word (f := single) (neg := sgn double c) (r := rnd single m p) (rnd_lt _ _ _)
  obtain ⟨m', p', e', _, _⟩ := read_fin (f := single) (w := single.word (sgn double c) (rnd single m p)) (by rw [hw, infS]; omega)
  rw [e']; rfl

theorem narrow_nan {x : Nat} {w : World} (h : isNaN double x = true) : isNaN single (narrow x w) = true := by
  unfold narrow; rw [if_pos h]; exact nanBy_conv w .f32 x

/-- A double that comes back into a single as itself, or as an infinity that it is. -/
def Back (x : Nat) : Prop := isNaN double x = false ∧ (fin double x = true → (single.read (single.write (double.read x))).isInfinity = false)

theorem narrow_val {x : Nat} (w : World) (h : Back x) : narrow x w = single.write (double.read x) ∧ narrowW x w = w := by
  obtain ⟨h1, h2⟩ := h
  unfold narrow narrowW
  rw [h1]
  cases hf : fin double x
  · simp
  · rw [h2 hf]; simp

theorem back_of_fin {x : Nat} (hf : fin double x = true) (h : 2 * mg double (rung double x) < (2 ^ 25 - 1) * pw 1178) : Back x :=
  ⟨nan_of_fin hf, fun _ => narrow_below hf h⟩

theorem back_of_inf {x : Nat} (hn : isNaN double x = false) (h : fin double x = false) : Back x := ⟨hn, fun h' => by rw [h] at h'; cases h'⟩

theorem canon_narrow {x : Nat} (w : World) (h : Back x) : canon (narrow x w) = (single.write (double.read x) : Int) := by
  rw [(narrow_val w h).1]
  unfold canon
  rw [(isNaN_write (f := single) (read_notNaN okD h.1)).1]; rfl

theorem nanBy_conv_lt (w : World) (x : Nat) : nanBy w (.nanConv .f32 x) < 4294967296 := by
  have h : (nanBy w (.nanConv .f32 x)) = (w.tape w.drawn (.nanConv .f32 x) % 2) * 2 ^ 31 + 0x7f800000 + 1 + (w.tape w.drawn (.nanConv .f32 x) / 2) % (2 ^ 23 - 1) := rfl
  rw [h]
  generalize w.tape w.drawn (.nanConv .f32 x) = t
  have h1 : t % 2 = 0 ∨ t % 2 = 1 := by omega
  have h2 := Nat.mod_lt (t / 2) (show 2 ^ 23 - 1 > 0 by decide)
  generalize t / 2 % (2 ^ 23 - 1) = u at *
  rcases h1 with h | h <;> rw [h] <;> omega

theorem narrow_lt (x : Nat) (w : World) : narrow x w < 4294967296 := by
  unfold narrow
  split
  · exact nanBy_conv_lt w x
  · split
    · show (w.tape w.drawn (.floatToFloat x)) % 2 ^ 32 < _
      have := Nat.mod_lt (w.tape w.drawn (.floatToFloat x)) (show 2 ^ 32 > 0 by decide)
      omega
    · exact single.write_lt _

/-! ### roots -/

theorem rootFrom_lt (n : Nat) : ∀ todo root, Datum.rootFrom n todo root < root + 2 ^ todo := by
  intro todo
  induction todo with
  | zero => intro root; simp [Datum.rootFrom]
  | succ k ih =>
    intro root
    simp only [Datum.rootFrom, Nat.shiftLeft_eq, Nat.one_mul]
    have hp : 2 ^ (k + 1) = 2 ^ k + 2 ^ k := by rw [Nat.pow_succ]; omega
    have hpp := Nat.two_pow_pos k
    split
    · have := ih (root + 2 ^ k); omega
    · have := ih root; omega

/-- The root of what a single is worth comes back finite. -/
theorem sqrt_back {v r : Nat} (hv : isNaN single v = false) (h : double.sqrt (double.write (single.read v)) = some r) : Back r := by
  have hn : isNaN double r = false := (map_write_notNaN (f := double) (root_notNaN _ _) h).1
  cases hf : fin single v
  · -- an infinity
    have hi := inf_of hv hf
    have e : single.read v = .infinity (sgn single v) := read_inf okS hi
    have e2 : double.read (double.write (single.read v)) = .infinity (sgn single v) := by
      rw [e]
      have h1 : double.write (.infinity (sgn single v)) = double.word (sgn single v) double.infRung := rfl
      have h2 : sgn double (double.word (sgn single v) double.infRung) = sgn single v := sgn_word double.infRung_lt
      rw [h1, read_inf okD (rung_word double.infRung_lt), h2]
    unfold Format.sqrt at h
    rw [e2] at h
    cases hs : sgn single v
    · rw [hs] at h
      simp only [Datum.root, Bool.false_eq_true, if_false, Option.map_some, Option.some.injEq] at h
      subst h
      refine back_of_inf hn ?_
      have : rung double (double.write (.infinity false)) = double.infRung := rung_word double.infRung_lt
      simp [fin, this]
    · rw [hs] at h; simp [Datum.root] at h
  · obtain ⟨f1, f2, f3, f4⟩ := wide_eq hf
    obtain ⟨m, p, e, hp, hg, hm⟩ := read_fin' (fin_lt f1)
    unfold Format.sqrt at h
    rw [e] at h
    simp only [Datum.root] at h
    by_cases h0 : m = 0
    · rw [if_pos h0] at h
      simp only [Option.map_some, Option.some.injEq] at h
      subst h; subst h0
      have hr : double.write (.number (sgn double (double.write (single.read v))) 0 p) = double.word (sgn double (double.write (single.read v))) 0 := by
        simp only [Format.write, nearest_eq]; unfold rnd; rw [if_pos rfl]
      rw [hr]
      have hz : rung double (double.word (sgn double (double.write (single.read v))) 0) = 0 := rung_word (signWeight_pos _)
      refine back_of_fin (by simp [fin, hz, infD]) ?_
      rw [hz, mg_zero]
      exact Nat.mul_pos (by decide) (pw_pos _)
    · rw [if_neg h0] at h
      cases hs : sgn double (double.write (single.read v))
      · rw [hs] at h
        simp only [Bool.false_eq_true, if_false, Option.map_some, Option.some.injEq, Nat.shiftLeft_eq] at h
        have hlog : m < 2 ^ (m.log2 + 1) := Nat.lt_log2_self
        have hfb : double.fractionBits = 52 := rfl
        rw [hfb] at h
        generalize hmore : 2 * (52 + 2) - m.log2 + ((p - (2 * (52 + 2) - m.log2 : Nat)) % 2).toNat = more at h
        generalize hn' : m * 2 ^ more = n at h
        have hw := rootFrom_lt n (n.log2 / 2 + 1) 0
        rw [Nat.zero_add] at hw
        generalize hwh : Datum.rootFrom n (n.log2 / 2 + 1) 0 = whole at h hw
        generalize hQ : 2 * whole + (whole * whole != n).toNat = Q at h
        have hQl : Q < 2 ^ (n.log2 / 2 + 2) := by
          have := Bool.toNat_le (whole * whole != n)
          rw [show n.log2 / 2 + 2 = (n.log2 / 2 + 1) + 1 from rfl, Nat.pow_succ]
          omega
        have hn0 : n ≠ 0 := by
          rw [← hn']; exact Nat.mul_ne_zero h0 (Nat.ne_of_gt (Nat.two_pow_pos _))
        have hnl : n.log2 < m.log2 + 1 + more := by
          rw [Nat.log2_lt hn0, ← hn', Nat.pow_add]
          exact Nat.mul_lt_mul_of_pos_right hlog (Nat.two_pow_pos _)
        -- what the number is worth is below 2 ^ 128
        have hbig : m.log2 + (p + 1074).toNat < 1202 := by
          have h1 : 2 ^ m.log2 ≤ m := Nat.log2_self_le h0
          have h2 : pw (m.log2 + (p + 1074).toNat) < pw 1202 := by
            have h3 : pw (m.log2 + (p + 1074).toNat) ≤ m * 2 ^ (p + 1074).toNat := by rw [← pw_eq, Nat.pow_add]; exact Nat.mul_le_mul_right _ h1
            have h4 : m * 2 ^ (p + 1074).toNat = mg double (rung double (double.write (single.read v))) := by
              rw [← hg, dL, Int.sub_neg]
            have h5 : mg double (rung double (double.write (single.read v))) = mg single (rung single v) * P925 := by
              rw [← sv_natAbs, f2, Int.natAbs_mul, sv_natAbs]; simp
            have h6 : mg single (rung single v) * P925 < mg single 2139095040 * P925 := Nat.mul_lt_mul_of_pos_right (mg_lt (by have := fin_lt hf; rw [infS] at this; exact this)) p925_pos
            rw [mg_infS] at h6
            have h7 : 2 ^ 24 * pw 1178 = pw 1202 := by rw [pw24]; exact (pw_mul 24 1178 1202 (by decide)).symm
            rw [h7] at h6
            omega
          exact lt_of_pw h2
        have hle : rnd double Q ((p - more) / 2 - 1) ≤ 4899916394579099648 := by
          refine rnd_le ?_
          have hmg : mg double 4899916394579099648 = pw 1139 := by
            have := mg_pow2 (e := 1088) (by decide)
            exact this
          rw [hmg, dL]
          have h1 : Q * 2 ^ ((p - more) / 2 - 1 - -1074).toNat ≤ 2 ^ (n.log2 / 2 + 2) * 2 ^ ((p - more) / 2 - 1 - -1074).toNat := Nat.mul_le_mul_right _ (Nat.le_of_lt hQl)
          refine Nat.le_trans h1 ?_
          rw [← Nat.pow_add]
          have h2 : pw 1139 * 2 ^ (-1074 - ((p - more) / 2 - 1)).toNat = pw (1139 + (-1074 - ((p - more) / 2 - 1)).toNat) := by
            rw [pw_eq (-1074 - ((p - more) / 2 - 1)).toNat]; exact (pw_mul 1139 _ _ rfl).symm
          rw [h2, pw_eq (n.log2 / 2 + 2 + ((p - more) / 2 - 1 - -1074).toNat)]
          refine pw_le ?_
          rw [dL] at hp
          omega
        have hr : r = double.word false (rnd double Q ((p - more) / 2 - 1)) := by
          rw [← h]; simp only [Format.write, nearest_eq]
        have hrr : rung double r = rnd double Q ((p - more) / 2 - 1) := by rw [hr]; exact rung_word (rnd_lt _ _ _)
        refine back_of_fin (by simp [fin, hrr, infD]; omega) ?_
        rw [hrr]
        have h3 := mg_le (f := double) hle
        have hmg : mg double 4899916394579099648 = pw 1139 := by
          have := mg_pow2 (e := 1088) (by decide)
          exact this
        rw [hmg] at h3
        have h4 : pw 1139 ≤ pw 1178 := pw_le (by decide)
        have := pw_pos 1178
        omega
      · rw [hs] at h; simp at h

/-- Sqrt of a word, as an element. -/
def sqrtS (v : Nat) : Int :=
  if isNaN single v then 2143289344 else
  match double.sqrt (double.write (single.read v)) with
  | none => 2143289344
  | some r => (single.write (double.read r) : Int)

theorem sqrt_nan {x : Nat} (h : isNaN double x = true) : double.sqrt x = none := by
  unfold Format.sqrt; rw [read_nan okD h]; rfl

theorem canon_sqrt (v : Nat) (w1 w2 w3 : World) : canon (narrow (sqrt64 (wide v w1) w2) w3) = sqrtS v := by
  unfold sqrtS
  cases hv : isNaN single v
  · rw [(wide_val w1 hv).1]
    cases h : double.sqrt (double.write (single.read v)) with
    | none =>
      have h1 : isNaN double (sqrt64 (double.write (single.read v)) w2) = true := by unfold sqrt64; rw [h]; exact nanBy_bits w2 .f64 _ _
      simp [canon, narrow_nan h1]
    | some r =>
      have h1 : sqrt64 (double.write (single.read v)) w2 = r := by unfold sqrt64; rw [h]; rfl
      rw [h1, canon_narrow w3 (sqrt_back hv h)]
      simp
  · have h1 : isNaN double (sqrt64 (wide v w1) w2) = true := by unfold sqrt64; rw [sqrt_nan (wide_nan hv)]; exact nanBy_bits w2 .f64 _ _
    simp [canon, narrow_nan h1]

/-! ### the greatest whole number not above -/

theorem floor_nan {x : Nat} (w : World) (h : isNaN double x = true) : isNaN double (floor64 floorQ x w) = true := by
  unfold floor64
  rw [read_nan okD h]
  simp only
  split
  · exact h
  · split
    · exact h
    · simp only [isNaN, decide_eq_true_eq] at h
      have hlt : rung double x < double.signWeight := Nat.mod_lt _ (signWeight_pos _)
      have hadd := double.infRung_add_binade
      generalize ht : rung double x - double.infRung = t
      have htl : t < 4503599627370496 := by rw [binD] at hadd; omega
      have hq1 : double.quiet t < 2 ^ 52 := Nat.or_lt_two_pow htl (by decide)
      have hq2 : 2 ^ 51 ≤ double.quiet t := Nat.right_le_or
      simp only [Format.write]
      have hm : double.quiet t % double.binade = double.quiet t := Nat.mod_eq_of_lt (by rw [binD]; exact hq1)
      rw [hm]
      have hr : rung double (double.word (sgn double x) (double.infRung + double.quiet t)) = double.infRung + double.quiet t := rung_word (by rw [← hadd, binD]; omega)
      unfold rung at hr
      simp only [isNaN, hr, decide_eq_true_eq]
      omega

theorem floor_val {x : Nat} (w : World) (h : isNaN double x = false) : floor64 floorQ x w = double.write ((double.read x).integral .down) ∧ floor64W x w = w := by
  have h1 := read_notNaN okD h
  unfold floor64 floor64W
  cases e : double.read x with
  | nan s t => rw [e] at h1; cases h1
  | number s m p => exact ⟨rfl, rfl⟩
  | infinity s => exact ⟨rfl, rfl⟩

/-- Floor of a word, as an element. -/
def floorS (v : Nat) : Int :=
  if isNaN single v then 2143289344 else (single.write (double.read (double.write ((double.read (double.write (single.read v))).integral .down))) : Int)

/-- What the whole number below a single is, in a double. -/
theorem floor_wide {v : Nat} (hf : fin single v = true) :
    ∃ k, double.write ((double.read (double.write (single.read v))).integral .down) = k ∧ k < 2 ^ double.width ∧ fin double k = true ∧ sgn double k = sgn single v ∧
      sv double k = (sv single v / (V1 : Int)) * (U : Int) ∧ 2 * mg double (rung double k) < (2 ^ 25 - 1) * pw 1178 := by
  obtain ⟨f1, f2, f3, f4⟩ := wide_eq hf
  obtain ⟨M, eM, hM⟩ := dfloor f1
  rw [f3] at eM hM
  have hV := V1_pos
  have hP := p925_pos
  have hU := U_pos
  have eU : (U : Int) = (V1 : Int) * (P925 : Int) := by rw [← P925_U, Int.natCast_mul]
  have hdiv : sv double (double.write (single.read v)) / (U : Int) = sv single v / (V1 : Int) := by
    rw [f2, eU]; exact Int.mul_ediv_mul_of_pos_left _ _ (by omega)
  rw [hdiv] at hM
  rw [eM]
  simp only [Format.write]
  refine ⟨_, rfl, double.nearest_lt _ _ _, ?_⟩
  have hsg : sgn double (double.nearest (sgn single v) M 0) = sgn single v := by rw [nearest_eq]; exact sgn_word (rnd_lt _ _ _)
  -- the number that it rounds
  have hR := rounds_nearest double (sgn single v) M 0
  have hz : (double.leastPlace - 0).toNat = 0 := by decide
  have hz2 : 2 ^ ((0 : Int) - double.leastPlace).toNat = U := by rw [← dU]; congr 1
  rw [hz, hz2] at hR
  have hX : (if sgn single v then -((M * U : Nat) : Int) else ((M * U : Nat) : Int)) = (sv single v / (V1 : Int)) * (U : Int) := by
    rw [← hM]; cases sgn single v <;> simp [Int.neg_mul]
  rw [hX] at hR
  -- it lies within the singles
  have hb := sv_natAbs single v
  have hmx : mg single (rung single v) ≤ mg single 2139095039 := mg_le (by have := fin_lt hf; rw [infS] at this; omega)
  obtain ⟨a, ha⟩ : ∃ a, mg single 2139095039 = a * V1 := ⟨mg single 2139095039 / V1, by
    have : mg single 2139095039 % V1 = 0 := by kernel_rfl
    exact (Nat.div_mul_cancel (Nat.dvd_of_mod_eq_zero this)).symm⟩
  have hlo : -(a : Int) ≤ sv single v / (V1 : Int) := by
    rw [Int.le_ediv_iff_mul_le (by omega), Int.neg_mul]
    have : ((mg single 2139095039 : Nat) : Int) = (a : Int) * (V1 : Int) := by rw [ha, Int.natCast_mul]
    omega
  have hhi : sv single v / (V1 : Int) ≤ (a : Int) := by
    have h1 : sv single v / (V1 : Int) < (a : Int) + 1 := by
      rw [Int.ediv_lt_iff_lt_mul (by omega), Int.add_mul]
      have : ((mg single 2139095039 : Nat) : Int) = (a : Int) * (V1 : Int) := by rw [ha, Int.natCast_mul]
      omega
    omega
  have haU : (a : Int) * (U : Int) = ((maxD : Nat) : Int) := by
    rw [eU, ← Int.mul_assoc, ← Int.natCast_mul, ← ha, ← Int.natCast_mul, mg_maxS]
  have hmaxw : sv double 5183643170566569984 = ((maxD : Nat) : Int) := by
    rw [(small_word (by decide)).2.2, Nat.le_antisymm mg_max_pw' mg_max_pw]
  have hmaxn : sv double 14407015207421345792 = -((maxD : Nat) : Int) := by
    have e1 : rung double 14407015207421345792 = 5183643170566569984 := by decide
    have e2 : sgn double 14407015207421345792 = true := by decide
    unfold sv; rw [e1, e2, Nat.le_antisymm mg_max_pw' mg_max_pw]; rfl
  have b1 := hR.up 5183643170566569984 (by decide) (by
    rw [hmaxw, ← haU]; simp
    exact Int.mul_le_mul_of_nonneg_right hhi (by omega))
  have b2 := hR.down 14407015207421345792 (by decide) (by
    rw [hmaxn, ← haU]; simp
    rw [← Int.neg_mul]
    exact Int.mul_le_mul_of_nonneg_right hlo (by omega))
  rw [hmaxw] at b1
  rw [hmaxn] at b2
  have habs := sv_natAbs double (double.nearest (sgn single v) M 0)
  have hm2 : maxD = (2 ^ 24 - 1) * pw 1178 := by unfold maxD; rfl
  have hp := pw_pos 1178
  have hfin : fin double (double.nearest (sgn single v) M 0) = true := by
    refine fin_of_abs (Nat.lt_of_le_of_lt (m := maxD) (by omega) ?_)
    refine Nat.lt_of_le_of_lt mg_max_pw (mg_lt (by decide))
  refine ⟨hfin, hsg, ?_, by omega⟩
  -- exact: either a number of few digits, or the single itself
  by_cases hfew : M < 9007199254740992
  · obtain ⟨w1, _, _⟩ := dwhole (sgn single v) M (by rw [binD]; exact hfew)
    rw [w1, hM]
  · -- then the single is whole already
    have hwhole : (V1 : Int) ∣ sv single v := by
      have h8 : 8388608 * 150 ≤ rung single v := by
        rcases Nat.lt_or_ge (rung single v) (8388608 * 174) with h9 | h9
        · exfalso
          have h10 := mg_lt (f := single) h9
          have h11 : mg single (8388608 * 174) = 16777216 * 8388608 * V1 := by kernel_rfl
          have h12 : (M : Int) ≤ 16777216 * 8388608 := by
            have hlo2 : -(16777216 * 8388608 : Int) ≤ sv single v / (V1 : Int) := by
              rw [Int.le_ediv_iff_mul_le (by omega)]; omega
            have hhi2 : sv single v / (V1 : Int) < 16777216 * 8388608 := by
              rw [Int.ediv_lt_iff_lt_mul (by omega)]; omega
            cases hs : sgn single v <;> rw [hs] at hM <;> simp at hM <;> omega
          omega
        · omega
      have h9 : V1 ∣ mg single (rung single v) := by
        rw [mg_high (by rw [binS]; omega), binS]
        have h10 : 2 ^ (rung single v / 8388608 - 1) = 2 ^ (rung single v / 8388608 - 150) * V1 := by
          rw [show rung single v / 8388608 - 1 = (rung single v / 8388608 - 150) + 149 by omega]
          exact v149 _
        rw [h10, ← Nat.mul_assoc]
        exact Nat.dvd_mul_left _ _
      unfold sv
      have h11 : (V1 : Int) ∣ (mg single (rung single v) : Int) := Int.natCast_dvd_natCast.2 h9
      cases sgn single v
      · exact h11
      · exact Int.dvd_neg.2 h11
    have hex : (sv single v / (V1 : Int)) * (U : Int) = sv double (double.write (single.read v)) := by
      rw [eU, ← Int.mul_assoc, Int.ediv_mul_cancel hwhole, f2]
    have := hR.exact (nan_of_fin f1) (by rw [hex]; simp)
    rw [this, ← hex]

theorem canon_floor (v : Nat) (w1 w2 w3 : World) : canon (narrow (floor64 floorQ (wide v w1) w2) w3) = floorS v := by
  unfold floorS
  cases hv : isNaN single v
  · rw [(wide_val w1 hv).1, (floor_val w2 (wide_notNaN hv).1).1]
    have hb : Back (double.write ((double.read (double.write (single.read v))).integral .down)) := by
      cases hf : fin single v
      · have hi := inf_of hv hf
        have e : single.read v = .infinity (sgn single v) := read_inf okS hi
        have e2 : double.read (double.write (single.read v)) = .infinity (sgn single v) := by
          rw [e]
          have h1 : double.write (.infinity (sgn single v)) = double.word (sgn single v) double.infRung := rfl
          have h2 : sgn double (double.word (sgn single v) double.infRung) = sgn single v := sgn_word double.infRung_lt
          rw [h1, read_inf okD (rung_word double.infRung_lt), h2]
        rw [e2]
        have h3 : double.write ((Datum.infinity (sgn single v)).integral .down) = double.word (sgn single v) double.infRung := rfl
        rw [h3]
        have h4 : rung double (double.word (sgn single v) double.infRung) = double.infRung := rung_word double.infRung_lt
        exact back_of_inf (isNaN_word (Nat.le_refl _)) (by simp [fin, h4])
      · obtain ⟨k, e, _, hk, _, _, hb⟩ := floor_wide hf
        rw [e]; exact back_of_fin hk hb
    rw [canon_narrow w3 hb]
    simp
  · have h1 := floor_nan w2 (wide_nan (w := w1) hv)
    simp [canon, narrow_nan h1]

end Fl
end Go.Proofs.Ytepmacimknblpaa
