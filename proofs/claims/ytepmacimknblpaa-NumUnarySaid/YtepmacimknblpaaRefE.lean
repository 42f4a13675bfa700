/- The walks of the reference's Exp and Tanh (mandrelref02): exp, tanh. -/
import Derived.Test.YtepmacimknblpaaRefW
namespace Go.Proofs.Ytepmacimknblpaa
open Go.RowKit Ieee Fl

theorem foi_fi (n : Nat) : floatOfInt .f64 (n : Int) = fi n := by
  rw [foi_eq]
  unfold fi
  rw [Int.natAbs_natCast]
  have : decide ((n : Int) < 0) = false := by simp
  rw [this]

theorem foi_ord {n k : Nat} {K : Int} (hn : n < 9007199254740992) (hk : sv double k = K * (U : Int)) (fk : fin double k = true) : (FloatKind.f64.format.order (floatOfInt .f64 (n : Int)) k == some .lt) = decide ((n : Int) < K) := by
  obtain ⟨a, b, _⟩ := sv_fi hn
  have hU := U_pos
  rw [foi_fi, show FloatKind.f64.format = double from rfl, ord_lt okD (nan_of_fin b) (nan_of_fin fk), a, hk]
  rw [Bool.eq_iff_iff]
  simp only [decide_eq_true_eq]
  exact Int.mul_lt_mul_right (by omega)

theorem xor_top64 {x : Nat} (_h : x < 18446744073709551616) : x ^^^ 9223372036854775808 = (x + 9223372036854775808) % 18446744073709551616 := by
  have e1 : (x ^^^ 9223372036854775808) % 2 ^ 63 = x % 2 ^ 63 := by rw [Nat.xor_mod_two_pow]; simp
  have e2 : (x ^^^ 9223372036854775808) / 2 ^ 63 = (x / 2 ^ 63) ^^^ 1 := by rw [Nat.xor_div_two_pow]
  have h1 : x / 2 ^ 63 = 0 ∨ x / 2 ^ 63 = 1 := by omega
  have h2 := Nat.div_add_mod (x ^^^ 9223372036854775808) (2 ^ 63)
  rw [e1, e2] at h2
  rcases h1 with h1 | h1 <;> rw [h1] at h2 <;> simp at h2 <;> omega

theorem neg_rung {k : Nat} (hk : k < 18446744073709551616) : rung double (Op.negFloat .f64 k) = rung double k ∧ sgn double (Op.negFloat .f64 k) = !sgn double k := by
  have e : Op.negFloat .f64 k = (k + 9223372036854775808) % 18446744073709551616 := by
    rw [← xor_top64 hk]; rfl
  rw [e]
  unfold rung sgn
  rw [swD]
  refine ⟨by omega, ?_⟩
  have h1 : k / 9223372036854775808 = 0 ∨ k / 9223372036854775808 = 1 := by omega
  rcases h1 with h | h
  · have : (k + 9223372036854775808) % 18446744073709551616 / 9223372036854775808 = 1 := by omega
    rw [h, this]; rfl
  · have : (k + 9223372036854775808) % 18446744073709551616 / 9223372036854775808 = 0 := by omega
    rw [h, this]; rfl

theorem neg_sv {k : Nat} (hk : k < 18446744073709551616) (hf : fin double k = true) : fin double (Op.negFloat .f64 k) = true ∧ sv double (Op.negFloat .f64 k) = - sv double k := by
  obtain ⟨a, b⟩ := neg_rung hk
  refine ⟨by unfold fin at *; rw [a]; exact hf, ?_⟩
  unfold sv
  rw [a, b]
  cases sgn double k <;> simp

def P52 : Nat := 4503599627370496

/-- EXP BY TWOS: the walk, over plain facts. -/
structure Twos (P : Nat) (K : Int) (C : Nat) : Prop where
  up : ∀ j : Nat, (j : Int) < K → floatBits .mul .f64 (P + j * P52) 4611686018427387904 = some (P + (j + 1) * P52)
  down : ∀ j : Nat, (j : Int) < -K → floatBits .quo .f64 (P - j * P52) 4611686018427387904 = some (P - (j + 1) * P52)
  high : 0 ≤ K → P + K.toNat * P52 = C
  low : K ≤ 0 → P - (-K).toNat * P52 = C

theorem twos_of {P C : Nat} {K : Int} (p1 : 4602678819172646912 ≤ P) (p2 : P ≤ 4609434218613702656) (h1 : -152 ≤ K) (h2 : K ≤ 130) (hC : C = ((P : Int) + K * 4503599627370496).toNat) : Twos P K C := by
  refine ⟨fun j hj => ?_, fun j hj => ?_, fun h => ?_, fun h => ?_⟩
  · have := mul_two (p := P + j * 4503599627370496) (by omega) (by omega)
    rw [show P + j * 4503599627370496 + 4503599627370496 = P + (j + 1) * P52 by unfold P52; omega] at this
    exact this
  · have hj' : j < 152 := by omega
    have := div_two (p := P - j * 4503599627370496) (c := P - (j + 1) * 4503599627370496) (by omega) (by omega) (by omega)
    exact this
  · unfold P52; omega
  · unfold P52; omega

theorem nn89 : isNaN single 1118961664 = false := by decide
theorem nn105 : isNaN single 3268542464 = false := by decide
theorem cinf : canon 2139095040 = 2139095040 := by decide
theorem czero : canon 0 = 0 := by decide
theorem nbig : isNaN double 5183643170835005440 = false := by decide

theorem exP0 {r : Nat} : exP r 0 = 4607182418800017408 := rfl

attribute [local irreducible] floatOfInt isNaN sv mg P52 exP

set_option maxHeartbeats 400000 in
theorem rexp_nan (n : Nat) (hn : n < 4294967296) (hx : isNaN single n = true) (w : World) :
    Calls Try.prog 48 #[.int .i64 (n : Int)] w fun e w' => e = .returned (.int .i64 (canon (expN n))) ∧ w = w' := by
  have hm : ((n : Int) % 4294967296).toNat = n := by omega
  have hs : (FloatKind.f32.format.order n n != some .eq) = true := by rw [show FloatKind.f32.format = single from rfl, ord_self okS, hx]
  have he : canon (expN n) = 2143289344 := by rw [expN_nan hx]; unfold canon; rw [hx]; rfl
  rw [he]
  clear he hx
  go_enter Try.func48, Try.ntmps48
  go_wp2_with (go_at_call 31; refine (rf_any _ _).mono ?_; rintro e w' ⟨rfl, rfl⟩)
  go_ret
  exact ⟨rfl, rfl⟩

set_option maxHeartbeats 400000 in
theorem rexp_high (n : Nat) (hn : n < 4294967296) (hx : isNaN single n = false) (h : sv single 1118961664 < sv single n) (w : World) :
    Calls Try.prog 48 #[.int .i64 (n : Int)] w fun e w' => e = .returned (.int .i64 (canon (expN n))) ∧ w = w' := by
  have hm : ((n : Int) % 4294967296).toNat = n := by omega
  have hs : (FloatKind.f32.format.order n n != some .eq) = false := by rw [show FloatKind.f32.format = single from rfl, ord_self okS, hx]
  have hg : (FloatKind.f32.format.order n 1118961664 == some .gt) = true := by rw [show FloatKind.f32.format = single from rfl, ord_gt okS hx nn89]; simpa using h
  have he : canon (expN n) = 2139095040 := by
    have : expN n = 2139095040 := by unfold expN; rw [hx, if_neg (by decide), if_pos h]
    rw [this]; first | exact cinf | exact czero
  rw [he]
  clear he h hx
  go_enter Try.func48, Try.ntmps48
  go_wp2_with (go_at_call 31; refine (rf_any _ _).mono ?_; rintro e w' ⟨rfl, rfl⟩)
  go_ret
  exact ⟨rfl, rfl⟩

set_option maxHeartbeats 400000 in
theorem rexp_low (n : Nat) (hn : n < 4294967296) (hx : isNaN single n = false) (h1 : ¬ sv single 1118961664 < sv single n) (h : sv single n < sv single 3268542464) (w : World) :
    Calls Try.prog 48 #[.int .i64 (n : Int)] w fun e w' => e = .returned (.int .i64 (canon (expN n))) ∧ w = w' := by
  have hm : ((n : Int) % 4294967296).toNat = n := by omega
  have hs : (FloatKind.f32.format.order n n != some .eq) = false := by rw [show FloatKind.f32.format = single from rfl, ord_self okS, hx]
  have hg : (FloatKind.f32.format.order n 1118961664 == some .gt) = false := by rw [show FloatKind.f32.format = single from rfl, ord_gt okS hx nn89]; simpa using h1
  have hl : (FloatKind.f32.format.order n 3268542464 == some .lt) = true := by rw [show FloatKind.f32.format = single from rfl, ord_lt okS hx nn105]; simpa using h
  have he : canon (expN n) = 0 := by
    have : expN n = 0 := by unfold expN; rw [hx, if_neg (by decide), if_neg h1, if_pos h]
    rw [this]; first | exact cinf | exact czero
  rw [he]
  clear he h hx h1
  go_enter Try.func48, Try.ntmps48
  go_wp2_with (go_at_call 31; refine (rf_any _ _).mono ?_; rintro e w' ⟨rfl, rfl⟩)
  go_ret
  exact ⟨rfl, rfl⟩

set_option maxHeartbeats 2000000 in
/-- Between the two bounds: the walk, over plain facts. -/
theorem rexp_walk (n Y T1 T2 k M R C nk : Nat) (K : Int) (E Q D : Nat → Nat) (res : Int) (hm : ((n : Int) % 4294967296).toNat = n)
    (hs : (FloatKind.f32.format.order n n != some .eq) = false) (hg : (FloatKind.f32.format.order n 1118961664 == some .gt) = false) (hl : (FloatKind.f32.format.order n 3268542464 == some .lt) = false)
    (w1 : ∀ w, wide n w = Y) (w2 : ∀ w, wideW n w = w)
    (a1 : ∀ w, ar .mul .f64 Y 4609176140021203710 w = T1) (a1' : ∀ w, arW .mul .f64 Y 4609176140021203710 w = w)
    (a2 : ∀ w, ar .add .f64 T1 4602678819172646912 w = T2) (a2' : ∀ w, arW .add .f64 T1 4602678819172646912 w = w)
    (a3 : ∀ w, floor64 floorQ T2 w = k) (a3' : ∀ w, floor64W T2 w = w)
    (a4 : ∀ w, ar .mul .f64 k 4604418534313441775 w = M) (a4' : ∀ w, arW .mul .f64 k 4604418534313441775 w = w)
    (a5 : ∀ w, ar .sub .f64 Y M w = R) (a5' : ∀ w, arW .sub .f64 Y M w = w)
    (e0 : E 0 = 4607182418800017408)
    (st : Hid (∀ j, j < 13 → floatBits .mul .f64 (E j) R = some (Q j) ∧ floatBits .quo .f64 (Q j) (floatOfInt .f64 ((13 - j : Nat) : Int)) = some (D j) ∧ floatBits .add .f64 4607182418800017408 (D j) = some (E (j + 1))))
    (tw : Hid (Twos (E 13) K C)) (hnk : Op.negFloat .f64 k = nk)
    (o1 : Hid (∀ j : Nat, j < 200 → (FloatKind.f64.format.order (floatOfInt .f64 (j : Int)) k == some .lt) = decide ((j : Int) < K)))
    (o2 : Hid (∀ j : Nat, j < 200 → (FloatKind.f64.format.order (floatOfInt .f64 (j : Int)) nk == some .lt) = decide ((j : Int) < -K)))
    (k1 : Hid (-152 ≤ K ∧ K ≤ 130))
    (fin : (∃ c, FloatKind.f64.format.order C 5183643170835005440 = some .lt ∧ (∀ w, narrow C w = c) ∧ (∀ w, narrowW C w = w) ∧ Hid (canon c = res ∧ c < 4294967296)) ∨ (FloatKind.f64.format.order C 5183643170835005440 = some .eq ∧ Hid (res = 2139095040)) ∨ (FloatKind.f64.format.order C 5183643170835005440 = some .gt ∧ Hid (res = 2139095040)))
    (w : World) :
    Calls Try.prog 48 #[.int .i64 (n : Int)] w fun e w' => e = .returned (.int .i64 res) ∧ w = w' := by
  have FIN := Lib.hid fin
  clear fin
  go_enter Try.func48, Try.ntmps48
  go_wp2_with (first | (go_at_call 31; refine (rf_any _ _).mono ?_; rintro e w' ⟨rfl, rfl⟩) | (go_at_call 44; refine (floor_any _ _).mono ?_; rintro e w' ⟨rfl, rfl⟩))
  go_loop [7, 8] (fun p i => ∃ j m : Nat, Hid (j + m = 13) ∧ p = .float .f64 (E j) ∧ i = .int .i64 (m : Int)) (fun _ i => (intOf i).toNat)
  case atStart => exact ⟨0, 13, Lib.hid rfl, by rw [e0], rfl⟩
  case round =>
    obtain ⟨j, m, hj, rfl, rfl⟩ := hrel
    cases m with
    | zero =>
      have ej : j = 13 := by have := hj.out; omega
      subst ej
      clear st hj a1 a1' a2 a2' a3 a3' a4 a4' a5 a5' w1 w2 hs hg hl e0
      generalize E 13 = P at *
      go_wp2
      go_loop [7, 10] (fun p i => ∃ j : Nat, Hid ((j : Int) ≤ max K 0) ∧ p = .float .f64 (P + j * P52) ∧ i = .int .i64 (j : Int)) (fun _ i => 200 - (intOf i).toNat)
      case atStart => exact ⟨0, Lib.hid (by have := k1.out; omega), by simp, rfl⟩
      case round =>
        obtain ⟨j, hj, rfl, rfl⟩ := hrel
        have hj2 : (j : Int) < 200 := by have := k1.out; have := hj.out; omega
        have hO := o1.out j (by omega)
        by_cases hK : (j : Int) < K
        · rw [decide_eq_true hK] at hO
          obtain ⟨b1, b1'⟩ := ar_some (op := .mul) (k := .f64) (tw.out.up j hK)
          have HK := Lib.hid hK
          clear hK
          go_wp2
          go_round
          case rel => exact ⟨j + 1, Lib.hid (by have := HK.out; omega), rfl, by go_num⟩
          case measure => simp [intOf]; omega
        · rw [decide_eq_false hK] at hO
          have hC : 0 ≤ K → P + j * P52 = C := fun h => by
            have := hj.out
            have e : j = K.toNat := by omega
            rw [e]; exact tw.out.high h
          have hC2 : K ≤ 0 → P + j * P52 = P := fun h => by
            have := hj.out
            have e : j = 0 := by omega
            rw [e]; simp
          have HC := Lib.hid hC
          have HC2 := Lib.hid hC2
          clear hC hC2
          have HK := Lib.hid hK
          clear hK
          generalize P + j * P52 = P1 at *
          go_wp2
          go_loop [7, 11] (fun p i => ∃ q : Nat, Hid ((q : Int) ≤ max (-K) 0) ∧ p = .float .f64 (P1 - q * P52) ∧ i = .int .i64 (q : Int)) (fun _ i => 200 - (intOf i).toNat)
          case atStart => exact ⟨0, Lib.hid (by have := k1.out; omega), by simp, rfl⟩
          case round =>
            obtain ⟨q, hq, rfl, rfl⟩ := hrel
            have hq2 : (q : Int) < 200 := by have := k1.out; have := hq.out; omega
            have hO2 := o2.out q (by omega)
            by_cases hK2 : (q : Int) < -K
            · rw [decide_eq_true hK2] at hO2
              have eP : P1 = P := HC2.out (by omega)
              subst eP
              obtain ⟨b1, b1'⟩ := ar_some (op := .quo) (k := .f64) (tw.out.down q hK2)
              have HK2 := Lib.hid hK2
              clear hK2
              go_wp2
              go_round
              case rel => exact ⟨q + 1, Lib.hid (by have := HK2.out; omega), rfl, by go_num⟩
              case measure => simp [intOf]; omega
            · rw [decide_eq_false hK2] at hO2
              have eC : P1 - q * P52 = C := by
                have := hq.out
                rcases (by omega : 0 ≤ K ∨ K ≤ 0) with h | h
                · have e0 : q = 0 := by omega
                  rw [e0, HC.out h]; simp
                · have e0 : q = (-K).toNat := by omega
                  rw [HC2.out h, e0]; exact tw.out.low h
              rw [eC]
              clear eC hK2
              rcases FIN.out with ⟨c, h1, h2, h3, h4⟩ | ⟨h1, h2⟩ | ⟨h1, h2⟩
              · have cl := h4.out.2
                go_wp2_with (go_at_call 41; refine (rbits_any _ (by assumption) _).mono ?_; rintro e w' ⟨rfl, rfl⟩)
                go_ret
                exact ⟨ret_val (int_val h4.out.1), rfl⟩
              · go_wp2
                go_ret
                exact ⟨ret_val (int_val h2.out.symm), rfl⟩
              · go_wp2
                go_ret
                exact ⟨ret_val (int_val h2.out.symm), rfl⟩
    | succ m =>
      obtain ⟨b1, b2, b3⟩ := st.out j (by have := hj.out; omega)
      rw [show 13 - j = m + 1 by have := hj.out; omega, Int.natCast_add, show ((1 : Nat) : Int) = 1 from rfl] at b2
      obtain ⟨b1, b1'⟩ := ar_some (op := .mul) (k := .f64) b1
      obtain ⟨b2, b2'⟩ := ar_some (op := .quo) (k := .f64) b2
      obtain ⟨b3, b3'⟩ := ar_some (op := .add) (k := .f64) b3
      have hm1 : (1 : Int) ≤ ((m + 1 : Nat) : Int) := by omega
      have hm2 : ((m + 1 : Nat) : Int) ≤ 13 := by have := hj.out; omega
      go_wp2
      go_round
      case rel => exact ⟨j + 1, m, Lib.hid (by have := hj.out; omega), rfl, by go_num⟩
      case measure => simp [intOf]


/-- EXP: whatever the element. -/
theorem rexp_any (n : Nat) (hn : n < 4294967296) (w : World) :
    Calls Try.prog 48 #[.int .i64 (n : Int)] w fun e w' => e = .returned (.int .i64 (canon (expN n))) ∧ w = w' := by
  cases hx : isNaN single n
  · by_cases h1 : sv single 1118961664 < sv single n
    · exact rexp_high n hn hx h1 w
    · by_cases h2 : sv single n < sv single 3268542464
      · exact rexp_low n hn hx h1 h2 w
      · have hm : ((n : Int) % 4294967296).toNat = n := by omega
        have hs : (FloatKind.f32.format.order n n != some .eq) = false := by rw [show FloatKind.f32.format = single from rfl, ord_self okS, hx]
        have hg : (FloatKind.f32.format.order n 1118961664 == some .gt) = false := by rw [show FloatKind.f32.format = single from rfl, ord_gt okS hx nn89]; simpa using h1
        have hl : (FloatKind.f32.format.order n 3268542464 == some .lt) = false := by rw [show FloatKind.f32.format = single from rfl, ord_lt okS hx nn105]; simpa using h2
        obtain ⟨hf, _, _, H⟩ := head_ex hx h1 h2
        have tl := tail_ex hx h1 h2
        obtain ⟨a1, a1'⟩ := ar_some (op := .mul) (k := .f64) (show floatBits .mul .f64 (exY n) 4609176140021203710 = some (exT1 n) from H.h1)
        obtain ⟨a2, a2'⟩ := ar_some (op := .add) (k := .f64) (show floatBits .add .f64 (exT1 n) 4602678819172646912 = some (exT2 n) from H.h2)
        have hT2 := nan_of_fin H.fin2
        obtain ⟨a4, a4'⟩ := ar_some (op := .mul) (k := .f64) (show floatBits .mul .f64 (exK n) 4604418534313441775 = some (exM n) from H.h3)
        obtain ⟨a5, a5'⟩ := ar_some (op := .sub) (k := .f64) (show floatBits .sub .f64 (exY n) (exM n) = some (exR n) from H.h4)
        have kl : exK n < 18446744073709551616 := by
          have : exK n < 2 ^ double.width := double.write_lt _
          exact Nat.lt_of_lt_of_eq this (by decide)
        obtain ⟨fnk, snk⟩ := neg_sv kl H.fink
        obtain ⟨fc, _, _⟩ := fin_exC tl
        have nc := nan_of_fin fc
        have hord := order_eq (f := double) okD nc nbig
        have hend : expN n = if sv double 5183643170835005440 ≤ sv double (exC n) then 2139095040 else single.write (double.read (exC n)) := by
          unfold expN; rw [hx, if_neg (by decide), if_neg (Int.not_lt.2 (Int.not_lt.1 h1)), if_neg (Int.not_lt.2 (Int.not_lt.1 h2))]
        have st : ∀ j, ∃ q d, j < 13 → Step (exP (exR n) j) (exR n) (13 - j) q d (exP (exR n) (j + 1)) := fun j => by
          by_cases hj : j < 13
          · obtain ⟨q, d, s⟩ := steps_of H.small j hj
            exact ⟨q, d, fun _ => s⟩
          · exact ⟨0, 0, fun h => absurd h hj⟩
        refine rexp_walk n (exY n) (exT1 n) (exT2 n) (exK n) (exM n) (exR n) (exC n) (Op.negFloat .f64 (exK n)) (exN n) (exP (exR n)) (fun j => Classical.choose (st j)) (fun j => Classical.choose (Classical.choose_spec (st j))) (canon (expN n)) hm hs hg hl
          (fun w => (wide_val w hx).1) (fun w => (wide_val w hx).2) a1 a1' a2 a2' (fun w => (floor_val w hT2).1) (fun w => (floor_val w hT2).2) a4 a4' a5 a5' exP0 (Lib.hid ?_)
          (Lib.hid (twos_of tl.p1 tl.p2 tl.k1 tl.k2 rfl)) rfl (Lib.hid fun j hj => foi_ord (by omega) H.hK H.fink)
          (Lib.hid fun j hj => foi_ord (by omega) (by rw [snk, H.hK, Int.neg_mul]) fnk) (Lib.hid ⟨tl.k1, tl.k2⟩) ?_ w
        · intro j hj
          have s := Classical.choose_spec (Classical.choose_spec (st j)) hj
          rw [foi_fi]
          exact ⟨s.h1, s.h2, s.h3⟩
        · rcases (by omega : sv double (exC n) < sv double 5183643170835005440 ∨ sv double (exC n) = sv double 5183643170835005440 ∨ sv double 5183643170835005440 < sv double (exC n)) with g | g | g
          · have hbk := back_exC tl (by omega)
            rw [if_neg (by omega)] at hend
            refine Or.inl ⟨expN n, by rw [show FloatKind.f64.format = double from rfl, hord, Int.compare_eq_lt.2 g], fun w => by rw [hend]; exact (narrow_val w hbk).1, fun w => (narrow_val w hbk).2, Lib.hid ⟨rfl, expN_lt hn⟩⟩
          · rw [if_pos (by omega)] at hend
            exact Or.inr (Or.inl ⟨by rw [show FloatKind.f64.format = double from rfl, hord, Int.compare_eq_eq.2 g], Lib.hid (by rw [hend]; exact cinf)⟩)
          · rw [if_pos (by omega)] at hend
            exact Or.inr (Or.inr ⟨by rw [show FloatKind.f64.format = double from rfl, hord, Int.compare_eq_gt.2 g], Lib.hid (by rw [hend]; exact cinf)⟩)
  · exact rexp_nan n hn hx w

end Go.Proofs.Ytepmacimknblpaa
