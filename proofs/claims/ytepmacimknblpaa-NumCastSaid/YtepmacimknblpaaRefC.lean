/- The walks of the reference's Cast (mandrelref02): toInt, Cast. -/
import Derived.Test.YtepmacimknblpaaRefW
import Derived.Test.YtepmacimknblpaaNumV
namespace Go.Proofs.Ytepmacimknblpaa
open Go.RowKit Ieee Fl

def pickR (X Y Z : Ordering) (lo hi K : Int) : Int := match X with | .lt => lo | _ => (match Y with | .lt => lo | _ => (match Z with | .lt => max lo (min hi K) | _ => hi))

theorem cLo : isNaN double 14114281232179134464 = false ∧ sv double 14114281232179134464 = -9223372036854775808 * (U : Int) := ⟨by decide +kernel, of_decide_eq_true (by kernel_rfl)⟩
theorem cHi : isNaN double 4890909195324358656 = false ∧ sv double 4890909195324358656 = 9223372036854775808 * (U : Int) := ⟨by decide +kernel, of_decide_eq_true (by kernel_rfl)⟩

attribute [local irreducible] floatOfInt isNaN sv mg

set_option maxHeartbeats 2000000 in
theorem rtoInt_walk (n D : Nat) (hn : n < 4294967296) (lo hi K : Int) (X Y Z : Ordering) (hx : ((n : Int) == 2143289344) = false)
    (w1 : ∀ w, wide n w = D) (w2 : ∀ w, wideW n w = w)
    (hX : FloatKind.f64.format.order D 14114281232179134464 = some X) (hY : FloatKind.f64.format.order D (floatOfInt .f64 lo) = some Y) (hZ : FloatKind.f64.format.order D 4890909195324358656 = some Z)
    (hc : (X == .lt) = false → (Y == .lt) = false → (Z == .lt) = true → floatToIntVal .f64 D .i64 = some K) (w : World) :
    Calls Try.prog 42 #[.int .i64 (n : Int), .int .i64 lo, .int .i64 hi] w fun e w' => e = .returned (.int .i64 (pickR X Y Z lo hi K)) ∧ w = w' := by
  have hm : ((n : Int) % 4294967296).toNat = n := by omega
  have conv := fun (h : floatToIntVal .f64 D .i64 = some K) w => run_convert_float_int (P := Try.prog) w 52 2 .f64 .i64 D K (by rw [Try.underlying52]; rfl) Try.underlying2 h
  cases X <;> cases Y <;> cases Z
  all_goals
    first
      | have cv := conv (hc rfl rfl rfl)
      | skip
    clear conv hc
    simp only [pickR]
    go_enter Try.func42, Try.ntmps42
    go_wp2_with (go_at_call 31; refine (rf_any _ _).mono ?_; rintro e w' ⟨rfl, rfl⟩)
    all_goals go_ret
    all_goals go_light
    all_goals
      refine ⟨ret_val (int_val ?_), rfl⟩
      first
        | rfl
        | grind

set_option maxHeartbeats 1000000 in
theorem rtoInt_nan (n : Nat) (hn : n < 4294967296) (lo hi : Int) (hx : ((n : Int) == 2143289344) = true) (w : World) :
    Calls Try.prog 42 #[.int .i64 (n : Int), .int .i64 lo, .int .i64 hi] w fun e w' => e = .returned (.int .i64 0) ∧ w' = wideW n w := by
  have hm : ((n : Int) % 4294967296).toNat = n := by omega
  go_enter Try.func42, Try.ntmps42
  go_wp2_with (go_at_call 31; refine (rf_any _ _).mono ?_; rintro e w' ⟨rfl, rfl⟩)
  go_ret
  exact ⟨rfl, rfl⟩

/-- A single between two whole numbers, the least with it, as an integer of 64 bits. -/
theorem wide_conv_le {v : Nat} (h1 : -9223372036854775808 * (V1 : Int) ≤ sv single v) (h2 : sv single v < 9223372036854775808 * (V1 : Int)) :
    floatToIntVal .f64 (double.write (single.read v)) .i64 = some ((sv single v).tdiv (V1 : Int)) := by
  have hV := V1_pos
  have hP := p925_pos
  have hf : fin single v = true := by
    have b1 := inf_beyond
    exact fin_of_bounds (by omega) (by omega)
  obtain ⟨f1, f2, _, _⟩ := wide_eq hf
  have eU : (U : Int) = (V1 : Int) * (P925 : Int) := by rw [← P925_U, Int.natCast_mul]
  have e : (FloatKind.f64.decode (double.write (single.read v))).toInt .zero = some ((sv single v).tdiv (V1 : Int)) := by
    show (double.read (double.write (single.read v))).toInt .zero = _
    rw [dtoInt f1, f2, eU, Int.mul_tdiv_mul_of_pos_left _ _ (by omega)]
  unfold floatToIntVal
  rw [e]
  have m1 : IntKind.i64.min = -9223372036854775808 := by decide
  have m2 : IntKind.i64.max = 9223372036854775807 := by decide
  simp only [m1, m2]
  have hV' : (0 : Int) < (V1 : Int) := by omega
  have g1 : -9223372036854775808 ≤ (sv single v).tdiv (V1 : Int) := by
    have := Int.tdiv_le_tdiv hV' h1
    rwa [Int.mul_tdiv_cancel _ (by omega)] at this
  have g2 : (sv single v).tdiv (V1 : Int) < 9223372036854775808 := by
    rcases (by omega : 0 ≤ sv single v ∨ sv single v < 0) with g | g
    · rw [Int.tdiv_eq_ediv_of_nonneg g]; exact Int.ediv_lt_of_lt_mul hV' h2
    · have := Int.tdiv_le_tdiv hV' (show sv single v ≤ 0 * (V1 : Int) by omega)
      rw [Int.mul_tdiv_cancel _ (by omega)] at this
      omega
  rw [if_pos (by omega)]

theorem pickR_cut {v : Nat} (hv : isNaN single v = false) (lo hi top : Int) (h1 : -9223372036854775808 ≤ lo) (h2 : lo ≤ 0) (h3 : 0 < top) (h4 : top ≤ 9223372036854775808)
    (h5 : hi = top ∨ (top = 9223372036854775808 ∧ hi = 9223372036854775807)) :
    pickR (compare (sv single v) (-9223372036854775808 * (V1 : Int))) (compare (sv single v) (lo * (V1 : Int))) (compare (sv single v) (9223372036854775808 * (V1 : Int))) lo hi ((sv single v).tdiv (V1 : Int)) = cutF lo hi top v := by
  have hV := V1_pos
  have hV' : (0 : Int) < (V1 : Int) := by omega
  unfold cutF
  rw [hv, if_neg (by decide)]
  generalize sv single v = s
  generalize (V1 : Int) = V at *
  have m1 : ∀ a : Int, a * V ≤ s → a ≤ s.tdiv V := fun a h => by
    have := Int.tdiv_le_tdiv hV' h
    rwa [Int.mul_tdiv_cancel _ (by omega)] at this
  have m2 : ∀ a : Int, s ≤ a * V → s.tdiv V ≤ a := fun a h => by
    have := Int.tdiv_le_tdiv hV' h
    rwa [Int.mul_tdiv_cancel _ (by omega)] at this
  have o1 : -9223372036854775808 * V ≤ lo * V := Int.mul_le_mul_of_nonneg_right h1 (by omega)
  have o2 : lo * V ≤ 0 * V := Int.mul_le_mul_of_nonneg_right h2 (by omega)
  have o3 : 0 * V < top * V := Int.mul_lt_mul_of_pos_right h3 hV'
  have o4 : top * V ≤ 9223372036854775808 * V := Int.mul_le_mul_of_nonneg_right h4 (by omega)
  have a1 := m1 lo
  have a2 := m2 lo
  have a3 := m1 top
  have a4 := m2 top
  have a5 : s < top * V → s.tdiv V < top := fun h => by
    rcases (by omega : 0 ≤ s ∨ s < 0) with g | g
    · rw [Int.tdiv_eq_ediv_of_nonneg g]; exact Int.ediv_lt_of_lt_mul hV' h
    · have := m2 0 (by omega); omega
  have o5 : top = 9223372036854775808 → top * V = 9223372036854775808 * V := fun h => by rw [h]
  clear m1 m2
  generalize -9223372036854775808 * V = p at *
  generalize lo * V = q at *
  generalize top * V = r at *
  generalize 9223372036854775808 * V = z at *
  generalize s.tdiv V = K at *
  generalize 0 * V = zero at *
  rcases Int.lt_trichotomy s p with g | g | g
  · rw [Int.compare_eq_lt.2 g, if_pos (by omega)]; rfl
  all_goals
    first
      | rw [Int.compare_eq_eq.2 g]
      | rw [Int.compare_eq_gt.2 g]
    rcases Int.lt_trichotomy s q with g2 | g2 | g2
    · rw [Int.compare_eq_lt.2 g2, if_pos (by omega)]; rfl
    all_goals
      first
        | rw [Int.compare_eq_eq.2 g2]
        | rw [Int.compare_eq_gt.2 g2]
      rcases Int.lt_trichotomy s z with g3 | g3 | g3
      · rw [Int.compare_eq_lt.2 g3]
        show max lo (min hi K) = _
        split
        · omega
        · split
          · omega
          · omega
      all_goals
        first
          | rw [Int.compare_eq_eq.2 g3]
          | rw [Int.compare_eq_gt.2 g3]
        show hi = _
        split
        · omega
        · split
          · rfl
          · omega

theorem rtoInt_any (n : Nat) (hn : n < 4294967296) (cn : isNaN single n = true → n = 2143289344) (lo hi top : Int) (hk : isNaN double (floatOfInt .f64 lo) = false ∧ sv double (floatOfInt .f64 lo) = lo * (U : Int))
    (h1 : -9223372036854775808 ≤ lo) (h2 : lo ≤ 0) (h3 : 0 < top) (h4 : top ≤ 9223372036854775808) (h5 : hi = top ∨ (top = 9223372036854775808 ∧ hi = 9223372036854775807)) (w : World) :
    Calls Try.prog 42 #[.int .i64 (n : Int), .int .i64 lo, .int .i64 hi] w fun e w' => e = .returned (.int .i64 (cutF lo hi top n)) ∧ Grown w w' := by
  cases hv : isNaN single n
  · have hV := V1_pos
    have hx : ((n : Int) == 2143289344) = false := by
      by_cases e : n = 2143289344
      · subst e; exact absurd hv (by decide +kernel)
      · simp; omega
    refine (rtoInt_walk n _ hn lo hi ((sv single n).tdiv (V1 : Int)) _ _ _ hx (fun w => (wide_val w hv).1) (fun w => (wide_val w hv).2)
      (wide_order hv cLo (by decide)) (wide_order hv hk (by omega)) (wide_order hv cHi (by decide)) ?_ w).mono ?_
    · intro q1 _ q3
      have q1' : ¬ sv single n < -9223372036854775808 * (V1 : Int) := by
        intro h; rw [Int.compare_eq_lt.2 h] at q1; exact absurd q1 (by decide)
      have q3' : sv single n < 9223372036854775808 * (V1 : Int) := by
        rw [beq_iff_eq, Int.compare_eq_lt] at q3; exact q3
      exact wide_conv_le (by omega) q3'
    · rintro e w' ⟨rfl, rfl⟩
      exact ⟨ret_val (int_val (pickR_cut hv lo hi top h1 h2 h3 h4 h5)), Grown.refl _⟩
  · have e := cn hv
    refine (rtoInt_nan n hn lo hi (by subst e; rfl) w).mono ?_
    rintro e w' ⟨rfl, rfl⟩
    refine ⟨ret_val (int_val ?_), grown_wideW (Grown.refl _) _⟩
    unfold cutF
    rw [hv]; simp

theorem zero_iff {n : Nat} (hn : n < 4294967296) (cn : isNaN single n = true → n = 2143289344) : (FloatKind.f32.format.order n 0 != some .eq) = decide ((n : Int) % 2147483648 ≠ 0) := by
  have h := ord_zero_eq n
  rw [show (FloatKind.f32.format.order n 0 != some .eq) = !(FloatKind.f32.format.order n 0 == some .eq) from rfl, h]
  cases hv : isNaN single n
  · by_cases g : sv single n = 0
    · have g0 : sv single n = sv single 0 := by rw [g]; decide +kernel
      have : n % 2147483648 = 0 := by
        rcases same_sv hn (by decide) g0 with rfl | ⟨a, _⟩
        · rfl
        · omega
      simp [g]; omega
    · have : ¬ n % 2147483648 = 0 := by
        intro e
        rcases (by omega : n = 0 ∨ n = 2147483648) with rfl | rfl
        · exact g (by decide +kernel)
        · exact g (by decide +kernel)
      simp [g]; omega
  · rw [cn hv]; decide

attribute [local irreducible] chk okF wholeT cutT flg toW canon cutF

theorem rcast_bad (a b x : Int) (hc : chk a x = false ∨ (chk a x = true ∧ chk b 0 = false)) (w : World) :
    Calls Try.prog 22 #[.int .i64 a, .int .i64 b, .int .i64 x] w fun e w' => e = .returned (.tuple #[.int .i64 (cst a b x).1, .int .i64 (cst a b x).2]) ∧ Grown w w' := by
  have e : cst a b x = (0, 1) := by rw [cst_eq]; unfold cstR; rw [if_pos (by rcases hc with h | h; exact Or.inl h; exact Or.inr h.2)]
  rw [e]
  clear e
  rcases hc with hc | ⟨hc, hd⟩
  all_goals
    go_enter Try.func22, Try.ntmps22
    go_wp2_with (go_at_call 17; refine (rcheck_any _ _ _).mono ?_; rintro e w' ⟨rfl, rfl⟩)
    go_ret2
    exact ⟨rfl, Grown.refl _⟩

set_option maxHeartbeats 4000000 in
theorem rcast_float4 (a b : Int) (n : Nat) (hn : n < 4294967296) (cn : isNaN single n = true → n = 2143289344) (ha : (a == 1) = true) (hc : chk a n = true) (hd : chk b 0 = true) (w : World)
    (hq : ((a == b) = true ∧ (b == 9) = false ∧ (b == 1) = true ∧ (b == 6) = false) ∨ ((a == b) = false ∧ (b == 9) = true ∧ (b == 1) = false ∧ (b == 6) = false) ∨ ((a == b) = false ∧ (b == 9) = false ∧ (b == 1) = false ∧ (b == 6) = true) ∨ ((a == b) = false ∧ (b == 9) = false ∧ (b == 1) = false ∧ (b == 6) = false)) :
    Calls Try.prog 22 #[.int .i64 a, .int .i64 b, .int .i64 (n : Int)] w fun e w' => e = .returned (.tuple #[.int .i64 (cst a b n).1, .int .i64 (cst a b n).2]) ∧ Grown w w' := by
  rw [cst_eq, hc, hd]
  have HZ := Lib.hid (zero_iff hn cn)
  have hm : ((n : Int) % 4294967296).toNat = n := by omega
  have H6 := Lib.hid (rtoInt_any n hn cn (-2147483648) 2147483647 2147483647 k1 (by decide) (by decide) (by decide) (by decide) (Or.inl rfl))
  have H7 := Lib.hid (rtoInt_any n hn cn (-9223372036854775808) 9223372036854775807 9223372036854775808 k3 (by decide) (by decide) (by decide) (by decide) (Or.inr ⟨rfl, rfl⟩))
  rw [Int.toNat_natCast]
  have hw : toW b n = if b = 6 then cutF (-2147483648) 2147483647 2147483647 n else cutF (-9223372036854775808) 9223372036854775807 9223372036854775808 n := by unfold toW; rfl
  rw [hw]
  clear hw cn
  generalize cutF (-2147483648) 2147483647 2147483647 n = i6 at *
  generalize cutF (-9223372036854775808) 9223372036854775807 9223372036854775808 n = i7 at *
  have HA := Lib.hid (show a = 1 by simpa using ha)
  rcases hq with ⟨hab, hb9, hb1, hb6⟩ | ⟨hab, hb9, hb1, hb6⟩ | ⟨hab, hb9, hb1, hb6⟩ | ⟨hab, hb9, hb1, hb6⟩
  all_goals
    go_enter Try.func22, Try.ntmps22
    go_wp2_with (first | (go_at_call 17; refine (rcheck_any _ _ _).mono ?_; rintro e w' ⟨rfl, rfl⟩) | (go_at_call 36; refine (rtruth_any _ _).mono ?_; rintro e w' ⟨rfl, rfl⟩) | (go_at_call 41; refine (rbits_any _ (foi_lt _) _).mono ?_; rintro e w' ⟨rfl, rfl⟩) | (go_at_call 31; refine (rf_any _ _).mono ?_; rintro e w' ⟨rfl, rfl⟩) | (go_at_call 42; with_reducible refine (H6.out _).mono ?_; rintro e w1 ⟨rfl, hg⟩) | (go_at_call 42; with_reducible refine (H7.out _).mono ?_; rintro e w1 ⟨rfl, hg⟩))
    all_goals go_ret2
    all_goals go_light
    all_goals
      refine ⟨ret2_val (int_val ?_) (int_val ?_), by first | assumption | exact Grown.refl _⟩
      all_goals
        have hz := HZ.out
        have h1 := HA.out
        clear HZ HA H6 H7
        try rw [hz]
        unfold cstR
        grind

theorem rcast_float (a b : Int) (n : Nat) (hn : n < 4294967296) (cn : isNaN single n = true → n = 2143289344) (ha : (a == 1) = true) (hc : chk a n = true) (hd : chk b 0 = true) (w : World) :
    Calls Try.prog 22 #[.int .i64 a, .int .i64 b, .int .i64 (n : Int)] w fun e w' => e = .returned (.tuple #[.int .i64 (cst a b n).1, .int .i64 (cst a b n).2]) ∧ Grown w w' := by
  refine rcast_float4 a b n hn cn ha hc hd w ?_
  have h1 : a = 1 := by simpa using ha
  subst h1
  by_cases e1 : b = 1
  · subst e1; exact Or.inl (by decide)
  · by_cases e9 : b = 9
    · subst e9; exact Or.inr (Or.inl (by decide))
    · by_cases e6 : b = 6
      · subst e6; exact Or.inr (Or.inr (Or.inl (by decide)))
      · refine Or.inr (Or.inr (Or.inr ⟨?_, ?_, ?_, ?_⟩))
        · exact beq_false_of_ne (fun h => e1 h.symm)
        · exact beq_false_of_ne e9
        · exact beq_false_of_ne e1
        · exact beq_false_of_ne e6

set_option maxHeartbeats 1000000 in
theorem rcast_int (a b x : Int) (ha : (a == 1) = false) (hc : chk a x = true) (hd : chk b 0 = true) (w : World) :
    Calls Try.prog 22 #[.int .i64 a, .int .i64 b, .int .i64 x] w fun e w' => e = .returned (.tuple #[.int .i64 (cst a b x).1, .int .i64 (cst a b x).2]) ∧ Grown w w' := by
  rw [cst_eq, hc, hd]
  generalize toW b x.toNat = i at *
  cases hab : (a == b) <;> cases hb9 : (b == 9) <;> cases hb1 : (b == 1)
  all_goals
    go_enter Try.func22, Try.ntmps22
    go_wp2_with (first | (go_at_call 17; refine (rcheck_any _ _ _).mono ?_; rintro e w' ⟨rfl, rfl⟩) | (go_at_call 36; refine (rtruth_any _ _).mono ?_; rintro e w' ⟨rfl, rfl⟩) | (go_at_call 41; refine (rbits_any _ (foi_lt _) _).mono ?_; rintro e w' ⟨rfl, rfl⟩) | (go_at_call 29; refine (rwrap_any _ _ _).mono ?_; rintro e w1 ⟨rfl, rfl⟩))
    all_goals go_ret2
    all_goals go_light
    all_goals
      refine ⟨ret2_val (int_val ?_) (int_val ?_), Grown.refl _⟩
      all_goals
        unfold cstR
        grind

/-- THE REFERENCE's CAST: whatever it is given. -/
theorem rcast_any (a b x : Int) (w : World) :
    Calls Try.prog 22 #[.int .i64 a, .int .i64 b, .int .i64 x] w fun e w' => e = .returned (.tuple #[.int .i64 (cst a b x).1, .int .i64 (cst a b x).2]) ∧ Grown w w' := by
  cases hc : chk a x
  · exact rcast_bad a b x (Or.inl hc) w
  · cases hd : chk b 0
    · exact rcast_bad a b x (Or.inr ⟨hc, hd⟩) w
    · cases ha : (a == 1)
      · exact rcast_int a b x ha hc hd w
      · obtain ⟨n, rfl, hn, cn⟩ := okF_word (okF_of_chk ha hc)
        exact rcast_float a b n hn cn ha hc hd w

end Go.Proofs.Ytepmacimknblpaa
