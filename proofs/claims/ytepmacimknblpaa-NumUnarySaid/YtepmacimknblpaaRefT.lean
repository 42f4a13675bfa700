/- The walk of the reference's Tanh (mandrelref02.tanh). -/
import Derived.Test.YtepmacimknblpaaRefE
import Derived.Test.YtepmacimknblpaaNumL
namespace Go.Proofs.Ytepmacimknblpaa
open Go.RowKit Ieee Fl

theorem nn10 : isNaN single 1092616192 = false := by decide
theorem tanT_high {a : Nat} (h : ¬ sv single a ≤ sv single 1092616192) : tanT a = 1065353216 := if_neg h
theorem tanT_low {a : Nat} (h : sv single a ≤ sv single 1092616192) : tanT a = tanQ a := if_pos h

attribute [local irreducible] floatOfInt isNaN sv mg exP expN

/-! ### Tanh -/

theorem rtanh_nan (w : World) :
    Calls Try.prog 51 #[.int .i64 2143289344] w fun e w' => e = .returned (.int .i64 2143289344) ∧ w = w' := by
  go_enter Try.func51, Try.ntmps51
  go_wp2
  go_ret
  exact ⟨rfl, rfl⟩

theorem radd_one (n : Nat) (hn : n < 4294967296) (w : World) :
    Calls Try.prog 50 #[.int .i64 n, .int .i64 1065353216] w fun e w' => e = .returned (.int .i64 (cnO (floatBits .add .f32 n 1065353216))) ∧ Grown w w' := radd_any n 1065353216 hn (by decide) w
theorem rsub_one (n : Nat) (hn : n < 4294967296) (w : World) :
    Calls Try.prog 53 #[.int .i64 n, .int .i64 1065353216] w fun e w' => e = .returned (.int .i64 (cnO (floatBits .sub .f32 n 1065353216))) ∧ Grown w w' := rsub_any n 1065353216 hn (by decide) w

set_option maxHeartbeats 1000000 in
theorem rtanh_walk (n a u up dn q E : Nat) (hx : ((n : Int) == 2143289344) = false) (ha : (n : Int).tmod 2147483648 = (a : Int)) (hm : ((a : Int) % 4294967296).toNat = a)
    (hn : n < 4294967296) (hq : q < 2147483648) (la : a < 4294967296) (lu : u < 4294967296) (lE : E < 4294967296) (lup : up < 4294967296) (ldn : dn < 4294967296)
    (ho : FloatKind.f32.format.order a 1092616192 = some .lt ∨ FloatKind.f32.format.order a 1092616192 = some .eq)
    (h1 : cnO (floatBits .add .f32 a a) = (u : Int)) (hE : canon (expN u) = (E : Int)) (h2 : cnO (floatBits .sub .f32 E 1065353216) = (up : Int)) (h3 : cnO (floatBits .add .f32 E 1065353216) = (dn : Int)) (h4 : cnO (floatBits .quo .f32 up dn) = (q : Int))
    (w : World) :
    Calls Try.prog 51 #[.int .i64 (n : Int)] w fun e w' => e = .returned (.int .i64 ((q : Int) + (n : Int) / 2147483648 * 2147483648)) ∧ Grown w w' := by
  have HA := Lib.hid (fun w => radd_any a a la la w)
  have HE := Lib.hid (fun w => rexp_any u lu w)
  have HS := Lib.hid (fun w => rsub_one E lE w)
  have HD := Lib.hid (fun w => radd_one E lE w)
  have HQ := Lib.hid (fun w => rdiv_any up dn lup ldn w)
  rw [h1] at HA
  rw [hE] at HE
  rw [h2] at HS
  rw [h3] at HD
  rw [h4] at HQ
  clear h1 hE h2 h3 h4
  rcases ho with ho | ho
  all_goals
    go_enter Try.func51, Try.ntmps51
    go_wp2_with (first | (go_at_call 31; refine (rf_any _ _).mono ?_; rintro e w' ⟨rfl, rfl⟩) | (go_at_call 50; with_reducible refine (HA.out _).mono ?_; rintro e w1 ⟨rfl, g1⟩) | (go_at_call 48; with_reducible refine (HE.out _).mono ?_; rintro e w2 ⟨rfl, rfl⟩) | (go_at_call 53; with_reducible refine (HS.out _).mono ?_; rintro e w3 ⟨rfl, g3⟩) | (go_at_call 50; with_reducible refine (HD.out _).mono ?_; rintro e w4 ⟨rfl, g4⟩) | (go_at_call 49; with_reducible refine (HQ.out _).mono ?_; rintro e w5 ⟨rfl, g5⟩))
    go_ret
    go_light
    refine ⟨ret_val (int_val ?_), grown_trans (grown_trans (grown_trans g1 g3) g4) g5⟩
    omega

set_option maxHeartbeats 1000000 in
theorem rtanh_walk1 (n a : Nat) (hn : n < 4294967296) (hx : ((n : Int) == 2143289344) = false) (ha : (n : Int).tmod 2147483648 = (a : Int)) (hm : ((a : Int) % 4294967296).toNat = a)
    (ho : FloatKind.f32.format.order a 1092616192 = some .gt) (w : World) :
    Calls Try.prog 51 #[.int .i64 (n : Int)] w fun e w' => e = .returned (.int .i64 (1065353216 + (n : Int) / 2147483648 * 2147483648)) ∧ Grown w w' := by
  go_enter Try.func51, Try.ntmps51
  go_wp2_with (first | (go_at_call 31; refine (rf_any _ _).mono ?_; rintro e w' ⟨rfl, rfl⟩))
  go_ret
  go_light
  exact ⟨ret_val (int_val rfl), Grown.refl _⟩

theorem cn_num {x : Nat} (h : isNaN single x = false) : canon x = (x : Int) := by unfold canon; rw [h]; rfl

/-- TANH: whatever the element. -/
theorem rtanh_any (n : Nat) (hn : n < 4294967296) (cn : isNaN single n = true → n = 2143289344) (w : World) :
    Calls Try.prog 51 #[.int .i64 (n : Int)] w fun e w' => e = .returned (.int .i64 (tanhS n)) ∧ Grown w w' := by
  cases hv : isNaN single n
  · have hx : ((n : Int) == 2143289344) = false := by
      by_cases e : n = 2143289344
      · subst e; exact absurd hv (by decide +kernel)
      · simp; omega
    have ha : n % 2147483648 < 2147483648 := Nat.mod_lt _ (by decide)
    have hA : (n : Int).tmod 2147483648 = ((n % 2147483648 : Nat) : Int) := rfl
    have hT : tanhS n = ((tanT (n % 2147483648) + n / 2147483648 * 2147483648 : Nat) : Int) := by unfold tanhS; rw [hv]; rfl
    have na := isNaN_low hv
    have low : ∀ b : Nat, b < 2147483648 → ((b : Int) % 4294967296).toNat = b := fun b h => by omega
    rw [hT, Int.natCast_add, Int.natCast_mul, Int.natCast_ediv]
    generalize n % 2147483648 = a at *
    have hord := order_eq (f := single) okS na nn10
    by_cases h10 : sv single a ≤ sv single 1092616192
    · have tn := tan_of ha h10
      have eT : tanT a = tanQ a := tanT_low h10
      have ho : FloatKind.f32.format.order a 1092616192 = some .lt ∨ FloatKind.f32.format.order a 1092616192 = some .eq := by
        rcases Int.lt_or_eq_of_le h10 with h | h
        · left; rw [show FloatKind.f32.format = single from rfl, hord, Int.compare_eq_lt.2 h]
        · right; rw [show FloatKind.f32.format = single from rfl, hord, Int.compare_eq_eq.2 h]
      rw [eT]
      have l32 : ∀ {x : Nat} {o : Option Nat}, o = some x → (∃ op k1 k2, o = floatBits op .f32 k1 k2) → x < 4294967296 := by
        rintro x o h ⟨op, k1, k2, rfl⟩
        have := (floatBits_notNaN h).2
        exact this
      have e1 : floatBits .add .f32 a a = some ((single.add a a).getD 0) := tn.h1
      have e2 : floatBits .sub .f32 (tanE a) 1065353216 = some (tanU a) := tn.h2
      have e3 : floatBits .add .f32 (tanE a) 1065353216 = some (tanD a) := tn.h3
      have e4 : floatBits .quo .f32 (tanU a) (tanD a) = some (tanQ a) := tn.h4
      exact rtanh_walk n a ((single.add a a).getD 0) (tanU a) (tanD a) (tanQ a) (tanE a) hx hA (low a ha) hn tn.ql (by omega) tn.lt (expN_lt tn.lt) (l32 e2 ⟨_, _, _, rfl⟩) (l32 e3 ⟨_, _, _, rfl⟩) ho
        (by rw [e1]; rfl) (cn_num (expN_notNaN tn.nan)) (by rw [e2]; rfl) (by rw [e3]; rfl) (by rw [e4]; rfl) w
    · have eT : tanT a = 1065353216 := tanT_high h10
      have ho : FloatKind.f32.format.order a 1092616192 = some .gt := by
        rw [show FloatKind.f32.format = single from rfl, hord, Int.compare_eq_gt.2 (Int.not_le.1 h10)]
      rw [eT]
      exact rtanh_walk1 n a hn hx hA (low a ha) ho w
  · have e := cn hv
    subst e
    refine (rtanh_nan w).mono ?_
    rintro e w' ⟨rfl, rfl⟩
    refine ⟨ret_val (int_val ?_), Grown.refl _⟩
    unfold tanhS; rw [hv]; rfl

end Go.Proofs.Ytepmacimknblpaa
