/- The walks of the reference's small functions (mandrelref02): f, bits, ints, wrap, truth, add, sub, div, Check. -/
import Derived.Test.YtepmacimknblpaaNumC
namespace Go.Proofs.Ytepmacimknblpaa
open Go.RowKit Ieee Fl

theorem rf_any (x : Int) (w : World) :
    Calls Try.prog 31 #[.int .i64 x] w fun e w' => e = .returned (.float .f32 (x % 4294967296).toNat) ∧ w = w' := by
  go_enter Try.func31, Try.ntmps31
  go_wp2
  go_ret
  go_light
  exact ⟨ret_val (float_val (by simp)), rfl⟩

theorem rbits_any (b : Nat) (hb : b < 4294967296) (w : World) :
    Calls Try.prog 41 #[.float .f32 b] w fun e w' => e = .returned (.int .i64 (canon b)) ∧ w = w' := by
  have hs := ord_self okS b
  have H := Lib.hid hs
  clear hs
  go_enter Try.func41, Try.ntmps41
  go_wp2
  · rename_i h
    go_ret
    refine ⟨ret_val (int_val ?_), rfl⟩
    have h2 := H.out
    rw [show FloatKind.f32.format = single from rfl, h2] at h
    unfold canon; rw [if_pos h]
  · rename_i h
    go_ret
    refine ⟨ret_val (int_val ?_), rfl⟩
    have h2 := H.out
    rw [show FloatKind.f32.format = single from rfl, h2] at h
    unfold canon; rw [h]; simp

theorem rints_any (t : Int) (w : World) :
    Calls Try.prog 28 #[.int .i64 t] w fun e w' => e = .returned (.bool (wholeT t)) ∧ w = w' := by
  go_enter Try.func28, Try.ntmps28
  go_wp2
  all_goals (go_ret; go_light; refine ⟨ret_val (bool_val ?_), rfl⟩; grind [wholeT])

theorem rwrap_any (t x : Int) (w : World) :
    Calls Try.prog 29 #[.int .i64 t, .int .i64 x] w fun e w' => e = .returned (.int .i64 (cutT t x)) ∧ w = w' := by
  have hw : wrap64 (wrap32 x) = wrap32 x := by unfold wrap64 wrap32; omega
  go_enter Try.func29, Try.ntmps29
  go_wp2
  all_goals (go_ret; go_light; refine ⟨ret_val (int_val ?_), rfl⟩; unfold cutT; simp_all)

theorem rtruth_any (b : Bool) (w : World) :
    Calls Try.prog 36 #[.bool b] w fun e w' => e = .returned (.int .i64 (flg b)) ∧ w = w' := by
  cases b <;> (go_enter Try.func36, Try.ntmps36; go_wp2; go_ret; exact ⟨rfl, rfl⟩)

theorem radd_any (n m : Nat) (hn : n < 4294967296) (hm : m < 4294967296) (w : World) :
    Calls Try.prog 50 #[.int .i64 n, .int .i64 m] w fun e w' => e = .returned (.int .i64 (cnO (floatBits .add .f32 n m))) ∧ Grown w w' := by
  have hm1 : ((n : Int) % 4294967296).toNat = n := by omega
  have hm2 : ((m : Int) % 4294967296).toNat = m := by omega
  go_enter Try.func50, Try.ntmps50
  go_wp2_with (first | (go_at_call 31; refine (rf_any _ _).mono ?_; rintro e w' ⟨rfl, rfl⟩) | (go_at_call 41; refine (rbits_any _ (ar_lt _ _ _ _) _).mono ?_; rintro e w' ⟨rfl, rfl⟩))
  go_ret
  exact ⟨ret_val (int_val (canon_ar' _ _ _ _)), grown_arW (Grown.refl _) _ _ _ _⟩
theorem rsub_any (n m : Nat) (hn : n < 4294967296) (hm : m < 4294967296) (w : World) :
    Calls Try.prog 53 #[.int .i64 n, .int .i64 m] w fun e w' => e = .returned (.int .i64 (cnO (floatBits .sub .f32 n m))) ∧ Grown w w' := by
  have hm1 : ((n : Int) % 4294967296).toNat = n := by omega
  have hm2 : ((m : Int) % 4294967296).toNat = m := by omega
  go_enter Try.func53, Try.ntmps53
  go_wp2_with (first | (go_at_call 31; refine (rf_any _ _).mono ?_; rintro e w' ⟨rfl, rfl⟩) | (go_at_call 41; refine (rbits_any _ (ar_lt _ _ _ _) _).mono ?_; rintro e w' ⟨rfl, rfl⟩))
  go_ret
  exact ⟨ret_val (int_val (canon_ar' _ _ _ _)), grown_arW (Grown.refl _) _ _ _ _⟩
theorem rdiv_any (n m : Nat) (hn : n < 4294967296) (hm : m < 4294967296) (w : World) :
    Calls Try.prog 49 #[.int .i64 n, .int .i64 m] w fun e w' => e = .returned (.int .i64 (cnO (floatBits .quo .f32 n m))) ∧ Grown w w' := by
  have hm1 : ((n : Int) % 4294967296).toNat = n := by omega
  have hm2 : ((m : Int) % 4294967296).toNat = m := by omega
  go_enter Try.func49, Try.ntmps49
  go_wp2_with (first | (go_at_call 31; refine (rf_any _ _).mono ?_; rintro e w' ⟨rfl, rfl⟩) | (go_at_call 41; refine (rbits_any _ (ar_lt _ _ _ _) _).mono ?_; rintro e w' ⟨rfl, rfl⟩))
  go_ret
  exact ⟨ret_val (int_val (canon_ar' _ _ _ _)), grown_arW (Grown.refl _) _ _ _ _⟩

theorem okF_ref (x : Int) : okF x = (decide (0 ≤ x) && decide (x < 4294967296) && (!isNaN single (x % 4294967296).toNat || x == 2143289344)) := by
  unfold okF isN
  by_cases h : 0 ≤ x ∧ x < 4294967296
  · have e : (x % 4294967296).toNat = x.toNat := by omega
    rw [e]; simp [h.1, h.2]
  · rw [show decide (0 ≤ x ∧ x < 4294967296) = false by simpa using h]
    rcases (by omega : ¬ 0 ≤ x ∨ ¬ x < 4294967296) with g | g <;> simp [g]

attribute [local irreducible] isNaN sv mg

set_option maxHeartbeats 400000 in
theorem rcheck_any (t x : Int) (w : World) :
    Calls Try.prog 17 #[.int .i64 t, .int .i64 x] w fun e w' => e = .returned (.bool (chk t x)) ∧ w = w' := by
  have hr := okF_ref x
  have HR := Lib.hid hr
  clear hr
  go_enter Try.func17, Try.ntmps17
  go_wp2_with (go_at_call 31; refine (rf_any _ _).mono ?_; rintro e w' ⟨rfl, rfl⟩)
  all_goals (go_ret; go_light; refine ⟨ret_val (bool_val ?_), rfl⟩)
  all_goals (have hr := HR.out; clear HR; (try simp only [ord_refl_iff, Bool.beq_eq_decide_eq] at *); unfold chk; grind)

end Go.Proofs.Ytepmacimknblpaa
