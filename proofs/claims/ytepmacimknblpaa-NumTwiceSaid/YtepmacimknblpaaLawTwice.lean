/- For every input mandrellaw02.NumTwice returns true, and the input reads as it did. No condition. -/
import Derived.Test.YtepmacimknblpaaNumRow
import Derived.Test.YtepmacimknblpaaNumV
import Derived.Test.YtepmacimknblpaaNumO
set_option linter.unusedVariables false
namespace Go.Proofs.Ytepmacimknblpaa
namespace numTwice
open Go.ChangeShapes Go.WideShapes Go.ChangeAt Go.RowKit Ieee Fl

set_option maxHeartbeats 1000000 in
theorem walk_err (n : Int) (t : Int) (x : Int) (L : List UInt8) (a : Int) (e : Int) (f : Int) (h0 : (e != 0) = true)
    (C0 : Hid (∀ w, Calls Try.prog 23 #[.int .i64 n] w fun res w' => res = .returned (.string ⟨(L).toArray⟩) ∧ Grown w w'))
    (C1 : Hid (∀ w, Calls Try.prog 14 #[.string ⟨(L).toArray⟩, .int .i64 t, .int .i64 x] w fun res w' => res = .returned (.tuple #[.int .i64 a, .int .i64 e]) ∧ Grown w w'))
    (w : World) : Calls Try.prog 9 #[.int .i64 n, .int .i64 t, .int .i64 x] w fun e w' => e = .returned (.bool true) ∧ Grown w w' := by
  go_enter Try.func9, Try.ntmps9
  go_wp2_with fail
  refine (C0.out _).mono ?_
  rintro e w1 ⟨rfl, g1⟩
  go_wp2_with fail
  refine (C1.out _).mono ?_
  rintro e w2 ⟨rfl, g2⟩
  go_wp2_with (go_at_call 18; refine (live_any _).mono ?_; rintro e wL ⟨rfl, gL⟩)
  all_goals (go_ret; exact ⟨rfl, grown_trans g1 (grown_trans g2 (gL))⟩)

set_option maxHeartbeats 1000000 in
theorem walk_Identity (n : Int) (t : Int) (x : Int) (a : Int) 
    (C0 : Hid (∀ w, Calls Try.prog 23 #[.int .i64 n] w fun res w' => res = .returned (.string ⟨#[73, 100, 101, 110, 116, 105, 116, 121]⟩) ∧ Grown w w'))
    (C1 : Hid (∀ w, Calls Try.prog 14 #[.string ⟨#[73, 100, 101, 110, 116, 105, 116, 121]⟩, .int .i64 t, .int .i64 x] w fun res w' => res = .returned (.tuple #[.int .i64 a, .int .i64 (0)]) ∧ Grown w w'))
    (C2 : Hid (∀ w, Calls Try.prog 14 #[.string ⟨#[73, 100, 101, 110, 116, 105, 116, 121]⟩, .int .i64 t, .int .i64 a] w fun res w' => res = .returned (.tuple #[.int .i64 (x), .int .i64 (0)]) ∧ Grown w w'))
    (w : World) : Calls Try.prog 9 #[.int .i64 n, .int .i64 t, .int .i64 x] w fun e w' => e = .returned (.bool true) ∧ Grown w w' := by
  go_enter Try.func9, Try.ntmps9
  go_wp2_with fail
  refine (C0.out _).mono ?_
  rintro e w1 ⟨rfl, g1⟩
  go_wp2_with fail
  refine (C1.out _).mono ?_
  rintro e w2 ⟨rfl, g2⟩
  go_wp2_with fail
  refine (C2.out _).mono ?_
  rintro e w3 ⟨rfl, g3⟩
  go_wp2_with (go_at_call 18; refine (live_any _).mono ?_; rintro e wL ⟨rfl, gL⟩)
  all_goals (go_ret; exact ⟨rfl, grown_trans g1 (grown_trans g2 (grown_trans g3 (gL)))⟩)

set_option maxHeartbeats 1000000 in
theorem walk_Neg (n : Int) (t : Int) (x : Int) (a : Int) 
    (C0 : Hid (∀ w, Calls Try.prog 23 #[.int .i64 n] w fun res w' => res = .returned (.string ⟨#[78, 101, 103]⟩) ∧ Grown w w'))
    (C1 : Hid (∀ w, Calls Try.prog 14 #[.string ⟨#[78, 101, 103]⟩, .int .i64 t, .int .i64 x] w fun res w' => res = .returned (.tuple #[.int .i64 a, .int .i64 (0)]) ∧ Grown w w'))
    (C2 : Hid (∀ w, Calls Try.prog 14 #[.string ⟨#[78, 101, 103]⟩, .int .i64 t, .int .i64 a] w fun res w' => res = .returned (.tuple #[.int .i64 (x), .int .i64 (0)]) ∧ Grown w w'))
    (w : World) : Calls Try.prog 9 #[.int .i64 n, .int .i64 t, .int .i64 x] w fun e w' => e = .returned (.bool true) ∧ Grown w w' := by
  go_enter Try.func9, Try.ntmps9
  go_wp2_with fail
  refine (C0.out _).mono ?_
  rintro e w1 ⟨rfl, g1⟩
  go_wp2_with fail
  refine (C1.out _).mono ?_
  rintro e w2 ⟨rfl, g2⟩
  go_wp2_with fail
  refine (C2.out _).mono ?_
  rintro e w3 ⟨rfl, g3⟩
  go_wp2_with (go_at_call 18; refine (live_any _).mono ?_; rintro e wL ⟨rfl, gL⟩)
  all_goals (go_ret; exact ⟨rfl, grown_trans g1 (grown_trans g2 (grown_trans g3 (gL)))⟩)

set_option maxHeartbeats 1000000 in
theorem walk_Abs (n : Int) (t : Int) (x : Int) (a : Int) 
    (C0 : Hid (∀ w, Calls Try.prog 23 #[.int .i64 n] w fun res w' => res = .returned (.string ⟨#[65, 98, 115]⟩) ∧ Grown w w'))
    (C1 : Hid (∀ w, Calls Try.prog 14 #[.string ⟨#[65, 98, 115]⟩, .int .i64 t, .int .i64 x] w fun res w' => res = .returned (.tuple #[.int .i64 a, .int .i64 (0)]) ∧ Grown w w'))
    (C2 : Hid (∀ w, Calls Try.prog 14 #[.string ⟨#[65, 98, 115]⟩, .int .i64 t, .int .i64 a] w fun res w' => res = .returned (.tuple #[.int .i64 (a), .int .i64 (0)]) ∧ Grown w w'))
    (w : World) : Calls Try.prog 9 #[.int .i64 n, .int .i64 t, .int .i64 x] w fun e w' => e = .returned (.bool true) ∧ Grown w w' := by
  go_enter Try.func9, Try.ntmps9
  go_wp2_with fail
  refine (C0.out _).mono ?_
  rintro e w1 ⟨rfl, g1⟩
  go_wp2_with fail
  refine (C1.out _).mono ?_
  rintro e w2 ⟨rfl, g2⟩
  go_wp2_with fail
  refine (C2.out _).mono ?_
  rintro e w3 ⟨rfl, g3⟩
  go_wp2_with (go_at_call 18; refine (live_any _).mono ?_; rintro e wL ⟨rfl, gL⟩)
  all_goals (go_ret; exact ⟨rfl, grown_trans g1 (grown_trans g2 (grown_trans g3 (gL)))⟩)

set_option maxHeartbeats 1000000 in
theorem walk_Not (n : Int) (t : Int) (x : Int) (a : Int) 
    (C0 : Hid (∀ w, Calls Try.prog 23 #[.int .i64 n] w fun res w' => res = .returned (.string ⟨#[78, 111, 116]⟩) ∧ Grown w w'))
    (C1 : Hid (∀ w, Calls Try.prog 14 #[.string ⟨#[78, 111, 116]⟩, .int .i64 t, .int .i64 x] w fun res w' => res = .returned (.tuple #[.int .i64 a, .int .i64 (0)]) ∧ Grown w w'))
    (C2 : Hid (∀ w, Calls Try.prog 14 #[.string ⟨#[78, 111, 116]⟩, .int .i64 t, .int .i64 a] w fun res w' => res = .returned (.tuple #[.int .i64 (x), .int .i64 (0)]) ∧ Grown w w'))
    (w : World) : Calls Try.prog 9 #[.int .i64 n, .int .i64 t, .int .i64 x] w fun e w' => e = .returned (.bool true) ∧ Grown w w' := by
  go_enter Try.func9, Try.ntmps9
  go_wp2_with fail
  refine (C0.out _).mono ?_
  rintro e w1 ⟨rfl, g1⟩
  go_wp2_with fail
  refine (C1.out _).mono ?_
  rintro e w2 ⟨rfl, g2⟩
  go_wp2_with fail
  refine (C2.out _).mono ?_
  rintro e w3 ⟨rfl, g3⟩
  go_wp2_with (go_at_call 18; refine (live_any _).mono ?_; rintro e wL ⟨rfl, gL⟩)
  all_goals (go_ret; exact ⟨rfl, grown_trans g1 (grown_trans g2 (grown_trans g3 (gL)))⟩)

set_option maxHeartbeats 1000000 in
theorem walk_Relu (n : Int) (t : Int) (x : Int) (a : Int) 
    (C0 : Hid (∀ w, Calls Try.prog 23 #[.int .i64 n] w fun res w' => res = .returned (.string ⟨#[82, 101, 108, 117]⟩) ∧ Grown w w'))
    (C1 : Hid (∀ w, Calls Try.prog 14 #[.string ⟨#[82, 101, 108, 117]⟩, .int .i64 t, .int .i64 x] w fun res w' => res = .returned (.tuple #[.int .i64 a, .int .i64 (0)]) ∧ Grown w w'))
    (C2 : Hid (∀ w, Calls Try.prog 14 #[.string ⟨#[82, 101, 108, 117]⟩, .int .i64 t, .int .i64 a] w fun res w' => res = .returned (.tuple #[.int .i64 (a), .int .i64 (0)]) ∧ Grown w w'))
    (w : World) : Calls Try.prog 9 #[.int .i64 n, .int .i64 t, .int .i64 x] w fun e w' => e = .returned (.bool true) ∧ Grown w w' := by
  go_enter Try.func9, Try.ntmps9
  go_wp2_with fail
  refine (C0.out _).mono ?_
  rintro e w1 ⟨rfl, g1⟩
  go_wp2_with fail
  refine (C1.out _).mono ?_
  rintro e w2 ⟨rfl, g2⟩
  go_wp2_with fail
  refine (C2.out _).mono ?_
  rintro e w3 ⟨rfl, g3⟩
  go_wp2_with (go_at_call 18; refine (live_any _).mono ?_; rintro e wL ⟨rfl, gL⟩)
  all_goals (go_ret; exact ⟨rfl, grown_trans g1 (grown_trans g2 (grown_trans g3 (gL)))⟩)

set_option maxHeartbeats 1000000 in
theorem walk_Sqrt (n : Int) (t : Int) (x : Int) (a : Int) (b : Int) 
    (C0 : Hid (∀ w, Calls Try.prog 23 #[.int .i64 n] w fun res w' => res = .returned (.string ⟨#[83, 113, 114, 116]⟩) ∧ Grown w w'))
    (C1 : Hid (∀ w, Calls Try.prog 14 #[.string ⟨#[83, 113, 114, 116]⟩, .int .i64 t, .int .i64 x] w fun res w' => res = .returned (.tuple #[.int .i64 a, .int .i64 (0)]) ∧ Grown w w'))
    (C2 : Hid (∀ w, Calls Try.prog 14 #[.string ⟨#[83, 113, 114, 116]⟩, .int .i64 t, .int .i64 a] w fun res w' => res = .returned (.tuple #[.int .i64 b, .int .i64 (0)]) ∧ Grown w w'))
    (w : World) : Calls Try.prog 9 #[.int .i64 n, .int .i64 t, .int .i64 x] w fun e w' => e = .returned (.bool true) ∧ Grown w w' := by
  go_enter Try.func9, Try.ntmps9
  go_wp2_with fail
  refine (C0.out _).mono ?_
  rintro e w1 ⟨rfl, g1⟩
  go_wp2_with fail
  refine (C1.out _).mono ?_
  rintro e w2 ⟨rfl, g2⟩
  go_wp2_with fail
  refine (C2.out _).mono ?_
  rintro e w3 ⟨rfl, g3⟩
  go_wp2_with (go_at_call 18; refine (live_any _).mono ?_; rintro e wL ⟨rfl, gL⟩)
  all_goals (go_ret; exact ⟨rfl, grown_trans g1 (grown_trans g2 (grown_trans g3 (gL)))⟩)

set_option maxHeartbeats 1000000 in
theorem walk_Floor (n : Int) (t : Int) (x : Int) (a : Int) 
    (C0 : Hid (∀ w, Calls Try.prog 23 #[.int .i64 n] w fun res w' => res = .returned (.string ⟨#[70, 108, 111, 111, 114]⟩) ∧ Grown w w'))
    (C1 : Hid (∀ w, Calls Try.prog 14 #[.string ⟨#[70, 108, 111, 111, 114]⟩, .int .i64 t, .int .i64 x] w fun res w' => res = .returned (.tuple #[.int .i64 a, .int .i64 (0)]) ∧ Grown w w'))
    (C2 : Hid (∀ w, Calls Try.prog 14 #[.string ⟨#[70, 108, 111, 111, 114]⟩, .int .i64 t, .int .i64 a] w fun res w' => res = .returned (.tuple #[.int .i64 (a), .int .i64 (0)]) ∧ Grown w w'))
    (w : World) : Calls Try.prog 9 #[.int .i64 n, .int .i64 t, .int .i64 x] w fun e w' => e = .returned (.bool true) ∧ Grown w w' := by
  go_enter Try.func9, Try.ntmps9
  go_wp2_with fail
  refine (C0.out _).mono ?_
  rintro e w1 ⟨rfl, g1⟩
  go_wp2_with fail
  refine (C1.out _).mono ?_
  rintro e w2 ⟨rfl, g2⟩
  go_wp2_with fail
  refine (C2.out _).mono ?_
  rintro e w3 ⟨rfl, g3⟩
  go_wp2_with (go_at_call 18; refine (live_any _).mono ?_; rintro e wL ⟨rfl, gL⟩)
  all_goals (go_ret; exact ⟨rfl, grown_trans g1 (grown_trans g2 (grown_trans g3 (gL)))⟩)

set_option maxHeartbeats 1000000 in
theorem walk_Exp (n : Int) (t : Int) (x : Int) (a : Int) (b : Int) 
    (C0 : Hid (∀ w, Calls Try.prog 23 #[.int .i64 n] w fun res w' => res = .returned (.string ⟨#[69, 120, 112]⟩) ∧ Grown w w'))
    (C1 : Hid (∀ w, Calls Try.prog 14 #[.string ⟨#[69, 120, 112]⟩, .int .i64 t, .int .i64 x] w fun res w' => res = .returned (.tuple #[.int .i64 a, .int .i64 (0)]) ∧ Grown w w'))
    (C2 : Hid (∀ w, Calls Try.prog 14 #[.string ⟨#[69, 120, 112]⟩, .int .i64 t, .int .i64 a] w fun res w' => res = .returned (.tuple #[.int .i64 b, .int .i64 (0)]) ∧ Grown w w'))
    (w : World) : Calls Try.prog 9 #[.int .i64 n, .int .i64 t, .int .i64 x] w fun e w' => e = .returned (.bool true) ∧ Grown w w' := by
  go_enter Try.func9, Try.ntmps9
  go_wp2_with fail
  refine (C0.out _).mono ?_
  rintro e w1 ⟨rfl, g1⟩
  go_wp2_with fail
  refine (C1.out _).mono ?_
  rintro e w2 ⟨rfl, g2⟩
  go_wp2_with fail
  refine (C2.out _).mono ?_
  rintro e w3 ⟨rfl, g3⟩
  go_wp2_with (go_at_call 18; refine (live_any _).mono ?_; rintro e wL ⟨rfl, gL⟩)
  all_goals (go_ret; exact ⟨rfl, grown_trans g1 (grown_trans g2 (grown_trans g3 (gL)))⟩)

set_option maxHeartbeats 1000000 in
theorem walk_Sigmoid (n : Int) (t : Int) (x : Int) (a : Int) (b : Int) 
    (C0 : Hid (∀ w, Calls Try.prog 23 #[.int .i64 n] w fun res w' => res = .returned (.string ⟨#[83, 105, 103, 109, 111, 105, 100]⟩) ∧ Grown w w'))
    (C1 : Hid (∀ w, Calls Try.prog 14 #[.string ⟨#[83, 105, 103, 109, 111, 105, 100]⟩, .int .i64 t, .int .i64 x] w fun res w' => res = .returned (.tuple #[.int .i64 a, .int .i64 (0)]) ∧ Grown w w'))
    (C2 : Hid (∀ w, Calls Try.prog 14 #[.string ⟨#[83, 105, 103, 109, 111, 105, 100]⟩, .int .i64 t, .int .i64 a] w fun res w' => res = .returned (.tuple #[.int .i64 b, .int .i64 (0)]) ∧ Grown w w'))
    (w : World) : Calls Try.prog 9 #[.int .i64 n, .int .i64 t, .int .i64 x] w fun e w' => e = .returned (.bool true) ∧ Grown w w' := by
  go_enter Try.func9, Try.ntmps9
  go_wp2_with fail
  refine (C0.out _).mono ?_
  rintro e w1 ⟨rfl, g1⟩
  go_wp2_with fail
  refine (C1.out _).mono ?_
  rintro e w2 ⟨rfl, g2⟩
  go_wp2_with fail
  refine (C2.out _).mono ?_
  rintro e w3 ⟨rfl, g3⟩
  go_wp2_with (go_at_call 18; refine (live_any _).mono ?_; rintro e wL ⟨rfl, gL⟩)
  all_goals (go_ret; exact ⟨rfl, grown_trans g1 (grown_trans g2 (grown_trans g3 (gL)))⟩)

set_option maxHeartbeats 1000000 in
theorem walk_Tanh (n : Int) (t : Int) (x : Int) (a : Int) (b : Int) 
    (C0 : Hid (∀ w, Calls Try.prog 23 #[.int .i64 n] w fun res w' => res = .returned (.string ⟨#[84, 97, 110, 104]⟩) ∧ Grown w w'))
    (C1 : Hid (∀ w, Calls Try.prog 14 #[.string ⟨#[84, 97, 110, 104]⟩, .int .i64 t, .int .i64 x] w fun res w' => res = .returned (.tuple #[.int .i64 a, .int .i64 (0)]) ∧ Grown w w'))
    (C2 : Hid (∀ w, Calls Try.prog 14 #[.string ⟨#[84, 97, 110, 104]⟩, .int .i64 t, .int .i64 a] w fun res w' => res = .returned (.tuple #[.int .i64 b, .int .i64 (0)]) ∧ Grown w w'))
    (w : World) : Calls Try.prog 9 #[.int .i64 n, .int .i64 t, .int .i64 x] w fun e w' => e = .returned (.bool true) ∧ Grown w w' := by
  go_enter Try.func9, Try.ntmps9
  go_wp2_with fail
  refine (C0.out _).mono ?_
  rintro e w1 ⟨rfl, g1⟩
  go_wp2_with fail
  refine (C1.out _).mono ?_
  rintro e w2 ⟨rfl, g2⟩
  go_wp2_with fail
  refine (C2.out _).mono ?_
  rintro e w3 ⟨rfl, g3⟩
  go_wp2_with (go_at_call 18; refine (live_any _).mono ?_; rintro e wL ⟨rfl, gL⟩)
  all_goals (go_ret; exact ⟨rfl, grown_trans g1 (grown_trans g2 (grown_trans g3 (gL)))⟩)

attribute [local irreducible] chk bin un cst

theorem ops1_in (n : Int) : ops1F n = [73, 100, 101, 110, 116, 105, 116, 121] ∨ ops1F n = [78, 101, 103] ∨ ops1F n = [65, 98, 115] ∨ ops1F n = [78, 111, 116] ∨ ops1F n = [82, 101, 108, 117] ∨ ops1F n = [83, 113, 114, 116] ∨ ops1F n = [70, 108, 111, 111, 114] ∨ ops1F n = [69, 120, 112] ∨ ops1F n = [83, 105, 103, 109, 111, 105, 100] ∨ ops1F n = [84, 97, 110, 104] := by
  unfold ops1F
  have h : placeOf n 10 < 10 := by unfold placeOf; split <;> omega
  generalize placeOf n 10 = k at *
  rcases (by omega : k = 0 ∨ k = 1 ∨ k = 2 ∨ k = 3 ∨ k = 4 ∨ k = 5 ∨ k = 6 ∨ k = 7 ∨ k = 8 ∨ k = 9) with rfl | rfl | rfl | rfl | rfl | rfl | rfl | rfl | rfl | rfl <;> simp [ops1L]

theorem walk (n t x : Int) (wn : (Lit.int .i64 n).wf = true) (w0 : (Lit.int .i64 t).wf = true) (w1 : (Lit.int .i64 x).wf = true) (w : World) :
    Calls Try.prog 9 #[.int .i64 n, .int .i64 t, .int .i64 x] w fun e w' => e = .returned (.bool true) ∧ Grown w w' := by
  obtain ⟨n0, n1⟩ := i64_of_wf wn
  obtain ⟨x0, x1⟩ := i64_of_wf w1
  have C0 := ops1_any n n0 n1
  have C1 := unary_l (ops1F n) t x x0 x1
  obtain ⟨b0, b1⟩ := un_range (ops1F n) t x x0 x1
  have C2 := unary_l (ops1F n) t (un (ops1F n) t x).1 b0 b1
  have hs := ops1_in n
  have ha := un_again (ops1F n) t x
  generalize ops1F n = L at *
  by_cases h0 : (un L t x).2 = 0
  · have h1 := ha h0
    rcases hs with rfl | rfl | rfl | rfl | rfl | rfl | rfl | rfl | rfl | rfl
    · have h2 := id_id_law h0
      rw [h1, h2] at C2
      rw [h0] at C1
      exact walk_Identity n t x _ C0 C1 C2 w
    · have h2 := neg_neg_law x0 x1 h0
      rw [h1, h2] at C2
      rw [h0] at C1
      exact walk_Neg n t x _ C0 C1 C2 w
    · have h2 := abs_abs_law x0 x1 h0
      rw [h1, h2] at C2
      rw [h0] at C1
      exact walk_Abs n t x _ C0 C1 C2 w
    · have h2 := not_not_law h0
      rw [h1, h2] at C2
      rw [h0] at C1
      exact walk_Not n t x _ C0 C1 C2 w
    · have h2 := relu_relu_law h0
      rw [h1, h2] at C2
      rw [h0] at C1
      exact walk_Relu n t x _ C0 C1 C2 w
    · skip
      rw [h1] at C2
      rw [h0] at C1
      exact walk_Sqrt n t x _ _ C0 C1 C2 w
    · have h2 := floor_floor_law h0
      rw [h1, h2] at C2
      rw [h0] at C1
      exact walk_Floor n t x _ C0 C1 C2 w
    · skip
      rw [h1] at C2
      rw [h0] at C1
      exact walk_Exp n t x _ _ C0 C1 C2 w
    · skip
      rw [h1] at C2
      rw [h0] at C1
      exact walk_Sigmoid n t x _ _ C0 C1 C2 w
    · skip
      rw [h1] at C2
      rw [h0] at C1
      exact walk_Tanh n t x _ _ C0 C1 C2 w
  · exact walk_err n t x L _ _ 0 (by simpa using h0) C0 C1 w

set_option linter.unusedVariables false
set_option maxRecDepth 100000 in
set_option maxHeartbeats 400000 in
theorem lifted (os : Os) (started : os.Started) (H : Type) (enc : TypeId × Value → H) :
    ReturnsInHanded {} Try.checked os 9 .any (Rows.numTwiceSpec.pre6 enc Try.prog Try.f9 Rows.numTwiceRow.domain false) (Rows.numTwiceSpec.post enc Try.prog Try.f9 false true false false) := by
  refine returnsInHanded_of_change (C := Try.checked) own started (by kernel_rfl) Try.func9
    (ChangeSpec.witness6 (enc := enc) (C := Try.checked) false ⟨#[], #[.int .i64 0, .int .i64 0, .int .i64 0], []⟩ 8 (by kernel_rfl) (by kernel_rfl) (by kernel_rfl) (by kernel_rfl)) ?_
  intro W base args ds gs before hval0 hW hcnd _
  have hval : ∀ (j : Nat) t v, Try.f9.params[j]? = some t → args[j]? = some v → Value.okWide Try.prog W .any base t v := hval0
  have hW' := hW
  obtain ⟨p, q, hA0, hV, rfl, hfz, hnd⟩ := hW
  have hA : DataW.TrodAll enc Try.prog W 0 (fun _ => true) true Try.f9.params.toList args.toList ds p := hA0
  rw [Try.params9] at hA hval
  obtain ⟨v0, vs0, d0, ds0, p0, q0, hargs, rfl, rfl, h0, r0⟩ := trodAll_cons hA
  obtain ⟨v1, vs1, d1, ds1, p1, q1, rfl, rfl, rfl, h1, r1⟩ := trodAll_cons r0
  obtain ⟨v2, vs2, d2, ds2, p2, q2, rfl, rfl, rfl, h2, r2⟩ := trodAll_cons r1
  obtain ⟨rfl, rfl, rfl⟩ := trodAll_nil r2
  obtain rfl : args = #[v0, v1, v2] := by cases args; simp_all
  obtain ⟨rfl, rfl⟩ := trodVars_none hV
  obtain ⟨a0, rfl, rfl, rfl, w0⟩ := open_int Try.underlying3 (hval 0 3 v0 rfl rfl) h0
  obtain ⟨a1, rfl, rfl, rfl, w1⟩ := open_int Try.underlying3 (hval 1 3 v1 rfl rfl) h1
  obtain ⟨a2, rfl, rfl, rfl, w2⟩ := open_int Try.underlying2 (hval 2 2 v2 rfl rfl) h2
  clear hA0 hval0
  simp only [List.append_nil] at hW'
  refine (walk a0 a1 a2 w0 w1 w2 W).mono fun e W' ⟨he, hg⟩ => ?_
  subst he
  exact ⟨_, rfl, post_of_same (pa := []) (pv := []) hW' (fun _ _ _ => (trodAll_cons_mk (shut_bool Try.underlying4 _) trodAll_mk0)) (fun sp _ => (trodAll_cons_mk (shut_int Try.underlying3 w0) (trodAll_cons_mk (shut_int Try.underlying3 w1) (trodAll_cons_mk (shut_int Try.underlying2 w2) trodAll_mk0)))) (fun _ _ => rfl) rfl
    (hg.frame _) hg.2.1 (ok_one (by kernel_rfl) rfl (okWide_bool_mk Try.underlying4 _))⟩

theorem over : Rows.numTwiceRow.holds Try.pinned (OpenSpec.ofChange Rows.numTwiceSpec) :=
  OpenClaim.holds_of_wide 9 Try.f9 rfl rfl rfl rfl rfl rfl rfl ⟨rfl, rfl, rfl, rfl, rfl⟩ rfl rfl rfl rfl rfl (by kernel_rfl) Try.func9 (by kernel_rfl)
    (of_decide_eq_true (by kernel_rfl)) (by unfold Func.isWrapper; first | (rw [if_pos (by decide +kernel)]; kernel_rfl) | (rw [if_neg (by decide +kernel)]; exact ⟨rfl, rfl⟩))
    (fun os started H enc _ => lifted os started H enc)

/-- The statement. -/
theorem proved : Rows.NumTwiceSaid :=
  over
#print axioms proved

end numTwice
end Go.Proofs.Ytepmacimknblpaa
