/- For every input mandrellaw02.NumLess returns true, and the input reads as it did. No condition. -/
import Derived.Test.YtepmacimknblpaaNumRow
import Derived.Test.YtepmacimknblpaaNumV
set_option linter.unusedVariables false
namespace Go.Proofs.Ytepmacimknblpaa
namespace numLess
open Go.ChangeShapes Go.WideShapes Go.ChangeAt Go.RowKit Ieee Fl

theorem p1 (w : World) (x : Value) (c : Value) (n : Nat) : (w.alloc (.cells #[x, c] n)).cell? ⟨w.heap.size, 0, none⟩ = some x := by simp
theorem p2 (w : World) (x : Value) (c : Value) (n : Nat) : (w.alloc (.cells #[x, c] n)).cell? ⟨w.heap.size, 1, none⟩ = some c := by simp

set_option maxHeartbeats 1000000 in
theorem walk_err (t : Int) (x : Int) (y : Int) (a : Int) (e : Int) (b : Int) (c : Int) (g : Int) (d : Int) (h0 : (e != 0) = true)
    (C0 : Hid (∀ w, Calls Try.prog 19 #[.string ⟨#[76, 101, 115, 115]⟩, .int .i64 t, .int .i64 x, .int .i64 y] w fun res w' => res = .returned (.tuple #[.int .i64 a, .int .i64 e]) ∧ Grown w w'))
    (C1 : Hid (∀ w, Calls Try.prog 19 #[.string ⟨#[71, 114, 101, 97, 116, 101, 114]⟩, .int .i64 t, .int .i64 x, .int .i64 y] w fun res w' => res = .returned (.tuple #[.int .i64 b, .int .i64 e]) ∧ Grown w w'))
    (C2 : Hid (∀ w, Calls Try.prog 19 #[.string ⟨#[69, 113, 117, 97, 108]⟩, .int .i64 t, .int .i64 x, .int .i64 y] w fun res w' => res = .returned (.tuple #[.int .i64 c, .int .i64 g]) ∧ Grown w w'))
    (C3 : Hid (∀ w, Calls Try.prog 19 #[.string ⟨#[76, 101, 115, 115]⟩, .int .i64 t, .int .i64 y, .int .i64 x] w fun res w' => res = .returned (.tuple #[.int .i64 d, .int .i64 e]) ∧ Grown w w'))
    (w : World) : Calls Try.prog 8 #[.int .i64 t, .agg #[.int .i64 x, .int .i64 y]] w fun e w' => e = .returned (.bool true) ∧ Grown w w' := by
  go_enter Try.func8, Try.ntmps8
  go_wp2_with fail
  refine (C0.out _).mono ?_
  rintro e w1 ⟨rfl, g1⟩
  have k1 := grown_old (a := ⟨w.heap.size, 0, none⟩) g1 (by simp) (p1 _ _ _ _)
  have k2 := grown_old (a := ⟨w.heap.size, 1, none⟩) g1 (by simp) (p2 _ _ _ _)
  have z1 : w.heap.size < w1.heap.size := by have := g1.2.2; simp at this; omega
  go_wp2_with fail
  refine (C1.out _).mono ?_
  rintro e w2 ⟨rfl, g2⟩
  have k1 := grown_old g2 z1 k1
  have k2 := grown_old g2 z1 k2
  have z2 : w.heap.size < w2.heap.size := Nat.lt_of_lt_of_le z1 g2.2.2
  go_wp2_with fail
  refine (C2.out _).mono ?_
  rintro e w3 ⟨rfl, g3⟩
  have k1 := grown_old g3 z2 k1
  have k2 := grown_old g3 z2 k2
  have z3 : w.heap.size < w3.heap.size := Nat.lt_of_lt_of_le z2 g3.2.2
  go_wp2_with fail
  refine (C3.out _).mono ?_
  rintro e w4 ⟨rfl, g4⟩
  have k1 := grown_old g4 z3 k1
  have k2 := grown_old g4 z3 k2
  have z4 : w.heap.size < w4.heap.size := Nat.lt_of_lt_of_le z3 g4.2.2
  go_wp2_with (go_at_call 18; refine (live_any _).mono ?_; rintro e wL ⟨rfl, gL⟩)
  all_goals (go_ret; exact ⟨rfl, grown_trans ((Grown.refl w).alloc _ _) (grown_trans g1 (grown_trans g2 (grown_trans g3 (grown_trans g4 (gL)))))⟩)

set_option maxHeartbeats 1000000 in
theorem walk_a (t : Int) (x : Int) (y : Int) 
    (C0 : Hid (∀ w, Calls Try.prog 19 #[.string ⟨#[76, 101, 115, 115]⟩, .int .i64 t, .int .i64 x, .int .i64 y] w fun res w' => res = .returned (.tuple #[.int .i64 (1), .int .i64 (0)]) ∧ Grown w w'))
    (C1 : Hid (∀ w, Calls Try.prog 19 #[.string ⟨#[71, 114, 101, 97, 116, 101, 114]⟩, .int .i64 t, .int .i64 x, .int .i64 y] w fun res w' => res = .returned (.tuple #[.int .i64 (0), .int .i64 (0)]) ∧ Grown w w'))
    (C2 : Hid (∀ w, Calls Try.prog 19 #[.string ⟨#[69, 113, 117, 97, 108]⟩, .int .i64 t, .int .i64 x, .int .i64 y] w fun res w' => res = .returned (.tuple #[.int .i64 (0), .int .i64 (0)]) ∧ Grown w w'))
    (C3 : Hid (∀ w, Calls Try.prog 19 #[.string ⟨#[76, 101, 115, 115]⟩, .int .i64 t, .int .i64 y, .int .i64 x] w fun res w' => res = .returned (.tuple #[.int .i64 (0), .int .i64 (0)]) ∧ Grown w w'))
    (w : World) : Calls Try.prog 8 #[.int .i64 t, .agg #[.int .i64 x, .int .i64 y]] w fun e w' => e = .returned (.bool true) ∧ Grown w w' := by
  go_enter Try.func8, Try.ntmps8
  go_wp2_with fail
  refine (C0.out _).mono ?_
  rintro e w1 ⟨rfl, g1⟩
  have k1 := grown_old (a := ⟨w.heap.size, 0, none⟩) g1 (by simp) (p1 _ _ _ _)
  have k2 := grown_old (a := ⟨w.heap.size, 1, none⟩) g1 (by simp) (p2 _ _ _ _)
  have z1 : w.heap.size < w1.heap.size := by have := g1.2.2; simp at this; omega
  go_wp2_with fail
  refine (C1.out _).mono ?_
  rintro e w2 ⟨rfl, g2⟩
  have k1 := grown_old g2 z1 k1
  have k2 := grown_old g2 z1 k2
  have z2 : w.heap.size < w2.heap.size := Nat.lt_of_lt_of_le z1 g2.2.2
  go_wp2_with fail
  refine (C2.out _).mono ?_
  rintro e w3 ⟨rfl, g3⟩
  have k1 := grown_old g3 z2 k1
  have k2 := grown_old g3 z2 k2
  have z3 : w.heap.size < w3.heap.size := Nat.lt_of_lt_of_le z2 g3.2.2
  go_wp2_with fail
  refine (C3.out _).mono ?_
  rintro e w4 ⟨rfl, g4⟩
  have k1 := grown_old g4 z3 k1
  have k2 := grown_old g4 z3 k2
  have z4 : w.heap.size < w4.heap.size := Nat.lt_of_lt_of_le z3 g4.2.2
  go_wp2_with (go_at_call 18; refine (live_any _).mono ?_; rintro e wL ⟨rfl, gL⟩)
  all_goals (go_ret; exact ⟨rfl, grown_trans ((Grown.refl w).alloc _ _) (grown_trans g1 (grown_trans g2 (grown_trans g3 (grown_trans g4 (gL)))))⟩)

set_option maxHeartbeats 1000000 in
theorem walk_b (t : Int) (x : Int) (y : Int) 
    (C0 : Hid (∀ w, Calls Try.prog 19 #[.string ⟨#[76, 101, 115, 115]⟩, .int .i64 t, .int .i64 x, .int .i64 y] w fun res w' => res = .returned (.tuple #[.int .i64 (0), .int .i64 (0)]) ∧ Grown w w'))
    (C1 : Hid (∀ w, Calls Try.prog 19 #[.string ⟨#[71, 114, 101, 97, 116, 101, 114]⟩, .int .i64 t, .int .i64 x, .int .i64 y] w fun res w' => res = .returned (.tuple #[.int .i64 (1), .int .i64 (0)]) ∧ Grown w w'))
    (C2 : Hid (∀ w, Calls Try.prog 19 #[.string ⟨#[69, 113, 117, 97, 108]⟩, .int .i64 t, .int .i64 x, .int .i64 y] w fun res w' => res = .returned (.tuple #[.int .i64 (0), .int .i64 (0)]) ∧ Grown w w'))
    (C3 : Hid (∀ w, Calls Try.prog 19 #[.string ⟨#[76, 101, 115, 115]⟩, .int .i64 t, .int .i64 y, .int .i64 x] w fun res w' => res = .returned (.tuple #[.int .i64 (1), .int .i64 (0)]) ∧ Grown w w'))
    (w : World) : Calls Try.prog 8 #[.int .i64 t, .agg #[.int .i64 x, .int .i64 y]] w fun e w' => e = .returned (.bool true) ∧ Grown w w' := by
  go_enter Try.func8, Try.ntmps8
  go_wp2_with fail
  refine (C0.out _).mono ?_
  rintro e w1 ⟨rfl, g1⟩
  have k1 := grown_old (a := ⟨w.heap.size, 0, none⟩) g1 (by simp) (p1 _ _ _ _)
  have k2 := grown_old (a := ⟨w.heap.size, 1, none⟩) g1 (by simp) (p2 _ _ _ _)
  have z1 : w.heap.size < w1.heap.size := by have := g1.2.2; simp at this; omega
  go_wp2_with fail
  refine (C1.out _).mono ?_
  rintro e w2 ⟨rfl, g2⟩
  have k1 := grown_old g2 z1 k1
  have k2 := grown_old g2 z1 k2
  have z2 : w.heap.size < w2.heap.size := Nat.lt_of_lt_of_le z1 g2.2.2
  go_wp2_with fail
  refine (C2.out _).mono ?_
  rintro e w3 ⟨rfl, g3⟩
  have k1 := grown_old g3 z2 k1
  have k2 := grown_old g3 z2 k2
  have z3 : w.heap.size < w3.heap.size := Nat.lt_of_lt_of_le z2 g3.2.2
  go_wp2_with fail
  refine (C3.out _).mono ?_
  rintro e w4 ⟨rfl, g4⟩
  have k1 := grown_old g4 z3 k1
  have k2 := grown_old g4 z3 k2
  have z4 : w.heap.size < w4.heap.size := Nat.lt_of_lt_of_le z3 g4.2.2
  go_wp2_with (go_at_call 18; refine (live_any _).mono ?_; rintro e wL ⟨rfl, gL⟩)
  all_goals (go_ret; exact ⟨rfl, grown_trans ((Grown.refl w).alloc _ _) (grown_trans g1 (grown_trans g2 (grown_trans g3 (grown_trans g4 (gL)))))⟩)

set_option maxHeartbeats 1000000 in
theorem walk_c (t : Int) (x : Int) (y : Int) 
    (C0 : Hid (∀ w, Calls Try.prog 19 #[.string ⟨#[76, 101, 115, 115]⟩, .int .i64 t, .int .i64 x, .int .i64 y] w fun res w' => res = .returned (.tuple #[.int .i64 (0), .int .i64 (0)]) ∧ Grown w w'))
    (C1 : Hid (∀ w, Calls Try.prog 19 #[.string ⟨#[71, 114, 101, 97, 116, 101, 114]⟩, .int .i64 t, .int .i64 x, .int .i64 y] w fun res w' => res = .returned (.tuple #[.int .i64 (0), .int .i64 (0)]) ∧ Grown w w'))
    (C2 : Hid (∀ w, Calls Try.prog 19 #[.string ⟨#[69, 113, 117, 97, 108]⟩, .int .i64 t, .int .i64 x, .int .i64 y] w fun res w' => res = .returned (.tuple #[.int .i64 (1), .int .i64 (0)]) ∧ Grown w w'))
    (C3 : Hid (∀ w, Calls Try.prog 19 #[.string ⟨#[76, 101, 115, 115]⟩, .int .i64 t, .int .i64 y, .int .i64 x] w fun res w' => res = .returned (.tuple #[.int .i64 (0), .int .i64 (0)]) ∧ Grown w w'))
    (w : World) : Calls Try.prog 8 #[.int .i64 t, .agg #[.int .i64 x, .int .i64 y]] w fun e w' => e = .returned (.bool true) ∧ Grown w w' := by
  go_enter Try.func8, Try.ntmps8
  go_wp2_with fail
  refine (C0.out _).mono ?_
  rintro e w1 ⟨rfl, g1⟩
  have k1 := grown_old (a := ⟨w.heap.size, 0, none⟩) g1 (by simp) (p1 _ _ _ _)
  have k2 := grown_old (a := ⟨w.heap.size, 1, none⟩) g1 (by simp) (p2 _ _ _ _)
  have z1 : w.heap.size < w1.heap.size := by have := g1.2.2; simp at this; omega
  go_wp2_with fail
  refine (C1.out _).mono ?_
  rintro e w2 ⟨rfl, g2⟩
  have k1 := grown_old g2 z1 k1
  have k2 := grown_old g2 z1 k2
  have z2 : w.heap.size < w2.heap.size := Nat.lt_of_lt_of_le z1 g2.2.2
  go_wp2_with fail
  refine (C2.out _).mono ?_
  rintro e w3 ⟨rfl, g3⟩
  have k1 := grown_old g3 z2 k1
  have k2 := grown_old g3 z2 k2
  have z3 : w.heap.size < w3.heap.size := Nat.lt_of_lt_of_le z2 g3.2.2
  go_wp2_with fail
  refine (C3.out _).mono ?_
  rintro e w4 ⟨rfl, g4⟩
  have k1 := grown_old g4 z3 k1
  have k2 := grown_old g4 z3 k2
  have z4 : w.heap.size < w4.heap.size := Nat.lt_of_lt_of_le z3 g4.2.2
  go_wp2_with (go_at_call 18; refine (live_any _).mono ?_; rintro e wL ⟨rfl, gL⟩)
  all_goals (go_ret; exact ⟨rfl, grown_trans ((Grown.refl w).alloc _ _) (grown_trans g1 (grown_trans g2 (grown_trans g3 (grown_trans g4 (gL)))))⟩)

set_option maxHeartbeats 1000000 in
theorem walk_nan1 (y : Int) 
    (C0 : Hid (∀ w, Calls Try.prog 19 #[.string ⟨#[76, 101, 115, 115]⟩, .int .i64 (1), .int .i64 (2143289344), .int .i64 y] w fun res w' => res = .returned (.tuple #[.int .i64 (0), .int .i64 (0)]) ∧ Grown w w'))
    (C1 : Hid (∀ w, Calls Try.prog 19 #[.string ⟨#[71, 114, 101, 97, 116, 101, 114]⟩, .int .i64 (1), .int .i64 (2143289344), .int .i64 y] w fun res w' => res = .returned (.tuple #[.int .i64 (0), .int .i64 (0)]) ∧ Grown w w'))
    (C2 : Hid (∀ w, Calls Try.prog 19 #[.string ⟨#[69, 113, 117, 97, 108]⟩, .int .i64 (1), .int .i64 (2143289344), .int .i64 y] w fun res w' => res = .returned (.tuple #[.int .i64 (0), .int .i64 (0)]) ∧ Grown w w'))
    (C3 : Hid (∀ w, Calls Try.prog 19 #[.string ⟨#[76, 101, 115, 115]⟩, .int .i64 (1), .int .i64 y, .int .i64 (2143289344)] w fun res w' => res = .returned (.tuple #[.int .i64 (0), .int .i64 (0)]) ∧ Grown w w'))
    (w : World) : Calls Try.prog 8 #[.int .i64 (1), .agg #[.int .i64 (2143289344), .int .i64 y]] w fun e w' => e = .returned (.bool true) ∧ Grown w w' := by
  go_enter Try.func8, Try.ntmps8
  go_wp2_with fail
  refine (C0.out _).mono ?_
  rintro e w1 ⟨rfl, g1⟩
  have k1 := grown_old (a := ⟨w.heap.size, 0, none⟩) g1 (by simp) (p1 _ _ _ _)
  have k2 := grown_old (a := ⟨w.heap.size, 1, none⟩) g1 (by simp) (p2 _ _ _ _)
  have z1 : w.heap.size < w1.heap.size := by have := g1.2.2; simp at this; omega
  go_wp2_with fail
  refine (C1.out _).mono ?_
  rintro e w2 ⟨rfl, g2⟩
  have k1 := grown_old g2 z1 k1
  have k2 := grown_old g2 z1 k2
  have z2 : w.heap.size < w2.heap.size := Nat.lt_of_lt_of_le z1 g2.2.2
  go_wp2_with fail
  refine (C2.out _).mono ?_
  rintro e w3 ⟨rfl, g3⟩
  have k1 := grown_old g3 z2 k1
  have k2 := grown_old g3 z2 k2
  have z3 : w.heap.size < w3.heap.size := Nat.lt_of_lt_of_le z2 g3.2.2
  go_wp2_with fail
  refine (C3.out _).mono ?_
  rintro e w4 ⟨rfl, g4⟩
  have k1 := grown_old g4 z3 k1
  have k2 := grown_old g4 z3 k2
  have z4 : w.heap.size < w4.heap.size := Nat.lt_of_lt_of_le z3 g4.2.2
  go_wp2_with (go_at_call 18; refine (live_any _).mono ?_; rintro e wL ⟨rfl, gL⟩)
  all_goals (go_ret; exact ⟨rfl, grown_trans ((Grown.refl w).alloc _ _) (grown_trans g1 (grown_trans g2 (grown_trans g3 (grown_trans g4 (gL)))))⟩)

set_option maxHeartbeats 1000000 in
theorem walk_nan2 (x : Int) 
    (C0 : Hid (∀ w, Calls Try.prog 19 #[.string ⟨#[76, 101, 115, 115]⟩, .int .i64 (1), .int .i64 x, .int .i64 (2143289344)] w fun res w' => res = .returned (.tuple #[.int .i64 (0), .int .i64 (0)]) ∧ Grown w w'))
    (C1 : Hid (∀ w, Calls Try.prog 19 #[.string ⟨#[71, 114, 101, 97, 116, 101, 114]⟩, .int .i64 (1), .int .i64 x, .int .i64 (2143289344)] w fun res w' => res = .returned (.tuple #[.int .i64 (0), .int .i64 (0)]) ∧ Grown w w'))
    (C2 : Hid (∀ w, Calls Try.prog 19 #[.string ⟨#[69, 113, 117, 97, 108]⟩, .int .i64 (1), .int .i64 x, .int .i64 (2143289344)] w fun res w' => res = .returned (.tuple #[.int .i64 (0), .int .i64 (0)]) ∧ Grown w w'))
    (C3 : Hid (∀ w, Calls Try.prog 19 #[.string ⟨#[76, 101, 115, 115]⟩, .int .i64 (1), .int .i64 (2143289344), .int .i64 x] w fun res w' => res = .returned (.tuple #[.int .i64 (0), .int .i64 (0)]) ∧ Grown w w'))
    (w : World) : Calls Try.prog 8 #[.int .i64 (1), .agg #[.int .i64 x, .int .i64 (2143289344)]] w fun e w' => e = .returned (.bool true) ∧ Grown w w' := by
  go_enter Try.func8, Try.ntmps8
  go_wp2_with fail
  refine (C0.out _).mono ?_
  rintro e w1 ⟨rfl, g1⟩
  have k1 := grown_old (a := ⟨w.heap.size, 0, none⟩) g1 (by simp) (p1 _ _ _ _)
  have k2 := grown_old (a := ⟨w.heap.size, 1, none⟩) g1 (by simp) (p2 _ _ _ _)
  have z1 : w.heap.size < w1.heap.size := by have := g1.2.2; simp at this; omega
  go_wp2_with fail
  refine (C1.out _).mono ?_
  rintro e w2 ⟨rfl, g2⟩
  have k1 := grown_old g2 z1 k1
  have k2 := grown_old g2 z1 k2
  have z2 : w.heap.size < w2.heap.size := Nat.lt_of_lt_of_le z1 g2.2.2
  go_wp2_with fail
  refine (C2.out _).mono ?_
  rintro e w3 ⟨rfl, g3⟩
  have k1 := grown_old g3 z2 k1
  have k2 := grown_old g3 z2 k2
  have z3 : w.heap.size < w3.heap.size := Nat.lt_of_lt_of_le z2 g3.2.2
  go_wp2_with fail
  refine (C3.out _).mono ?_
  rintro e w4 ⟨rfl, g4⟩
  have k1 := grown_old g4 z3 k1
  have k2 := grown_old g4 z3 k2
  have z4 : w.heap.size < w4.heap.size := Nat.lt_of_lt_of_le z3 g4.2.2
  go_wp2_with (go_at_call 18; refine (live_any _).mono ?_; rintro e wL ⟨rfl, gL⟩)
  all_goals (go_ret; exact ⟨rfl, grown_trans ((Grown.refl w).alloc _ _) (grown_trans g1 (grown_trans g2 (grown_trans g3 (grown_trans g4 (gL)))))⟩)

theorem less_ints {t x y : Int} : ((bin [76, 101, 115, 115] t x y).1 = 0 ∨ (bin [76, 101, 115, 115] t x y).1 = 1) ∧ ((bin [71, 114, 101, 97, 116, 101, 114] t x y).1 = 0 ∨ (bin [71, 114, 101, 97, 116, 101, 114] t x y).1 = 1) ∧ ((bin [69, 113, 117, 97, 108] t x y).1 = 0 ∨ (bin [69, 113, 117, 97, 108] t x y).1 = 1) := by
  rw [bin_less, bin_greater, bin_equal]
  have f := okF_flg
  refine ⟨?_, ?_, ?_⟩ <;> grind

attribute [local irreducible] chk bin un cst

theorem walk (t x y : Int) (w0 : (Lit.int .i64 t).wf = true) (w1 : (Lit.int .i64 x).wf = true) (u1 : (Lit.int .i64 y).wf = true) (w : World) :
    Calls Try.prog 8 #[.int .i64 t, .agg #[.int .i64 x, .int .i64 y]] w fun e w' => e = .returned (.bool true) ∧ Grown w w' := by
  obtain ⟨x0, x1⟩ := i64_of_wf w1
  obtain ⟨y0, y1⟩ := i64_of_wf u1
  have C1 := binary_l [76, 101, 115, 115] t x y x0 x1 y0 y1
  have C2 := binary_l [71, 114, 101, 97, 116, 101, 114] t x y x0 x1 y0 y1
  have C3 := binary_l [69, 113, 117, 97, 108] t x y x0 x1 y0 y1
  have C4 := binary_l [76, 101, 115, 115] t y x y0 y1 x0 x1
  obtain ⟨v1, v2⟩ := cmp_vals t x y
  have hl := less_law (t := t) (x := x) (y := y)
  have hg := less_equal (t := t) (x := x) (y := y)
  obtain ⟨i1, i2, i3⟩ := less_ints (t := t) (x := x) (y := y)
  generalize bin [76, 101, 115, 115] t x y = p at *
  generalize bin [71, 114, 101, 97, 116, 101, 114] t x y = q at *
  generalize bin [69, 113, 117, 97, 108] t x y = r at *
  generalize bin [76, 101, 115, 115] t y x = s at *
  obtain ⟨a, e⟩ := p
  obtain ⟨b, f⟩ := q
  obtain ⟨c, g⟩ := r
  obtain ⟨d, h⟩ := s
  simp only at v1 v2 hl hg i1 i2 i3 C1 C2 C3 C4
  subst v1
  subst v2
  by_cases h0 : e = 0
  · subst h0
    have := hg rfl
    subst this
    obtain ⟨rfl, hn⟩ := hl rfl
    rcases hn with hn | ⟨⟨rfl, hx⟩, hn⟩
    · rcases (by omega : (a = 1 ∧ b = 0 ∧ c = 0) ∨ (a = 0 ∧ b = 1 ∧ c = 0) ∨ (a = 0 ∧ b = 0 ∧ c = 1)) with ⟨rfl, rfl, rfl⟩ | ⟨rfl, rfl, rfl⟩ | ⟨rfl, rfl, rfl⟩
      · exact walk_a t x y C1 C2 C3 C4 w
      · exact walk_b t x y C1 C2 C3 C4 w
      · exact walk_c t x y C1 C2 C3 C4 w
    · obtain ⟨rfl, rfl, rfl⟩ : a = 0 ∧ b = 0 ∧ c = 0 := by omega
      rcases hx with rfl | rfl
      · exact walk_nan1 y C1 C2 C3 C4 w
      · exact walk_nan2 x C1 C2 C3 C4 w
  · exact walk_err t x y a e b c g d (by simpa using h0) C1 C2 C3 C4 w

set_option linter.unusedVariables false
set_option maxRecDepth 100000 in
set_option maxHeartbeats 400000 in
theorem lifted (os : Os) (started : os.Started) (H : Type) (enc : TypeId × Value → H) :
    ReturnsInHanded {} Try.checked os 8 .any (Rows.numLessSpec.pre6 enc Try.prog Try.f8 Rows.numLessRow.domain false) (Rows.numLessSpec.post enc Try.prog Try.f8 false true false false) := by
  refine returnsInHanded_of_change (C := Try.checked) own started (by kernel_rfl) Try.func8
    (ChangeSpec.witness6 (enc := enc) (C := Try.checked) false ⟨#[], #[.int .i64 0, .agg #[.int .i64 0, .int .i64 0]], []⟩ 8 (by kernel_rfl) (by kernel_rfl) (by kernel_rfl) (by kernel_rfl)) ?_
  intro W base args ds gs before hval0 hW hcnd _
  have hval : ∀ (j : Nat) t v, Try.f8.params[j]? = some t → args[j]? = some v → Value.okWide Try.prog W .any base t v := hval0
  have hW' := hW
  obtain ⟨p, q, hA0, hV, rfl, hfz, hnd⟩ := hW
  have hA : DataW.TrodAll enc Try.prog W 0 (fun _ => true) true Try.f8.params.toList args.toList ds p := hA0
  rw [Try.params8] at hA hval
  obtain ⟨v0, vs0, d0, ds0, p0, q0, hargs, rfl, rfl, h0, r0⟩ := trodAll_cons hA
  obtain ⟨v1, vs1, d1, ds1, p1, q1, rfl, rfl, rfl, h1, r1⟩ := trodAll_cons r0
  obtain ⟨rfl, rfl, rfl⟩ := trodAll_nil r1
  obtain rfl : args = #[v0, v1] := by cases args; simp_all
  obtain ⟨rfl, rfl⟩ := trodVars_none hV
  obtain ⟨a0, rfl, rfl, rfl, w0⟩ := open_int Try.underlying3 (hval 0 3 v0 rfl rfl) h0
  obtain ⟨a1, b1, rfl, rfl, rfl, w1, u1⟩ := open_pair (hval 1 28 v1 rfl rfl) h1
  clear hA0 hval0
  simp only [List.append_nil] at hW'
  refine (walk a0 a1 b1 w0 w1 u1 W).mono fun e W' ⟨he, hg⟩ => ?_
  subst he
  exact ⟨_, rfl, post_of_same (pa := []) (pv := []) hW' (fun _ _ _ => (trodAll_cons_mk (shut_bool Try.underlying4 _) trodAll_mk0)) (fun sp _ => (trodAll_cons_mk (shut_int Try.underlying3 w0) (trodAll_cons_mk (shut_pair w1 u1) trodAll_mk0))) (fun _ _ => rfl) rfl
    (hg.frame _) hg.2.1 (ok_one (by kernel_rfl) rfl (okWide_bool_mk Try.underlying4 _))⟩

theorem over : Rows.numLessRow.holds Try.pinned (OpenSpec.ofChange Rows.numLessSpec) :=
  OpenClaim.holds_of_wide 8 Try.f8 rfl rfl rfl rfl rfl rfl rfl ⟨rfl, rfl, rfl, rfl, rfl⟩ rfl rfl rfl rfl rfl (by kernel_rfl) Try.func8 (by kernel_rfl)
    (of_decide_eq_true (by kernel_rfl)) (by unfold Func.isWrapper; first | (rw [if_pos (by decide +kernel)]; kernel_rfl) | (rw [if_neg (by decide +kernel)]; exact ⟨rfl, rfl⟩))
    (fun os started H enc _ => lifted os started H enc)

/-- The statement. -/
theorem proved : Rows.NumLessSaid :=
  over
#print axioms proved

end numLess
end Go.Proofs.Ytepmacimknblpaa
