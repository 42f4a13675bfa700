/- For every input mandrellaw02.NumStays returns true, and the input reads as it did. No condition. -/
import Derived.Test.YtepmacimknblpaaNumRow
import Derived.Test.YtepmacimknblpaaNumV
import Derived.Test.YtepmacimknblpaaNumO
import Derived.Deep.RegionHeld3
set_option linter.unusedVariables false
namespace Go.Proofs.Ytepmacimknblpaa
namespace numStays
open Go.ChangeShapes Go.WideShapes Go.ChangeAt Go.RowKit Ieee Fl

theorem p1 (w : World) (x : Value) (c : Value) (n : Nat) : (w.alloc (.cells #[x, c] n)).cell? ⟨w.heap.size, 0, none⟩ = some x := by simp
theorem p2 (w : World) (x : Value) (c : Value) (n : Nat) : (w.alloc (.cells #[x, c] n)).cell? ⟨w.heap.size, 1, none⟩ = some c := by simp
structure KeptG (w wz : World) : Prop where
  out : Grown w wz
theorem keep_drew {w wz : World} {b : Nat} {x y : Value} (h1 : wz.cell? ⟨b, 0, none⟩ = some x) (h2 : wz.cell? ⟨b, 1, none⟩ = some y) (h3 : b < wz.heap.size) (h4 : KeptG w wz) :
    wz.drew.cell? ⟨b, 0, none⟩ = some x ∧ wz.drew.cell? ⟨b, 1, none⟩ = some y ∧ b < wz.drew.heap.size ∧ (KeptG w wz.drew) := ⟨h1, h2, h3, ⟨h4.out.drew⟩⟩
theorem keep_call {w wz wq : World} {b : Nat} {x y : Value} (g : Grown wz wq) (h1 : wz.cell? ⟨b, 0, none⟩ = some x) (h2 : wz.cell? ⟨b, 1, none⟩ = some y) (h3 : b < wz.heap.size) (h4 : (KeptG w wz)) :
    wq.cell? ⟨b, 0, none⟩ = some x ∧ wq.cell? ⟨b, 1, none⟩ = some y ∧ b < wq.heap.size ∧ (KeptG w wq) := ⟨grown_old g h3 h1, grown_old g h3 h2, Nat.lt_of_lt_of_le h3 g.2.2, ⟨grown_trans h4.out g⟩⟩

set_option maxHeartbeats 4000000 in
theorem walk_bad_E_bad (n t x y a b e f : Int) (M : List UInt8)  (he : (e == 0) = false) (hf : (f != 0) = true)
    (C0 : Hid (∀ w, Calls Try.prog 23 #[.int .i64 n] w fun res w' => res = .returned (.string ⟨M.toArray⟩) ∧ Grown w w'))
    (C1 : Hid (∀ w, Calls Try.prog 24 #[.int .i64 n] w fun res w' => res = .returned (.string ⟨#[69, 113, 117, 97, 108]⟩) ∧ Grown w w'))
    (C2 : Hid (∀ w, Calls Try.prog 14 #[.string ⟨M.toArray⟩, .int .i64 t, .int .i64 x] w fun res w' => res = .returned (.tuple #[.int .i64 a, .int .i64 e]) ∧ Grown w w'))
    (C3 : Hid (∀ w, Calls Try.prog 19 #[.string ⟨#[69, 113, 117, 97, 108]⟩, .int .i64 t, .int .i64 x, .int .i64 y] w fun res w' => res = .returned (.tuple #[.int .i64 b, .int .i64 f]) ∧ Grown w w'))
    (w : World) : Calls Try.prog 6 #[.int .i64 n, .int .i64 t, .agg #[.int .i64 x, .int .i64 y]] w fun e w' => e = .returned (.bool true) ∧ Grown w w' := by
  go_enter Try.func6, Try.ntmps6
  go_wp2_with fail
  generalize hw0 : w.alloc (.cells #[.int .i64 x, .int .i64 y] _) = w0
  have gq : KeptG w w0 := by rw [← hw0]; exact ⟨(Grown.refl w).alloc _ _⟩
  have k1 : w0.cell? ⟨w.heap.size, 0, none⟩ = some (.int .i64 x) := by rw [← hw0]; exact p1 _ _ _ _
  have k2 : w0.cell? ⟨w.heap.size, 1, none⟩ = some (.int .i64 y) := by rw [← hw0]; exact p2 _ _ _ _
  have z0 : w.heap.size < w0.heap.size := by rw [← hw0]; simp
  clear hw0
  go_region_held3 (fun wz => wz.cell? ⟨w.heap.size, 0, none⟩ = some (.int .i64 x) ∧ wz.cell? ⟨w.heap.size, 1, none⟩ = some (.int .i64 y) ∧ w.heap.size < wz.heap.size ∧ (KeptG w wz))
    (first
      | exact keep_drew (by assumption) (by assumption) (by assumption) (by assumption)
      | (go_split_ands
         exact keep_drew (by assumption) (by assumption) (by assumption) (by assumption))
      | (go_split_ands
         exact keep_call gq (by assumption) (by assumption) (by assumption) (by assumption))
      | go_keep)
    (first | (go_at_call 23; refine (C0.out _).mono ?_; rintro e wq ⟨rfl, gq⟩)
           | (go_at_call 14; refine (C2.out _).mono ?_; rintro e wq ⟨rfl, gq⟩))
  go_wp2_with fail
  go_region_held3 (fun wz => wz.cell? ⟨w.heap.size, 0, none⟩ = some (.int .i64 x) ∧ wz.cell? ⟨w.heap.size, 1, none⟩ = some (.int .i64 y) ∧ w.heap.size < wz.heap.size ∧ (KeptG w wz))
    (first
      | exact keep_drew (by assumption) (by assumption) (by assumption) (by assumption)
      | (go_split_ands
         exact keep_drew (by assumption) (by assumption) (by assumption) (by assumption))
      | (go_split_ands
         exact keep_call gq (by assumption) (by assumption) (by assumption) (by assumption))
      | go_keep)
    (first | (go_at_call 24; refine (C1.out _).mono ?_; rintro e wq ⟨rfl, gq⟩)
           | (go_at_call 19; refine (C3.out _).mono ?_; rintro e wq ⟨rfl, gq⟩))
  go_wp2_with fail
  refine (C1.out _).mono ?_
  rintro e wb ⟨rfl, gb⟩
  go_wp2_with (go_at_call 18; refine (live_any _).mono ?_; rintro e wL ⟨rfl, gL⟩)
  all_goals (go_split_ands; go_ret; exact ⟨rfl, grown_trans (KeptG.out (by assumption)) (grown_trans gb gL)⟩)

set_option maxHeartbeats 4000000 in
theorem walk_bad_E_ok (n t x y a b e : Int) (M : List UInt8)  (he : (e == 0) = false)
    (C0 : Hid (∀ w, Calls Try.prog 23 #[.int .i64 n] w fun res w' => res = .returned (.string ⟨M.toArray⟩) ∧ Grown w w'))
    (C1 : Hid (∀ w, Calls Try.prog 24 #[.int .i64 n] w fun res w' => res = .returned (.string ⟨#[69, 113, 117, 97, 108]⟩) ∧ Grown w w'))
    (C2 : Hid (∀ w, Calls Try.prog 14 #[.string ⟨M.toArray⟩, .int .i64 t, .int .i64 x] w fun res w' => res = .returned (.tuple #[.int .i64 a, .int .i64 e]) ∧ Grown w w'))
    (C3 : Hid (∀ w, Calls Try.prog 19 #[.string ⟨#[69, 113, 117, 97, 108]⟩, .int .i64 t, .int .i64 x, .int .i64 y] w fun res w' => res = .returned (.tuple #[.int .i64 b, .int .i64 0]) ∧ Grown w w'))
    (C5 : Hid (∀ w, Calls Try.prog 16 #[.int .i64 9, .int .i64 b] w fun res w' => res = .returned (.bool true) ∧ Grown w w'))
    (w : World) : Calls Try.prog 6 #[.int .i64 n, .int .i64 t, .agg #[.int .i64 x, .int .i64 y]] w fun e w' => e = .returned (.bool true) ∧ Grown w w' := by
  go_enter Try.func6, Try.ntmps6
  go_wp2_with fail
  generalize hw0 : w.alloc (.cells #[.int .i64 x, .int .i64 y] _) = w0
  have gq : KeptG w w0 := by rw [← hw0]; exact ⟨(Grown.refl w).alloc _ _⟩
  have k1 : w0.cell? ⟨w.heap.size, 0, none⟩ = some (.int .i64 x) := by rw [← hw0]; exact p1 _ _ _ _
  have k2 : w0.cell? ⟨w.heap.size, 1, none⟩ = some (.int .i64 y) := by rw [← hw0]; exact p2 _ _ _ _
  have z0 : w.heap.size < w0.heap.size := by rw [← hw0]; simp
  clear hw0
  go_region_held3 (fun wz => wz.cell? ⟨w.heap.size, 0, none⟩ = some (.int .i64 x) ∧ wz.cell? ⟨w.heap.size, 1, none⟩ = some (.int .i64 y) ∧ w.heap.size < wz.heap.size ∧ (KeptG w wz))
    (first
      | exact keep_drew (by assumption) (by assumption) (by assumption) (by assumption)
      | (go_split_ands
         exact keep_drew (by assumption) (by assumption) (by assumption) (by assumption))
      | (go_split_ands
         exact keep_call gq (by assumption) (by assumption) (by assumption) (by assumption))
      | go_keep)
    (first | (go_at_call 23; refine (C0.out _).mono ?_; rintro e wq ⟨rfl, gq⟩)
           | (go_at_call 14; refine (C2.out _).mono ?_; rintro e wq ⟨rfl, gq⟩))
  go_wp2_with fail
  go_region_held3 (fun wz => wz.cell? ⟨w.heap.size, 0, none⟩ = some (.int .i64 x) ∧ wz.cell? ⟨w.heap.size, 1, none⟩ = some (.int .i64 y) ∧ w.heap.size < wz.heap.size ∧ (KeptG w wz))
    (first
      | exact keep_drew (by assumption) (by assumption) (by assumption) (by assumption)
      | (go_split_ands
         exact keep_drew (by assumption) (by assumption) (by assumption) (by assumption))
      | (go_split_ands
         exact keep_call gq (by assumption) (by assumption) (by assumption) (by assumption))
      | go_keep)
    (first | (go_at_call 24; refine (C1.out _).mono ?_; rintro e wq ⟨rfl, gq⟩)
           | (go_at_call 19; refine (C3.out _).mono ?_; rintro e wq ⟨rfl, gq⟩))
  go_wp2_with fail
  refine (C1.out _).mono ?_
  rintro e wb ⟨rfl, gb⟩
  go_wp2_with fail
  refine (C5.out _).mono ?_
  rintro e wc ⟨rfl, gc⟩
  go_wp2_with (go_at_call 18; refine (live_any _).mono ?_; rintro e wL ⟨rfl, gL⟩)
  all_goals (go_split_ands; go_ret; exact ⟨rfl, grown_trans (KeptG.out (by assumption)) (grown_trans gb (grown_trans gc gL))⟩)

set_option maxHeartbeats 4000000 in
theorem walk_bad_L_bad (n t x y a b e f : Int) (M : List UInt8)  (he : (e == 0) = false) (hf : (f != 0) = true)
    (C0 : Hid (∀ w, Calls Try.prog 23 #[.int .i64 n] w fun res w' => res = .returned (.string ⟨M.toArray⟩) ∧ Grown w w'))
    (C1 : Hid (∀ w, Calls Try.prog 24 #[.int .i64 n] w fun res w' => res = .returned (.string ⟨#[76, 101, 115, 115]⟩) ∧ Grown w w'))
    (C2 : Hid (∀ w, Calls Try.prog 14 #[.string ⟨M.toArray⟩, .int .i64 t, .int .i64 x] w fun res w' => res = .returned (.tuple #[.int .i64 a, .int .i64 e]) ∧ Grown w w'))
    (C3 : Hid (∀ w, Calls Try.prog 19 #[.string ⟨#[76, 101, 115, 115]⟩, .int .i64 t, .int .i64 x, .int .i64 y] w fun res w' => res = .returned (.tuple #[.int .i64 b, .int .i64 f]) ∧ Grown w w'))
    (w : World) : Calls Try.prog 6 #[.int .i64 n, .int .i64 t, .agg #[.int .i64 x, .int .i64 y]] w fun e w' => e = .returned (.bool true) ∧ Grown w w' := by
  go_enter Try.func6, Try.ntmps6
  go_wp2_with fail
  generalize hw0 : w.alloc (.cells #[.int .i64 x, .int .i64 y] _) = w0
  have gq : KeptG w w0 := by rw [← hw0]; exact ⟨(Grown.refl w).alloc _ _⟩
  have k1 : w0.cell? ⟨w.heap.size, 0, none⟩ = some (.int .i64 x) := by rw [← hw0]; exact p1 _ _ _ _
  have k2 : w0.cell? ⟨w.heap.size, 1, none⟩ = some (.int .i64 y) := by rw [← hw0]; exact p2 _ _ _ _
  have z0 : w.heap.size < w0.heap.size := by rw [← hw0]; simp
  clear hw0
  go_region_held3 (fun wz => wz.cell? ⟨w.heap.size, 0, none⟩ = some (.int .i64 x) ∧ wz.cell? ⟨w.heap.size, 1, none⟩ = some (.int .i64 y) ∧ w.heap.size < wz.heap.size ∧ (KeptG w wz))
    (first
      | exact keep_drew (by assumption) (by assumption) (by assumption) (by assumption)
      | (go_split_ands
         exact keep_drew (by assumption) (by assumption) (by assumption) (by assumption))
      | (go_split_ands
         exact keep_call gq (by assumption) (by assumption) (by assumption) (by assumption))
      | go_keep)
    (first | (go_at_call 23; refine (C0.out _).mono ?_; rintro e wq ⟨rfl, gq⟩)
           | (go_at_call 14; refine (C2.out _).mono ?_; rintro e wq ⟨rfl, gq⟩))
  go_wp2_with fail
  go_region_held3 (fun wz => wz.cell? ⟨w.heap.size, 0, none⟩ = some (.int .i64 x) ∧ wz.cell? ⟨w.heap.size, 1, none⟩ = some (.int .i64 y) ∧ w.heap.size < wz.heap.size ∧ (KeptG w wz))
    (first
      | exact keep_drew (by assumption) (by assumption) (by assumption) (by assumption)
      | (go_split_ands
         exact keep_drew (by assumption) (by assumption) (by assumption) (by assumption))
      | (go_split_ands
         exact keep_call gq (by assumption) (by assumption) (by assumption) (by assumption))
      | go_keep)
    (first | (go_at_call 24; refine (C1.out _).mono ?_; rintro e wq ⟨rfl, gq⟩)
           | (go_at_call 19; refine (C3.out _).mono ?_; rintro e wq ⟨rfl, gq⟩))
  go_wp2_with fail
  refine (C1.out _).mono ?_
  rintro e wb ⟨rfl, gb⟩
  go_wp2_with (go_at_call 18; refine (live_any _).mono ?_; rintro e wL ⟨rfl, gL⟩)
  all_goals (go_split_ands; go_ret; exact ⟨rfl, grown_trans (KeptG.out (by assumption)) (grown_trans gb gL)⟩)

set_option maxHeartbeats 4000000 in
theorem walk_bad_L_ok (n t x y a b e : Int) (M : List UInt8)  (he : (e == 0) = false)
    (C0 : Hid (∀ w, Calls Try.prog 23 #[.int .i64 n] w fun res w' => res = .returned (.string ⟨M.toArray⟩) ∧ Grown w w'))
    (C1 : Hid (∀ w, Calls Try.prog 24 #[.int .i64 n] w fun res w' => res = .returned (.string ⟨#[76, 101, 115, 115]⟩) ∧ Grown w w'))
    (C2 : Hid (∀ w, Calls Try.prog 14 #[.string ⟨M.toArray⟩, .int .i64 t, .int .i64 x] w fun res w' => res = .returned (.tuple #[.int .i64 a, .int .i64 e]) ∧ Grown w w'))
    (C3 : Hid (∀ w, Calls Try.prog 19 #[.string ⟨#[76, 101, 115, 115]⟩, .int .i64 t, .int .i64 x, .int .i64 y] w fun res w' => res = .returned (.tuple #[.int .i64 b, .int .i64 0]) ∧ Grown w w'))
    (C5 : Hid (∀ w, Calls Try.prog 16 #[.int .i64 9, .int .i64 b] w fun res w' => res = .returned (.bool true) ∧ Grown w w'))
    (w : World) : Calls Try.prog 6 #[.int .i64 n, .int .i64 t, .agg #[.int .i64 x, .int .i64 y]] w fun e w' => e = .returned (.bool true) ∧ Grown w w' := by
  go_enter Try.func6, Try.ntmps6
  go_wp2_with fail
  generalize hw0 : w.alloc (.cells #[.int .i64 x, .int .i64 y] _) = w0
  have gq : KeptG w w0 := by rw [← hw0]; exact ⟨(Grown.refl w).alloc _ _⟩
  have k1 : w0.cell? ⟨w.heap.size, 0, none⟩ = some (.int .i64 x) := by rw [← hw0]; exact p1 _ _ _ _
  have k2 : w0.cell? ⟨w.heap.size, 1, none⟩ = some (.int .i64 y) := by rw [← hw0]; exact p2 _ _ _ _
  have z0 : w.heap.size < w0.heap.size := by rw [← hw0]; simp
  clear hw0
  go_region_held3 (fun wz => wz.cell? ⟨w.heap.size, 0, none⟩ = some (.int .i64 x) ∧ wz.cell? ⟨w.heap.size, 1, none⟩ = some (.int .i64 y) ∧ w.heap.size < wz.heap.size ∧ (KeptG w wz))
    (first
      | exact keep_drew (by assumption) (by assumption) (by assumption) (by assumption)
      | (go_split_ands
         exact keep_drew (by assumption) (by assumption) (by assumption) (by assumption))
      | (go_split_ands
         exact keep_call gq (by assumption) (by assumption) (by assumption) (by assumption))
      | go_keep)
    (first | (go_at_call 23; refine (C0.out _).mono ?_; rintro e wq ⟨rfl, gq⟩)
           | (go_at_call 14; refine (C2.out _).mono ?_; rintro e wq ⟨rfl, gq⟩))
  go_wp2_with fail
  go_region_held3 (fun wz => wz.cell? ⟨w.heap.size, 0, none⟩ = some (.int .i64 x) ∧ wz.cell? ⟨w.heap.size, 1, none⟩ = some (.int .i64 y) ∧ w.heap.size < wz.heap.size ∧ (KeptG w wz))
    (first
      | exact keep_drew (by assumption) (by assumption) (by assumption) (by assumption)
      | (go_split_ands
         exact keep_drew (by assumption) (by assumption) (by assumption) (by assumption))
      | (go_split_ands
         exact keep_call gq (by assumption) (by assumption) (by assumption) (by assumption))
      | go_keep)
    (first | (go_at_call 24; refine (C1.out _).mono ?_; rintro e wq ⟨rfl, gq⟩)
           | (go_at_call 19; refine (C3.out _).mono ?_; rintro e wq ⟨rfl, gq⟩))
  go_wp2_with fail
  refine (C1.out _).mono ?_
  rintro e wb ⟨rfl, gb⟩
  go_wp2_with fail
  refine (C5.out _).mono ?_
  rintro e wc ⟨rfl, gc⟩
  go_wp2_with (go_at_call 18; refine (live_any _).mono ?_; rintro e wL ⟨rfl, gL⟩)
  all_goals (go_split_ands; go_ret; exact ⟨rfl, grown_trans (KeptG.out (by assumption)) (grown_trans gb (grown_trans gc gL))⟩)

set_option maxHeartbeats 4000000 in
theorem walk_bad_G_bad (n t x y a b e f : Int) (M : List UInt8)  (he : (e == 0) = false) (hf : (f != 0) = true)
    (C0 : Hid (∀ w, Calls Try.prog 23 #[.int .i64 n] w fun res w' => res = .returned (.string ⟨M.toArray⟩) ∧ Grown w w'))
    (C1 : Hid (∀ w, Calls Try.prog 24 #[.int .i64 n] w fun res w' => res = .returned (.string ⟨#[71, 114, 101, 97, 116, 101, 114]⟩) ∧ Grown w w'))
    (C2 : Hid (∀ w, Calls Try.prog 14 #[.string ⟨M.toArray⟩, .int .i64 t, .int .i64 x] w fun res w' => res = .returned (.tuple #[.int .i64 a, .int .i64 e]) ∧ Grown w w'))
    (C3 : Hid (∀ w, Calls Try.prog 19 #[.string ⟨#[71, 114, 101, 97, 116, 101, 114]⟩, .int .i64 t, .int .i64 x, .int .i64 y] w fun res w' => res = .returned (.tuple #[.int .i64 b, .int .i64 f]) ∧ Grown w w'))
    (w : World) : Calls Try.prog 6 #[.int .i64 n, .int .i64 t, .agg #[.int .i64 x, .int .i64 y]] w fun e w' => e = .returned (.bool true) ∧ Grown w w' := by
  go_enter Try.func6, Try.ntmps6
  go_wp2_with fail
  generalize hw0 : w.alloc (.cells #[.int .i64 x, .int .i64 y] _) = w0
  have gq : KeptG w w0 := by rw [← hw0]; exact ⟨(Grown.refl w).alloc _ _⟩
  have k1 : w0.cell? ⟨w.heap.size, 0, none⟩ = some (.int .i64 x) := by rw [← hw0]; exact p1 _ _ _ _
  have k2 : w0.cell? ⟨w.heap.size, 1, none⟩ = some (.int .i64 y) := by rw [← hw0]; exact p2 _ _ _ _
  have z0 : w.heap.size < w0.heap.size := by rw [← hw0]; simp
  clear hw0
  go_region_held3 (fun wz => wz.cell? ⟨w.heap.size, 0, none⟩ = some (.int .i64 x) ∧ wz.cell? ⟨w.heap.size, 1, none⟩ = some (.int .i64 y) ∧ w.heap.size < wz.heap.size ∧ (KeptG w wz))
    (first
      | exact keep_drew (by assumption) (by assumption) (by assumption) (by assumption)
      | (go_split_ands
         exact keep_drew (by assumption) (by assumption) (by assumption) (by assumption))
      | (go_split_ands
         exact keep_call gq (by assumption) (by assumption) (by assumption) (by assumption))
      | go_keep)
    (first | (go_at_call 23; refine (C0.out _).mono ?_; rintro e wq ⟨rfl, gq⟩)
           | (go_at_call 14; refine (C2.out _).mono ?_; rintro e wq ⟨rfl, gq⟩))
  go_wp2_with fail
  go_region_held3 (fun wz => wz.cell? ⟨w.heap.size, 0, none⟩ = some (.int .i64 x) ∧ wz.cell? ⟨w.heap.size, 1, none⟩ = some (.int .i64 y) ∧ w.heap.size < wz.heap.size ∧ (KeptG w wz))
    (first
      | exact keep_drew (by assumption) (by assumption) (by assumption) (by assumption)
      | (go_split_ands
         exact keep_drew (by assumption) (by assumption) (by assumption) (by assumption))
      | (go_split_ands
         exact keep_call gq (by assumption) (by assumption) (by assumption) (by assumption))
      | go_keep)
    (first | (go_at_call 24; refine (C1.out _).mono ?_; rintro e wq ⟨rfl, gq⟩)
           | (go_at_call 19; refine (C3.out _).mono ?_; rintro e wq ⟨rfl, gq⟩))
  go_wp2_with fail
  refine (C1.out _).mono ?_
  rintro e wb ⟨rfl, gb⟩
  go_wp2_with (go_at_call 18; refine (live_any _).mono ?_; rintro e wL ⟨rfl, gL⟩)
  all_goals (go_split_ands; go_ret; exact ⟨rfl, grown_trans (KeptG.out (by assumption)) (grown_trans gb gL)⟩)

set_option maxHeartbeats 4000000 in
theorem walk_bad_G_ok (n t x y a b e : Int) (M : List UInt8)  (he : (e == 0) = false)
    (C0 : Hid (∀ w, Calls Try.prog 23 #[.int .i64 n] w fun res w' => res = .returned (.string ⟨M.toArray⟩) ∧ Grown w w'))
    (C1 : Hid (∀ w, Calls Try.prog 24 #[.int .i64 n] w fun res w' => res = .returned (.string ⟨#[71, 114, 101, 97, 116, 101, 114]⟩) ∧ Grown w w'))
    (C2 : Hid (∀ w, Calls Try.prog 14 #[.string ⟨M.toArray⟩, .int .i64 t, .int .i64 x] w fun res w' => res = .returned (.tuple #[.int .i64 a, .int .i64 e]) ∧ Grown w w'))
    (C3 : Hid (∀ w, Calls Try.prog 19 #[.string ⟨#[71, 114, 101, 97, 116, 101, 114]⟩, .int .i64 t, .int .i64 x, .int .i64 y] w fun res w' => res = .returned (.tuple #[.int .i64 b, .int .i64 0]) ∧ Grown w w'))
    (C5 : Hid (∀ w, Calls Try.prog 16 #[.int .i64 9, .int .i64 b] w fun res w' => res = .returned (.bool true) ∧ Grown w w'))
    (w : World) : Calls Try.prog 6 #[.int .i64 n, .int .i64 t, .agg #[.int .i64 x, .int .i64 y]] w fun e w' => e = .returned (.bool true) ∧ Grown w w' := by
  go_enter Try.func6, Try.ntmps6
  go_wp2_with fail
  generalize hw0 : w.alloc (.cells #[.int .i64 x, .int .i64 y] _) = w0
  have gq : KeptG w w0 := by rw [← hw0]; exact ⟨(Grown.refl w).alloc _ _⟩
  have k1 : w0.cell? ⟨w.heap.size, 0, none⟩ = some (.int .i64 x) := by rw [← hw0]; exact p1 _ _ _ _
  have k2 : w0.cell? ⟨w.heap.size, 1, none⟩ = some (.int .i64 y) := by rw [← hw0]; exact p2 _ _ _ _
  have z0 : w.heap.size < w0.heap.size := by rw [← hw0]; simp
  clear hw0
  go_region_held3 (fun wz => wz.cell? ⟨w.heap.size, 0, none⟩ = some (.int .i64 x) ∧ wz.cell? ⟨w.heap.size, 1, none⟩ = some (.int .i64 y) ∧ w.heap.size < wz.heap.size ∧ (KeptG w wz))
    (first
      | exact keep_drew (by assumption) (by assumption) (by assumption) (by assumption)
      | (go_split_ands
         exact keep_drew (by assumption) (by assumption) (by assumption) (by assumption))
      | (go_split_ands
         exact keep_call gq (by assumption) (by assumption) (by assumption) (by assumption))
      | go_keep)
    (first | (go_at_call 23; refine (C0.out _).mono ?_; rintro e wq ⟨rfl, gq⟩)
           | (go_at_call 14; refine (C2.out _).mono ?_; rintro e wq ⟨rfl, gq⟩))
  go_wp2_with fail
  go_region_held3 (fun wz => wz.cell? ⟨w.heap.size, 0, none⟩ = some (.int .i64 x) ∧ wz.cell? ⟨w.heap.size, 1, none⟩ = some (.int .i64 y) ∧ w.heap.size < wz.heap.size ∧ (KeptG w wz))
    (first
      | exact keep_drew (by assumption) (by assumption) (by assumption) (by assumption)
      | (go_split_ands
         exact keep_drew (by assumption) (by assumption) (by assumption) (by assumption))
      | (go_split_ands
         exact keep_call gq (by assumption) (by assumption) (by assumption) (by assumption))
      | go_keep)
    (first | (go_at_call 24; refine (C1.out _).mono ?_; rintro e wq ⟨rfl, gq⟩)
           | (go_at_call 19; refine (C3.out _).mono ?_; rintro e wq ⟨rfl, gq⟩))
  go_wp2_with fail
  refine (C1.out _).mono ?_
  rintro e wb ⟨rfl, gb⟩
  go_wp2_with fail
  refine (C5.out _).mono ?_
  rintro e wc ⟨rfl, gc⟩
  go_wp2_with (go_at_call 18; refine (live_any _).mono ?_; rintro e wL ⟨rfl, gL⟩)
  all_goals (go_split_ands; go_ret; exact ⟨rfl, grown_trans (KeptG.out (by assumption)) (grown_trans gb (grown_trans gc gL))⟩)

set_option maxHeartbeats 4000000 in
theorem walk_bad_N_bad (n t x y a b e f : Int) (M : List UInt8) (L : List UInt8) (he : (e == 0) = false) (hf : (f != 0) = true) (hE : (L == [69, 113, 117, 97, 108]) = false) (hL : (L == [76, 101, 115, 115]) = false) (hG : (L == [71, 114, 101, 97, 116, 101, 114]) = false)
    (C0 : Hid (∀ w, Calls Try.prog 23 #[.int .i64 n] w fun res w' => res = .returned (.string ⟨M.toArray⟩) ∧ Grown w w'))
    (C1 : Hid (∀ w, Calls Try.prog 24 #[.int .i64 n] w fun res w' => res = .returned (.string ⟨L.toArray⟩) ∧ Grown w w'))
    (C2 : Hid (∀ w, Calls Try.prog 14 #[.string ⟨M.toArray⟩, .int .i64 t, .int .i64 x] w fun res w' => res = .returned (.tuple #[.int .i64 a, .int .i64 e]) ∧ Grown w w'))
    (C3 : Hid (∀ w, Calls Try.prog 19 #[.string ⟨L.toArray⟩, .int .i64 t, .int .i64 x, .int .i64 y] w fun res w' => res = .returned (.tuple #[.int .i64 b, .int .i64 f]) ∧ Grown w w'))
    (w : World) : Calls Try.prog 6 #[.int .i64 n, .int .i64 t, .agg #[.int .i64 x, .int .i64 y]] w fun e w' => e = .returned (.bool true) ∧ Grown w w' := by
  go_enter Try.func6, Try.ntmps6
  go_wp2_with fail
  generalize hw0 : w.alloc (.cells #[.int .i64 x, .int .i64 y] _) = w0
  have gq : KeptG w w0 := by rw [← hw0]; exact ⟨(Grown.refl w).alloc _ _⟩
  have k1 : w0.cell? ⟨w.heap.size, 0, none⟩ = some (.int .i64 x) := by rw [← hw0]; exact p1 _ _ _ _
  have k2 : w0.cell? ⟨w.heap.size, 1, none⟩ = some (.int .i64 y) := by rw [← hw0]; exact p2 _ _ _ _
  have z0 : w.heap.size < w0.heap.size := by rw [← hw0]; simp
  clear hw0
  go_region_held3 (fun wz => wz.cell? ⟨w.heap.size, 0, none⟩ = some (.int .i64 x) ∧ wz.cell? ⟨w.heap.size, 1, none⟩ = some (.int .i64 y) ∧ w.heap.size < wz.heap.size ∧ (KeptG w wz))
    (first
      | exact keep_drew (by assumption) (by assumption) (by assumption) (by assumption)
      | (go_split_ands
         exact keep_drew (by assumption) (by assumption) (by assumption) (by assumption))
      | (go_split_ands
         exact keep_call gq (by assumption) (by assumption) (by assumption) (by assumption))
      | go_keep)
    (first | (go_at_call 23; refine (C0.out _).mono ?_; rintro e wq ⟨rfl, gq⟩)
           | (go_at_call 14; refine (C2.out _).mono ?_; rintro e wq ⟨rfl, gq⟩))
  go_wp2_with fail
  go_region_held3 (fun wz => wz.cell? ⟨w.heap.size, 0, none⟩ = some (.int .i64 x) ∧ wz.cell? ⟨w.heap.size, 1, none⟩ = some (.int .i64 y) ∧ w.heap.size < wz.heap.size ∧ (KeptG w wz))
    (first
      | exact keep_drew (by assumption) (by assumption) (by assumption) (by assumption)
      | (go_split_ands
         exact keep_drew (by assumption) (by assumption) (by assumption) (by assumption))
      | (go_split_ands
         exact keep_call gq (by assumption) (by assumption) (by assumption) (by assumption))
      | go_keep)
    (first | (go_at_call 24; refine (C1.out _).mono ?_; rintro e wq ⟨rfl, gq⟩)
           | (go_at_call 19; refine (C3.out _).mono ?_; rintro e wq ⟨rfl, gq⟩))
  go_wp2_with fail
  refine (C1.out _).mono ?_
  rintro e wb ⟨rfl, gb⟩
  go_wp2_with (go_at_call 18; refine (live_any _).mono ?_; rintro e wL ⟨rfl, gL⟩)
  all_goals (go_split_ands; go_ret; exact ⟨rfl, grown_trans (KeptG.out (by assumption)) (grown_trans gb gL)⟩)

set_option maxHeartbeats 4000000 in
theorem walk_bad_N_ok (n t x y a b e : Int) (M : List UInt8) (L : List UInt8) (he : (e == 0) = false) (hE : (L == [69, 113, 117, 97, 108]) = false) (hL : (L == [76, 101, 115, 115]) = false) (hG : (L == [71, 114, 101, 97, 116, 101, 114]) = false)
    (C0 : Hid (∀ w, Calls Try.prog 23 #[.int .i64 n] w fun res w' => res = .returned (.string ⟨M.toArray⟩) ∧ Grown w w'))
    (C1 : Hid (∀ w, Calls Try.prog 24 #[.int .i64 n] w fun res w' => res = .returned (.string ⟨L.toArray⟩) ∧ Grown w w'))
    (C2 : Hid (∀ w, Calls Try.prog 14 #[.string ⟨M.toArray⟩, .int .i64 t, .int .i64 x] w fun res w' => res = .returned (.tuple #[.int .i64 a, .int .i64 e]) ∧ Grown w w'))
    (C3 : Hid (∀ w, Calls Try.prog 19 #[.string ⟨L.toArray⟩, .int .i64 t, .int .i64 x, .int .i64 y] w fun res w' => res = .returned (.tuple #[.int .i64 b, .int .i64 0]) ∧ Grown w w'))
    (C5 : Hid (∀ w, Calls Try.prog 16 #[.int .i64 t, .int .i64 b] w fun res w' => res = .returned (.bool true) ∧ Grown w w'))
    (w : World) : Calls Try.prog 6 #[.int .i64 n, .int .i64 t, .agg #[.int .i64 x, .int .i64 y]] w fun e w' => e = .returned (.bool true) ∧ Grown w w' := by
  go_enter Try.func6, Try.ntmps6
  go_wp2_with fail
  generalize hw0 : w.alloc (.cells #[.int .i64 x, .int .i64 y] _) = w0
  have gq : KeptG w w0 := by rw [← hw0]; exact ⟨(Grown.refl w).alloc _ _⟩
  have k1 : w0.cell? ⟨w.heap.size, 0, none⟩ = some (.int .i64 x) := by rw [← hw0]; exact p1 _ _ _ _
  have k2 : w0.cell? ⟨w.heap.size, 1, none⟩ = some (.int .i64 y) := by rw [← hw0]; exact p2 _ _ _ _
  have z0 : w.heap.size < w0.heap.size := by rw [← hw0]; simp
  clear hw0
  go_region_held3 (fun wz => wz.cell? ⟨w.heap.size, 0, none⟩ = some (.int .i64 x) ∧ wz.cell? ⟨w.heap.size, 1, none⟩ = some (.int .i64 y) ∧ w.heap.size < wz.heap.size ∧ (KeptG w wz))
    (first
      | exact keep_drew (by assumption) (by assumption) (by assumption) (by assumption)
      | (go_split_ands
         exact keep_drew (by assumption) (by assumption) (by assumption) (by assumption))
      | (go_split_ands
         exact keep_call gq (by assumption) (by assumption) (by assumption) (by assumption))
      | go_keep)
    (first | (go_at_call 23; refine (C0.out _).mono ?_; rintro e wq ⟨rfl, gq⟩)
           | (go_at_call 14; refine (C2.out _).mono ?_; rintro e wq ⟨rfl, gq⟩))
  go_wp2_with fail
  go_region_held3 (fun wz => wz.cell? ⟨w.heap.size, 0, none⟩ = some (.int .i64 x) ∧ wz.cell? ⟨w.heap.size, 1, none⟩ = some (.int .i64 y) ∧ w.heap.size < wz.heap.size ∧ (KeptG w wz))
    (first
      | exact keep_drew (by assumption) (by assumption) (by assumption) (by assumption)
      | (go_split_ands
         exact keep_drew (by assumption) (by assumption) (by assumption) (by assumption))
      | (go_split_ands
         exact keep_call gq (by assumption) (by assumption) (by assumption) (by assumption))
      | go_keep)
    (first | (go_at_call 24; refine (C1.out _).mono ?_; rintro e wq ⟨rfl, gq⟩)
           | (go_at_call 19; refine (C3.out _).mono ?_; rintro e wq ⟨rfl, gq⟩))
  go_wp2_with fail
  refine (C1.out _).mono ?_
  rintro e wb ⟨rfl, gb⟩
  go_wp2_with fail
  refine (C5.out _).mono ?_
  rintro e wc ⟨rfl, gc⟩
  go_wp2_with (go_at_call 18; refine (live_any _).mono ?_; rintro e wL ⟨rfl, gL⟩)
  all_goals (go_split_ands; go_ret; exact ⟨rfl, grown_trans (KeptG.out (by assumption)) (grown_trans gb (grown_trans gc gL))⟩)

set_option maxHeartbeats 4000000 in
theorem walk_ok_E_bad (n t x y a b f : Int) (M : List UInt8)  (hf : (f != 0) = true)
    (C0 : Hid (∀ w, Calls Try.prog 23 #[.int .i64 n] w fun res w' => res = .returned (.string ⟨M.toArray⟩) ∧ Grown w w'))
    (C1 : Hid (∀ w, Calls Try.prog 24 #[.int .i64 n] w fun res w' => res = .returned (.string ⟨#[69, 113, 117, 97, 108]⟩) ∧ Grown w w'))
    (C2 : Hid (∀ w, Calls Try.prog 14 #[.string ⟨M.toArray⟩, .int .i64 t, .int .i64 x] w fun res w' => res = .returned (.tuple #[.int .i64 a, .int .i64 0]) ∧ Grown w w'))
    (C3 : Hid (∀ w, Calls Try.prog 19 #[.string ⟨#[69, 113, 117, 97, 108]⟩, .int .i64 t, .int .i64 x, .int .i64 y] w fun res w' => res = .returned (.tuple #[.int .i64 b, .int .i64 f]) ∧ Grown w w'))
    (C4 : Hid (∀ w, Calls Try.prog 16 #[.int .i64 t, .int .i64 a] w fun res w' => res = .returned (.bool true) ∧ Grown w w'))
    (w : World) : Calls Try.prog 6 #[.int .i64 n, .int .i64 t, .agg #[.int .i64 x, .int .i64 y]] w fun e w' => e = .returned (.bool true) ∧ Grown w w' := by
  go_enter Try.func6, Try.ntmps6
  go_wp2_with fail
  generalize hw0 : w.alloc (.cells #[.int .i64 x, .int .i64 y] _) = w0
  have gq : KeptG w w0 := by rw [← hw0]; exact ⟨(Grown.refl w).alloc _ _⟩
  have k1 : w0.cell? ⟨w.heap.size, 0, none⟩ = some (.int .i64 x) := by rw [← hw0]; exact p1 _ _ _ _
  have k2 : w0.cell? ⟨w.heap.size, 1, none⟩ = some (.int .i64 y) := by rw [← hw0]; exact p2 _ _ _ _
  have z0 : w.heap.size < w0.heap.size := by rw [← hw0]; simp
  clear hw0
  go_region_held3 (fun wz => wz.cell? ⟨w.heap.size, 0, none⟩ = some (.int .i64 x) ∧ wz.cell? ⟨w.heap.size, 1, none⟩ = some (.int .i64 y) ∧ w.heap.size < wz.heap.size ∧ (KeptG w wz))
    (first
      | exact keep_drew (by assumption) (by assumption) (by assumption) (by assumption)
      | (go_split_ands
         exact keep_drew (by assumption) (by assumption) (by assumption) (by assumption))
      | (go_split_ands
         exact keep_call gq (by assumption) (by assumption) (by assumption) (by assumption))
      | go_keep)
    (first | (go_at_call 23; refine (C0.out _).mono ?_; rintro e wq ⟨rfl, gq⟩)
           | (go_at_call 14; refine (C2.out _).mono ?_; rintro e wq ⟨rfl, gq⟩))
  go_wp2_with fail
  go_region_held3 (fun wz => wz.cell? ⟨w.heap.size, 0, none⟩ = some (.int .i64 x) ∧ wz.cell? ⟨w.heap.size, 1, none⟩ = some (.int .i64 y) ∧ w.heap.size < wz.heap.size ∧ (KeptG w wz))
    (first
      | exact keep_drew (by assumption) (by assumption) (by assumption) (by assumption)
      | (go_split_ands
         exact keep_drew (by assumption) (by assumption) (by assumption) (by assumption))
      | (go_split_ands
         exact keep_call gq (by assumption) (by assumption) (by assumption) (by assumption))
      | go_keep)
    (first | (go_at_call 24; refine (C1.out _).mono ?_; rintro e wq ⟨rfl, gq⟩)
           | (go_at_call 19; refine (C3.out _).mono ?_; rintro e wq ⟨rfl, gq⟩))
  go_wp2_with fail
  refine (C4.out _).mono ?_
  rintro e wa ⟨rfl, ga⟩
  go_wp2_with fail
  refine (C1.out _).mono ?_
  rintro e wb ⟨rfl, gb⟩
  go_wp2_with (go_at_call 18; refine (live_any _).mono ?_; rintro e wL ⟨rfl, gL⟩)
  all_goals (go_split_ands; go_ret; exact ⟨rfl, grown_trans (KeptG.out (by assumption)) (grown_trans ga (grown_trans gb gL))⟩)

set_option maxHeartbeats 4000000 in
theorem walk_ok_E_ok (n t x y a b : Int) (M : List UInt8)  
    (C0 : Hid (∀ w, Calls Try.prog 23 #[.int .i64 n] w fun res w' => res = .returned (.string ⟨M.toArray⟩) ∧ Grown w w'))
    (C1 : Hid (∀ w, Calls Try.prog 24 #[.int .i64 n] w fun res w' => res = .returned (.string ⟨#[69, 113, 117, 97, 108]⟩) ∧ Grown w w'))
    (C2 : Hid (∀ w, Calls Try.prog 14 #[.string ⟨M.toArray⟩, .int .i64 t, .int .i64 x] w fun res w' => res = .returned (.tuple #[.int .i64 a, .int .i64 0]) ∧ Grown w w'))
    (C3 : Hid (∀ w, Calls Try.prog 19 #[.string ⟨#[69, 113, 117, 97, 108]⟩, .int .i64 t, .int .i64 x, .int .i64 y] w fun res w' => res = .returned (.tuple #[.int .i64 b, .int .i64 0]) ∧ Grown w w'))
    (C4 : Hid (∀ w, Calls Try.prog 16 #[.int .i64 t, .int .i64 a] w fun res w' => res = .returned (.bool true) ∧ Grown w w'))
    (C5 : Hid (∀ w, Calls Try.prog 16 #[.int .i64 9, .int .i64 b] w fun res w' => res = .returned (.bool true) ∧ Grown w w'))
    (w : World) : Calls Try.prog 6 #[.int .i64 n, .int .i64 t, .agg #[.int .i64 x, .int .i64 y]] w fun e w' => e = .returned (.bool true) ∧ Grown w w' := by
  go_enter Try.func6, Try.ntmps6
  go_wp2_with fail
  generalize hw0 : w.alloc (.cells #[.int .i64 x, .int .i64 y] _) = w0
  have gq : KeptG w w0 := by rw [← hw0]; exact ⟨(Grown.refl w).alloc _ _⟩
  have k1 : w0.cell? ⟨w.heap.size, 0, none⟩ = some (.int .i64 x) := by rw [← hw0]; exact p1 _ _ _ _
  have k2 : w0.cell? ⟨w.heap.size, 1, none⟩ = some (.int .i64 y) := by rw [← hw0]; exact p2 _ _ _ _
  have z0 : w.heap.size < w0.heap.size := by rw [← hw0]; simp
  clear hw0
  go_region_held3 (fun wz => wz.cell? ⟨w.heap.size, 0, none⟩ = some (.int .i64 x) ∧ wz.cell? ⟨w.heap.size, 1, none⟩ = some (.int .i64 y) ∧ w.heap.size < wz.heap.size ∧ (KeptG w wz))
    (first
      | exact keep_drew (by assumption) (by assumption) (by assumption) (by assumption)
      | (go_split_ands
         exact keep_drew (by assumption) (by assumption) (by assumption) (by assumption))
      | (go_split_ands
         exact keep_call gq (by assumption) (by assumption) (by assumption) (by assumption))
      | go_keep)
    (first | (go_at_call 23; refine (C0.out _).mono ?_; rintro e wq ⟨rfl, gq⟩)
           | (go_at_call 14; refine (C2.out _).mono ?_; rintro e wq ⟨rfl, gq⟩))
  go_wp2_with fail
  go_region_held3 (fun wz => wz.cell? ⟨w.heap.size, 0, none⟩ = some (.int .i64 x) ∧ wz.cell? ⟨w.heap.size, 1, none⟩ = some (.int .i64 y) ∧ w.heap.size < wz.heap.size ∧ (KeptG w wz))
    (first
      | exact keep_drew (by assumption) (by assumption) (by assumption) (by assumption)
      | (go_split_ands
         exact keep_drew (by assumption) (by assumption) (by assumption) (by assumption))
      | (go_split_ands
         exact keep_call gq (by assumption) (by assumption) (by assumption) (by assumption))
      | go_keep)
    (first | (go_at_call 24; refine (C1.out _).mono ?_; rintro e wq ⟨rfl, gq⟩)
           | (go_at_call 19; refine (C3.out _).mono ?_; rintro e wq ⟨rfl, gq⟩))
  go_wp2_with fail
  refine (C4.out _).mono ?_
  rintro e wa ⟨rfl, ga⟩
  go_wp2_with fail
  refine (C1.out _).mono ?_
  rintro e wb ⟨rfl, gb⟩
  go_wp2_with fail
  refine (C5.out _).mono ?_
  rintro e wc ⟨rfl, gc⟩
  go_wp2_with (go_at_call 18; refine (live_any _).mono ?_; rintro e wL ⟨rfl, gL⟩)
  all_goals (go_split_ands; go_ret; exact ⟨rfl, grown_trans (KeptG.out (by assumption)) (grown_trans ga (grown_trans gb (grown_trans gc gL)))⟩)

set_option maxHeartbeats 4000000 in
theorem walk_ok_L_bad (n t x y a b f : Int) (M : List UInt8)  (hf : (f != 0) = true)
    (C0 : Hid (∀ w, Calls Try.prog 23 #[.int .i64 n] w fun res w' => res = .returned (.string ⟨M.toArray⟩) ∧ Grown w w'))
    (C1 : Hid (∀ w, Calls Try.prog 24 #[.int .i64 n] w fun res w' => res = .returned (.string ⟨#[76, 101, 115, 115]⟩) ∧ Grown w w'))
    (C2 : Hid (∀ w, Calls Try.prog 14 #[.string ⟨M.toArray⟩, .int .i64 t, .int .i64 x] w fun res w' => res = .returned (.tuple #[.int .i64 a, .int .i64 0]) ∧ Grown w w'))
    (C3 : Hid (∀ w, Calls Try.prog 19 #[.string ⟨#[76, 101, 115, 115]⟩, .int .i64 t, .int .i64 x, .int .i64 y] w fun res w' => res = .returned (.tuple #[.int .i64 b, .int .i64 f]) ∧ Grown w w'))
    (C4 : Hid (∀ w, Calls Try.prog 16 #[.int .i64 t, .int .i64 a] w fun res w' => res = .returned (.bool true) ∧ Grown w w'))
    (w : World) : Calls Try.prog 6 #[.int .i64 n, .int .i64 t, .agg #[.int .i64 x, .int .i64 y]] w fun e w' => e = .returned (.bool true) ∧ Grown w w' := by
  go_enter Try.func6, Try.ntmps6
  go_wp2_with fail
  generalize hw0 : w.alloc (.cells #[.int .i64 x, .int .i64 y] _) = w0
  have gq : KeptG w w0 := by rw [← hw0]; exact ⟨(Grown.refl w).alloc _ _⟩
  have k1 : w0.cell? ⟨w.heap.size, 0, none⟩ = some (.int .i64 x) := by rw [← hw0]; exact p1 _ _ _ _
  have k2 : w0.cell? ⟨w.heap.size, 1, none⟩ = some (.int .i64 y) := by rw [← hw0]; exact p2 _ _ _ _
  have z0 : w.heap.size < w0.heap.size := by rw [← hw0]; simp
  clear hw0
  go_region_held3 (fun wz => wz.cell? ⟨w.heap.size, 0, none⟩ = some (.int .i64 x) ∧ wz.cell? ⟨w.heap.size, 1, none⟩ = some (.int .i64 y) ∧ w.heap.size < wz.heap.size ∧ (KeptG w wz))
    (first
      | exact keep_drew (by assumption) (by assumption) (by assumption) (by assumption)
      | (go_split_ands
         exact keep_drew (by assumption) (by assumption) (by assumption) (by assumption))
      | (go_split_ands
         exact keep_call gq (by assumption) (by assumption) (by assumption) (by assumption))
      | go_keep)
    (first | (go_at_call 23; refine (C0.out _).mono ?_; rintro e wq ⟨rfl, gq⟩)
           | (go_at_call 14; refine (C2.out _).mono ?_; rintro e wq ⟨rfl, gq⟩))
  go_wp2_with fail
  go_region_held3 (fun wz => wz.cell? ⟨w.heap.size, 0, none⟩ = some (.int .i64 x) ∧ wz.cell? ⟨w.heap.size, 1, none⟩ = some (.int .i64 y) ∧ w.heap.size < wz.heap.size ∧ (KeptG w wz))
    (first
      | exact keep_drew (by assumption) (by assumption) (by assumption) (by assumption)
      | (go_split_ands
         exact keep_drew (by assumption) (by assumption) (by assumption) (by assumption))
      | (go_split_ands
         exact keep_call gq (by assumption) (by assumption) (by assumption) (by assumption))
      | go_keep)
    (first | (go_at_call 24; refine (C1.out _).mono ?_; rintro e wq ⟨rfl, gq⟩)
           | (go_at_call 19; refine (C3.out _).mono ?_; rintro e wq ⟨rfl, gq⟩))
  go_wp2_with fail
  refine (C4.out _).mono ?_
  rintro e wa ⟨rfl, ga⟩
  go_wp2_with fail
  refine (C1.out _).mono ?_
  rintro e wb ⟨rfl, gb⟩
  go_wp2_with (go_at_call 18; refine (live_any _).mono ?_; rintro e wL ⟨rfl, gL⟩)
  all_goals (go_split_ands; go_ret; exact ⟨rfl, grown_trans (KeptG.out (by assumption)) (grown_trans ga (grown_trans gb gL))⟩)

set_option maxHeartbeats 4000000 in
theorem walk_ok_L_ok (n t x y a b : Int) (M : List UInt8)  
    (C0 : Hid (∀ w, Calls Try.prog 23 #[.int .i64 n] w fun res w' => res = .returned (.string ⟨M.toArray⟩) ∧ Grown w w'))
    (C1 : Hid (∀ w, Calls Try.prog 24 #[.int .i64 n] w fun res w' => res = .returned (.string ⟨#[76, 101, 115, 115]⟩) ∧ Grown w w'))
    (C2 : Hid (∀ w, Calls Try.prog 14 #[.string ⟨M.toArray⟩, .int .i64 t, .int .i64 x] w fun res w' => res = .returned (.tuple #[.int .i64 a, .int .i64 0]) ∧ Grown w w'))
    (C3 : Hid (∀ w, Calls Try.prog 19 #[.string ⟨#[76, 101, 115, 115]⟩, .int .i64 t, .int .i64 x, .int .i64 y] w fun res w' => res = .returned (.tuple #[.int .i64 b, .int .i64 0]) ∧ Grown w w'))
    (C4 : Hid (∀ w, Calls Try.prog 16 #[.int .i64 t, .int .i64 a] w fun res w' => res = .returned (.bool true) ∧ Grown w w'))
    (C5 : Hid (∀ w, Calls Try.prog 16 #[.int .i64 9, .int .i64 b] w fun res w' => res = .returned (.bool true) ∧ Grown w w'))
    (w : World) : Calls Try.prog 6 #[.int .i64 n, .int .i64 t, .agg #[.int .i64 x, .int .i64 y]] w fun e w' => e = .returned (.bool true) ∧ Grown w w' := by
  go_enter Try.func6, Try.ntmps6
  go_wp2_with fail
  generalize hw0 : w.alloc (.cells #[.int .i64 x, .int .i64 y] _) = w0
  have gq : KeptG w w0 := by rw [← hw0]; exact ⟨(Grown.refl w).alloc _ _⟩
  have k1 : w0.cell? ⟨w.heap.size, 0, none⟩ = some (.int .i64 x) := by rw [← hw0]; exact p1 _ _ _ _
  have k2 : w0.cell? ⟨w.heap.size, 1, none⟩ = some (.int .i64 y) := by rw [← hw0]; exact p2 _ _ _ _
  have z0 : w.heap.size < w0.heap.size := by rw [← hw0]; simp
  clear hw0
  go_region_held3 (fun wz => wz.cell? ⟨w.heap.size, 0, none⟩ = some (.int .i64 x) ∧ wz.cell? ⟨w.heap.size, 1, none⟩ = some (.int .i64 y) ∧ w.heap.size < wz.heap.size ∧ (KeptG w wz))
    (first
      | exact keep_drew (by assumption) (by assumption) (by assumption) (by assumption)
      | (go_split_ands
         exact keep_drew (by assumption) (by assumption) (by assumption) (by assumption))
      | (go_split_ands
         exact keep_call gq (by assumption) (by assumption) (by assumption) (by assumption))
      | go_keep)
    (first | (go_at_call 23; refine (C0.out _).mono ?_; rintro e wq ⟨rfl, gq⟩)
           | (go_at_call 14; refine (C2.out _).mono ?_; rintro e wq ⟨rfl, gq⟩))
  go_wp2_with fail
  go_region_held3 (fun wz => wz.cell? ⟨w.heap.size, 0, none⟩ = some (.int .i64 x) ∧ wz.cell? ⟨w.heap.size, 1, none⟩ = some (.int .i64 y) ∧ w.heap.size < wz.heap.size ∧ (KeptG w wz))
    (first
      | exact keep_drew (by assumption) (by assumption) (by assumption) (by assumption)
      | (go_split_ands
         exact keep_drew (by assumption) (by assumption) (by assumption) (by assumption))
      | (go_split_ands
         exact keep_call gq (by assumption) (by assumption) (by assumption) (by assumption))
      | go_keep)
    (first | (go_at_call 24; refine (C1.out _).mono ?_; rintro e wq ⟨rfl, gq⟩)
           | (go_at_call 19; refine (C3.out _).mono ?_; rintro e wq ⟨rfl, gq⟩))
  go_wp2_with fail
  refine (C4.out _).mono ?_
  rintro e wa ⟨rfl, ga⟩
  go_wp2_with fail
  refine (C1.out _).mono ?_
  rintro e wb ⟨rfl, gb⟩
  go_wp2_with fail
  refine (C5.out _).mono ?_
  rintro e wc ⟨rfl, gc⟩
  go_wp2_with (go_at_call 18; refine (live_any _).mono ?_; rintro e wL ⟨rfl, gL⟩)
  all_goals (go_split_ands; go_ret; exact ⟨rfl, grown_trans (KeptG.out (by assumption)) (grown_trans ga (grown_trans gb (grown_trans gc gL)))⟩)

set_option maxHeartbeats 4000000 in
theorem walk_ok_G_bad (n t x y a b f : Int) (M : List UInt8)  (hf : (f != 0) = true)
    (C0 : Hid (∀ w, Calls Try.prog 23 #[.int .i64 n] w fun res w' => res = .returned (.string ⟨M.toArray⟩) ∧ Grown w w'))
    (C1 : Hid (∀ w, Calls Try.prog 24 #[.int .i64 n] w fun res w' => res = .returned (.string ⟨#[71, 114, 101, 97, 116, 101, 114]⟩) ∧ Grown w w'))
    (C2 : Hid (∀ w, Calls Try.prog 14 #[.string ⟨M.toArray⟩, .int .i64 t, .int .i64 x] w fun res w' => res = .returned (.tuple #[.int .i64 a, .int .i64 0]) ∧ Grown w w'))
    (C3 : Hid (∀ w, Calls Try.prog 19 #[.string ⟨#[71, 114, 101, 97, 116, 101, 114]⟩, .int .i64 t, .int .i64 x, .int .i64 y] w fun res w' => res = .returned (.tuple #[.int .i64 b, .int .i64 f]) ∧ Grown w w'))
    (C4 : Hid (∀ w, Calls Try.prog 16 #[.int .i64 t, .int .i64 a] w fun res w' => res = .returned (.bool true) ∧ Grown w w'))
    (w : World) : Calls Try.prog 6 #[.int .i64 n, .int .i64 t, .agg #[.int .i64 x, .int .i64 y]] w fun e w' => e = .returned (.bool true) ∧ Grown w w' := by
  go_enter Try.func6, Try.ntmps6
  go_wp2_with fail
  generalize hw0 : w.alloc (.cells #[.int .i64 x, .int .i64 y] _) = w0
  have gq : KeptG w w0 := by rw [← hw0]; exact ⟨(Grown.refl w).alloc _ _⟩
  have k1 : w0.cell? ⟨w.heap.size, 0, none⟩ = some (.int .i64 x) := by rw [← hw0]; exact p1 _ _ _ _
  have k2 : w0.cell? ⟨w.heap.size, 1, none⟩ = some (.int .i64 y) := by rw [← hw0]; exact p2 _ _ _ _
  have z0 : w.heap.size < w0.heap.size := by rw [← hw0]; simp
  clear hw0
  go_region_held3 (fun wz => wz.cell? ⟨w.heap.size, 0, none⟩ = some (.int .i64 x) ∧ wz.cell? ⟨w.heap.size, 1, none⟩ = some (.int .i64 y) ∧ w.heap.size < wz.heap.size ∧ (KeptG w wz))
    (first
      | exact keep_drew (by assumption) (by assumption) (by assumption) (by assumption)
      | (go_split_ands
         exact keep_drew (by assumption) (by assumption) (by assumption) (by assumption))
      | (go_split_ands
         exact keep_call gq (by assumption) (by assumption) (by assumption) (by assumption))
      | go_keep)
    (first | (go_at_call 23; refine (C0.out _).mono ?_; rintro e wq ⟨rfl, gq⟩)
           | (go_at_call 14; refine (C2.out _).mono ?_; rintro e wq ⟨rfl, gq⟩))
  go_wp2_with fail
  go_region_held3 (fun wz => wz.cell? ⟨w.heap.size, 0, none⟩ = some (.int .i64 x) ∧ wz.cell? ⟨w.heap.size, 1, none⟩ = some (.int .i64 y) ∧ w.heap.size < wz.heap.size ∧ (KeptG w wz))
    (first
      | exact keep_drew (by assumption) (by assumption) (by assumption) (by assumption)
      | (go_split_ands
         exact keep_drew (by assumption) (by assumption) (by assumption) (by assumption))
      | (go_split_ands
         exact keep_call gq (by assumption) (by assumption) (by assumption) (by assumption))
      | go_keep)
    (first | (go_at_call 24; refine (C1.out _).mono ?_; rintro e wq ⟨rfl, gq⟩)
           | (go_at_call 19; refine (C3.out _).mono ?_; rintro e wq ⟨rfl, gq⟩))
  go_wp2_with fail
  refine (C4.out _).mono ?_
  rintro e wa ⟨rfl, ga⟩
  go_wp2_with fail
  refine (C1.out _).mono ?_
  rintro e wb ⟨rfl, gb⟩
  go_wp2_with (go_at_call 18; refine (live_any _).mono ?_; rintro e wL ⟨rfl, gL⟩)
  all_goals (go_split_ands; go_ret; exact ⟨rfl, grown_trans (KeptG.out (by assumption)) (grown_trans ga (grown_trans gb gL))⟩)

set_option maxHeartbeats 4000000 in
theorem walk_ok_G_ok (n t x y a b : Int) (M : List UInt8)  
    (C0 : Hid (∀ w, Calls Try.prog 23 #[.int .i64 n] w fun res w' => res = .returned (.string ⟨M.toArray⟩) ∧ Grown w w'))
    (C1 : Hid (∀ w, Calls Try.prog 24 #[.int .i64 n] w fun res w' => res = .returned (.string ⟨#[71, 114, 101, 97, 116, 101, 114]⟩) ∧ Grown w w'))
    (C2 : Hid (∀ w, Calls Try.prog 14 #[.string ⟨M.toArray⟩, .int .i64 t, .int .i64 x] w fun res w' => res = .returned (.tuple #[.int .i64 a, .int .i64 0]) ∧ Grown w w'))
    (C3 : Hid (∀ w, Calls Try.prog 19 #[.string ⟨#[71, 114, 101, 97, 116, 101, 114]⟩, .int .i64 t, .int .i64 x, .int .i64 y] w fun res w' => res = .returned (.tuple #[.int .i64 b, .int .i64 0]) ∧ Grown w w'))
    (C4 : Hid (∀ w, Calls Try.prog 16 #[.int .i64 t, .int .i64 a] w fun res w' => res = .returned (.bool true) ∧ Grown w w'))
    (C5 : Hid (∀ w, Calls Try.prog 16 #[.int .i64 9, .int .i64 b] w fun res w' => res = .returned (.bool true) ∧ Grown w w'))
    (w : World) : Calls Try.prog 6 #[.int .i64 n, .int .i64 t, .agg #[.int .i64 x, .int .i64 y]] w fun e w' => e = .returned (.bool true) ∧ Grown w w' := by
  go_enter Try.func6, Try.ntmps6
  go_wp2_with fail
  generalize hw0 : w.alloc (.cells #[.int .i64 x, .int .i64 y] _) = w0
  have gq : KeptG w w0 := by rw [← hw0]; exact ⟨(Grown.refl w).alloc _ _⟩
  have k1 : w0.cell? ⟨w.heap.size, 0, none⟩ = some (.int .i64 x) := by rw [← hw0]; exact p1 _ _ _ _
  have k2 : w0.cell? ⟨w.heap.size, 1, none⟩ = some (.int .i64 y) := by rw [← hw0]; exact p2 _ _ _ _
  have z0 : w.heap.size < w0.heap.size := by rw [← hw0]; simp
  clear hw0
  go_region_held3 (fun wz => wz.cell? ⟨w.heap.size, 0, none⟩ = some (.int .i64 x) ∧ wz.cell? ⟨w.heap.size, 1, none⟩ = some (.int .i64 y) ∧ w.heap.size < wz.heap.size ∧ (KeptG w wz))
    (first
      | exact keep_drew (by assumption) (by assumption) (by assumption) (by assumption)
      | (go_split_ands
         exact keep_drew (by assumption) (by assumption) (by assumption) (by assumption))
      | (go_split_ands
         exact keep_call gq (by assumption) (by assumption) (by assumption) (by assumption))
      | go_keep)
    (first | (go_at_call 23; refine (C0.out _).mono ?_; rintro e wq ⟨rfl, gq⟩)
           | (go_at_call 14; refine (C2.out _).mono ?_; rintro e wq ⟨rfl, gq⟩))
  go_wp2_with fail
  go_region_held3 (fun wz => wz.cell? ⟨w.heap.size, 0, none⟩ = some (.int .i64 x) ∧ wz.cell? ⟨w.heap.size, 1, none⟩ = some (.int .i64 y) ∧ w.heap.size < wz.heap.size ∧ (KeptG w wz))
    (first
      | exact keep_drew (by assumption) (by assumption) (by assumption) (by assumption)
      | (go_split_ands
         exact keep_drew (by assumption) (by assumption) (by assumption) (by assumption))
      | (go_split_ands
         exact keep_call gq (by assumption) (by assumption) (by assumption) (by assumption))
      | go_keep)
    (first | (go_at_call 24; refine (C1.out _).mono ?_; rintro e wq ⟨rfl, gq⟩)
           | (go_at_call 19; refine (C3.out _).mono ?_; rintro e wq ⟨rfl, gq⟩))
  go_wp2_with fail
  refine (C4.out _).mono ?_
  rintro e wa ⟨rfl, ga⟩
  go_wp2_with fail
  refine (C1.out _).mono ?_
  rintro e wb ⟨rfl, gb⟩
  go_wp2_with fail
  refine (C5.out _).mono ?_
  rintro e wc ⟨rfl, gc⟩
  go_wp2_with (go_at_call 18; refine (live_any _).mono ?_; rintro e wL ⟨rfl, gL⟩)
  all_goals (go_split_ands; go_ret; exact ⟨rfl, grown_trans (KeptG.out (by assumption)) (grown_trans ga (grown_trans gb (grown_trans gc gL)))⟩)

set_option maxHeartbeats 4000000 in
theorem walk_ok_N_bad (n t x y a b f : Int) (M : List UInt8) (L : List UInt8) (hf : (f != 0) = true) (hE : (L == [69, 113, 117, 97, 108]) = false) (hL : (L == [76, 101, 115, 115]) = false) (hG : (L == [71, 114, 101, 97, 116, 101, 114]) = false)
    (C0 : Hid (∀ w, Calls Try.prog 23 #[.int .i64 n] w fun res w' => res = .returned (.string ⟨M.toArray⟩) ∧ Grown w w'))
    (C1 : Hid (∀ w, Calls Try.prog 24 #[.int .i64 n] w fun res w' => res = .returned (.string ⟨L.toArray⟩) ∧ Grown w w'))
    (C2 : Hid (∀ w, Calls Try.prog 14 #[.string ⟨M.toArray⟩, .int .i64 t, .int .i64 x] w fun res w' => res = .returned (.tuple #[.int .i64 a, .int .i64 0]) ∧ Grown w w'))
    (C3 : Hid (∀ w, Calls Try.prog 19 #[.string ⟨L.toArray⟩, .int .i64 t, .int .i64 x, .int .i64 y] w fun res w' => res = .returned (.tuple #[.int .i64 b, .int .i64 f]) ∧ Grown w w'))
    (C4 : Hid (∀ w, Calls Try.prog 16 #[.int .i64 t, .int .i64 a] w fun res w' => res = .returned (.bool true) ∧ Grown w w'))
    (w : World) : Calls Try.prog 6 #[.int .i64 n, .int .i64 t, .agg #[.int .i64 x, .int .i64 y]] w fun e w' => e = .returned (.bool true) ∧ Grown w w' := by
  go_enter Try.func6, Try.ntmps6
  go_wp2_with fail
  generalize hw0 : w.alloc (.cells #[.int .i64 x, .int .i64 y] _) = w0
  have gq : KeptG w w0 := by rw [← hw0]; exact ⟨(Grown.refl w).alloc _ _⟩
  have k1 : w0.cell? ⟨w.heap.size, 0, none⟩ = some (.int .i64 x) := by rw [← hw0]; exact p1 _ _ _ _
  have k2 : w0.cell? ⟨w.heap.size, 1, none⟩ = some (.int .i64 y) := by rw [← hw0]; exact p2 _ _ _ _
  have z0 : w.heap.size < w0.heap.size := by rw [← hw0]; simp
  clear hw0
  go_region_held3 (fun wz => wz.cell? ⟨w.heap.size, 0, none⟩ = some (.int .i64 x) ∧ wz.cell? ⟨w.heap.size, 1, none⟩ = some (.int .i64 y) ∧ w.heap.size < wz.heap.size ∧ (KeptG w wz))
    (first
      | exact keep_drew (by assumption) (by assumption) (by assumption) (by assumption)
      | (go_split_ands
         exact keep_drew (by assumption) (by assumption) (by assumption) (by assumption))
      | (go_split_ands
         exact keep_call gq (by assumption) (by assumption) (by assumption) (by assumption))
      | go_keep)
    (first | (go_at_call 23; refine (C0.out _).mono ?_; rintro e wq ⟨rfl, gq⟩)
           | (go_at_call 14; refine (C2.out _).mono ?_; rintro e wq ⟨rfl, gq⟩))
  go_wp2_with fail
  go_region_held3 (fun wz => wz.cell? ⟨w.heap.size, 0, none⟩ = some (.int .i64 x) ∧ wz.cell? ⟨w.heap.size, 1, none⟩ = some (.int .i64 y) ∧ w.heap.size < wz.heap.size ∧ (KeptG w wz))
    (first
      | exact keep_drew (by assumption) (by assumption) (by assumption) (by assumption)
      | (go_split_ands
         exact keep_drew (by assumption) (by assumption) (by assumption) (by assumption))
      | (go_split_ands
         exact keep_call gq (by assumption) (by assumption) (by assumption) (by assumption))
      | go_keep)
    (first | (go_at_call 24; refine (C1.out _).mono ?_; rintro e wq ⟨rfl, gq⟩)
           | (go_at_call 19; refine (C3.out _).mono ?_; rintro e wq ⟨rfl, gq⟩))
  go_wp2_with fail
  refine (C4.out _).mono ?_
  rintro e wa ⟨rfl, ga⟩
  go_wp2_with fail
  refine (C1.out _).mono ?_
  rintro e wb ⟨rfl, gb⟩
  go_wp2_with (go_at_call 18; refine (live_any _).mono ?_; rintro e wL ⟨rfl, gL⟩)
  all_goals (go_split_ands; go_ret; exact ⟨rfl, grown_trans (KeptG.out (by assumption)) (grown_trans ga (grown_trans gb gL))⟩)

set_option maxHeartbeats 4000000 in
theorem walk_ok_N_ok (n t x y a b : Int) (M : List UInt8) (L : List UInt8) (hE : (L == [69, 113, 117, 97, 108]) = false) (hL : (L == [76, 101, 115, 115]) = false) (hG : (L == [71, 114, 101, 97, 116, 101, 114]) = false)
    (C0 : Hid (∀ w, Calls Try.prog 23 #[.int .i64 n] w fun res w' => res = .returned (.string ⟨M.toArray⟩) ∧ Grown w w'))
    (C1 : Hid (∀ w, Calls Try.prog 24 #[.int .i64 n] w fun res w' => res = .returned (.string ⟨L.toArray⟩) ∧ Grown w w'))
    (C2 : Hid (∀ w, Calls Try.prog 14 #[.string ⟨M.toArray⟩, .int .i64 t, .int .i64 x] w fun res w' => res = .returned (.tuple #[.int .i64 a, .int .i64 0]) ∧ Grown w w'))
    (C3 : Hid (∀ w, Calls Try.prog 19 #[.string ⟨L.toArray⟩, .int .i64 t, .int .i64 x, .int .i64 y] w fun res w' => res = .returned (.tuple #[.int .i64 b, .int .i64 0]) ∧ Grown w w'))
    (C4 : Hid (∀ w, Calls Try.prog 16 #[.int .i64 t, .int .i64 a] w fun res w' => res = .returned (.bool true) ∧ Grown w w'))
    (C5 : Hid (∀ w, Calls Try.prog 16 #[.int .i64 t, .int .i64 b] w fun res w' => res = .returned (.bool true) ∧ Grown w w'))
    (w : World) : Calls Try.prog 6 #[.int .i64 n, .int .i64 t, .agg #[.int .i64 x, .int .i64 y]] w fun e w' => e = .returned (.bool true) ∧ Grown w w' := by
  go_enter Try.func6, Try.ntmps6
  go_wp2_with fail
  generalize hw0 : w.alloc (.cells #[.int .i64 x, .int .i64 y] _) = w0
  have gq : KeptG w w0 := by rw [← hw0]; exact ⟨(Grown.refl w).alloc _ _⟩
  have k1 : w0.cell? ⟨w.heap.size, 0, none⟩ = some (.int .i64 x) := by rw [← hw0]; exact p1 _ _ _ _
  have k2 : w0.cell? ⟨w.heap.size, 1, none⟩ = some (.int .i64 y) := by rw [← hw0]; exact p2 _ _ _ _
  have z0 : w.heap.size < w0.heap.size := by rw [← hw0]; simp
  clear hw0
  go_region_held3 (fun wz => wz.cell? ⟨w.heap.size, 0, none⟩ = some (.int .i64 x) ∧ wz.cell? ⟨w.heap.size, 1, none⟩ = some (.int .i64 y) ∧ w.heap.size < wz.heap.size ∧ (KeptG w wz))
    (first
      | exact keep_drew (by assumption) (by assumption) (by assumption) (by assumption)
      | (go_split_ands
         exact keep_drew (by assumption) (by assumption) (by assumption) (by assumption))
      | (go_split_ands
         exact keep_call gq (by assumption) (by assumption) (by assumption) (by assumption))
      | go_keep)
    (first | (go_at_call 23; refine (C0.out _).mono ?_; rintro e wq ⟨rfl, gq⟩)
           | (go_at_call 14; refine (C2.out _).mono ?_; rintro e wq ⟨rfl, gq⟩))
  go_wp2_with fail
  go_region_held3 (fun wz => wz.cell? ⟨w.heap.size, 0, none⟩ = some (.int .i64 x) ∧ wz.cell? ⟨w.heap.size, 1, none⟩ = some (.int .i64 y) ∧ w.heap.size < wz.heap.size ∧ (KeptG w wz))
    (first
      | exact keep_drew (by assumption) (by assumption) (by assumption) (by assumption)
      | (go_split_ands
         exact keep_drew (by assumption) (by assumption) (by assumption) (by assumption))
      | (go_split_ands
         exact keep_call gq (by assumption) (by assumption) (by assumption) (by assumption))
      | go_keep)
    (first | (go_at_call 24; refine (C1.out _).mono ?_; rintro e wq ⟨rfl, gq⟩)
           | (go_at_call 19; refine (C3.out _).mono ?_; rintro e wq ⟨rfl, gq⟩))
  go_wp2_with fail
  refine (C4.out _).mono ?_
  rintro e wa ⟨rfl, ga⟩
  go_wp2_with fail
  refine (C1.out _).mono ?_
  rintro e wb ⟨rfl, gb⟩
  go_wp2_with fail
  refine (C5.out _).mono ?_
  rintro e wc ⟨rfl, gc⟩
  go_wp2_with (go_at_call 18; refine (live_any _).mono ?_; rintro e wL ⟨rfl, gL⟩)
  all_goals (go_split_ands; go_ret; exact ⟨rfl, grown_trans (KeptG.out (by assumption)) (grown_trans ga (grown_trans gb (grown_trans gc gL)))⟩)

theorem tdiv_range {x y : Int} (h0 : -9223372036854775808 ≤ x) (h1 : x ≤ 9223372036854775807) (hy : y ≠ -1) : -9223372036854775808 ≤ x.tdiv y ∧ x.tdiv y ≤ 9223372036854775807 := by
  have h3 : (x.tdiv y).natAbs = x.natAbs / y.natAbs := Int.natAbs_tdiv _ _
  have h4 : x.natAbs / y.natAbs ≤ x.natAbs := Nat.div_le_self _ _
  have h5 : x.tdiv y ≠ 9223372036854775808 := by
    intro h
    rw [h] at h3
    rcases (by omega : y.natAbs ≠ 1 ∨ y = 1) with h6 | rfl
    · have h7 : x.natAbs / y.natAbs < 9223372036854775808 := by
        rcases (by omega : y.natAbs = 0 ∨ 2 ≤ y.natAbs) with h8 | h8
        · rw [h8, Nat.div_zero]; decide
        · have : x.natAbs / y.natAbs ≤ x.natAbs / 2 := Nat.div_le_div_left h8 (by decide)
          omega
      have : (9223372036854775808 : Int).natAbs = 9223372036854775808 := rfl
      omega
    · rw [Int.tdiv_one] at h; omega
  omega

theorem binI_range {op : List UInt8} {t x y : Int} (x0 : -9223372036854775808 ≤ x) (x1 : x ≤ 9223372036854775807) (y0 : -9223372036854775808 ≤ y) (y1 : y ≤ 9223372036854775807) :
    -9223372036854775808 ≤ (binI op t x y).1 ∧ (binI op t x y).1 ≤ 9223372036854775807 := by
  have hz : ∀ z, -9223372036854775808 ≤ cutT t (wrap64 z) ∧ cutT t (wrap64 z) ≤ 9223372036854775807 := by
    intro z
    unfold cutT wrap32 wrap64
    split <;> omega
  have fl : ∀ b, -9223372036854775808 ≤ flg b ∧ flg b ≤ 9223372036854775807 := by intro b; cases b <;> decide
  unfold binI
  by_cases e1 : op = [65, 100, 100]
  · rw [if_pos e1]; exact hz _
  rw [if_neg e1]
  by_cases e2 : op = [83, 117, 98]
  · rw [if_pos e2]; exact hz _
  rw [if_neg e2]
  by_cases e3 : op = [77, 117, 108]
  · rw [if_pos e3]; exact hz _
  rw [if_neg e3]
  by_cases e4 : op = [68, 105, 118]
  · rw [if_pos e4]
    by_cases h5 : y = 0
    · rw [if_pos h5]; decide
    rw [if_neg h5]
    by_cases h6 : y = -1
    · rw [if_pos h6]; exact hz _
    rw [if_neg h6]; exact tdiv_range x0 x1 h6
  rw [if_neg e4]
  by_cases e5 : op = [77, 97, 120]
  · rw [if_pos e5]; show _ ≤ max x y ∧ max x y ≤ _; omega
  rw [if_neg e5]
  by_cases e6 : op = [77, 105, 110]
  · rw [if_pos e6]; show _ ≤ min x y ∧ min x y ≤ _; omega
  rw [if_neg e6]
  by_cases e7 : op = [69, 113, 117, 97, 108]
  · rw [if_pos e7]; exact fl _
  rw [if_neg e7]
  by_cases e8 : op = [76, 101, 115, 115]
  · rw [if_pos e8]; exact fl _
  rw [if_neg e8]
  by_cases e9 : op = [71, 114, 101, 97, 116, 101, 114]
  · rw [if_pos e9]; exact fl _
  rw [if_neg e9]; decide

theorem chk_range {t x : Int} (ht : t ≠ 7) (h : chk t x = true) : -9223372036854775808 ≤ x ∧ x ≤ 9223372036854775807 := by
  by_cases h1 : t = 1
  · subst h1; exact okF_range h
  by_cases h2 : t = 6
  · subst h2; rw [chk_i32] at h; simp only [decide_eq_true_eq] at h; omega
  by_cases h3 : t = 9
  · subst h3; rw [chk_bool] at h; simp only [decide_eq_true_eq] at h; omega
  unfold chk at h
  rw [if_neg h1, if_neg h2, if_neg h3] at h
  simp only [decide_eq_true_eq] at h
  exact absurd h ht

theorem bin_range {op : List UInt8} {t x y : Int} (x0 : -9223372036854775808 ≤ x) (x1 : x ≤ 9223372036854775807) (y0 : -9223372036854775808 ≤ y) (y1 : y ≤ 9223372036854775807)
    (h : (bin op t x y).2 = 0) : -9223372036854775808 ≤ (bin op t x y).1 ∧ (bin op t x y).1 ≤ 9223372036854775807 := by
  have hs := bin_stays op t x y h
  by_cases ht : outT op t = 7
  · have e7 : t = 7 := by
      unfold outT at ht
      split at ht
      · exact absurd ht (by decide)
      · exact ht
    unfold bin binR
    by_cases hc : chk t x = false ∨ chk t y = false
    · rw [if_pos hc]; decide
    rw [if_neg hc, if_pos (by rw [e7]; rfl)]
    exact binI_range x0 x1 y0 y1
  · exact chk_range ht hs

attribute [local irreducible] chk bin un cst

theorem check_l (t x : Int) (h0 : -9223372036854775808 ≤ x) (h1 : x ≤ 9223372036854775807) (hc : chk t x = true) (w : World) :
    Calls Try.prog 16 #[.int .i64 t, .int .i64 x] w fun res w' => res = .returned (.bool true) ∧ Grown w w' := by
  refine (check_any t x h0 h1 w).mono ?_
  rintro e w' ⟨rfl, rfl⟩
  exact ⟨by rw [hc], Grown.refl _⟩

theorem walk (n t x y : Int) (wn : (Lit.int .i64 n).wf = true) (w0 : (Lit.int .i64 t).wf = true) (w1 : (Lit.int .i64 x).wf = true) (u1 : (Lit.int .i64 y).wf = true) (w : World) :
    Calls Try.prog 6 #[.int .i64 n, .int .i64 t, .agg #[.int .i64 x, .int .i64 y]] w fun e w' => e = .returned (.bool true) ∧ Grown w w' := by
  obtain ⟨n0, n1⟩ := i64_of_wf wn
  obtain ⟨x0, x1⟩ := i64_of_wf w1
  obtain ⟨y0, y1⟩ := i64_of_wf u1
  have C0 := ops1_any n n0 n1
  have C1 := ops2_any n n0 n1
  have C2 := unary_l (ops1F n) t x x0 x1
  have C3 := binary_l (ops2F n) t x y x0 x1 y0 y1
  have hu := un_stays (ops1F n) t x
  have hb := bin_stays (ops2F n) t x y
  have ru := un_range (ops1F n) t x x0 x1
  have rb := fun h => bin_range (op := ops2F n) (t := t) x0 x1 y0 y1 h
  generalize ops1F n = M at *
  generalize ops2F n = L at *
  generalize un M t x = p at *
  generalize bin L t x y = q at *
  obtain ⟨a, e⟩ := p
  obtain ⟨b, f⟩ := q
  simp only at C2 C3 hu hb ru rb
  have C4 : e = 0 → ∀ w, _ := fun h => check_l t a ru.1 ru.2 (hu h)
  have C5 : f = 0 → ∀ w, _ := fun h => check_l (outT L t) b (rb h).1 (rb h).2 (hb h)
  have he0 : (¬ e = 0) → (e == 0) = false := by simp
  have hf0 : (¬ f = 0) → (f != 0) = true := by simp
  unfold outT at C5
  by_cases h1 : L = [69, 113, 117, 97, 108]
  · subst h1
    rw [if_pos (by simp)] at C5
    by_cases he : e = 0
    · subst he
      by_cases hf : f = 0
      · subst hf; exact walk_ok_E_ok n t x y a b M C0 C1 C2 C3 (C4 rfl) (C5 rfl) w
      · exact walk_ok_E_bad n t x y a b f M (hf0 hf) C0 C1 C2 C3 (C4 rfl) w
    · by_cases hf : f = 0
      · subst hf; exact walk_bad_E_ok n t x y a b e M (he0 he) C0 C1 C2 C3 (C5 rfl) w
      · exact walk_bad_E_bad n t x y a b e f M (he0 he) (hf0 hf) C0 C1 C2 C3 w
  by_cases h2 : L = [76, 101, 115, 115]
  · subst h2
    rw [if_pos (by simp)] at C5
    by_cases he : e = 0
    · subst he
      by_cases hf : f = 0
      · subst hf; exact walk_ok_L_ok n t x y a b M C0 C1 C2 C3 (C4 rfl) (C5 rfl) w
      · exact walk_ok_L_bad n t x y a b f M (hf0 hf) C0 C1 C2 C3 (C4 rfl) w
    · by_cases hf : f = 0
      · subst hf; exact walk_bad_L_ok n t x y a b e M (he0 he) C0 C1 C2 C3 (C5 rfl) w
      · exact walk_bad_L_bad n t x y a b e f M (he0 he) (hf0 hf) C0 C1 C2 C3 w
  by_cases h3 : L = [71, 114, 101, 97, 116, 101, 114]
  · subst h3
    rw [if_pos (by simp)] at C5
    by_cases he : e = 0
    · subst he
      by_cases hf : f = 0
      · subst hf; exact walk_ok_G_ok n t x y a b M C0 C1 C2 C3 (C4 rfl) (C5 rfl) w
      · exact walk_ok_G_bad n t x y a b f M (hf0 hf) C0 C1 C2 C3 (C4 rfl) w
    · by_cases hf : f = 0
      · subst hf; exact walk_bad_G_ok n t x y a b e M (he0 he) C0 C1 C2 C3 (C5 rfl) w
      · exact walk_bad_G_bad n t x y a b e f M (he0 he) (hf0 hf) C0 C1 C2 C3 w
  rw [if_neg (by simp [h1, h2, h3])] at C5
  have H1 : (L == [69, 113, 117, 97, 108]) = false := by simpa using h1
  have H2 : (L == [76, 101, 115, 115]) = false := by simpa using h2
  have H3 : (L == [71, 114, 101, 97, 116, 101, 114]) = false := by simpa using h3
  by_cases he : e = 0
  · subst he
    by_cases hf : f = 0
    · subst hf; exact walk_ok_N_ok n t x y a b M L H1 H2 H3 C0 C1 C2 C3 (C4 rfl) (C5 rfl) w
    · exact walk_ok_N_bad n t x y a b f M L (hf0 hf) H1 H2 H3 C0 C1 C2 C3 (C4 rfl) w
  · by_cases hf : f = 0
    · subst hf; exact walk_bad_N_ok n t x y a b e M L (he0 he) H1 H2 H3 C0 C1 C2 C3 (C5 rfl) w
    · exact walk_bad_N_bad n t x y a b e f M L (he0 he) (hf0 hf) H1 H2 H3 C0 C1 C2 C3 w

set_option linter.unusedVariables false
set_option maxRecDepth 100000 in
set_option maxHeartbeats 400000 in
theorem lifted (os : Os) (started : os.Started) (H : Type) (enc : TypeId × Value → H) :
    ReturnsInHanded {} Try.checked os 6 .any (Rows.numStaysSpec.pre6 enc Try.prog Try.f6 Rows.numStaysRow.domain false) (Rows.numStaysSpec.post enc Try.prog Try.f6 false true false false) := by
  refine returnsInHanded_of_change (C := Try.checked) own started (by kernel_rfl) Try.func6
    (ChangeSpec.witness6 (enc := enc) (C := Try.checked) false ⟨#[], #[.int .i64 0, .int .i64 0, .agg #[.int .i64 0, .int .i64 0]], []⟩ 8 (by kernel_rfl) (by kernel_rfl) (by kernel_rfl) (by kernel_rfl)) ?_
  intro W base args ds gs before hval0 hW hcnd _
  have hval : ∀ (j : Nat) t v, Try.f6.params[j]? = some t → args[j]? = some v → Value.okWide Try.prog W .any base t v := hval0
  have hW' := hW
  obtain ⟨p, q, hA0, hV, rfl, hfz, hnd⟩ := hW
  have hA : DataW.TrodAll enc Try.prog W 0 (fun _ => true) true Try.f6.params.toList args.toList ds p := hA0
  rw [Try.params6] at hA hval
  obtain ⟨v0, vs0, d0, ds0, p0, q0, hargs, rfl, rfl, h0, r0⟩ := trodAll_cons hA
  obtain ⟨v1, vs1, d1, ds1, p1, q1, rfl, rfl, rfl, h1, r1⟩ := trodAll_cons r0
  obtain ⟨v2, vs2, d2, ds2, p2, q2, rfl, rfl, rfl, h2, r2⟩ := trodAll_cons r1
  obtain ⟨rfl, rfl, rfl⟩ := trodAll_nil r2
  obtain rfl : args = #[v0, v1, v2] := by cases args; simp_all
  obtain ⟨rfl, rfl⟩ := trodVars_none hV
  obtain ⟨a0, rfl, rfl, rfl, w0⟩ := open_int Try.underlying3 (hval 0 3 v0 rfl rfl) h0
  obtain ⟨a1, rfl, rfl, rfl, w1⟩ := open_int Try.underlying3 (hval 1 3 v1 rfl rfl) h1
  obtain ⟨a2, b2, rfl, rfl, rfl, w2, u2⟩ := open_pair (hval 2 28 v2 rfl rfl) h2
  clear hA0 hval0
  simp only [List.append_nil] at hW'
  refine (walk a0 a1 a2 b2 w0 w1 w2 u2 W).mono fun e W' ⟨he, hg⟩ => ?_
  subst he
  exact ⟨_, rfl, post_of_same (pa := []) (pv := []) hW' (fun _ _ _ => (trodAll_cons_mk (shut_bool Try.underlying4 _) trodAll_mk0)) (fun sp _ => (trodAll_cons_mk (shut_int Try.underlying3 w0) (trodAll_cons_mk (shut_int Try.underlying3 w1) (trodAll_cons_mk (shut_pair w2 u2) trodAll_mk0)))) (fun _ _ => rfl) rfl
    (hg.frame _) hg.2.1 (ok_one (by kernel_rfl) rfl (okWide_bool_mk Try.underlying4 _))⟩

theorem over : Rows.numStaysRow.holds Try.pinned (OpenSpec.ofChange Rows.numStaysSpec) :=
  OpenClaim.holds_of_wide 6 Try.f6 rfl rfl rfl rfl rfl rfl rfl ⟨rfl, rfl, rfl, rfl, rfl⟩ rfl rfl rfl rfl rfl (by kernel_rfl) Try.func6 (by kernel_rfl)
    (of_decide_eq_true (by kernel_rfl)) (by unfold Func.isWrapper; first | (rw [if_pos (by decide +kernel)]; kernel_rfl) | (rw [if_neg (by decide +kernel)]; exact ⟨rfl, rfl⟩))
    (fun os started H enc _ => lifted os started H enc)

/-- The statement. -/
theorem proved : Rows.NumStaysSaid :=
  over
#print axioms proved

end numStays
end Go.Proofs.Ytepmacimknblpaa
