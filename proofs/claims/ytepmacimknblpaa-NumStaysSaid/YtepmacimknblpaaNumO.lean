/- The walks of mandrellaw02.ops1 and ops2: an operator's name by a number. -/
import Derived.Test.YtepmacimknblpaaNumL
namespace Go.Proofs.Ytepmacimknblpaa
open Go.RowKit Ieee Fl

def ops1L : List (List UInt8) := [[73, 100, 101, 110, 116, 105, 116, 121], [78, 101, 103], [65, 98, 115], [78, 111, 116], [82, 101, 108, 117], [83, 113, 114, 116], [70, 108, 111, 111, 114], [69, 120, 112], [83, 105, 103, 109, 111, 105, 100], [84, 97, 110, 104]]
def ops2L : List (List UInt8) := [[65, 100, 100], [83, 117, 98], [77, 117, 108], [68, 105, 118], [77, 97, 120], [77, 105, 110], [65, 110, 100], [79, 114], [88, 111, 114], [69, 113, 117, 97, 108], [76, 101, 115, 115], [71, 114, 101, 97, 116, 101, 114]]
/-- The place of a number among so many. -/
def placeOf (n m : Int) : Nat := ((if n < 0 then -(n + 1) else n) % m).toNat
def ops1F (n : Int) : List UInt8 := ops1L.getD (placeOf n 10) []
def ops2F (n : Int) : List UInt8 := ops2L.getD (placeOf n 12) []

theorem ops_end {l : List UInt8} {s : List UInt8} (h : s = l) : Ending.returned (.string ⟨l.toArray⟩) = Ending.returned (.string ⟨s.toArray⟩) := by rw [h]

theorem ten (m : Int) : m % 10 = 0 ∨ m % 10 = 1 ∨ m % 10 = 2 ∨ m % 10 = 3 ∨ m % 10 = 4 ∨ m % 10 = 5 ∨ m % 10 = 6 ∨ m % 10 = 7 ∨ m % 10 = 8 ∨ m % 10 = 9 := by omega
theorem twelve (m : Int) : m % 12 = 0 ∨ m % 12 = 1 ∨ m % 12 = 2 ∨ m % 12 = 3 ∨ m % 12 = 4 ∨ m % 12 = 5 ∨ m % 12 = 6 ∨ m % 12 = 7 ∨ m % 12 = 8 ∨ m % 12 = 9 ∨ m % 12 = 10 ∨ m % 12 = 11 := by omega

theorem tmod_down {n : Int} (h : n < 0) (m : Int) : (n + 1).tmod m = -(-(n + 1) % m) := by
  have e : n + 1 = -(-(n + 1)) := by omega
  rw [e, Int.neg_tmod, Int.tmod_eq_emod_of_nonneg (by omega), Int.neg_neg]

set_option maxHeartbeats 4000000 in
theorem ops1_up (n : Int) (h0 : 0 ≤ n) (h1 : n ≤ 9223372036854775807) (w : World) :
    Calls Try.prog 23 #[.int .i64 n] w fun e w' => e = .returned (.string ⟨(ops1F n).toArray⟩) ∧ Grown w w' := by
  have hp : placeOf n 10 = (n % 10).toNat := by unfold placeOf; rw [if_neg (by omega)]
  have hl : ops1F n = ops1L.getD (n % 10).toNat [] := by unfold ops1F; rw [hp]
  rw [hl]
  clear hp hl
  rcases ten n with hk | hk | hk | hk | hk | hk | hk | hk | hk | hk
  all_goals
    rw [hk]
    simp only [Int.reduceToNat, ops1L, List.getD_cons_zero, List.getD_cons_succ]
    go_enter Try.func23, Try.ntmps23
    go_wp2
    go_ret
    exact ⟨rfl, (Grown.refl _).alloc _ _⟩

set_option maxHeartbeats 4000000 in
theorem ops1_down (n : Int) (h0 : -9223372036854775808 ≤ n) (h1 : n < 0) (w : World) :
    Calls Try.prog 23 #[.int .i64 n] w fun e w' => e = .returned (.string ⟨(ops1F n).toArray⟩) ∧ Grown w w' := by
  have hp : placeOf n 10 = (-(n + 1) % 10).toNat := by unfold placeOf; rw [if_pos h1]
  have hl : ops1F n = ops1L.getD (-(n + 1) % 10).toNat [] := by unfold ops1F; rw [hp]
  rw [hl]
  clear hp hl
  have ht : (n + 1).tmod 10 = -(-(n + 1) % 10) := tmod_down h1 10
  rcases ten (-(n + 1)) with hk | hk | hk | hk | hk | hk | hk | hk | hk | hk
  all_goals
    rw [hk] at ht ⊢
    clear hk
    try simp only [Int.reduceNeg] at ht
    simp only [Int.reduceToNat, ops1L, List.getD_cons_zero, List.getD_cons_succ]
    go_enter Try.func23, Try.ntmps23
    go_wp2
    go_ret
    exact ⟨rfl, (Grown.refl _).alloc _ _⟩

theorem ops1_any (n : Int) (h0 : -9223372036854775808 ≤ n) (h1 : n ≤ 9223372036854775807) (w : World) :
    Calls Try.prog 23 #[.int .i64 n] w fun e w' => e = .returned (.string ⟨(ops1F n).toArray⟩) ∧ Grown w w' := by
  by_cases h : n < 0
  · exact ops1_down n h0 h w
  · exact ops1_up n (by omega) h1 w

set_option maxHeartbeats 4000000 in
theorem ops2_up (n : Int) (h0 : 0 ≤ n) (h1 : n ≤ 9223372036854775807) (w : World) :
    Calls Try.prog 24 #[.int .i64 n] w fun e w' => e = .returned (.string ⟨(ops2F n).toArray⟩) ∧ Grown w w' := by
  have hp : placeOf n 12 = (n % 12).toNat := by unfold placeOf; rw [if_neg (by omega)]
  have hl : ops2F n = ops2L.getD (n % 12).toNat [] := by unfold ops2F; rw [hp]
  rw [hl]
  clear hp hl
  rcases twelve n with hk | hk | hk | hk | hk | hk | hk | hk | hk | hk | hk | hk
  all_goals
    rw [hk]
    simp only [Int.reduceToNat, ops2L, List.getD_cons_zero, List.getD_cons_succ]
    go_enter Try.func24, Try.ntmps24
    go_wp2
    go_ret
    exact ⟨rfl, (Grown.refl _).alloc _ _⟩

set_option maxHeartbeats 4000000 in
theorem ops2_down (n : Int) (h0 : -9223372036854775808 ≤ n) (h1 : n < 0) (w : World) :
    Calls Try.prog 24 #[.int .i64 n] w fun e w' => e = .returned (.string ⟨(ops2F n).toArray⟩) ∧ Grown w w' := by
  have hp : placeOf n 12 = (-(n + 1) % 12).toNat := by unfold placeOf; rw [if_pos h1]
  have hl : ops2F n = ops2L.getD (-(n + 1) % 12).toNat [] := by unfold ops2F; rw [hp]
  rw [hl]
  clear hp hl
  have ht : (n + 1).tmod 12 = -(-(n + 1) % 12) := tmod_down h1 12
  rcases twelve (-(n + 1)) with hk | hk | hk | hk | hk | hk | hk | hk | hk | hk | hk | hk
  all_goals
    rw [hk] at ht ⊢
    clear hk
    try simp only [Int.reduceNeg] at ht
    simp only [Int.reduceToNat, ops2L, List.getD_cons_zero, List.getD_cons_succ]
    go_enter Try.func24, Try.ntmps24
    go_wp2
    go_ret
    exact ⟨rfl, (Grown.refl _).alloc _ _⟩

theorem ops2_any (n : Int) (h0 : -9223372036854775808 ≤ n) (h1 : n ≤ 9223372036854775807) (w : World) :
    Calls Try.prog 24 #[.int .i64 n] w fun e w' => e = .returned (.string ⟨(ops2F n).toArray⟩) ∧ Grown w w' := by
  by_cases h : n < 0
  · exact ops2_down n h0 h w
  · exact ops2_up n (by omega) h1 w

end Go.Proofs.Ytepmacimknblpaa
