/- The walks of the reference's SameData and Same. -/
import Derived.Test.YtfdafceolkmkoaaViewU
import Derived.BigQuiet
import Derived.Deep.QuietTactic
set_option linter.unusedVariables false
namespace Go.Proofs.Ytfdafceolkmkoaa
open Go.RowKit Vw

def SameTo (xs ys : List Int) (k : Nat) : Prop := ∀ j, j < k → xs.getD j 0 = ys.getD j 0

theorem same_all {xs ys : List Int} (hl : xs.length = ys.length) (h : SameTo xs ys xs.length) : xs = ys := by
  refine List.ext_getElem hl fun j h1 h2 => ?_
  have := h j h1
  simpa [List.getD, List.getElem?_eq_getElem h1, List.getElem?_eq_getElem h2] using this

theorem below_drewN {B : Nat} {a w : World} (h : Below B a w) (q : Nat) : Below B a (w.drewN q) := ⟨h.os, h.tape, h.output, h.size, h.block⟩

set_option maxHeartbeats 1000000 in
theorem sameData_rows (b1 o1 c1 b2 o2 c2 : Nat) (xs ys : List Int) (hlen : xs.length * 8 ≤ 140737488351232) (hl : xs.length = ys.length) (w : World) (hb1 : b1 < w.heap.size) (hb2 : b2 < w.heap.size) (h1 : Hid (Reads w b1 o1 xs)) (h2 : Hid (Reads w b2 o2 ys)) :
    Calls Try.prog 23 #[.slice (some ⟨b1, o1, none⟩) xs.length c1, .slice (some ⟨b2, o2, none⟩) ys.length c2] w fun e w' => e = .returned (.bool (decide (xs = ys))) ∧ Below w.heap.size w w' := by
  rw [← hl]
  have HL := Lib.hid hl
  clear hl
  go_enter Try.func23, Try.ntmps23
  go_wp2
  go_loopw [5] (fun i wr => ∃ k : Nat, k ≤ xs.length ∧ i = .int .i64 (k : Int) ∧ Hid (SameTo xs ys k) ∧ Hid (Below w.heap.size w wr)) (fun i _ => xs.length - (intOf i).toNat)
  case atStart => exact ⟨0, Nat.zero_le _, rfl, Lib.hid (fun j hj => by omega), Lib.hid (Below.refl _ _)⟩
  case round =>
    obtain ⟨k, hk, rfl, hs, hb⟩ := hrel
    by_cases hkl : k < xs.length
    · have x1 := (hb.out.cell (p := ⟨b1, o1 + k, none⟩) hb1).trans (h1.out k hkl)
      have x2 := (hb.out.cell (p := ⟨b2, o2 + k, none⟩) hb2).trans (h2.out k (by have := HL.out; omega))
      have hki : (k : Int) < (xs.length : Int) := by omega
      have hnx : Hid (xs.getD k 0 = ys.getD k 0 → SameTo xs ys (k + 1)) := Lib.hid fun h j hj => by
        by_cases e : j = k
        · subst e; exact h
        · exact hs.out j (by omega)
      have hno : Hid (xs.getD k 0 ≠ ys.getD k 0 → xs ≠ ys) := Lib.hid fun h e => h (by rw [e])
      generalize xs.getD k 0 = x at *
      generalize ys.getD k 0 = y at *
      by_cases hxy : x = y
      · have HN := Lib.hid (hnx.out hxy)
        subst hxy
        go_wp2
        go_quiet (fail)
        go_wp2
        go_roundw
        case rel => exact ⟨k + 1, by omega, by go_num, HN, Lib.hid (below_drewN hb.out _)⟩
        case measure => simp [intOf]; omega
      · have HN := Lib.hid (hno.out hxy)
        go_wp2
        go_quiet (fail)
        go_wp2
        go_ret
        exact ⟨ret_val (bool_val (by rw [decide_eq_false HN.out])), below_drewN hb.out _⟩
    · obtain rfl : k = xs.length := by omega
      have HN := Lib.hid (same_all HL.out hs.out)
      go_wp2
      go_ret
      exact ⟨ret_val (bool_val (by rw [decide_eq_true HN.out])), hb.out⟩

theorem sameData_lens (a1 a2 : Option Addr) (n1 n2 c1 c2 : Nat) (hl : (n1 : Int) ≠ (n2 : Int)) (w : World) :
    Calls Try.prog 23 #[.slice a1 n1 c1, .slice a2 n2 c2] w fun e w' => e = .returned (.bool false) ∧ w = w' := by
  have h : ((n1 : Int) != (n2 : Int)) = true := by simpa using hl
  go_enter Try.func23, Try.ntmps23
  go_wp2
  all_goals first
    | (go_ret; exact ⟨rfl, rfl⟩)
    | (exfalso; simp_all)

theorem sameData_empty (a1 a2 : Option Addr) (c1 c2 : Nat) (w : World) :
    Calls Try.prog 23 #[.slice a1 0 c1, .slice a2 0 c2] w fun e w' => e = .returned (.bool true) ∧ w = w' := by
  go_enter Try.func23, Try.ntmps23
  go_wp2
  go_rounds 1
  go_ret
  exact ⟨rfl, rfl⟩

/-- THE REFERENCE's SAMEDATA. -/
theorem sameData_any {w : World} {a b : Value} {xs ys : List Int} (h1 : IntsIn w a xs) (h2 : IntsIn w b ys) :
    Calls Try.prog 23 #[a, b] w fun e w' => e = .returned (.bool (decide (xs = ys))) ∧ Below w.heap.size w w' := by
  by_cases hl : xs.length = ys.length
  · cases h1 with
    | empty a0 c0 =>
      have e : ys = [] := List.eq_nil_of_length_eq_zero (by simpa using hl.symm)
      subst e
      obtain ⟨a3, c3, rfl⟩ := h2.form
      refine (sameData_empty a0 a3 c0 c3 w).mono ?_
      rintro e w' ⟨rfl, rfl⟩
      exact ⟨rfl, Below.refl _ _⟩
    | row b1 o1 c1 _ n0 hc hb hr hlen hw =>
      cases h2 with
      | empty a0 c0 => exact absurd (List.eq_nil_of_length_eq_zero (by simpa using hl)) n0
      | row b2 o2 c2 _ n0' hc' hb' hr' hlen' hw' => exact sameData_rows b1 o1 c1 b2 o2 c2 xs ys hlen hl w hb hb' (Lib.hid hr) (Lib.hid hr')
  · obtain ⟨a1, c1, rfl⟩ := h1.form
    obtain ⟨a2, c2, rfl⟩ := h2.form
    refine (sameData_lens a1 a2 xs.length ys.length c1 c2 (by omega) w).mono ?_
    rintro e w' ⟨rfl, rfl⟩
    exact ⟨ret_val (bool_val (decide_eq_false (fun e => hl (by rw [e]))).symm), Below.refl _ _⟩

end Go.Proofs.Ytfdafceolkmkoaa
