/- The walks of the reference's Same (lists), SameTensor, SameAttr, SameNode. -/
import Derived.Test.YtagiipecfdmceaaGreatDoorSchSbs
import Derived.Test.YtagiipecfdmceaaGreatDoorSchTgs
import Derived.BigQuiet
import Derived.Deep.QuietTactic
import Derived.Deep.LoopGhost
import Derived.Test.YtagiipecfdmceaaGreatDoorSchNos
import Derived.Test.YtagiipecfdmceaaGreatDoorRegs
set_option linter.unusedVariables false
set_option linter.unusedSimpArgs false
namespace Go.Proofs.YtagiipecfdmceaaGreatDoor
open Go.RowKit

def SameTo (xs ys : List Int) (k : Nat) : Prop := ∀ j, j < k → xs.getD j 0 = ys.getD j 0

theorem same_all {xs ys : List Int} (hl : xs.length = ys.length) (h : SameTo xs ys xs.length) : xs = ys := by
  refine List.ext_getElem hl fun j h1 h2 => ?_
  have := h j h1
  simpa [List.getD, List.getElem?_eq_getElem h1, List.getElem?_eq_getElem h2] using this

set_option maxHeartbeats 1000000 in
theorem rsame_rows (b1 o1 c1 b2 o2 c2 : Nat) (xs ys : List Int) (hlen : xs.length * 8 ≤ 140737488351232) (hl : xs.length = ys.length) (w : World) (hb1 : b1 < w.heap.size) (hb2 : b2 < w.heap.size) (h1 : Hid (Reads w b1 o1 xs)) (h2 : Hid (Reads w b2 o2 ys)) :
    Calls Tryz.prog 12 #[.slice (some ⟨b1, o1, none⟩) xs.length c1, .slice (some ⟨b2, o2, none⟩) ys.length c2] w fun e w' => e = .returned (.bool (decide (xs = ys))) ∧ Below w.heap.size w w' := by
  rw [← hl]
  have HL := Lib.hid hl
  clear hl
  go_enter Tryz.func12, Tryz.ntmps12
  go_wp2
  go_loopw [5] (fun i wr => ∃ k : Nat, k ≤ xs.length ∧ i = .int .i64 (k : Int) ∧ Hid (SameTo xs ys k) ∧ Hid (Below w.heap.size w wr)) (fun i _ => xs.length - (intOf i).toNat)
  case atStart => exact ⟨0, Nat.zero_le _, rfl, Lib.hid (fun j hj => by omega), Lib.hid (Below.refl _ _)⟩
  case round =>
    obtain ⟨k, hk, rfl, hs, hb⟩ := hrel
    by_cases hkl : k < xs.length
    · have x1 := (hb.out.cell (p := ⟨b1, o1 + k, none⟩) hb1).trans (h1.out k hkl)
      have x2 := (hb.out.cell (p := ⟨b2, o2 + k, none⟩) hb2).trans (h2.out k (by have := HL.out; omega))
      have hki : (k : Int) < (xs.length : Int) := by omega
      have hnx : Hid (xs.getD k 0 = ys.getD k 0 → SameTo xs ys (k + 1)) := Lib.hid fun h j hj => by
        by_cases e : j = k
        · subst e; exact h
        · exact hs.out j (by omega)
      have hno : Hid (xs.getD k 0 ≠ ys.getD k 0 → xs ≠ ys) := Lib.hid fun h e => h (by rw [e])
      generalize xs.getD k 0 = x at *
      generalize ys.getD k 0 = y at *
      by_cases hxy : x = y
      · have HN := Lib.hid (hnx.out hxy)
        subst hxy
        go_wp2
        go_quiet (fail)
        go_wp2
        go_roundw
        case rel => exact ⟨k + 1, by omega, by go_num, HN, Lib.hid (below_drewN hb.out _)⟩
        case measure => simp [intOf]; omega
      · have HN := Lib.hid (hno.out hxy)
        go_wp2
        go_quiet (fail)
        go_wp2
        go_ret
        exact ⟨ret_val (bool_val (by rw [decide_eq_false HN.out])), below_drewN hb.out _⟩
    · obtain rfl : k = xs.length := by omega
      have HN := Lib.hid (same_all HL.out hs.out)
      go_wp2
      go_ret
      exact ⟨ret_val (bool_val (by rw [decide_eq_true HN.out])), hb.out⟩

theorem rsame_lens (a1 a2 : Option Addr) (n1 n2 c1 c2 : Nat) (hl : (n1 : Int) ≠ (n2 : Int)) (w : World) :
    Calls Tryz.prog 12 #[.slice a1 n1 c1, .slice a2 n2 c2] w fun e w' => e = .returned (.bool false) ∧ w = w' := by
  have h : ((n1 : Int) != (n2 : Int)) = true := by simpa using hl
  go_enter Tryz.func12, Tryz.ntmps12
  go_wp2
  all_goals first
    | (go_ret; exact ⟨rfl, rfl⟩)
    | (exfalso; simp_all)

theorem rsame_empty (a1 a2 : Option Addr) (c1 c2 : Nat) (w : World) :
    Calls Tryz.prog 12 #[.slice a1 0 c1, .slice a2 0 c2] w fun e w' => e = .returned (.bool true) ∧ w = w' := by
  go_enter Tryz.func12, Tryz.ntmps12
  go_wp2
  go_rounds 1
  go_ret
  exact ⟨rfl, rfl⟩

/-- THE REFERENCE's SAME of lists. -/
theorem rsame_any {w : World} {a b : Value} {xs ys : List Int} (h1 : IntsIn w a xs) (h2 : IntsIn w b ys) :
    Calls Tryz.prog 12 #[a, b] w fun e w' => e = .returned (.bool (decide (xs = ys))) ∧ Below w.heap.size w w' := by
  by_cases hl : xs.length = ys.length
  · cases h1 with
    | empty a0 c0 =>
      have e : ys = [] := List.eq_nil_of_length_eq_zero (by simpa using hl.symm)
      subst e
      obtain ⟨a3, c3, rfl⟩ := h2.shape
      refine (rsame_empty a0 a3 c0 c3 w).mono ?_
      rintro e w' ⟨rfl, rfl⟩
      exact ⟨rfl, Below.refl _ _⟩
    | row b1 o1 c1 _ n0 hc hb hr hlen hw =>
      cases h2 with
      | empty a0 c0 => exact absurd (List.eq_nil_of_length_eq_zero (by simpa using hl)) n0
      | row b2 o2 c2 _ n0' hc' hb' hr' hlen' hw' => exact rsame_rows b1 o1 c1 b2 o2 c2 xs ys hlen hl w hb hb' (Lib.hid hr) (Lib.hid hr')
  · obtain ⟨a1, c1, rfl⟩ := h1.shape
    obtain ⟨a2, c2, rfl⟩ := h2.shape
    refine (rsame_lens a1 a2 xs.length ys.length c1 c2 (by omega) w).mono ?_
    rintro e w' ⟨rfl, rfl⟩
    exact ⟨ret_val (bool_val (decide_eq_false (fun e => hl (by rw [e]))).symm), Below.refl _ _⟩

set_option maxRecDepth 100000 in
set_option maxHeartbeats 2000000 in
theorem stensor_any (t : Int) (dims data : List Int) {w : World} {v1 x1 v2 x2 : Value} (h1 : IntsIn w v1 dims) (h2 : IntsIn w x1 data) (h3 : IntsIn w v2 dims) (h4 : IntsIn w x2 data) :
    Calls Tryz.prog 16 #[.agg #[.int .i64 t, v1, x1], .agg #[.int .i64 t, v2, x2]] w fun e w' => e = .returned (.bool true) ∧ Below w.heap.size w w' := by
  obtain ⟨a1, c1, rfl⟩ := h1.shape
  obtain ⟨a2, c2, rfl⟩ := h2.shape
  obtain ⟨a3, c3, rfl⟩ := h3.shape
  obtain ⟨a4, c4, rfl⟩ := h4.shape
  have hlen := h2.wf.1
  have H1 := Lib.hid h1
  have H2 := Lib.hid h2
  have H3 := Lib.hid h3
  have H4 := Lib.hid h4
  clear h1 h2 h3 h4
  go_enter Tryz.func16, Tryz.ntmps16
  go_wp2_with fail
  generalize hw1 : (w.alloc _).alloc _ = w1
  have HA1 : Hid (BoxN w1 w.heap.size #[.int .i64 t, .slice a1 dims.length c1, .slice a2 data.length c2] 38) := Lib.hid (by rw [← hw1]; exact (BoxN.new w _ _).below' ((Below.refl _ _).alloc (Nat.le_refl _) _))
  have HE1 : Hid (BoxN w1 (w.heap.size + 1) #[.int .i64 t, .slice a3 dims.length c3, .slice a4 data.length c4] 38) := Lib.hid (by
    have := BoxN.new (w.alloc (Obj.cells #[.int .i64 t, .slice a1 dims.length c1, .slice a2 data.length c2] 38)) #[.int .i64 t, .slice a3 dims.length c3, .slice a4 data.length c4] 38
    rw [World.size_alloc] at this
    rw [← hw1]; exact this)
  have HB1 : Hid (Below w.heap.size w w1) := Lib.hid (by rw [← hw1]; exact ((Below.refl _ w).alloc (Nat.le_refl _) _).alloc (by simp) _)
  clear hw1
  refine (rsame_any (H1.out.below HB1.out) (H3.out.below HB1.out)).mono ?_
  rintro e w2 ⟨rfl, B2⟩
  rw [show decide (dims = dims) = true from decide_eq_true rfl]
  have HA2 := Lib.hid (HA1.out.below' B2)
  have HE2 := Lib.hid (HE1.out.below' B2)
  have HB2 := Lib.hid (HB1.out.trans (B2.mono HB1.out.size))
  clear B2 HA1 HE1 HB1
  have e2 : w2.cell? ⟨w.heap.size, 2, none⟩ = some (.slice a2 data.length c2) := HA2.out.cell 2 rfl
  have g2 : w2.cell? ⟨w.heap.size + 1, 2, none⟩ = some (.slice a4 data.length c4) := HE2.out.cell 2 rfl
  go_wp2_with fail
  go_loopw [5] (fun i wr => ∃ k : Nat, k ≤ data.length ∧ i = .int .i64 (k : Int) ∧ Hid (Below w2.heap.size w2 wr)) (fun i _ => data.length - (intOf i).toNat)
  case atStart => exact ⟨0, Nat.zero_le _, rfl, Lib.hid (Below.refl _ _)⟩
  case round =>
    obtain ⟨k, hk, rfl, hB⟩ := hrel
    have r2 : wr.cell? ⟨w.heap.size, 2, none⟩ = some (.slice a2 data.length c2) := (HA2.out.below' hB.out).cell 2 rfl
    have q2 : wr.cell? ⟨w.heap.size + 1, 2, none⟩ = some (.slice a4 data.length c4) := (HE2.out.below' hB.out).cell 2 rfl
    clear e2 g2
    by_cases hkl : k < data.length
    · have hki : (k : Int) < (data.length : Int) := by omega
      have hk0 : (0 : Int) ≤ (k : Int) := by omega
      have hBr := HB2.out.trans (hB.out.mono HB2.out.size)
      obtain ⟨b, o, c, hv, hb, hr, _⟩ := H2.out.rows hkl
      obtain ⟨rfl, _, rfl⟩ := Value.slice.inj hv
      obtain ⟨b', o', c', hv', hb', hr', _⟩ := H4.out.rows hkl
      obtain ⟨rfl, _, rfl⟩ := Value.slice.inj hv'
      have x1 := (hBr.cell (p := ⟨b, o + k, none⟩) hb).trans (hr k hkl)
      have x2 := (hBr.cell (p := ⟨b', o' + k, none⟩) hb').trans (hr' k hkl)
      generalize data.getD k 0 = z at x1 x2
      clear hv hv' hr hr' hBr
      go_wp2
      go_quiet (fail)
      go_wp2
      go_roundw
      case rel => exact ⟨k + 1, by omega, by go_num, Lib.hid (below_drewN hB.out _)⟩
      case measure => simp [intOf]; omega
    · have hki : ¬ (k : Int) < (data.length : Int) := by omega
      go_wp2
      go_ret
      exact ⟨rfl, HB2.out.trans (hB.out.mono HB2.out.size)⟩

end Go.Proofs.YtagiipecfdmceaaGreatDoor
