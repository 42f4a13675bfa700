/- The walk of view.own: a view of the call's own. -/
import Derived.Test.YtfdafceolkmkoaaViewW
import Derived.Deep.RegionWith
set_option linter.unusedVariables false
namespace Go.Proofs.Ytfdafceolkmkoaa
open Go.RowKit Vw

/-- Two slices in rows of their own, apart. -/
def Apart (d s : Value) : Prop := ∀ gd gs nd ns cd cs, d = .slice (some ⟨gd, 0, none⟩) nd cd → s = .slice (some ⟨gs, 0, none⟩) ns cs → nd ≠ 0 → ns ≠ 0 → gd ≠ gs

theorem apart_of {B B' : Nat} {w w' : World} {d s : Value} {ds ss : List Int} (hd : Fresh B w d ds) (hs : Fresh B' w' s ss) (hB : w.heap.size ≤ B') : Apart d s := by
  intro gd gs nd ns cd cs e1 e2 h1 h2
  rcases hd with ⟨rfl, a0, cap, rfl⟩ | ⟨g, cap, cur, rfl, hg, hh, _⟩
  · simp at e1; omega
  · rcases hs with ⟨rfl, a0, cap, rfl⟩ | ⟨g', cap', cur', rfl, hg', hh', _⟩
    · simp at e2; omega
    · simp at e1 e2
      have := (Array.getElem?_eq_some_iff.1 hh).1
      omega
theorem Apart.symm {d s : Value} (h : Apart d s) : Apart s d := fun gd gs nd ns cd cs e1 e2 h1 h2 e => h gs gd ns nd cs cd e2 e1 h2 h1 e.symm

theorem box3_cells {W : World} {b : Nat} {x y z : Value} (h : Box3 W b x y z) : W.cell? ⟨b, 0, none⟩ = some x ∧ W.cell? ⟨b, 1, none⟩ = some y ∧ W.cell? ⟨b, 2, none⟩ = some z := ⟨h.c0, h.c1, h.c2⟩
theorem Box3.drew {W : World} {b : Nat} {x y z : Value} (h : Box3 W b x y z) : Box3 W.drew b x y z := h

theorem own_end {w WA wq wr : World} {d' s' : Value} {ds ss : List Int} {x y z : Value} (bA : Below w.heap.size w WA) (zA : WA.heap.size = w.heap.size + 2) (hf1 : Fresh WA.drew.heap.size wq d' ds) (hb1 : Below WA.drew.heap.size WA.drew wq)
    (hf2 : Fresh wq.heap.size wr s' ss) (hb2 : Below wq.heap.size wq wr) :
    Fresh w.heap.size (((wr.setCell ⟨w.heap.size + 1, 0, none⟩ x).setCell ⟨w.heap.size + 1, 1, none⟩ y).setCell ⟨w.heap.size + 1, 2, none⟩ z) d' ds ∧ Fresh w.heap.size (((wr.setCell ⟨w.heap.size + 1, 0, none⟩ x).setCell ⟨w.heap.size + 1, 1, none⟩ y).setCell ⟨w.heap.size + 1, 2, none⟩ z) s' ss ∧ Apart d' s' ∧
      Below w.heap.size w (((wr.setCell ⟨w.heap.size + 1, 0, none⟩ x).setCell ⟨w.heap.size + 1, 1, none⟩ y).setCell ⟨w.heap.size + 1, 2, none⟩ z) := by
  have z1 : WA.drew.heap.size = w.heap.size + 2 := zA
  have z2 : WA.drew.heap.size ≤ wq.heap.size := hb1.size
  rw [z1] at hf1 hb1 z2
  exact ⟨(hf1.below hb2).put (x := x) (y := y) (z := z) (by omega) (by omega), hf2.put (x := x) (y := y) (z := z) (by omega) (by omega), apart_of hf1 hf2 (Nat.le_refl _),
    below_put (x := x) (y := y) (z := z) ((bA.drew.trans (hb1.mono (by omega))).trans (hb2.mono (by omega))) (by omega)⟩

set_option maxHeartbeats 4000000 in
theorem own_any {w : World} {off : Int} {d s : Value} {ds ss : List Int} (hd : IntsIn w d ds) (hs : IntsIn w s ss) :
    Calls Try.prog 36 #[.agg #[.int .i64 off, d, s]] w fun e w' => ∃ d' s', e = .returned (.agg #[.int .i64 off, d', s']) ∧ Fresh w.heap.size w' d' ds ∧ Fresh w.heap.size w' s' ss ∧ Apart d' s' ∧ Below w.heap.size w w' := by
  obtain ⟨a1, c1, rfl⟩ := hd.form
  obtain ⟨a2, c2, rfl⟩ := hs.form
  obtain ⟨WA, hWA⟩ : ∃ WA, (w.alloc (.cells #[.int .i64 off, .slice a1 ds.length c1, .slice a2 ss.length c2] 24)).alloc (.cells #[.int .i64 0, .slice none 0 0, .slice none 0 0] 24) = WA := ⟨_, rfl⟩
  have bA : Below w.heap.size w WA := by rw [← hWA]; exact ((Below.refl _ w).alloc (Nat.le_refl _) _).alloc (by simp) _
  have zA : WA.heap.size = w.heap.size + 2 := by rw [← hWA]; simp
  have p1 : Box3 WA w.heap.size (.int .i64 off) (.slice a1 ds.length c1) (.slice a2 ss.length c2) := by rw [← hWA]; exact (Below.heap_alloc _ _ _ (by simp)).trans (Box3.new w _ _ _)
  have p2 : Box3 WA (w.heap.size + 1) (.int .i64 0) (.slice none 0 0) (.slice none 0 0) := by
    rw [← hWA]
    have := Box3.new (w.alloc (.cells #[.int .i64 off, .slice a1 ds.length c1, .slice a2 ss.length c2] 24)) (.int .i64 0) (.slice none 0 0) (.slice none 0 0)
    rwa [World.size_alloc] at this
  have q0 := p1.c0
  have q1 := p1.c1
  have q2 := p1.c2
  have HD := Lib.hid (hd.below (bA.drew))
  have HS := Lib.hid (hs.below (bA.drew))
  have P1 := Lib.hid p1
  have P2 := Lib.hid p2
  have BA := Lib.hid bA
  have ZA := Lib.hid zA
  clear hd hs p1 p2 bA zA
  go_enter Try.func36, Try.ntmps36
  go_wp2_with fail
  go_region_with (first | (go_at_call 43; with_reducible refine (clone_any HD.out).mono ?_; rintro e wq ⟨v1, rfl, hf1, hb1⟩; obtain ⟨ad, cd, rfl⟩ := hf1.form; obtain ⟨r0, r1, r2⟩ := box3_cells (P1.out.drew.below hb1); have HP2 := Lib.hid (P2.out.drew.below hb1); have HP1 := Lib.hid (P1.out.drew.below hb1); have HS2 := Lib.hid (HS.out.below hb1); have HF1 := Lib.hid hf1; have HB1 := Lib.hid hb1; clear hf1 hb1) | (go_at_call 43; with_reducible refine (clone_any HS2.out).mono ?_; rintro e wr ⟨v2, rfl, hf2, hb2⟩; obtain ⟨as2, cs2, rfl⟩ := hf2.form; obtain ⟨s0, s1, s2⟩ := box3_cells (HP1.out.below hb2); have HP3 := Lib.hid (HP2.out.below hb2); obtain ⟨k0, k1, k2⟩ := box3_cells HP3.out; have f0 := HP3.out.frozen 0; have f1 := HP3.out.frozen 1; have f2 := HP3.out.frozen 2; have HF2 := Lib.hid hf2; have HB2 := Lib.hid hb2; clear hf2 hb2))
  all_goals
    go_wp2
    obtain ⟨e0, e1, e2⟩ := box3_cells (HP3.out.put (.int .i64 off) (.slice ad ds.length cd) (.slice as2 ss.length cs2))
    unfold put3 at e0 e1 e2
    exact bodyPost_ret (v := .agg #[.int .i64 off, .slice ad ds.length cd, .slice as2 ss.length cs2]) (by simp [results, Try.f36, go_sem, e0, e1, e2]) rfl ⟨_, _, rfl, own_end BA.out ZA.out HF1.out HB1.out HF2.out HB2.out⟩

end Go.Proofs.Ytfdafceolkmkoaa
