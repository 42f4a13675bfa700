/- The walks of the reference's Copy of a view, and of spoil. Printed by gen_copy.py. -/
import Derived.Test.YtfdafceolkmkoaaViewRp
set_option linter.unusedVariables false
namespace Go.Proofs.Ytfdafceolkmkoaa
open Go.RowKit Vw

set_option maxRecDepth 100000 in
set_option maxHeartbeats 4000000 in
theorem copy_any {w : World} {off : Int} {d s : Value} {ds ss : List Int} (hd0 : IntsIn w d ds) (hs0 : IntsIn w s ss) :
    Calls Try.prog 11 #[.agg #[.int .i64 off, d, s]] w fun e w' => ∃ d' s', e = .returned (.agg #[.int .i64 off, d', s']) ∧ Fresh w.heap.size w' d' ds ∧ Fresh w.heap.size w' s' ss ∧ Below w.heap.size w w' := by
  have hd := Lib.hid hd0
  have hs := Lib.hid hs0
  clear hd0 hs0
  obtain ⟨a1, c1, rfl⟩ := hd.out.form
  obtain ⟨a2, c2, rfl⟩ := hs.out.form
  obtain ⟨WA, hWA⟩ : ∃ WA, (w.alloc (.cells #[.int .i64 off, .slice a1 ds.length c1, .slice a2 ss.length c2] 24)).alloc (.cells #[.int .i64 0, .slice none 0 0, .slice none 0 0] 24) = WA := ⟨_, rfl⟩
  have bA : Below w.heap.size w WA := by rw [← hWA]; exact ((Below.refl _ w).alloc (Nat.le_refl _) _).alloc (by simp) _
  have zA : WA.heap.size = w.heap.size + 2 := by rw [← hWA]; simp
  have p1 : Box3 WA w.heap.size (.int .i64 off) (.slice a1 ds.length c1) (.slice a2 ss.length c2) := by rw [← hWA]; exact (Below.heap_alloc _ _ _ (by simp)).trans (Box3.new w _ _ _)
  have p2 : Box3 WA (w.heap.size + 1) (.int .i64 0) (.slice none 0 0) (.slice none 0 0) := by
    rw [← hWA]
    have := Box3.new (w.alloc (.cells #[.int .i64 off, .slice a1 ds.length c1, .slice a2 ss.length c2] 24)) (.int .i64 0) (.slice none 0 0) (.slice none 0 0)
    rwa [World.size_alloc] at this
  have q0 := p1.c0
  have q1 := p1.c1
  have q2 := p1.c2
  have P1 := Lib.hid p1
  have P2 := Lib.hid p2
  have BA := Lib.hid bA
  have ZA := Lib.hid zA
  clear p1 p2 bA zA
  go_enter Try.func11, Try.ntmps11
  go_wp2_with fail
  go_region_held3 (fun w' => w'.cell? ⟨w.heap.size, 0, none⟩ = some (.int .i64 off) ∧ w'.cell? ⟨w.heap.size, 1, none⟩ = some (.slice a1 ds.length c1) ∧ w'.cell? ⟨w.heap.size, 2, none⟩ = some (.slice a2 ss.length c2)) (go_keep) (first
    | (go_at_call 32; refine (rcopy_any (hs.out.below b1.out)).mono ?_; rintro e w2 ⟨s', rfl, hfs, B2⟩; obtain ⟨a6, c6, rfl⟩ := hfs.form; have b2 := Lib.hid (b1.out.trans (B2.mono b1.out.size)); have P5 := Lib.hid (P3.out.below B2); have P6 := Lib.hid (P4.out.below B2); have hS : Hid (Fresh w1.heap.size w2 (.slice a6 ss.length c6) ss) := Lib.hid hfs; have hD2 := Lib.hid (hD.out.below B2); clear B2 hfs; obtain ⟨u0, u1, u2⟩ := box3_cells P5.out; have f0 := P6.out.frozen 0; have f1 := P6.out.frozen 1; have f2 := P6.out.frozen 2; have k0 := P6.out.c0; have k1 := P6.out.c1; have k2 := P6.out.c2)
    | (go_at_call 32; refine (rcopy_any (hd.out.below BA.out.drew)).mono ?_; rintro e w1 ⟨d', rfl, hfd, B1⟩; obtain ⟨a5, c5, rfl⟩ := hfd.form; have b1 := Lib.hid (BA.out.drew.trans (B1.mono BA.out.size)); have P3 := Lib.hid (P1.out.drew.below B1); have P4 := Lib.hid (P2.out.drew.below B1); have hD : Hid (Fresh WA.heap.size w1 (.slice a5 ds.length c5) ds) := Lib.hid hfd; have z1 : Hid (WA.heap.size ≤ w1.heap.size) := Lib.hid B1.size; clear B1 hfd; obtain ⟨t0, t1, t2⟩ := box3_cells P3.out)
    | fail)
  have zz : Hid (WA.heap.size = w.heap.size + 2 ∧ WA.heap.size ≤ w1.heap.size) := Lib.hid ⟨ZA.out, z1.out⟩
  have hend : Hid (Box3 (put3 w2 (w.heap.size + 1) (.int .i64 off) (.slice a5 ds.length c5) (.slice a6 ss.length c6)) (w.heap.size + 1) (.int .i64 off) (.slice a5 ds.length c5) (.slice a6 ss.length c6) ∧ Below w.heap.size w (put3 w2 (w.heap.size + 1) (.int .i64 off) (.slice a5 ds.length c5) (.slice a6 ss.length c6)) ∧ Fresh w.heap.size (put3 w2 (w.heap.size + 1) (.int .i64 off) (.slice a5 ds.length c5) (.slice a6 ss.length c6)) (.slice a5 ds.length c5) ds ∧ Fresh w.heap.size (put3 w2 (w.heap.size + 1) (.int .i64 off) (.slice a5 ds.length c5) (.slice a6 ss.length c6)) (.slice a6 ss.length c6) ss) := Lib.hid ⟨P6.out.put _ _ _, below_put b2.out (by omega), hD2.out.put (by have := zz.out; omega) (by have := zz.out; omega), hS.out.put (by have := zz.out; omega) (by have := zz.out; omega)⟩
  go_wp2_with fail
  obtain ⟨h1, h2, h3, h4⟩ := hend.out
  obtain ⟨x0, x1', x2'⟩ := box3_cells h1
  unfold put3 at x0 x1' x2' h2 h3 h4
  exact bodyPost_ret (v := .agg #[.int .i64 off, .slice a5 ds.length c5, .slice a6 ss.length c6]) (by simp [results, Try.f11, go_sem, x0, x1', x2']) rfl ⟨_, _, rfl, h3, h4, h2⟩

/-- A row of n cells at least, that may be written. -/
def RowN (w : World) (g n : Nat) : Prop := ∃ cur, w.heap[g]? = some (.cells cur 3 (0, 0)) ∧ n ≤ cur.size

theorem RowN.frozen {w : World} {g n : Nat} (h : RowN w g n) (j : Nat) : w.frozen? ⟨g, j, none⟩ = false := by
  obtain ⟨cur, h1, _⟩ := h
  simp [World.frozen?, h1]
theorem RowN.cell {w : World} {g n : Nat} (h : RowN w g n) {j : Nat} (hj : j < n) : ∃ x, w.cell? ⟨g, j, none⟩ = some x := by
  obtain ⟨cur, h1, h2⟩ := h
  exact ⟨cur[j]'(by omega), by simp [World.cell?, h1, show j < cur.size by omega]⟩
theorem RowN.set {w : World} {g n : Nat} (h : RowN w g n) (b j : Nat) (x : Value) : RowN (w.setCell ⟨b, j, none⟩ x) g n := by
  obtain ⟨cur, h1, h2⟩ := h
  by_cases e : g = b
  · subst e
    obtain ⟨hlt, hk⟩ := Array.getElem?_eq_some_iff.1 h1
    refine ⟨cur.setIfInBounds j x, ?_, by simpa using h2⟩
    show (w.heap.modify g _)[g]? = _
    rw [Array.getElem?_eq_getElem (by rw [Array.size_modify]; exact hlt), Array.getElem_modify_self, hk]
    rfl
  · exact ⟨cur, (Below.heap_setCell _ _ _ g e).trans h1, h2⟩
theorem RowN.lt {w : World} {g n : Nat} (h : RowN w g n) : g < w.heap.size := by
  obtain ⟨cur, h1, _⟩ := h
  exact (Array.getElem?_eq_some_iff.1 h1).1
theorem RowN.below {w w' : World} {g n : Nat} (h : RowN w g n) (hb : Below w.heap.size w w') : RowN w' g n := by
  have hl := h.lt
  obtain ⟨cur, h1, h2⟩ := h
  exact ⟨cur, (hb.block g hl).trans h1, h2⟩

/-- A slice whose cells are from block B on, and may be written. -/
def Own (B : Nat) (w : World) (a : Option Addr) (n : Nat) : Prop := 0 < n → ∃ g, a = some ⟨g, 0, none⟩ ∧ B ≤ g ∧ RowN w g n

theorem Fresh.own {B : Nat} {w : World} {a : Option Addr} {c : Nat} {zs : List Int} (h : Fresh B w (.slice a zs.length c) zs) : Own B w a zs.length := by
  intro h0
  rcases h with ⟨rfl, _⟩ | ⟨g, cap, cur, e, hB, hg, hc, ht⟩
  · simp at h0
  · simp only [Value.slice.injEq, true_and] at e
    refine ⟨g, e.1, hB, cur, hg, ?_⟩
    have := congrArg List.length ht
    simp at this; omega
theorem Own.set {B : Nat} {w : World} {a : Option Addr} {n : Nat} (h : Own B w a n) (b j : Nat) (x : Value) : Own B (w.setCell ⟨b, j, none⟩ x) a n := fun h0 => by
  obtain ⟨g, e, hB, hr⟩ := h h0
  exact ⟨g, e, hB, hr.set b j x⟩
theorem Own.below {B : Nat} {w w' : World} {a : Option Addr} {n : Nat} (h : Own B w a n) (hb : Below w.heap.size w w') : Own B w' a n := fun h0 => by
  obtain ⟨g, e, hB, hr⟩ := h h0
  exact ⟨g, e, hB, hr.below hb⟩

/-- Boxes and rows stay what they are, though numbers in rows may turn. -/
structure Keeps (w w' : World) : Prop where
  box : ∀ b x y z, Box3 w b x y z → Box3 w' b x y z
  row : ∀ g n, RowN w g n → RowN w' g n

theorem Keeps.refl (w : World) : Keeps w w := ⟨fun _ _ _ _ h => h, fun _ _ h => h⟩
theorem Keeps.trans {u v w : World} (h : Keeps u v) (g : Keeps v w) : Keeps u w := ⟨fun b x y z k => g.box b x y z (h.box b x y z k), fun a n k => g.row a n (h.row a n k)⟩
theorem Keeps.of_below {w w' : World} (h : Below w.heap.size w w') : Keeps w w' := ⟨fun b x y z k => k.below h, fun g n k => k.below h⟩
theorem Keeps.set {w : World} {g n : Nat} (h : RowN w g n) (j : Nat) (v : Value) : Keeps w (w.setCell ⟨g, j, none⟩ v) := by
  refine ⟨fun b x y z k => ?_, fun a m k => k.set g j v⟩
  have hne : b ≠ g := fun e => by
    subst e
    obtain ⟨cur, h1, _⟩ := h
    have h2 : w.heap[b]? = some (.cells #[x, y, z] 24 (0, 0)) := k
    rw [h1] at h2
    simp at h2
  exact (Below.heap_setCell _ _ _ _ hne).trans k
theorem Own.keeps {B : Nat} {w w' : World} {a : Option Addr} {n : Nat} (h : Own B w a n) (k : Keeps w w') : Own B w' a n := fun h0 => by
  obtain ⟨g, e, hB, hr⟩ := h h0
  exact ⟨g, e, hB, k.row g n hr⟩

set_option maxRecDepth 100000 in
set_option maxHeartbeats 4000000 in
theorem spoil_any {w : World} (B : Nat) (off : Int) (a1 a2 : Option Addr) (n1 n2 c1 c2 : Nat) (h1 : Own B w a1 n1) (h2 : Own B w a2 n2) (hB : B ≤ w.heap.size) (hn1 : n1 ≤ 6) (hn2 : n2 ≤ 6) :
    Calls Try.prog 19 #[.agg #[.int .i64 off, .slice a1 n1 c1, .slice a2 n2 c2]] w fun e w' => e = .returned (.tuple #[]) ∧ Below B w w' ∧ Keeps w w' := by
  obtain ⟨W0, hW0⟩ : ∃ W0, Hid (w.alloc (.cells #[.int .i64 off, .slice a1 n1 c1, .slice a2 n2 c2] 24) = W0) := ⟨_, Lib.hid rfl⟩
  have b0 : Hid (Below B w W0) := Lib.hid (by rw [← hW0.out]; exact (Below.refl _ w).alloc hB _)
  have K0 : Hid (Keeps w W0) := Lib.hid (Keeps.of_below (by rw [← hW0.out]; exact (Below.refl _ w).alloc (Nat.le_refl _) _))
  have bb : Hid (Below w.heap.size w W0) := Lib.hid (by rw [← hW0.out]; exact (Below.refl _ w).alloc (Nat.le_refl _) _)
  have x0 : Hid (Box3 W0 w.heap.size (.int .i64 off) (.slice a1 n1 c1) (.slice a2 n2 c2)) := Lib.hid (by rw [← hW0.out]; exact Box3.new w _ _ _)
  have o1 := Lib.hid (h1.below bb.out)
  have o2 := Lib.hid (h2.below bb.out)
  have l1 : Hid (∀ g, a1 = some ⟨g, 0, none⟩ → 0 < n1 → g ≠ w.heap.size) := Lib.hid (fun g e h0 => by obtain ⟨g', e', _, hr⟩ := h1 h0; rw [e] at e'; simp at e'; subst e'; have := hr.lt; omega)
  have l2 : Hid (∀ g, a2 = some ⟨g, 0, none⟩ → 0 < n2 → g ≠ w.heap.size) := Lib.hid (fun g e h0 => by obtain ⟨g', e', _, hr⟩ := h2 h0; rw [e] at e'; simp at e'; subst e'; have := hr.lt; omega)
  clear h1 h2
  go_enter Try.func19, Try.ntmps19
  go_wp2_with fail
  rw [hW0.out]
  go_loopw [2] (fun i wr => ∃ k : Nat, k ≤ n1 ∧ i = .int .i64 (k : Int) ∧ Hid (Below B w wr) ∧ Hid (Box3 wr w.heap.size (.int .i64 off) (.slice a1 n1 c1) (.slice a2 n2 c2)) ∧ Hid (Own B wr a1 n1) ∧ Hid (Own B wr a2 n2) ∧ Hid (Keeps w wr)) (fun i _ => n1 - (intOf i).toNat)
  case atStart => exact ⟨0, Nat.zero_le _, rfl, b0, x0, o1, o2, K0⟩
  case round =>
    obtain ⟨k, hk, rfl, hb, hx, q1, q2, hK⟩ := hrel
    obtain ⟨y0, y1, y2⟩ := box3_cells hx.out
    by_cases hkl : k < n1
    · have hki : (k : Int) < (n1 : Int) := by omega
      obtain ⟨g, rfl, hBg, hr⟩ := q1.out (by omega)
      obtain ⟨x, hcell⟩ := hr.cell hkl
      have hfz := hr.frozen k
      have hne := l1.out g rfl (by omega)
      have hbs : Hid (Below B w (wr.setCell ⟨g, k, none⟩ (.int .i64 (-1)))) := Lib.hid (hb.out.setCell (p := ⟨g, k, none⟩) hBg _)
      have hx2 : Hid (Box3 (wr.setCell ⟨g, k, none⟩ (.int .i64 (-1))) w.heap.size (.int .i64 off) (.slice (some ⟨g, 0, none⟩) n1 c1) (.slice a2 n2 c2)) := Lib.hid ((Below.heap_setCell _ _ _ _ (Ne.symm hne)).trans hx.out)
      have hK2 := Lib.hid (hK.out.trans (Keeps.set hr k (.int .i64 (-1))))
      have q3 := Lib.hid (q1.out.set g k (.int .i64 (-1)))
      have q4 := Lib.hid (q2.out.set g k (.int .i64 (-1)))
      clear hr hBg hne
      go_wp2
      go_roundw
      case rel => exact ⟨k + 1, by omega, by go_num, hbs, hx2, q3, q4, hK2⟩
      case measure => simp [intOf]; omega
    · obtain rfl : k = n1 := by omega
      go_wp2_with fail
      go_loopw [3] (fun i wq => ∃ j : Nat, j ≤ n2 ∧ i = .int .i64 (j : Int) ∧ Hid (Below B w wq) ∧ Hid (Box3 wq w.heap.size (.int .i64 off) (.slice a1 k c1) (.slice a2 n2 c2)) ∧ Hid (Own B wq a2 n2) ∧ Hid (Keeps w wq)) (fun i _ => n2 - (intOf i).toNat)
      case atStart => exact ⟨0, Nat.zero_le _, rfl, hb, hx, q2, hK⟩
      case round =>
        obtain ⟨j, hj, rfl, hb2, hx2, q2, hK⟩ := hrel
        clear y0 y1 y2
        obtain ⟨y0, y1, y2⟩ := box3_cells hx2.out
        by_cases hjl : j < n2
        · have hji : (j : Int) < (n2 : Int) := by omega
          obtain ⟨g, rfl, hBg, hr⟩ := q2.out (by omega)
          obtain ⟨x, hcell⟩ := hr.cell hjl
          have hfz := hr.frozen j
          have hne := l2.out g rfl (by omega)
          have hbs : Hid (Below B w (wr.setCell ⟨g, j, none⟩ (.int .i64 (-2)))) := Lib.hid (hb2.out.setCell (p := ⟨g, j, none⟩) hBg _)
          have hx3 : Hid (Box3 (wr.setCell ⟨g, j, none⟩ (.int .i64 (-2))) w.heap.size (.int .i64 off) (.slice a1 k c1) (.slice (some ⟨g, 0, none⟩) n2 c2)) := Lib.hid ((Below.heap_setCell _ _ _ _ (Ne.symm hne)).trans hx2.out)
          have hK2 := Lib.hid (hK.out.trans (Keeps.set hr j (.int .i64 (-2))))
          have q4 := Lib.hid (q2.out.set g j (.int .i64 (-2)))
          clear hr hBg hne
          go_wp2
          go_roundw
          case rel => exact ⟨j + 1, by omega, by go_num, hbs, hx3, q4, hK2⟩
          case measure => simp [intOf]; omega
        · obtain rfl : j = n2 := by omega
          go_wp2_with fail
          exact bodyPost_end (v := .tuple #[]) (by simp [results, Try.f19, go_sem]) rfl ⟨rfl, hb2.out, hK.out⟩

end Go.Proofs.Ytfdafceolkmkoaa
