/- The walk of view.Reshape at a view whose first dimension is not plain. -/
import Derived.Test.YtfdafceolkmkoaaViewX
import Derived.BigQuiet
import Derived.Deep.QuietTactic
set_option linter.unusedVariables false
namespace Go.Proofs.Ytfdafceolkmkoaa
open Go.RowKit Vw

attribute [local irreducible] mayV cnt strd wholeO

theorem strd_in : ∀ {zs : List Int}, (∀ d ∈ zs, 1 ≤ d ∧ d ≤ 65536) → pr zs ≤ 65536 → ∀ z ∈ strd zs, InI z
  | [], _, _, z, hz => by unfold strd at hz; cases hz
  | d :: ds, h, hp, z, hz => by
    have h1 : Pos ds := fun x hx => (h x (by simp [hx])).1
    have hd := (h d (by simp)).1
    have p1 := pr_pos h1
    have p2 : 1 * pr ds ≤ d * pr ds := Int.mul_le_mul_of_nonneg_right hd (by omega)
    have e : pr (d :: ds) = d * pr ds := rfl
    unfold strd at hz
    rcases List.mem_cons.1 hz with rfl | hz
    · constructor <;> omega
    · exact strd_in (fun x hx => h x (by simp [hx])) (by omega) z hz

set_option maxRecDepth 100000 in
set_option maxHeartbeats 4000000 in
/-- Reshape of a view whose first dimension is not plain, into as many elements. -/
theorem reshape_turned {w : World} (off : Int) (d s pv : Value) (ds ss ps : List Int) (hd : Hid (IntsIn w d ds)) (hs : Hid (IntsIn w s ss)) (hp : Hid (IntsIn w pv ps)) (hm : Hid (mayV off ds ss = true)) (he : Hid ((cnt ps).2 = 0)) (hn : Hid ((cnt ds).1 = (cnt ps).1)) (h0 : Hid (0 < ds.length))
    (hd1 : Hid (ds.getD 0 0 ≠ 1)) (hs1 : Hid (ss.getD 0 0 ≠ (strd ds).getD 0 0)) :
    Calls Try.prog 14 #[.agg #[.int .i64 off, d, s], pv] w fun e w' => e = .returned (.tuple #[.agg #[.int .i64 0, .slice none 0 0, .slice none 0 0], .int .i64 1]) ∧ Below w.heap.size w w' := by
  have hg := may_good hm.out
  obtain ⟨a1, c1, rfl⟩ := hd.out.form
  obtain ⟨a2, c2, rfl⟩ := hs.out.form
  obtain ⟨a3, c3, rfl⟩ := hp.out.form
  have hsl : ss.length = ds.length := hg.2.2.2.2.1
  rw [hsl] at hs ⊢
  have hce : Hid ((cnt ds).2 = 0) := Lib.hid (by
    have := hm.out
    unfold mayV at this
    simp only [Bool.and_eq_true, decide_eq_true_eq] at this
    exact this.1.1.1.1)
  obtain ⟨WA, hWA⟩ : ∃ WA, (w.alloc (.cells #[.int .i64 off, .slice a1 ds.length c1, .slice a2 ds.length c2] 24)).alloc (.cells #[.int .i64 0, .slice none 0 0, .slice none 0 0] 24) = WA := ⟨_, rfl⟩
  have bA : Below w.heap.size w WA := by rw [← hWA]; exact ((Below.refl _ w).alloc (Nat.le_refl _) _).alloc (by simp) _
  have zA : WA.heap.size = w.heap.size + 2 := by rw [← hWA]; simp
  have p1 : Box3 WA w.heap.size (.int .i64 off) (.slice a1 ds.length c1) (.slice a2 ds.length c2) := by rw [← hWA]; exact (Below.heap_alloc _ _ _ (by simp)).trans (Box3.new w _ _ _)
  have p2 : Box3 WA (w.heap.size + 1) (.int .i64 0) (.slice none 0 0) (.slice none 0 0) := by
    rw [← hWA]
    have := Box3.new (w.alloc (.cells #[.int .i64 off, .slice a1 ds.length c1, .slice a2 ds.length c2] 24)) (.int .i64 0) (.slice none 0 0) (.slice none 0 0)
    rwa [World.size_alloc] at this
  have q0 := p1.c0
  have q1 := p1.c1
  have q2 := p1.c2
  have HF := Lib.hid (fine_any (off := off) (hd.out.below bA) (hs.out.below bA))
  rw [hm.out] at HF
  have P1 := Lib.hid p1
  have P2 := Lib.hid p2
  have BA := Lib.hid bA
  have ZA := Lib.hid zA
  have HSL := Lib.hid hsl
  have HG := Lib.hid hg
  clear p1 p2 bA zA hg hsl
  go_enter Try.func14, Try.ntmps14
  go_wp2_with fail
  refine HF.out.mono ?_
  rintro e w1 ⟨rfl, hB1⟩
  have z1 : w.heap.size + 2 ≤ w1.heap.size := by have := ZA.out; have := hB1.size; omega
  have B1 : Hid (Below w.heap.size w w1) := Lib.hid (BA.out.trans (hB1.mono (by have := ZA.out; omega)))
  have P3 := Lib.hid (P1.out.below hB1)
  have P4 := Lib.hid (P2.out.below hB1)
  have HW := Lib.hid (whole_any (hp.out.below B1.out))
  clear hB1 q0 q1 q2
  go_wp2_with fail
  refine HW.out.mono ?_
  rintro e w2 ⟨hB2, (⟨hne, rfl⟩ | ⟨_, dw, sw, rfl, hfd, hfs⟩)⟩
  · exfalso
    unfold wholeO at hne
    rw [if_pos he.out] at hne
    exact hne rfl
  · have eO : (wholeO ps).2.1 = 0 := by unfold wholeO; rw [if_pos he.out]
    rw [eO]
    obtain ⟨a4, c4, rfl⟩ := hfd.form
    obtain ⟨a5, c5, rfl⟩ := hfs.form
    have z2 : w1.heap.size ≤ w2.heap.size := hB2.size
    have B2 : Hid (Below w.heap.size w w2) := Lib.hid (B1.out.trans (hB2.mono (by omega)))
    have P5 := Lib.hid (P3.out.below hB2)
    have P6 := Lib.hid (P4.out.below hB2)
    clear hB2 hfd hfs
    generalize (wholeO ps).2.2.1.length = n4
    generalize (wholeO ps).2.2.2.length = n5
    have B3 : Hid (Below w.heap.size w (w2.alloc (.cells #[.int .i64 0, .slice a4 n4 c4, .slice a5 n5 c5] 24))) := Lib.hid (B2.out.alloc (by omega) _)
    have P7 : Hid (Box3 (w2.alloc (.cells #[.int .i64 0, .slice a4 n4 c4, .slice a5 n5 c5] 24)) w.heap.size (.int .i64 off) (.slice a1 ds.length c1) (.slice a2 ds.length c2)) := Lib.hid ((Below.heap_alloc _ _ _ (by omega)).trans P5.out)
    have P8 : Hid (Box3 (w2.alloc (.cells #[.int .i64 0, .slice a4 n4 c4, .slice a5 n5 c5] 24)) (w.heap.size + 1) (.int .i64 0) (.slice none 0 0) (.slice none 0 0)) := Lib.hid ((Below.heap_alloc _ _ _ (by omega)).trans P6.out)
    obtain ⟨y0, y1, y2⟩ := box3_cells P7.out
    have HC1 := Lib.hid (count_any (hd.out.below B3.out))
    have HC2 := Lib.hid (count_any (hp.out.below B3.out))
    have HS3 := Lib.hid (strides_any (hd.out.below B3.out))
    rw [show cnt ds = ((cnt ds).1, 0) by rw [← hce.out], ] at HC1
    rw [show cnt ps = ((cnt ds).1, 0) by rw [← he.out, hn.out]] at HC2
    generalize hcn : (cnt ds).1 = cn at *
    have hcb : (cn != cn) = false := by simp
    go_wp2_with (first | (go_at_call 39; with_reducible refine HC1.out.mono ?_; rintro e w' ⟨rfl, rfl⟩) | (go_at_call 39; with_reducible refine HC2.out.mono ?_; rintro e w' ⟨rfl, rfl⟩))
    refine HS3.out.mono ?_
    rintro e w4 ⟨hB4, (⟨hne, rfl⟩ | ⟨_, vp, rfl, hfp⟩)⟩
    · exact absurd hce.out hne
    · have z4 : w2.heap.size + 1 ≤ w4.heap.size := by have := hB4.size; simp at this; omega
      have B4 : Hid (Below w.heap.size w w4) := Lib.hid (B3.out.trans (hB4.mono (by simp; omega)))
      have P9 := Lib.hid (P7.out.below hB4)
      have P10 := Lib.hid (P8.out.below hB4)
      obtain ⟨v0, v1, v2⟩ := box3_cells P9.out
      obtain ⟨k0, k1, k2⟩ := box3_cells P10.out
      have f0 := P10.out.frozen 0
      have f1 := P10.out.frozen 1
      have f2 := P10.out.frozen 2
      obtain ⟨bd, od, rfl, hbd, hrd⟩ := hd.out.rows.2 0 h0.out
      obtain ⟨bs, os, rfl, hbs, hrs⟩ := hs.out.rows.2 0 (by have := HSL.out; have := h0.out; omega)
      have x1 := (B4.out.cell (p := ⟨bd, od + 0, none⟩) hbd).trans (hrd 0 h0.out)
      have x2 := (B4.out.cell (p := ⟨bs, os + 0, none⟩) hbs).trans (hrs 0 (by have := HSL.out; have := h0.out; omega))
      rw [Nat.add_zero] at x1 x2
      have hpw : IntsIn w4 vp (strd ds) := hfp.ints (by rw [strd_length]; have := HG.out.2.1; omega) (strd_in (HG.out.1) (HG.out.2.2.2.1))
      obtain ⟨a6, c6, rfl⟩ := hpw.form
      obtain ⟨bq, oq, rfl, hbq, hrq⟩ := hpw.rows.2 0 (by rw [strd_length]; exact h0.out)
      have x3 := hrq 0 (by rw [strd_length]; exact h0.out)
      rw [Nat.add_zero] at x3
      have hend : Hid (Box3 (put3 w4 (w.heap.size + 1) (.int .i64 0) (.slice none 0 0) (.slice none 0 0)) (w.heap.size + 1) (.int .i64 0) (.slice none 0 0) (.slice none 0 0) ∧ Below w.heap.size w (put3 w4 (w.heap.size + 1) (.int .i64 0) (.slice none 0 0) (.slice none 0 0))) := Lib.hid ⟨P10.out.put _ _ _, below_put B4.out (by omega)⟩
      have hln : (strd ds).length = ds.length := strd_length
      have hpos := h0.out
      have hd1' := hd1.out
      have hs1' := hs1.out
      rw [hln]
      clear hB4 hfp hpw
      generalize ds.getD 0 0 = e1 at *
      generalize ss.getD 0 0 = e2 at *
      generalize (strd ds).getD 0 0 = e3 at *
      have b1 : (e1 != 1) = true := by simpa using hd1'
      have b2 : (e2 != e3) = true := by simpa using hs1'
      have h00 : (0 : Int) < (ds.length : Int) := by omega
      go_wp2
      refine wp_loop_rounds 1 ?_
      rw [rounds_succ]
      go_wp2
      obtain ⟨h1, h2⟩ := hend.out
      obtain ⟨x0, x1', x2'⟩ := box3_cells h1
      unfold put3 at x0 x1' x2' h2
      exact bodyPost_ret (v := .tuple #[.agg #[.int .i64 0, .slice none 0 0, .slice none 0 0], .int .i64 1]) (by simp [results, Try.f14, go_sem, x0, x1', x2']) rfl ⟨rfl, h2⟩

end Go.Proofs.Ytfdafceolkmkoaa
