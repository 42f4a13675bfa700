/- The walk of the reference's Reshape. Printed by gen_rreshape.py. -/
import Derived.Test.YtfdafceolkmkoaaViewRp
set_option linter.unusedVariables false
namespace Go.Proofs.Ytfdafceolkmkoaa
open Go.RowKit Vw

attribute [local irreducible] cnt strd mayV PlTo

set_option maxRecDepth 100000 in
set_option maxHeartbeats 4000000 in
theorem rreshape_any {w : World} {off : Int} {d s pv : Value} {ds ss ps : List Int} (hd0 : IntsIn w d ds) (hs0 : IntsIn w s ss) (hp0 : IntsIn w pv ps) :
    Calls Try.prog 15 #[.agg #[.int .i64 off, d, s], pv] w (ViewOut w (reshO off ds ss ps)) := by
  have hd := Lib.hid hd0
  have hs := Lib.hid hs0
  have hp := Lib.hid hp0
  clear hd0 hs0 hp0
  obtain ⟨a1, c1, rfl⟩ := hd.out.form
  obtain ⟨a2, c2, rfl⟩ := hs.out.form
  obtain ⟨a3, c3, rfl⟩ := hp.out.form
  obtain ⟨WA, hWA⟩ : ∃ WA, (w.alloc (.cells #[.int .i64 off, .slice a1 ds.length c1, .slice a2 ss.length c2] 24)).alloc (.cells #[.int .i64 0, .slice none 0 0, .slice none 0 0] 24) = WA := ⟨_, rfl⟩
  have bA : Below w.heap.size w WA := by rw [← hWA]; exact ((Below.refl _ w).alloc (Nat.le_refl _) _).alloc (by simp) _
  have zA : WA.heap.size = w.heap.size + 2 := by rw [← hWA]; simp
  have p1 : Box3 WA w.heap.size (.int .i64 off) (.slice a1 ds.length c1) (.slice a2 ss.length c2) := by rw [← hWA]; exact (Below.heap_alloc _ _ _ (by simp)).trans (Box3.new w _ _ _)
  have p2 : Box3 WA (w.heap.size + 1) (.int .i64 0) (.slice none 0 0) (.slice none 0 0) := by
    rw [← hWA]
    have := Box3.new (w.alloc (.cells #[.int .i64 off, .slice a1 ds.length c1, .slice a2 ss.length c2] 24)) (.int .i64 0) (.slice none 0 0) (.slice none 0 0)
    rwa [World.size_alloc] at this
  have q0 := p1.c0
  have q1 := p1.c1
  have q2 := p1.c2
  have P1 := Lib.hid p1
  have P2 := Lib.hid p2
  have BA := Lib.hid bA
  have ZA := Lib.hid zA
  have HF := Lib.hid (rmay_any (off := off) (hd.out.below bA) (hs.out.below bA))
  clear p1 p2 bA zA
  have E1 : Hid (mayV off ds ss = false → reshO off ds ss ps = (1, 0, [], [])) := Lib.hid fun h => by unfold reshO; rw [if_pos h]
  have E2 : Hid (mayV off ds ss = true → (cnt ps).2 ≠ 0 → reshO off ds ss ps = ((cnt ps).2, 0, [], [])) := Lib.hid fun h g => by unfold reshO; rw [if_neg (by rw [h]; decide), if_pos g]
  have E3 : Hid (mayV off ds ss = true → (cnt ps).2 = 0 → (cnt ds).1 ≠ (cnt ps).1 → reshO off ds ss ps = (4, 0, [], [])) := Lib.hid fun h g k => by unfold reshO; rw [if_neg (by rw [h]; decide), if_neg (by rw [g]; decide), if_pos k]
  have E4 : Hid (mayV off ds ss = true → (cnt ps).2 = 0 → (cnt ds).1 = (cnt ps).1 → ¬ PlTo ds ss ds.length → reshO off ds ss ps = (1, 0, [], [])) := Lib.hid fun h g k l => by unfold reshO; rw [if_neg (by rw [h]; decide), if_neg (by rw [g]; decide), if_neg (by rw [k]; simp), if_neg l]
  have E5 : Hid (mayV off ds ss = true → (cnt ps).2 = 0 → (cnt ds).1 = (cnt ps).1 → PlTo ds ss ds.length → reshO off ds ss ps = (0, off, ps, strd ps)) := Lib.hid fun h g k l => by unfold reshO; rw [if_neg (by rw [h]; decide), if_neg (by rw [g]; decide), if_neg (by rw [k]; simp), if_pos l]
  generalize reshO off ds ss ps = O at *
  go_enter Try.func15, Try.ntmps15
  go_wp2_with fail
  refine HF.out.mono ?_
  rintro e w1 ⟨rfl, B1⟩
  have z1 : Hid (w.heap.size + 2 ≤ w1.heap.size) := Lib.hid (by have := ZA.out; have := B1.size; omega)
  have b1 : Hid (Below w.heap.size w w1) := Lib.hid (BA.out.trans (B1.mono BA.out.size))
  have P3 := Lib.hid (P1.out.below B1)
  have P4 := Lib.hid (P2.out.below B1)
  clear B1 q0 q1 q2
  cases hm : mayV off ds ss
  · have NX := Lib.hid (E1.out hm)
    clear hm
    have f0 := P4.out.frozen 0
    have f1 := P4.out.frozen 1
    have f2 := P4.out.frozen 2
    have k0 := P4.out.c0
    have k1 := P4.out.c1
    have k2 := P4.out.c2
    have hend : Hid (Box3 (put3 w1 (w.heap.size + 1) (.int .i64 0) (.slice none 0 0) (.slice none 0 0)) (w.heap.size + 1) (.int .i64 0) (.slice none 0 0) (.slice none 0 0) ∧ Below w.heap.size w (put3 w1 (w.heap.size + 1) (.int .i64 0) (.slice none 0 0) (.slice none 0 0))) := Lib.hid ⟨P4.out.put _ _ _, below_put b1.out (by omega)⟩
    go_wp2_with fail
    obtain ⟨h1, h2⟩ := hend.out
    obtain ⟨x0, x1', x2'⟩ := box3_cells h1
    unfold put3 at x0 x1' x2' h2
    exact bodyPost_ret (v := .tuple #[.agg #[.int .i64 0, .slice none 0 0, .slice none 0 0], .int .i64 1]) (by simp [results, Try.f15, go_sem, x0, x1', x2']) rfl (by rw [NX.out]; exact ⟨h2, Or.inl ⟨by decide, rfl⟩⟩)
  have HM := Lib.hid hm
  have hmg := may_good hm
  have hcd : Hid ((cnt ds).2 = 0) := Lib.hid (may_cnt hm)
  have hsl : Hid (ss.length = ds.length) := Lib.hid hmg.2.2.2.2.1
  clear hm hmg
  go_wp2_with fail
  refine (rstrides_any (hp.out.below b1.out)).mono ?_
  rintro e w2 ⟨B2, h2⟩
  have z2 : Hid (w1.heap.size ≤ w2.heap.size) := Lib.hid B2.size
  have b2 := Lib.hid (b1.out.trans (B2.mono b1.out.size))
  have P5 := Lib.hid (P3.out.below B2)
  have P6 := Lib.hid (P4.out.below B2)
  clear B2
  rcases h2 with ⟨hne, rfl⟩ | ⟨hce, v, rfl, hf⟩
  · have NX := Lib.hid (E2.out HM.out hne)
    generalize (cnt ps).2 = ce at *
    have hb1 : (ce != 0) = true := by simpa using hne
    have HNE := Lib.hid hne
    clear hne
    have f0 := P6.out.frozen 0
    have f1 := P6.out.frozen 1
    have f2 := P6.out.frozen 2
    have k0 := P6.out.c0
    have k1 := P6.out.c1
    have k2 := P6.out.c2
    have hend : Hid (Box3 (put3 w2 (w.heap.size + 1) (.int .i64 0) (.slice none 0 0) (.slice none 0 0)) (w.heap.size + 1) (.int .i64 0) (.slice none 0 0) (.slice none 0 0) ∧ Below w.heap.size w (put3 w2 (w.heap.size + 1) (.int .i64 0) (.slice none 0 0) (.slice none 0 0))) := Lib.hid ⟨P6.out.put _ _ _, below_put b2.out (by omega)⟩
    go_wp2_with fail
    obtain ⟨h1, h2⟩ := hend.out
    obtain ⟨x0, x1', x2'⟩ := box3_cells h1
    unfold put3 at x0 x1' x2' h2
    exact bodyPost_ret (v := .tuple #[.agg #[.int .i64 0, .slice none 0 0, .slice none 0 0], .int .i64 ce]) (by simp [results, Try.f15, go_sem, x0, x1', x2']) rfl (by rw [NX.out]; exact ⟨h2, Or.inl ⟨HNE.out, rfl⟩⟩)
  have HCE := Lib.hid hce
  have hF := Lib.hid hf
  obtain ⟨a4, c4, rfl⟩ := hf.form
  clear hce hf
  obtain ⟨y0, y1, y2⟩ := box3_cells P5.out
  go_wp2_with fail
  refine (rcount_any (hd.out.below b2.out)).mono ?_
  rintro e _ ⟨rfl, rfl⟩
  go_wp2_with fail
  refine (rcount_any (hp.out.below b2.out)).mono ?_
  rintro e _ ⟨rfl, rfl⟩
  by_cases hn : (cnt ds).1 = (cnt ps).1
  rotate_left
  · have NX := Lib.hid (E3.out HM.out HCE.out hn)
    generalize (cnt ds).1 = n1 at *
    generalize (cnt ps).1 = n2 at *
    have hb1 : (n1 != n2) = true := by simpa using hn
    clear hn
    have f0 := P6.out.frozen 0
    have f1 := P6.out.frozen 1
    have f2 := P6.out.frozen 2
    have k0 := P6.out.c0
    have k1 := P6.out.c1
    have k2 := P6.out.c2
    have hend : Hid (Box3 (put3 w2 (w.heap.size + 1) (.int .i64 0) (.slice none 0 0) (.slice none 0 0)) (w.heap.size + 1) (.int .i64 0) (.slice none 0 0) (.slice none 0 0) ∧ Below w.heap.size w (put3 w2 (w.heap.size + 1) (.int .i64 0) (.slice none 0 0) (.slice none 0 0))) := Lib.hid ⟨P6.out.put _ _ _, below_put b2.out (by omega)⟩
    go_wp2_with fail
    obtain ⟨h1, h2⟩ := hend.out
    obtain ⟨x0, x1', x2'⟩ := box3_cells h1
    unfold put3 at x0 x1' x2' h2
    exact bodyPost_ret (v := .tuple #[.agg #[.int .i64 0, .slice none 0 0, .slice none 0 0], .int .i64 4]) (by simp [results, Try.f15, go_sem, x0, x1', x2']) rfl (by rw [NX.out]; exact ⟨h2, Or.inl ⟨by decide, rfl⟩⟩)
  have HN := Lib.hid hn
  rw [hn]
  generalize (cnt ps).1 = n2 at *
  clear hn
  go_wp2_with fail
  refine (rplain_any off (.slice a1 ds.length c1) (.slice a2 ss.length c2) ds ss (hd.out.below b2.out) (hs.out.below b2.out) hsl hcd).mono ?_
  rintro e w3 ⟨rfl, B3⟩
  have z3 : Hid (w2.heap.size ≤ w3.heap.size) := Lib.hid B3.size
  have b3 := Lib.hid (b2.out.trans (B3.mono b2.out.size))
  have P7 := Lib.hid (P5.out.below B3)
  have P8 := Lib.hid (P6.out.below B3)
  have hF3 := Lib.hid (hF.out.below B3)
  clear B3 y0 y1 y2
  by_cases hpl : PlTo ds ss ds.length
  rotate_left
  · have NX := Lib.hid (E4.out HM.out HCE.out HN.out hpl)
    rw [decide_eq_false hpl]
    clear hpl
    have f0 := P8.out.frozen 0
    have f1 := P8.out.frozen 1
    have f2 := P8.out.frozen 2
    have k0 := P8.out.c0
    have k1 := P8.out.c1
    have k2 := P8.out.c2
    have hend : Hid (Box3 (put3 w3 (w.heap.size + 1) (.int .i64 0) (.slice none 0 0) (.slice none 0 0)) (w.heap.size + 1) (.int .i64 0) (.slice none 0 0) (.slice none 0 0) ∧ Below w.heap.size w (put3 w3 (w.heap.size + 1) (.int .i64 0) (.slice none 0 0) (.slice none 0 0))) := Lib.hid ⟨P8.out.put _ _ _, below_put b3.out (by omega)⟩
    go_wp2_with fail
    obtain ⟨h1, h2⟩ := hend.out
    obtain ⟨x0, x1', x2'⟩ := box3_cells h1
    unfold put3 at x0 x1' x2' h2
    exact bodyPost_ret (v := .tuple #[.agg #[.int .i64 0, .slice none 0 0, .slice none 0 0], .int .i64 1]) (by simp [results, Try.f15, go_sem, x0, x1', x2']) rfl (by rw [NX.out]; exact ⟨h2, Or.inl ⟨by decide, rfl⟩⟩)
  have NX := Lib.hid (E5.out HM.out HCE.out HN.out hpl)
  rw [decide_eq_true hpl]
  clear hpl
  have hzz : Hid (w.heap.size + 2 ≤ w3.heap.size) := Lib.hid (by have := z1.out; have := z2.out; have := z3.out; omega)
  obtain ⟨y0, y1, y2⟩ := box3_cells P7.out
  go_wp2_with fail
  go_region_held3 (fun w' => w'.cell? ⟨w.heap.size, 0, none⟩ = some (.int .i64 off)) (go_keep) (first | (go_at_call 32; refine (rcopy_any (hp.out.below b3.out.drew)).mono ?_; rintro e w4 ⟨d', rfl, hfd, B4⟩; obtain ⟨a5, c5, rfl⟩ := hfd.form; have z4 : Hid (w3.heap.size ≤ w4.heap.size) := Lib.hid B4.size; have b4 := Lib.hid (b3.out.drew.trans (B4.mono b3.out.size)); have P9 := Lib.hid (P7.out.drew.below B4); have P10 := Lib.hid (P8.out.drew.below B4); have hF4 := Lib.hid (hF3.out.below ((Below.refl _ w3).drew.trans B4)); have hD4 : Hid (Fresh w3.heap.size w4 (.slice a5 ps.length c5) ps) := Lib.hid hfd; clear B4 hfd; have t0 := P9.out.c0; have f0 := P10.out.frozen 0; have f1 := P10.out.frozen 1; have f2 := P10.out.frozen 2; have k0 := P10.out.c0; have k1 := P10.out.c1; have k2 := P10.out.c2) | fail)
  have hzz2 : Hid (w.heap.size + 2 ≤ w1.heap.size ∧ w1.heap.size ≤ w3.heap.size) := Lib.hid ⟨z1.out, Nat.le_trans z2.out z3.out⟩
  have hend : Hid (Box3 (put3 w4 (w.heap.size + 1) (.int .i64 off) (.slice a5 ps.length c5) (.slice a4 (strd ps).length c4)) (w.heap.size + 1) (.int .i64 off) (.slice a5 ps.length c5) (.slice a4 (strd ps).length c4) ∧ Below w.heap.size w (put3 w4 (w.heap.size + 1) (.int .i64 off) (.slice a5 ps.length c5) (.slice a4 (strd ps).length c4)) ∧ Fresh w.heap.size (put3 w4 (w.heap.size + 1) (.int .i64 off) (.slice a5 ps.length c5) (.slice a4 (strd ps).length c4)) (.slice a5 ps.length c5) ps ∧ Fresh w.heap.size (put3 w4 (w.heap.size + 1) (.int .i64 off) (.slice a5 ps.length c5) (.slice a4 (strd ps).length c4)) (.slice a4 (strd ps).length c4) (strd ps)) := Lib.hid ⟨P10.out.put _ _ _, below_put b4.out (by omega), hD4.out.put (by have := hzz2.out; omega) (by have := hzz2.out; omega), hF4.out.put (by have := hzz2.out; omega) (by have := hzz2.out; omega)⟩
  go_wp2_with fail
  obtain ⟨h1, h2, h3, h4⟩ := hend.out
  obtain ⟨x0, x1', x2'⟩ := box3_cells h1
  unfold put3 at x0 x1' x2' h2 h3 h4
  exact bodyPost_ret (v := .tuple #[.agg #[.int .i64 off, .slice a5 ps.length c5, .slice a4 (strd ps).length c4], .int .i64 0]) (by simp [results, Try.f15, go_sem, x0, x1', x2']) rfl (by rw [NX.out]; exact ⟨h2, Or.inr ⟨rfl, _, _, rfl, h3, h4⟩⟩)

end Go.Proofs.Ytfdafceolkmkoaa
