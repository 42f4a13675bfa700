/- The walk of view.Reshape, every way out. -/
import Derived.Test.YtfdafceolkmkoaaViewRs
import Derived.Test.YtfdafceolkmkoaaViewY
set_option linter.unusedVariables false
namespace Go.Proofs.Ytfdafceolkmkoaa
open Go.RowKit Vw

/-- Is a view plain, up to a place? -/
def PlTo (ds ss : List Int) (k : Nat) : Prop := ∀ j, j < k → ds.getD j 0 = 1 ∨ ss.getD j 0 = (strd ds).getD j 0

instance (ds ss : List Int) (k : Nat) : Decidable (PlTo ds ss k) := by unfold PlTo; infer_instance

theorem plTo_next {ds ss : List Int} {k : Nat} (h : PlTo ds ss k) (g : ds.getD k 0 = 1 ∨ ss.getD k 0 = (strd ds).getD k 0) : PlTo ds ss (k + 1) := by
  intro j hj
  by_cases e : j = k
  · subst e; exact g
  · exact h j (by omega)

/-- What comes out of Reshape. -/
def reshO (off : Int) (ds ss ps : List Int) : Int × Int × List Int × List Int :=
  if mayV off ds ss = false then (1, 0, [], []) else if (cnt ps).2 ≠ 0 then ((cnt ps).2, 0, [], []) else if (cnt ds).1 ≠ (cnt ps).1 then (4, 0, [], []) else if PlTo ds ss ds.length then (0, off, ps, strd ps) else (1, 0, [], [])

attribute [local irreducible] mayV cnt strd wholeO

set_option maxRecDepth 100000 in
set_option maxHeartbeats 4000000 in
theorem reshape_not {w : World} (off : Int) (d s pv : Value) (ds ss ps : List Int) (hd : Hid (IntsIn w d ds)) (hs : Hid (IntsIn w s ss)) (hp : Hid (IntsIn w pv ps)) (hm : Hid (mayV off ds ss = false)) :
    Calls Try.prog 14 #[.agg #[.int .i64 off, d, s], pv] w fun e w' => e = .returned (.tuple #[.agg #[.int .i64 0, .slice none 0 0, .slice none 0 0], .int .i64 1]) ∧ Below w.heap.size w w' := by
  obtain ⟨a1, c1, rfl⟩ := hd.out.form
  obtain ⟨a2, c2, rfl⟩ := hs.out.form
  obtain ⟨a3, c3, rfl⟩ := hp.out.form
  obtain ⟨WA, hWA⟩ : ∃ WA, (w.alloc (.cells #[.int .i64 off, .slice a1 ds.length c1, .slice a2 ss.length c2] 24)).alloc (.cells #[.int .i64 0, .slice none 0 0, .slice none 0 0] 24) = WA := ⟨_, rfl⟩
  have bA : Below w.heap.size w WA := by rw [← hWA]; exact ((Below.refl _ w).alloc (Nat.le_refl _) _).alloc (by simp) _
  have zA : WA.heap.size = w.heap.size + 2 := by rw [← hWA]; simp
  have p1 : Box3 WA w.heap.size (.int .i64 off) (.slice a1 ds.length c1) (.slice a2 ss.length c2) := by rw [← hWA]; exact (Below.heap_alloc _ _ _ (by simp)).trans (Box3.new w _ _ _)
  have p2 : Box3 WA (w.heap.size + 1) (.int .i64 0) (.slice none 0 0) (.slice none 0 0) := by
    rw [← hWA]
    have := Box3.new (w.alloc (.cells #[.int .i64 off, .slice a1 ds.length c1, .slice a2 ss.length c2] 24)) (.int .i64 0) (.slice none 0 0) (.slice none 0 0)
    rwa [World.size_alloc] at this
  have q0 := p1.c0
  have q1 := p1.c1
  have q2 := p1.c2
  have HF := Lib.hid (fine_any (off := off) (hd.out.below bA) (hs.out.below bA))
  rw [hm.out] at HF
  have P1 := Lib.hid p1
  have P2 := Lib.hid p2
  have BA := Lib.hid bA
  have ZA := Lib.hid zA
  clear p1 p2 bA zA
  go_enter Try.func14, Try.ntmps14
  go_wp2_with fail
  refine HF.out.mono ?_
  rintro e w1 ⟨rfl, hB1⟩
  have z1 : w.heap.size + 2 ≤ w1.heap.size := by have := ZA.out; have := hB1.size; omega
  have B1 : Hid (Below w.heap.size w w1) := Lib.hid (BA.out.trans (hB1.mono (by have := ZA.out; omega)))
  have P3 := Lib.hid (P1.out.below hB1)
  have P4 := Lib.hid (P2.out.below hB1)
  obtain ⟨r0, r1, r2⟩ := box3_cells P3.out
  have f0 := P4.out.frozen 0
  have f1 := P4.out.frozen 1
  have f2 := P4.out.frozen 2
  have k0 := P4.out.c0
  have k1 := P4.out.c1
  have k2 := P4.out.c2
  clear hB1 q0 q1 q2
  have hend : Hid (Box3 (put3 w1 (w.heap.size + 1) (.int .i64 0) (.slice none 0 0) (.slice none 0 0)) (w.heap.size + 1) (.int .i64 0) (.slice none 0 0) (.slice none 0 0) ∧ Below w.heap.size w (put3 w1 (w.heap.size + 1) (.int .i64 0) (.slice none 0 0) (.slice none 0 0))) := Lib.hid ⟨P4.out.put _ _ _, below_put B1.out (by omega)⟩
  go_wp2
  obtain ⟨h1, h2⟩ := hend.out
  obtain ⟨x0, x1', x2'⟩ := box3_cells h1
  unfold put3 at x0 x1' x2' h2
  exact bodyPost_ret (v := .tuple #[.agg #[.int .i64 0, .slice none 0 0, .slice none 0 0], .int .i64 1]) (by simp [results, Try.f14, go_sem, x0, x1', x2']) rfl ⟨rfl, h2⟩

set_option maxRecDepth 100000 in
set_option maxHeartbeats 4000000 in
theorem reshape_bad {w : World} (off : Int) (d s pv : Value) (ds ss ps : List Int) (hd : Hid (IntsIn w d ds)) (hs : Hid (IntsIn w s ss)) (hp : Hid (IntsIn w pv ps)) (hm : Hid (mayV off ds ss = true)) (he : Hid ((cnt ps).2 ≠ 0)) :
    Calls Try.prog 14 #[.agg #[.int .i64 off, d, s], pv] w fun e w' => e = .returned (.tuple #[.agg #[.int .i64 0, .slice none 0 0, .slice none 0 0], .int .i64 (cnt ps).2]) ∧ Below w.heap.size w w' := by
  have hg := may_good hm.out
  obtain ⟨a1, c1, rfl⟩ := hd.out.form
  obtain ⟨a2, c2, rfl⟩ := hs.out.form
  obtain ⟨a3, c3, rfl⟩ := hp.out.form
  have hsl : ss.length = ds.length := hg.2.2.2.2.1
  rw [hsl] at hs ⊢
  have hce : Hid ((cnt ds).2 = 0) := Lib.hid (by
    have := hm.out
    unfold mayV at this
    simp only [Bool.and_eq_true, decide_eq_true_eq] at this
    exact this.1.1.1.1)
  obtain ⟨WA, hWA⟩ : ∃ WA, (w.alloc (.cells #[.int .i64 off, .slice a1 ds.length c1, .slice a2 ds.length c2] 24)).alloc (.cells #[.int .i64 0, .slice none 0 0, .slice none 0 0] 24) = WA := ⟨_, rfl⟩
  have bA : Below w.heap.size w WA := by rw [← hWA]; exact ((Below.refl _ w).alloc (Nat.le_refl _) _).alloc (by simp) _
  have zA : WA.heap.size = w.heap.size + 2 := by rw [← hWA]; simp
  have p1 : Box3 WA w.heap.size (.int .i64 off) (.slice a1 ds.length c1) (.slice a2 ds.length c2) := by rw [← hWA]; exact (Below.heap_alloc _ _ _ (by simp)).trans (Box3.new w _ _ _)
  have p2 : Box3 WA (w.heap.size + 1) (.int .i64 0) (.slice none 0 0) (.slice none 0 0) := by
    rw [← hWA]
    have := Box3.new (w.alloc (.cells #[.int .i64 off, .slice a1 ds.length c1, .slice a2 ds.length c2] 24)) (.int .i64 0) (.slice none 0 0) (.slice none 0 0)
    rwa [World.size_alloc] at this
  have q0 := p1.c0
  have q1 := p1.c1
  have q2 := p1.c2
  have HF := Lib.hid (fine_any (off := off) (hd.out.below bA) (hs.out.below bA))
  rw [hm.out] at HF
  have P1 := Lib.hid p1
  have P2 := Lib.hid p2
  have BA := Lib.hid bA
  have ZA := Lib.hid zA
  have HSL := Lib.hid hsl
  have HG := Lib.hid hg
  clear p1 p2 bA zA hg hsl
  go_enter Try.func14, Try.ntmps14
  go_wp2_with fail
  refine HF.out.mono ?_
  rintro e w1 ⟨rfl, hB1⟩
  have z1 : w.heap.size + 2 ≤ w1.heap.size := by have := ZA.out; have := hB1.size; omega
  have B1 : Hid (Below w.heap.size w w1) := Lib.hid (BA.out.trans (hB1.mono (by have := ZA.out; omega)))
  have P3 := Lib.hid (P1.out.below hB1)
  have P4 := Lib.hid (P2.out.below hB1)
  have HW := Lib.hid (whole_any (hp.out.below B1.out))
  clear hB1 q0 q1 q2
  go_wp2_with fail
  refine HW.out.mono ?_
  rintro e w2 ⟨hB2, (⟨hne, rfl⟩ | ⟨heq, dw, sw, rfl, hfd, hfs⟩)⟩
  rotate_left
  · exfalso
    have : (wholeO ps).1 = (cnt ps).2 := by unfold wholeO; rw [if_neg he.out]
    rw [this] at heq
    exact he.out heq
  have e1 : (wholeO ps).1 = (cnt ps).2 := by unfold wholeO; rw [if_neg he.out]
  rw [e1]
  have z2 : w1.heap.size ≤ w2.heap.size := hB2.size
  have B2 : Hid (Below w.heap.size w w2) := Lib.hid (B1.out.trans (hB2.mono (by omega)))
  have P5 := Lib.hid (P3.out.below hB2)
  have P6 := Lib.hid (P4.out.below hB2)
  clear hB2 hne
  have HE := Lib.hid he.out
  generalize hcc : (cnt ps).2 = cc at HE ⊢
  have hcb : (cc != 0) = true := by simpa using HE.out
  have HCC := Lib.hid hcc
  clear hcc
  have B3 : Hid (Below w.heap.size w (w2.alloc (.cells #[.int .i64 0, .slice none 0 0, .slice none 0 0] 24))) := Lib.hid (B2.out.alloc (by omega) _)
  have P8 : Hid (Box3 (w2.alloc (.cells #[.int .i64 0, .slice none 0 0, .slice none 0 0] 24)) (w.heap.size + 1) (.int .i64 0) (.slice none 0 0) (.slice none 0 0)) := Lib.hid ((Below.heap_alloc _ _ _ (by omega)).trans P6.out)
  have hend : Hid (Box3 (put3 (w2.alloc (.cells #[.int .i64 0, .slice none 0 0, .slice none 0 0] 24)) (w.heap.size + 1) (.int .i64 0) (.slice none 0 0) (.slice none 0 0)) (w.heap.size + 1) (.int .i64 0) (.slice none 0 0) (.slice none 0 0) ∧ Below w.heap.size w (put3 (w2.alloc (.cells #[.int .i64 0, .slice none 0 0, .slice none 0 0] 24)) (w.heap.size + 1) (.int .i64 0) (.slice none 0 0) (.slice none 0 0))) := Lib.hid ⟨P8.out.put _ _ _, below_put B3.out (by omega)⟩
  have f0 := P8.out.frozen 0
  have f1 := P8.out.frozen 1
  have f2 := P8.out.frozen 2
  obtain ⟨k0, k1, k2⟩ := box3_cells P8.out
  go_wp2
  obtain ⟨h1, h2⟩ := hend.out
  obtain ⟨x0, x1', x2'⟩ := box3_cells h1
  unfold put3 at x0 x1' x2' h2
  exact bodyPost_ret (v := .tuple #[.agg #[.int .i64 0, .slice none 0 0, .slice none 0 0], .int .i64 cc]) (by simp [results, Try.f14, go_sem, x0, x1', x2']) rfl ⟨by rw [HCC.out], h2⟩

set_option maxRecDepth 100000 in
set_option maxHeartbeats 4000000 in
theorem reshape_differ {w : World} (off : Int) (d s pv : Value) (ds ss ps : List Int) (hd : Hid (IntsIn w d ds)) (hs : Hid (IntsIn w s ss)) (hp : Hid (IntsIn w pv ps)) (hm : Hid (mayV off ds ss = true)) (he : Hid ((cnt ps).2 = 0)) (hn : Hid ((cnt ds).1 ≠ (cnt ps).1)) :
    Calls Try.prog 14 #[.agg #[.int .i64 off, d, s], pv] w fun e w' => e = .returned (.tuple #[.agg #[.int .i64 0, .slice none 0 0, .slice none 0 0], .int .i64 4]) ∧ Below w.heap.size w w' := by
  have hg := may_good hm.out
  obtain ⟨a1, c1, rfl⟩ := hd.out.form
  obtain ⟨a2, c2, rfl⟩ := hs.out.form
  obtain ⟨a3, c3, rfl⟩ := hp.out.form
  have hsl : ss.length = ds.length := hg.2.2.2.2.1
  rw [hsl] at hs ⊢
  have hce : Hid ((cnt ds).2 = 0) := Lib.hid (by
    have := hm.out
    unfold mayV at this
    simp only [Bool.and_eq_true, decide_eq_true_eq] at this
    exact this.1.1.1.1)
  obtain ⟨WA, hWA⟩ : ∃ WA, (w.alloc (.cells #[.int .i64 off, .slice a1 ds.length c1, .slice a2 ds.length c2] 24)).alloc (.cells #[.int .i64 0, .slice none 0 0, .slice none 0 0] 24) = WA := ⟨_, rfl⟩
  have bA : Below w.heap.size w WA := by rw [← hWA]; exact ((Below.refl _ w).alloc (Nat.le_refl _) _).alloc (by simp) _
  have zA : WA.heap.size = w.heap.size + 2 := by rw [← hWA]; simp
  have p1 : Box3 WA w.heap.size (.int .i64 off) (.slice a1 ds.length c1) (.slice a2 ds.length c2) := by rw [← hWA]; exact (Below.heap_alloc _ _ _ (by simp)).trans (Box3.new w _ _ _)
  have p2 : Box3 WA (w.heap.size + 1) (.int .i64 0) (.slice none 0 0) (.slice none 0 0) := by
    rw [← hWA]
    have := Box3.new (w.alloc (.cells #[.int .i64 off, .slice a1 ds.length c1, .slice a2 ds.length c2] 24)) (.int .i64 0) (.slice none 0 0) (.slice none 0 0)
    rwa [World.size_alloc] at this
  have q0 := p1.c0
  have q1 := p1.c1
  have q2 := p1.c2
  have HF := Lib.hid (fine_any (off := off) (hd.out.below bA) (hs.out.below bA))
  rw [hm.out] at HF
  have P1 := Lib.hid p1
  have P2 := Lib.hid p2
  have BA := Lib.hid bA
  have ZA := Lib.hid zA
  have HSL := Lib.hid hsl
  have HG := Lib.hid hg
  clear p1 p2 bA zA hg hsl
  go_enter Try.func14, Try.ntmps14
  go_wp2_with fail
  refine HF.out.mono ?_
  rintro e w1 ⟨rfl, hB1⟩
  have z1 : w.heap.size + 2 ≤ w1.heap.size := by have := ZA.out; have := hB1.size; omega
  have B1 : Hid (Below w.heap.size w w1) := Lib.hid (BA.out.trans (hB1.mono (by have := ZA.out; omega)))
  have P3 := Lib.hid (P1.out.below hB1)
  have P4 := Lib.hid (P2.out.below hB1)
  have HW := Lib.hid (whole_any (hp.out.below B1.out))
  clear hB1 q0 q1 q2
  go_wp2_with fail
  refine HW.out.mono ?_
  rintro e w2 ⟨hB2, (⟨hne, rfl⟩ | ⟨_, dw, sw, rfl, hfd, hfs⟩)⟩
  · exfalso
    unfold wholeO at hne
    rw [if_pos he.out] at hne
    exact hne rfl
  have eO : wholeO ps = (0, 0, ps, strd ps) := by unfold wholeO; rw [if_pos he.out]
  rw [eO] at hfd hfs ⊢
  obtain ⟨a4, c4, rfl⟩ := hfd.form
  obtain ⟨a5, c5, rfl⟩ := hfs.form
  have HFD := Lib.hid hfd
  have HFS := Lib.hid hfs
  have z2 : w1.heap.size ≤ w2.heap.size := hB2.size
  have B2 : Hid (Below w.heap.size w w2) := Lib.hid (B1.out.trans (hB2.mono (by omega)))
  have P5 := Lib.hid (P3.out.below hB2)
  have P6 := Lib.hid (P4.out.below hB2)
  clear hB2 hfd hfs eO
  obtain ⟨W3, hW3⟩ : ∃ W3, Hid (w2.alloc (.cells #[.int .i64 0, .slice a4 ps.length c4, .slice a5 (strd ps).length c5] 24) = W3) := ⟨_, Lib.hid rfl⟩
  have z3 : Hid (W3.heap.size = w2.heap.size + 1) := Lib.hid (by rw [← hW3.out]; simp)
  have bw : Hid (Below w2.heap.size w2 W3) := Lib.hid (by rw [← hW3.out]; exact (Below.refl _ w2).alloc (Nat.le_refl _) _)
  have B3 : Hid (Below w.heap.size w W3) := Lib.hid (B2.out.trans (bw.out.mono B2.out.size))
  have P7 := Lib.hid (P5.out.below bw.out)
  have P8 := Lib.hid (P6.out.below bw.out)
  have X3 : Hid (Box3 W3 w2.heap.size (.int .i64 0) (.slice a4 ps.length c4) (.slice a5 (strd ps).length c5)) := Lib.hid (by rw [← hW3.out]; exact Box3.new w2 _ _ _)
  obtain ⟨y0, y1, y2⟩ := box3_cells P7.out
  have HC1 := Lib.hid (count_any (hd.out.below B3.out))
  have HC2 := Lib.hid (count_any (hp.out.below B3.out))
  have HS3 := Lib.hid (strides_any (hd.out.below B3.out))
  rw [show cnt ds = ((cnt ds).1, 0) by rw [← hce.out]] at HC1
  rw [show cnt ps = ((cnt ps).1, 0) by rw [← he.out]] at HC2
  generalize hn4 : (strd ps).length = n5 at *
  have HN := Lib.hid hn.out
  generalize hcn : (cnt ds).1 = cn at HN HC1
  generalize hcm : (cnt ps).1 = cm at HN HC2
  have hcb : (cn != cm) = true := by simpa using HN.out
  rw [← hW3.out] at y0 y1 y2
  go_wp2_with fail
  rw [hW3.out]
  rw [hW3.out] at y0 y1 y2
  refine HC1.out.mono ?_
  rintro e w' ⟨rfl, rfl⟩
  go_wp2_with fail
  refine HC2.out.mono ?_
  rintro e w' ⟨rfl, rfl⟩
  have hend : Hid (Box3 (put3 W3 (w.heap.size + 1) (.int .i64 0) (.slice none 0 0) (.slice none 0 0)) (w.heap.size + 1) (.int .i64 0) (.slice none 0 0) (.slice none 0 0) ∧ Below w.heap.size w (put3 W3 (w.heap.size + 1) (.int .i64 0) (.slice none 0 0) (.slice none 0 0))) := Lib.hid ⟨P8.out.put _ _ _, below_put B3.out (by omega)⟩
  have f0 := P8.out.frozen 0
  have f1 := P8.out.frozen 1
  have f2 := P8.out.frozen 2
  obtain ⟨k0, k1, k2⟩ := box3_cells P8.out
  go_wp2
  obtain ⟨h1, h2⟩ := hend.out
  obtain ⟨x0, x1', x2'⟩ := box3_cells h1
  unfold put3 at x0 x1' x2' h2
  exact bodyPost_ret (v := .tuple #[.agg #[.int .i64 0, .slice none 0 0, .slice none 0 0], .int .i64 4]) (by simp [results, Try.f14, go_sem, x0, x1', x2']) rfl ⟨rfl, h2⟩

set_option maxRecDepth 100000 in
set_option maxHeartbeats 4000000 in
theorem reshape_rest {w : World} (off : Int) (d s pv : Value) (ds ss ps : List Int) (hd : Hid (IntsIn w d ds)) (hs : Hid (IntsIn w s ss)) (hp : Hid (IntsIn w pv ps)) (hm : Hid (mayV off ds ss = true)) (he : Hid ((cnt ps).2 = 0)) (hn : Hid ((cnt ds).1 = (cnt ps).1)) :
    Calls Try.prog 14 #[.agg #[.int .i64 off, d, s], pv] w (ViewOut w (reshO off ds ss ps)) := by
  have HE1 : Hid (¬ PlTo ds ss ds.length → reshO off ds ss ps = (1, 0, [], [])) := Lib.hid (fun h => by unfold reshO; rw [if_neg (by rw [hm.out]; decide), if_neg (fun h => h he.out), if_neg (fun h => h hn.out), if_neg h])
  have HE0 : Hid (PlTo ds ss ds.length → reshO off ds ss ps = (0, off, ps, strd ps)) := Lib.hid (fun h => by unfold reshO; rw [if_neg (by rw [hm.out]; decide), if_neg (fun h => h he.out), if_neg (fun h => h hn.out), if_pos h])
  have hg := may_good hm.out
  obtain ⟨a1, c1, rfl⟩ := hd.out.form
  obtain ⟨a2, c2, rfl⟩ := hs.out.form
  obtain ⟨a3, c3, rfl⟩ := hp.out.form
  have hsl : ss.length = ds.length := hg.2.2.2.2.1
  rw [hsl] at hs ⊢
  have hce : Hid ((cnt ds).2 = 0) := Lib.hid (by
    have := hm.out
    unfold mayV at this
    simp only [Bool.and_eq_true, decide_eq_true_eq] at this
    exact this.1.1.1.1)
  obtain ⟨WA, hWA⟩ : ∃ WA, (w.alloc (.cells #[.int .i64 off, .slice a1 ds.length c1, .slice a2 ds.length c2] 24)).alloc (.cells #[.int .i64 0, .slice none 0 0, .slice none 0 0] 24) = WA := ⟨_, rfl⟩
  have bA : Below w.heap.size w WA := by rw [← hWA]; exact ((Below.refl _ w).alloc (Nat.le_refl _) _).alloc (by simp) _
  have zA : WA.heap.size = w.heap.size + 2 := by rw [← hWA]; simp
  have p1 : Box3 WA w.heap.size (.int .i64 off) (.slice a1 ds.length c1) (.slice a2 ds.length c2) := by rw [← hWA]; exact (Below.heap_alloc _ _ _ (by simp)).trans (Box3.new w _ _ _)
  have p2 : Box3 WA (w.heap.size + 1) (.int .i64 0) (.slice none 0 0) (.slice none 0 0) := by
    rw [← hWA]
    have := Box3.new (w.alloc (.cells #[.int .i64 off, .slice a1 ds.length c1, .slice a2 ds.length c2] 24)) (.int .i64 0) (.slice none 0 0) (.slice none 0 0)
    rwa [World.size_alloc] at this
  have q0 := p1.c0
  have q1 := p1.c1
  have q2 := p1.c2
  have HF := Lib.hid (fine_any (off := off) (hd.out.below bA) (hs.out.below bA))
  rw [hm.out] at HF
  have P1 := Lib.hid p1
  have P2 := Lib.hid p2
  have BA := Lib.hid bA
  have ZA := Lib.hid zA
  have HSL := Lib.hid hsl
  have HG := Lib.hid hg
  clear p1 p2 bA zA hg hsl
  go_enter Try.func14, Try.ntmps14
  go_wp2_with fail
  refine HF.out.mono ?_
  rintro e w1 ⟨rfl, hB1⟩
  have z1 : w.heap.size + 2 ≤ w1.heap.size := by have := ZA.out; have := hB1.size; omega
  have B1 : Hid (Below w.heap.size w w1) := Lib.hid (BA.out.trans (hB1.mono (by have := ZA.out; omega)))
  have P3 := Lib.hid (P1.out.below hB1)
  have P4 := Lib.hid (P2.out.below hB1)
  have HW := Lib.hid (whole_any (hp.out.below B1.out))
  clear hB1 q0 q1 q2
  go_wp2_with fail
  refine HW.out.mono ?_
  rintro e w2 ⟨hB2, (⟨hne, rfl⟩ | ⟨_, dw, sw, rfl, hfd, hfs⟩)⟩
  · exfalso
    unfold wholeO at hne
    rw [if_pos he.out] at hne
    exact hne rfl
  have eO : wholeO ps = (0, 0, ps, strd ps) := by unfold wholeO; rw [if_pos he.out]
  rw [eO] at hfd hfs ⊢
  obtain ⟨a4, c4, rfl⟩ := hfd.form
  obtain ⟨a5, c5, rfl⟩ := hfs.form
  have HFD := Lib.hid hfd
  have HFS := Lib.hid hfs
  have z2 : w1.heap.size ≤ w2.heap.size := hB2.size
  have B2 : Hid (Below w.heap.size w w2) := Lib.hid (B1.out.trans (hB2.mono (by omega)))
  have P5 := Lib.hid (P3.out.below hB2)
  have P6 := Lib.hid (P4.out.below hB2)
  clear hB2 hfd hfs eO
  obtain ⟨W3, hW3⟩ : ∃ W3, Hid (w2.alloc (.cells #[.int .i64 0, .slice a4 ps.length c4, .slice a5 (strd ps).length c5] 24) = W3) := ⟨_, Lib.hid rfl⟩
  have z3 : Hid (W3.heap.size = w2.heap.size + 1) := Lib.hid (by rw [← hW3.out]; simp)
  have bw : Hid (Below w2.heap.size w2 W3) := Lib.hid (by rw [← hW3.out]; exact (Below.refl _ w2).alloc (Nat.le_refl _) _)
  have B3 : Hid (Below w.heap.size w W3) := Lib.hid (B2.out.trans (bw.out.mono B2.out.size))
  have P7 := Lib.hid (P5.out.below bw.out)
  have P8 := Lib.hid (P6.out.below bw.out)
  have X3 : Hid (Box3 W3 w2.heap.size (.int .i64 0) (.slice a4 ps.length c4) (.slice a5 (strd ps).length c5)) := Lib.hid (by rw [← hW3.out]; exact Box3.new w2 _ _ _)
  obtain ⟨y0, y1, y2⟩ := box3_cells P7.out
  have HC1 := Lib.hid (count_any (hd.out.below B3.out))
  have HC2 := Lib.hid (count_any (hp.out.below B3.out))
  have HS3 := Lib.hid (strides_any (hd.out.below B3.out))
  rw [show cnt ds = ((cnt ds).1, 0) by rw [← hce.out]] at HC1
  rw [show cnt ps = ((cnt ps).1, 0) by rw [← he.out]] at HC2
  generalize hn4 : (strd ps).length = n5 at *
  rw [hn.out] at HC1
  generalize hcm : (cnt ps).1 = cm at HC1 HC2
  have hcb : (cm != cm) = false := by simp
  rw [← hW3.out] at y0 y1 y2
  go_wp2_with fail
  rw [hW3.out]
  rw [hW3.out] at y0 y1 y2
  refine HC1.out.mono ?_
  rintro e w' ⟨rfl, rfl⟩
  go_wp2_with fail
  refine HC2.out.mono ?_
  rintro e w' ⟨rfl, rfl⟩
  go_wp2_with fail
  refine HS3.out.mono ?_
  rintro e w4 ⟨hB4, (⟨hne, rfl⟩ | ⟨_, vp, rfl, hfp⟩)⟩
  · exact absurd hce.out hne
  have z4 : w2.heap.size + 1 ≤ w4.heap.size := by have := hB4.size; have := z3.out; omega
  have B4 : Hid (Below w.heap.size w w4) := Lib.hid (B3.out.trans (hB4.mono B3.out.size))
  have P9 := Lib.hid (P7.out.below hB4)
  have P10 := Lib.hid (P8.out.below hB4)
  have X4 := Lib.hid (X3.out.below hB4)
  have BW4 : Hid (Below w2.heap.size w2 w4) := Lib.hid (bw.out.trans (hB4.mono (by have := z3.out; omega)))
  have hpw : Hid (IntsIn w4 vp (strd ds)) := Lib.hid (hfp.ints (by rw [strd_length]; have := HG.out.2.1; omega) (strd_in (HG.out.1) (HG.out.2.2.2.1)))
  clear hB4 hfp y0 y1 y2 HS3 HC1 HC2
  obtain ⟨a6, c6, rfl⟩ := hpw.out.form
  rw [show (strd ds).length = ds.length from strd_length]
  obtain ⟨v0, v1, v2⟩ := box3_cells P9.out
  have hSL := HSL.out
  have hl6 : ds.length ≤ 6 := HG.out.2.1
  have hrows := Lib.hid hpw.out.rows.2
  go_wp2_with fail
  go_loop [52] (fun i => ∃ k : Nat, k ≤ ds.length ∧ i = .int .i64 (k : Int) ∧ Hid (PlTo ds ss k)) (fun i => ds.length - (intOf i).toNat)
  case atStart => exact ⟨0, Nat.zero_le _, rfl, Lib.hid (fun j hj => absurd hj (by omega))⟩
  case round =>
    obtain ⟨k, hk, rfl, hpl⟩ := hrel
    by_cases hkl : k < ds.length
    · obtain ⟨bd, od, e1, hbd, hrd⟩ := hd.out.rows.2 k hkl
      obtain ⟨bs, os, e2, hbs, hrs⟩ := hs.out.rows.2 k (by omega)
      obtain ⟨bq, oq, e3, hbq, hrq⟩ := hrows.out k (by rw [strd_length]; exact hkl)
      subst e1 e2 e3
      have x1 := (B4.out.cell (p := ⟨bd, od + k, none⟩) hbd).trans (hrd k hkl)
      have x2 := (B4.out.cell (p := ⟨bs, os + k, none⟩) hbs).trans (hrs k (by omega))
      have x3 := hrq k (by rw [strd_length]; exact hkl)
      have hnx := Lib.hid (fun g => plTo_next (k := k) hpl.out g)
      have hno : Hid (¬ (ds.getD k 0 = 1 ∨ ss.getD k 0 = (strd ds).getD k 0) → ¬ PlTo ds ss ds.length) := Lib.hid (fun g h => g (h k hkl))
      have hkl2 : (k : Int) < (ds.length : Int) := by omega
      generalize ds.getD k 0 = d1 at *
      generalize ss.getD k 0 = s1 at *
      generalize (strd ds).getD k 0 = q1 at *
      by_cases g1 : d1 = 1
      · have b1 : (d1 != 1) = false := by simp [g1]
        have NX := Lib.hid (hnx.out (Or.inl g1))
        clear g1
        go_wp2
        go_roundw
        case rel => exact ⟨k + 1, by omega, by go_num, NX⟩
        case measure => simp [intOf]; omega
      · have b1 : (d1 != 1) = true := by simpa using g1
        by_cases g2 : s1 = q1
        · have b2 : (s1 != q1) = false := by simp [g2]
          have NX := Lib.hid (hnx.out (Or.inr g2))
          clear g1 g2
          go_wp2
          go_roundw
          case rel => exact ⟨k + 1, by omega, by go_num, NX⟩
          case measure => simp [intOf]; omega
        · have b2 : (s1 != q1) = true := by simpa using g2
          have NO := Lib.hid (HE1.out (hno.out (fun h => h.elim g1 g2)))
          have hend : Hid (Box3 (put3 w4 (w.heap.size + 1) (.int .i64 0) (.slice none 0 0) (.slice none 0 0)) (w.heap.size + 1) (.int .i64 0) (.slice none 0 0) (.slice none 0 0) ∧ Below w.heap.size w (put3 w4 (w.heap.size + 1) (.int .i64 0) (.slice none 0 0) (.slice none 0 0))) := Lib.hid ⟨P10.out.put _ _ _, below_put B4.out (by omega)⟩
          have f0 := P10.out.frozen 0
          have f1 := P10.out.frozen 1
          have f2 := P10.out.frozen 2
          obtain ⟨k0, k1, k2⟩ := box3_cells P10.out
          clear g1 g2
          go_wp2
          obtain ⟨h1, h2⟩ := hend.out
          obtain ⟨x0, x1', x2'⟩ := box3_cells h1
          unfold put3 at x0 x1' x2' h2
          exact bodyPost_ret (v := .tuple #[.agg #[.int .i64 0, .slice none 0 0, .slice none 0 0], .int .i64 1]) (by simp [results, Try.f14, go_sem, x0, x1', x2']) rfl (by rw [NO.out]; exact ⟨h2, Or.inl ⟨(by decide : (1 : Int) ≠ 0), rfl⟩⟩)
    · obtain rfl : k = ds.length := by omega
      have YES := Lib.hid (HE0.out hpl.out)
      obtain ⟨t0, t1, t2⟩ := box3_cells X4.out
      have fr0 := X4.out.frozen 0
      have x5 : Box3 (w4.setCell ⟨w2.heap.size, 0, none⟩ (.int .i64 off)) w2.heap.size (.int .i64 off) (.slice a4 ps.length c4) (.slice a5 n5 c5) := X4.out.set0 _
      have p5 : Box3 (w4.setCell ⟨w2.heap.size, 0, none⟩ (.int .i64 off)) (w.heap.size + 1) (.int .i64 0) (.slice none 0 0) (.slice none 0 0) := (Below.heap_setCell _ _ _ _ (show w.heap.size + 1 ≠ w2.heap.size by omega)).trans P10.out
      obtain ⟨u0, u1, u2⟩ := box3_cells x5
      obtain ⟨k0, k1, k2⟩ := box3_cells p5
      have f0 := p5.frozen 0
      have f1 := p5.frozen 1
      have f2 := p5.frozen 2
      have bw5 : Below w2.heap.size w2 (w4.setCell ⟨w2.heap.size, 0, none⟩ (.int .i64 off)) := BW4.out.setCell (p := ⟨w2.heap.size, 0, none⟩) (Nat.le_refl _) _
      have hend : ∀ x y z, Hid (Box3 (put3 (w4.setCell ⟨w2.heap.size, 0, none⟩ (.int .i64 off)) (w.heap.size + 1) x y z) (w.heap.size + 1) x y z ∧ Below w.heap.size w (put3 (w4.setCell ⟨w2.heap.size, 0, none⟩ (.int .i64 off)) (w.heap.size + 1) x y z) ∧
          Fresh w.heap.size (put3 (w4.setCell ⟨w2.heap.size, 0, none⟩ (.int .i64 off)) (w.heap.size + 1) x y z) (.slice a4 ps.length c4) ps ∧ Fresh w.heap.size (put3 (w4.setCell ⟨w2.heap.size, 0, none⟩ (.int .i64 off)) (w.heap.size + 1) x y z) (.slice a5 n5 c5) (strd ps)) := fun x y z => Lib.hid
        ⟨p5.put _ _ _, below_put (B4.out.setCell (p := ⟨w2.heap.size, 0, none⟩) (by simp; omega) _) (by omega), (HFD.out.below bw5).put (by omega) (by omega), (HFS.out.below bw5).put (by omega) (by omega)⟩
      clear x5 p5 bw5
      go_wp2
      obtain ⟨e1, e2, e3, e4⟩ := (hend (.int .i64 off) (.slice a4 ps.length c4) (.slice a5 n5 c5)).out
      obtain ⟨x0, x1', x2'⟩ := box3_cells e1
      unfold put3 at x0 x1' x2' e2 e3 e4
      exact bodyPost_ret (v := .tuple #[.agg #[.int .i64 off, .slice a4 ps.length c4, .slice a5 n5 c5], .int .i64 0]) (by simp [results, Try.f14, go_sem, x0, x1', x2']) rfl (by rw [YES.out]; exact ⟨e2, Or.inr ⟨rfl, _, _, rfl, e3, e4⟩⟩)

theorem reshape_any {w : World} {off : Int} {d s pv : Value} {ds ss ps : List Int} (hd : IntsIn w d ds) (hs : IntsIn w s ss) (hp : IntsIn w pv ps) :
    Calls Try.prog 14 #[.agg #[.int .i64 off, d, s], pv] w (ViewOut w (reshO off ds ss ps)) := by
  have g1 := Lib.hid hd
  have g2 := Lib.hid hs
  have g3 := Lib.hid hp
  have no : ∀ {c : Int} {e : Ending} {w' : World}, c ≠ 0 → reshO off ds ss ps = (c, 0, [], []) → (e = .returned (.tuple #[.agg #[.int .i64 0, .slice none 0 0, .slice none 0 0], .int .i64 c]) ∧ Below w.heap.size w w') → ViewOut w (reshO off ds ss ps) e w' := by
    intro c e w' hc ho h
    rw [ho]
    exact ⟨h.2, Or.inl ⟨hc, h.1⟩⟩
  cases hm : mayV off ds ss
  · exact (reshape_not off d s pv ds ss ps g1 g2 g3 (Lib.hid hm)).mono fun e w' h => no (by decide) (by unfold reshO; rw [if_pos hm]) h
  · have hm' : ¬ mayV off ds ss = false := by rw [hm]; decide
    by_cases he : (cnt ps).2 = 0
    · by_cases hn : (cnt ds).1 = (cnt ps).1
      · exact reshape_rest off d s pv ds ss ps g1 g2 g3 (Lib.hid hm) (Lib.hid he) (Lib.hid hn)
      · exact (reshape_differ off d s pv ds ss ps g1 g2 g3 (Lib.hid hm) (Lib.hid he) (Lib.hid hn)).mono fun e w' h => no (by decide) (by unfold reshO; rw [if_neg hm', if_neg (fun h => h he), if_pos hn]) h
    · exact (reshape_bad off d s pv ds ss ps g1 g2 g3 (Lib.hid hm) (Lib.hid he)).mono fun e w' h => no he (by unfold reshO; rw [if_neg hm', if_pos he]) h

end Go.Proofs.Ytfdafceolkmkoaa
