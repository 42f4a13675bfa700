/- view.Slice in one form; the walk of the reference's Slice. Printed by gen_rslice.py. -/
import Derived.Test.YtfdafceolkmkoaaViewSe
import Derived.BigRegion
set_option linter.unusedVariables false
namespace Go.Proofs.Ytfdafceolkmkoaa
open Go.RowKit Vw

/-- What comes out of Slice. -/
def slO (off ax fr to : Int) (ds ss : List Int) : Int × Int × List Int × List Int :=
  if mayV off ds ss = false then (1, 0, [], []) else if ax < 0 then (4, 0, [], []) else if (ds.length : Int) ≤ ax then (4, 0, [], []) else if fr < 0 then (4, 0, [], []) else if ds.getD ax.toNat 0 < to then (4, 0, [], []) else if to ≤ fr then (4, 0, [], [])
  else if 65536 ≤ off + fr * ss.getD ax.toNat 0 then (6, 0, [], []) else (0, off + fr * ss.getD ax.toNat 0, ds.set ax.toNat (to - fr), ss)

theorem slice_any {w : World} {off ax fr to : Int} {d s : Value} {ds ss : List Int} (hd : IntsIn w d ds) (hs : IntsIn w s ss) :
    Calls Try.prog 26 #[.agg #[.int .i64 off, d, s], .int .i64 ax, .int .i64 fr, .int .i64 to] w (ViewOut w (slO off ax fr to ds ss)) := by
  have g1 := Lib.hid hd
  have g2 := Lib.hid hs
  have no : ∀ {c : Int} {e : Ending} {w' : World}, c ≠ 0 → slO off ax fr to ds ss = (c, 0, [], []) → (e = .returned (.tuple #[.agg #[.int .i64 0, .slice none 0 0, .slice none 0 0], .int .i64 c]) ∧ Below w.heap.size w w') → ViewOut w (slO off ax fr to ds ss) e w' := by
    intro c e w' hc ho h
    rw [ho]
    exact ⟨h.2, Or.inl ⟨hc, h.1⟩⟩
  by_cases hm : mayV off ds ss = false
  · exact (slice_not off ax fr to d s ds ss g1 g2 (Lib.hid hm)).mono fun e w' h => no (by decide) (by unfold slO; rw [if_pos hm]) h
  have hm' : mayV off ds ss = true := by simpa using hm
  have g3 := Lib.hid hm'
  by_cases h1 : ax < 0
  · exact (slice_lo off ax fr to d s ds ss g1 g2 g3 h1).mono fun e w' h => no (by decide) (by unfold slO; rw [if_neg hm, if_pos h1]) h
  by_cases h2 : (ds.length : Int) ≤ ax
  · exact (slice_hi off ax fr to d s ds ss g1 g2 g3 (by omega) h2).mono fun e w' h => no (by decide) (by unfold slO; rw [if_neg hm, if_neg h1, if_pos h2]) h
  by_cases h3 : fr < 0
  · exact (slice_fr off ax fr to d s ds ss g1 g2 g3 (by omega) (by omega) h3).mono fun e w' h => no (by decide) (by unfold slO; rw [if_neg hm, if_neg h1, if_neg h2, if_pos h3]) h
  by_cases h4 : ds.getD ax.toNat 0 < to
  · exact (slice_to off ax fr to d s ds ss g1 g2 g3 (by omega) (by omega) (by omega) h4).mono fun e w' h => no (by decide) (by unfold slO; rw [if_neg hm, if_neg h1, if_neg h2, if_neg h3, if_pos h4]) h
  by_cases h5 : to ≤ fr
  · exact (slice_ge off ax fr to d s ds ss g1 g2 g3 (by omega) (by omega) (by omega) (by omega) h5).mono fun e w' h => no (by decide) (by unfold slO; rw [if_neg hm, if_neg h1, if_neg h2, if_neg h3, if_neg h4, if_pos h5]) h
  by_cases h6 : 65536 ≤ off + fr * ss.getD ax.toNat 0
  · exact (slice_far off ax fr to d s ds ss g1 g2 g3 (by omega) (by omega) (by omega) (by omega) (by omega) h6).mono fun e w' h => no (by decide) (by unfold slO; rw [if_neg hm, if_neg h1, if_neg h2, if_neg h3, if_neg h4, if_neg h5, if_pos h6]) h
  have ho : slO off ax fr to ds ss = (0, off + fr * ss.getD ax.toNat 0, ds.set ax.toNat (to - fr), ss) := by unfold slO; rw [if_neg hm, if_neg h1, if_neg h2, if_neg h3, if_neg h4, if_neg h5, if_neg h6]
  obtain ⟨k, rfl⟩ := Int.eq_ofNat_of_zero_le (show 0 ≤ ax by omega)
  rw [Int.toNat_natCast] at *
  refine (slice_good off fr to k d s ds ss g1 g2 g3 (by omega) (by omega) (by omega) (by omega) (by omega)).mono ?_
  rintro e w' ⟨d', s', rfl, hB, f1, f2⟩
  rw [ho]
  exact ⟨hB, Or.inr ⟨rfl, d', s', rfl, f1, f2⟩⟩

theorem slO_outc {off ax fr to : Int} {ds ss : List Int} (hd : ∀ z ∈ ds, InI z) (hs : ∀ z ∈ ss, InI z) : Outc (slO off ax fr to ds ss) := by
  unfold slO
  by_cases hm : mayV off ds ss = false
  · rw [if_pos hm]; exact .err 1
  rw [if_neg hm]
  by_cases h1 : ax < 0
  · rw [if_pos h1]; exact .err 4
  rw [if_neg h1]
  by_cases h2 : (ds.length : Int) ≤ ax
  · rw [if_pos h2]; exact .err 4
  rw [if_neg h2]
  by_cases h3 : fr < 0
  · rw [if_pos h3]; exact .err 4
  rw [if_neg h3]
  by_cases h4 : ds.getD ax.toNat 0 < to
  · rw [if_pos h4]; exact .err 4
  rw [if_neg h4]
  by_cases h5 : to ≤ fr
  · rw [if_pos h5]; exact .err 4
  rw [if_neg h5]
  by_cases h6 : 65536 ≤ off + fr * ss.getD ax.toNat 0
  · rw [if_pos h6]; exact .err 6
  rw [if_neg h6]
  have hg := may_good (show mayV off ds ss = true by simpa using hm)
  have hx := hg.1 _ (getD_mem (zs := ds) (k := ax.toNat) (by omega))
  refine .ok ⟨by rw [List.length_set]; exact hg.2.1, fun z hz => ?_⟩ ⟨by rw [hg.2.2.2.2.1]; exact hg.2.1, hs⟩
  rcases List.mem_or_eq_of_mem_set hz with h | rfl
  · exact hd z h
  · constructor <;> omega

theorem spO_outc {off : Int} {ds ss ps : List Int} (hs : ∀ z ∈ ss, InI z) (hp : ∀ z ∈ ps, InI z) : Outc (spO off ds ss ps) := by
  unfold spO
  by_cases hm : mayV off ds ss = false
  · rw [if_pos hm]; exact .err 1
  rw [if_neg hm]
  by_cases h1 : (bcO ds ps).1 ≠ 0
  · rw [if_pos h1]; exact .err _
  rw [if_neg h1]
  by_cases h2 : (bcO ds ps).2 ≠ ps
  · rw [if_pos h2]; exact .err 4
  rw [if_neg h2]
  have hl := (cnt_good (bc_good (by simpa using h1)).2.1).2.1
  refine .ok ⟨hl, hp⟩ ⟨by rw [spS_length]; exact hl, fun z hz => ?_⟩
  obtain ⟨j, _, rfl⟩ := List.mem_map.1 hz
  unfold spA
  by_cases h : ps.length - ds.length ≤ j ∧ ds.getD (j - (ps.length - ds.length)) 0 = ps.getD j 0
  · rw [if_pos h]; exact getD_inI hs _
  · rw [if_neg h]; constructor <;> decide

set_option maxRecDepth 100000 in
set_option maxHeartbeats 4000000 in
theorem copy_apart {w : World} {off : Int} {d s : Value} {ds ss : List Int} (hd0 : IntsIn w d ds) (hs0 : IntsIn w s ss) :
    Calls Try.prog 11 #[.agg #[.int .i64 off, d, s]] w fun e w' => ∃ d' s', e = .returned (.agg #[.int .i64 off, d', s']) ∧ Fresh w.heap.size w' d' ds ∧ Fresh w.heap.size w' s' ss ∧ Below w.heap.size w w' ∧ Apart d' s' := by
  have hd := Lib.hid hd0
  have hs := Lib.hid hs0
  clear hd0 hs0
  obtain ⟨a1, c1, rfl⟩ := hd.out.form
  obtain ⟨a2, c2, rfl⟩ := hs.out.form
  obtain ⟨WA, hWA⟩ : ∃ WA, (w.alloc (.cells #[.int .i64 off, .slice a1 ds.length c1, .slice a2 ss.length c2] 24)).alloc (.cells #[.int .i64 0, .slice none 0 0, .slice none 0 0] 24) = WA := ⟨_, rfl⟩
  have bA : Below w.heap.size w WA := by rw [← hWA]; exact ((Below.refl _ w).alloc (Nat.le_refl _) _).alloc (by simp) _
  have zA : WA.heap.size = w.heap.size + 2 := by rw [← hWA]; simp
  have p1 : Box3 WA w.heap.size (.int .i64 off) (.slice a1 ds.length c1) (.slice a2 ss.length c2) := by rw [← hWA]; exact (Below.heap_alloc _ _ _ (by simp)).trans (Box3.new w _ _ _)
  have p2 : Box3 WA (w.heap.size + 1) (.int .i64 0) (.slice none 0 0) (.slice none 0 0) := by
    rw [← hWA]
    have := Box3.new (w.alloc (.cells #[.int .i64 off, .slice a1 ds.length c1, .slice a2 ss.length c2] 24)) (.int .i64 0) (.slice none 0 0) (.slice none 0 0)
    rwa [World.size_alloc] at this
  have q0 := p1.c0
  have q1 := p1.c1
  have q2 := p1.c2
  have P1 := Lib.hid p1
  have P2 := Lib.hid p2
  have BA := Lib.hid bA
  have ZA := Lib.hid zA
  clear p1 p2 bA zA
  go_enter Try.func11, Try.ntmps11
  go_wp2_with fail
  go_region_held3 (fun w' => w'.cell? ⟨w.heap.size, 0, none⟩ = some (.int .i64 off) ∧ w'.cell? ⟨w.heap.size, 1, none⟩ = some (.slice a1 ds.length c1) ∧ w'.cell? ⟨w.heap.size, 2, none⟩ = some (.slice a2 ss.length c2)) (go_keep) (first
    | (go_at_call 32; refine (rcopy_any (hs.out.below b1.out)).mono ?_; rintro e w2 ⟨s', rfl, hfs, B2⟩; obtain ⟨a6, c6, rfl⟩ := hfs.form; have b2 := Lib.hid (b1.out.trans (B2.mono b1.out.size)); have P5 := Lib.hid (P3.out.below B2); have P6 := Lib.hid (P4.out.below B2); have hS : Hid (Fresh w1.heap.size w2 (.slice a6 ss.length c6) ss) := Lib.hid hfs; have hD2 := Lib.hid (hD.out.below B2); clear B2 hfs; obtain ⟨u0, u1, u2⟩ := box3_cells P5.out; have f0 := P6.out.frozen 0; have f1 := P6.out.frozen 1; have f2 := P6.out.frozen 2; have k0 := P6.out.c0; have k1 := P6.out.c1; have k2 := P6.out.c2)
    | (go_at_call 32; refine (rcopy_any (hd.out.below BA.out.drew)).mono ?_; rintro e w1 ⟨d', rfl, hfd, B1⟩; obtain ⟨a5, c5, rfl⟩ := hfd.form; have b1 := Lib.hid (BA.out.drew.trans (B1.mono BA.out.size)); have P3 := Lib.hid (P1.out.drew.below B1); have P4 := Lib.hid (P2.out.drew.below B1); have hD : Hid (Fresh WA.heap.size w1 (.slice a5 ds.length c5) ds) := Lib.hid hfd; have z1 : Hid (WA.heap.size ≤ w1.heap.size) := Lib.hid B1.size; clear B1 hfd; obtain ⟨t0, t1, t2⟩ := box3_cells P3.out)
    | fail)
  have hAP := Lib.hid (apart_of hD.out hS.out (Nat.le_refl _))
  have zz : Hid (WA.heap.size = w.heap.size + 2 ∧ WA.heap.size ≤ w1.heap.size) := Lib.hid ⟨ZA.out, z1.out⟩
  have hend : Hid (Box3 (put3 w2 (w.heap.size + 1) (.int .i64 off) (.slice a5 ds.length c5) (.slice a6 ss.length c6)) (w.heap.size + 1) (.int .i64 off) (.slice a5 ds.length c5) (.slice a6 ss.length c6) ∧ Below w.heap.size w (put3 w2 (w.heap.size + 1) (.int .i64 off) (.slice a5 ds.length c5) (.slice a6 ss.length c6)) ∧ Fresh w.heap.size (put3 w2 (w.heap.size + 1) (.int .i64 off) (.slice a5 ds.length c5) (.slice a6 ss.length c6)) (.slice a5 ds.length c5) ds ∧ Fresh w.heap.size (put3 w2 (w.heap.size + 1) (.int .i64 off) (.slice a5 ds.length c5) (.slice a6 ss.length c6)) (.slice a6 ss.length c6) ss) := Lib.hid ⟨P6.out.put _ _ _, below_put b2.out (by omega), hD2.out.put (by have := zz.out; omega) (by have := zz.out; omega), hS.out.put (by have := zz.out; omega) (by have := zz.out; omega)⟩
  go_wp2_with fail
  obtain ⟨h1, h2, h3, h4⟩ := hend.out
  obtain ⟨x0, x1', x2'⟩ := box3_cells h1
  unfold put3 at x0 x1' x2' h2 h3 h4
  exact bodyPost_ret (v := .agg #[.int .i64 off, .slice a5 ds.length c5, .slice a6 ss.length c6]) (by simp [results, Try.f11, go_sem, x0, x1', x2']) rfl ⟨_, _, rfl, h3, h4, h2, hAP.out⟩


theorem fresh_off {B : Nat} {w : World} {a : Option Addr} {n c b j : Nat} {xs : List Int} {v : Value} (h : Fresh B w (.slice a n c) xs) (hb : ∀ g, a = some ⟨g, 0, none⟩ → n ≠ 0 → g ≠ b) (hn : xs.length = n) : Fresh B (w.setCell ⟨b, j, none⟩ v) (.slice a n c) xs := by
  by_cases h0 : n = 0
  · subst h0
    rw [List.eq_nil_of_length_eq_zero hn]
    exact Fresh.nil _ _ _ _
  · rcases h with ⟨rfl, _⟩ | ⟨g, cap, cur, e, hg, hh, r⟩
    · simp at hn; omega
    · have e2 := e
      simp only [Value.slice.injEq] at e2
      exact Or.inr ⟨g, cap, cur, e, hg, (Below.heap_setCell _ _ _ _ (hb g e2.1 h0)).trans hh, r⟩

attribute [local irreducible] cnt mayV slO

set_option maxRecDepth 100000 in
set_option maxHeartbeats 8000000 in
theorem rslice_any {w : World} {off ax fr to : Int} {d s : Value} {ds ss : List Int} (hd0 : IntsIn w d ds) (hs0 : IntsIn w s ss) (hfr : InI fr) (hto : InI to) :
    Calls Try.prog 30 #[.agg #[.int .i64 off, d, s], .int .i64 ax, .int .i64 fr, .int .i64 to] w (ViewOut w (slO off ax fr to ds ss)) := by
  have hd := Lib.hid hd0
  have hs := Lib.hid hs0
  clear hd0 hs0
  obtain ⟨a1, c1, rfl⟩ := hd.out.form
  obtain ⟨a2, c2, rfl⟩ := hs.out.form
  obtain ⟨WA, hWA⟩ : ∃ WA, (w.alloc (.cells #[.int .i64 off, .slice a1 ds.length c1, .slice a2 ss.length c2] 24)).alloc (.cells #[.int .i64 0, .slice none 0 0, .slice none 0 0] 24) = WA := ⟨_, rfl⟩
  have bA : Below w.heap.size w WA := by rw [← hWA]; exact ((Below.refl _ w).alloc (Nat.le_refl _) _).alloc (by simp) _
  have zA : WA.heap.size = w.heap.size + 2 := by rw [← hWA]; simp
  have p1 : Box3 WA w.heap.size (.int .i64 off) (.slice a1 ds.length c1) (.slice a2 ss.length c2) := by rw [← hWA]; exact (Below.heap_alloc _ _ _ (by simp)).trans (Box3.new w _ _ _)
  have p2 : Box3 WA (w.heap.size + 1) (.int .i64 0) (.slice none 0 0) (.slice none 0 0) := by
    rw [← hWA]
    have := Box3.new (w.alloc (.cells #[.int .i64 off, .slice a1 ds.length c1, .slice a2 ss.length c2] 24)) (.int .i64 0) (.slice none 0 0) (.slice none 0 0)
    rwa [World.size_alloc] at this
  have q0 := p1.c0
  have q1 := p1.c1
  have q2 := p1.c2
  have P1 := Lib.hid p1
  have P2 := Lib.hid p2
  have BA := Lib.hid bA
  have ZA := Lib.hid zA
  have HF := Lib.hid (rmay_any (off := off) (hd.out.below bA) (hs.out.below bA))
  clear p1 p2 bA zA
  have E1 : Hid (mayV off ds ss = false → slO off ax fr to ds ss = (1, 0, [], [])) := Lib.hid fun h => by unfold slO; rw [if_pos h]
  have E2 : Hid (mayV off ds ss = true → ax < 0 → slO off ax fr to ds ss = (4, 0, [], [])) := Lib.hid fun h h1 => by unfold slO; rw [if_neg (by rw [h]; decide), if_pos h1]
  have E3 : Hid (mayV off ds ss = true → ¬ ax < 0 → (ds.length : Int) ≤ ax → slO off ax fr to ds ss = (4, 0, [], [])) := Lib.hid fun h h1 h2 => by unfold slO; rw [if_neg (by rw [h]; decide), if_neg h1, if_pos h2]
  have E4 : Hid (mayV off ds ss = true → ¬ ax < 0 → ¬ (ds.length : Int) ≤ ax → fr < 0 → slO off ax fr to ds ss = (4, 0, [], [])) := Lib.hid fun h h1 h2 h3 => by unfold slO; rw [if_neg (by rw [h]; decide), if_neg h1, if_neg h2, if_pos h3]
  have E5 : Hid (mayV off ds ss = true → ¬ ax < 0 → ¬ (ds.length : Int) ≤ ax → ¬ fr < 0 → ds.getD ax.toNat 0 < to → slO off ax fr to ds ss = (4, 0, [], [])) := Lib.hid fun h h1 h2 h3 h4 => by unfold slO; rw [if_neg (by rw [h]; decide), if_neg h1, if_neg h2, if_neg h3, if_pos h4]
  have E6 : Hid (mayV off ds ss = true → ¬ ax < 0 → ¬ (ds.length : Int) ≤ ax → ¬ fr < 0 → ¬ ds.getD ax.toNat 0 < to → to ≤ fr → slO off ax fr to ds ss = (4, 0, [], [])) := Lib.hid fun h h1 h2 h3 h4 h5 => by unfold slO; rw [if_neg (by rw [h]; decide), if_neg h1, if_neg h2, if_neg h3, if_neg h4, if_pos h5]
  have E7 : Hid (mayV off ds ss = true → ¬ ax < 0 → ¬ (ds.length : Int) ≤ ax → ¬ fr < 0 → ¬ ds.getD ax.toNat 0 < to → ¬ to ≤ fr → 65536 ≤ off + fr * ss.getD ax.toNat 0 → slO off ax fr to ds ss = (6, 0, [], [])) := Lib.hid fun h h1 h2 h3 h4 h5 h6 => by unfold slO; rw [if_neg (by rw [h]; decide), if_neg h1, if_neg h2, if_neg h3, if_neg h4, if_neg h5, if_pos h6]
  have E8 : Hid (mayV off ds ss = true → ¬ ax < 0 → ¬ (ds.length : Int) ≤ ax → ¬ fr < 0 → ¬ ds.getD ax.toNat 0 < to → ¬ to ≤ fr → ¬ 65536 ≤ off + fr * ss.getD ax.toNat 0 → slO off ax fr to ds ss = (0, off + fr * ss.getD ax.toNat 0, ds.set ax.toNat (to - fr), ss)) := Lib.hid fun h h1 h2 h3 h4 h5 h6 => by unfold slO; rw [if_neg (by rw [h]; decide), if_neg h1, if_neg h2, if_neg h3, if_neg h4, if_neg h5, if_neg h6]
  generalize slO off ax fr to ds ss = O at *
  have HR1 := Lib.hid hd.out.rows.2
  have HR2 := Lib.hid hs.out.rows.2
  go_enter Try.func30, Try.ntmps30
  go_wp2_with fail
  refine HF.out.mono ?_
  rintro e w1 ⟨rfl, B1⟩
  have z1 : Hid (w.heap.size + 2 ≤ w1.heap.size) := Lib.hid (by have := ZA.out; have := B1.size; omega)
  have b1 : Hid (Below w.heap.size w w1) := Lib.hid (BA.out.trans (B1.mono BA.out.size))
  have P3 := Lib.hid (P1.out.below B1)
  have P4 := Lib.hid (P2.out.below B1)
  clear B1 q0 q1 q2
  cases hm : mayV off ds ss
  · have NX := Lib.hid (E1.out hm)
    clear hm
    have f0 := P4.out.frozen 0
    have f1 := P4.out.frozen 1
    have f2 := P4.out.frozen 2
    have k0 := P4.out.c0
    have k1 := P4.out.c1
    have k2 := P4.out.c2
    have hend : Hid (Box3 (put3 w1 (w.heap.size + 1) (.int .i64 0) (.slice none 0 0) (.slice none 0 0)) (w.heap.size + 1) (.int .i64 0) (.slice none 0 0) (.slice none 0 0) ∧ Below w.heap.size w (put3 w1 (w.heap.size + 1) (.int .i64 0) (.slice none 0 0) (.slice none 0 0))) := Lib.hid ⟨P4.out.put _ _ _, below_put b1.out (by omega)⟩
    go_wp2_with fail
    obtain ⟨h1, h2⟩ := hend.out
    obtain ⟨x0, x1', x2'⟩ := box3_cells h1
    unfold put3 at x0 x1' x2' h2
    exact bodyPost_ret (v := .tuple #[.agg #[.int .i64 0, .slice none 0 0, .slice none 0 0], .int .i64 1]) (by simp [results, Try.f30, go_sem, x0, x1', x2']) rfl (by rw [NX.out]; exact ⟨h2, Or.inl ⟨by decide, rfl⟩⟩)
  have HM := Lib.hid hm
  have hmg := may_good hm
  have HG := Lib.hid hmg
  have hn6 := hmg.2.1
  have hsl : Hid (ss.length = ds.length) := Lib.hid hmg.2.2.2.2.1
  have ho1 := hmg.2.2.2.2.2.1
  have ho2 := hmg.2.2.2.2.2.2.1
  clear hm hmg
  obtain ⟨y0, y1, y2⟩ := box3_cells P3.out
  by_cases h1 : ax < 0
  · have NX := Lib.hid (E2.out HM.out h1)
    clear E1 E2 E3 E4 E5 E6 E7 E8
    have f0 := P4.out.frozen 0
    have f1 := P4.out.frozen 1
    have f2 := P4.out.frozen 2
    have k0 := P4.out.c0
    have k1 := P4.out.c1
    have k2 := P4.out.c2
    have hend : Hid (Box3 (put3 w1 (w.heap.size + 1) (.int .i64 0) (.slice none 0 0) (.slice none 0 0)) (w.heap.size + 1) (.int .i64 0) (.slice none 0 0) (.slice none 0 0) ∧ Below w.heap.size w (put3 w1 (w.heap.size + 1) (.int .i64 0) (.slice none 0 0) (.slice none 0 0))) := Lib.hid ⟨P4.out.put _ _ _, below_put b1.out (by omega)⟩
    go_wp2_with fail
    obtain ⟨h1, h2⟩ := hend.out
    obtain ⟨x0, x1', x2'⟩ := box3_cells h1
    unfold put3 at x0 x1' x2' h2
    exact bodyPost_ret (v := .tuple #[.agg #[.int .i64 0, .slice none 0 0, .slice none 0 0], .int .i64 4]) (by simp [results, Try.f30, go_sem, x0, x1', x2']) rfl (by rw [NX.out]; exact ⟨h2, Or.inl ⟨by decide, rfl⟩⟩)
  by_cases h2 : (ds.length : Int) ≤ ax
  · have NX := Lib.hid (E3.out HM.out (by omega) h2)
    clear E1 E2 E3 E4 E5 E6 E7 E8
    have f0 := P4.out.frozen 0
    have f1 := P4.out.frozen 1
    have f2 := P4.out.frozen 2
    have k0 := P4.out.c0
    have k1 := P4.out.c1
    have k2 := P4.out.c2
    have hend : Hid (Box3 (put3 w1 (w.heap.size + 1) (.int .i64 0) (.slice none 0 0) (.slice none 0 0)) (w.heap.size + 1) (.int .i64 0) (.slice none 0 0) (.slice none 0 0) ∧ Below w.heap.size w (put3 w1 (w.heap.size + 1) (.int .i64 0) (.slice none 0 0) (.slice none 0 0))) := Lib.hid ⟨P4.out.put _ _ _, below_put b1.out (by omega)⟩
    go_wp2_with fail
    obtain ⟨h1, h2⟩ := hend.out
    obtain ⟨x0, x1', x2'⟩ := box3_cells h1
    unfold put3 at x0 x1' x2' h2
    exact bodyPost_ret (v := .tuple #[.agg #[.int .i64 0, .slice none 0 0, .slice none 0 0], .int .i64 4]) (by simp [results, Try.f30, go_sem, x0, x1', x2']) rfl (by rw [NX.out]; exact ⟨h2, Or.inl ⟨by decide, rfl⟩⟩)
  by_cases h3 : fr < 0
  · have NX := Lib.hid (E4.out HM.out (by omega) (by omega) h3)
    clear E1 E2 E3 E4 E5 E6 E7 E8
    have f0 := P4.out.frozen 0
    have f1 := P4.out.frozen 1
    have f2 := P4.out.frozen 2
    have k0 := P4.out.c0
    have k1 := P4.out.c1
    have k2 := P4.out.c2
    have hend : Hid (Box3 (put3 w1 (w.heap.size + 1) (.int .i64 0) (.slice none 0 0) (.slice none 0 0)) (w.heap.size + 1) (.int .i64 0) (.slice none 0 0) (.slice none 0 0) ∧ Below w.heap.size w (put3 w1 (w.heap.size + 1) (.int .i64 0) (.slice none 0 0) (.slice none 0 0))) := Lib.hid ⟨P4.out.put _ _ _, below_put b1.out (by omega)⟩
    go_wp2_with fail
    obtain ⟨h1, h2⟩ := hend.out
    obtain ⟨x0, x1', x2'⟩ := box3_cells h1
    unfold put3 at x0 x1' x2' h2
    exact bodyPost_ret (v := .tuple #[.agg #[.int .i64 0, .slice none 0 0, .slice none 0 0], .int .i64 4]) (by simp [results, Try.f30, go_sem, x0, x1', x2']) rfl (by rw [NX.out]; exact ⟨h2, Or.inl ⟨by decide, rfl⟩⟩)
  obtain ⟨p, rfl⟩ := Int.eq_ofNat_of_zero_le (show 0 ≤ ax by omega)
  have hpd : p < ds.length := by omega
  have hpi : (p : Int) < (ds.length : Int) := by omega
  have hpi2 : (p : Int) < (ss.length : Int) := by rw [hsl.out]; exact hpi
  obtain ⟨b1', o1', rfl, hb1, hr1⟩ := HR1.out p hpd
  obtain ⟨b2', o2', rfl, hb2, hr2⟩ := HR2.out p (by rw [hsl.out]; exact hpd)
  have x1 := (b1.out.cell (p := ⟨b1', o1' + p, none⟩) hb1).trans (hr1 p hpd)
  have X2 := Lib.hid (hr2 p (by rw [hsl.out]; exact hpd))
  have dr := HG.out.1 _ (getD_mem hpd)
  have sr := HG.out.2.2.2.2.2.2.2 _ (getD_mem (zs := ss) (k := p) (by rw [hsl.out]; exact hpd))
  have G5 := Lib.hid (E5.out HM.out (by omega) (by omega) (by omega))
  have G6 := Lib.hid (E6.out HM.out (by omega) (by omega) (by omega))
  have G7 := Lib.hid (E7.out HM.out (by omega) (by omega) (by omega))
  have G8 := Lib.hid (E8.out HM.out (by omega) (by omega) (by omega))
  clear E1 E2 E3 E4 E5 E6 E7 E8
  rw [Int.toNat_natCast] at G5 G6 G7 G8
  generalize ds.getD p 0 = d1 at *
  generalize ss.getD p 0 = s1 at *
  by_cases h4 : d1 < to
  · have NX := Lib.hid (G5.out (by omega))
    have f0 := P4.out.frozen 0
    have f1 := P4.out.frozen 1
    have f2 := P4.out.frozen 2
    have k0 := P4.out.c0
    have k1 := P4.out.c1
    have k2 := P4.out.c2
    have hend : Hid (Box3 (put3 w1 (w.heap.size + 1) (.int .i64 0) (.slice none 0 0) (.slice none 0 0)) (w.heap.size + 1) (.int .i64 0) (.slice none 0 0) (.slice none 0 0) ∧ Below w.heap.size w (put3 w1 (w.heap.size + 1) (.int .i64 0) (.slice none 0 0) (.slice none 0 0))) := Lib.hid ⟨P4.out.put _ _ _, below_put b1.out (by omega)⟩
    go_wp2_with fail
    obtain ⟨h1, h2⟩ := hend.out
    obtain ⟨x0, x1', x2'⟩ := box3_cells h1
    unfold put3 at x0 x1' x2' h2
    exact bodyPost_ret (v := .tuple #[.agg #[.int .i64 0, .slice none 0 0, .slice none 0 0], .int .i64 4]) (by simp [results, Try.f30, go_sem, x0, x1', x2']) rfl (by rw [NX.out]; exact ⟨h2, Or.inl ⟨by decide, rfl⟩⟩)
  by_cases h5 : to ≤ fr
  · have NX := Lib.hid (G6.out (by omega) (by omega))
    have f0 := P4.out.frozen 0
    have f1 := P4.out.frozen 1
    have f2 := P4.out.frozen 2
    have k0 := P4.out.c0
    have k1 := P4.out.c1
    have k2 := P4.out.c2
    have hend : Hid (Box3 (put3 w1 (w.heap.size + 1) (.int .i64 0) (.slice none 0 0) (.slice none 0 0)) (w.heap.size + 1) (.int .i64 0) (.slice none 0 0) (.slice none 0 0) ∧ Below w.heap.size w (put3 w1 (w.heap.size + 1) (.int .i64 0) (.slice none 0 0) (.slice none 0 0))) := Lib.hid ⟨P4.out.put _ _ _, below_put b1.out (by omega)⟩
    go_wp2_with fail
    obtain ⟨h1, h2⟩ := hend.out
    obtain ⟨x0, x1', x2'⟩ := box3_cells h1
    unfold put3 at x0 x1' x2' h2
    exact bodyPost_ret (v := .tuple #[.agg #[.int .i64 0, .slice none 0 0, .slice none 0 0], .int .i64 4]) (by simp [results, Try.f30, go_sem, x0, x1', x2']) rfl (by rw [NX.out]; exact ⟨h2, Or.inl ⟨by decide, rfl⟩⟩)
  have m0 : 0 ≤ fr * s1 := Int.mul_nonneg (by omega) sr.1
  have m1 : fr * s1 ≤ 65536 * 65536 := Int.mul_le_mul (by omega) sr.2 sr.1 (by decide)
  go_wp2_with fail
  refine (copy_apart (hd.out.below b1.out) (hs.out.below b1.out)).mono ?_
  rintro e w2 ⟨d', s', rfl, fd, fs, B2, hap⟩
  have z2 : Hid (w1.heap.size ≤ w2.heap.size) := Lib.hid B2.size
  have b2 := Lib.hid (b1.out.trans (B2.mono b1.out.size))
  have P5 := Lib.hid (P3.out.below B2)
  have P6 := Lib.hid (P4.out.below B2)
  obtain ⟨a5, c5, rfl⟩ := fd.form
  obtain ⟨a6, c6, rfl⟩ := fs.form
  obtain ⟨g, rfl, hBg, hcell, hfz, hst⟩ := fd.at rfl hpd
  have hgl : Hid (g < w2.heap.size) := Lib.hid (World.block_lt_of_cell? w2 _ hcell)
  have FD := Lib.hid fd
  have FS := Lib.hid fs
  have HAP := Lib.hid hap
  clear B2 y0 y1 y2 x1 fd fs hcell hfz hst hap
  have b3 := Lib.hid (b2.out.alloc b2.out.size (.cells #[.int .i64 off, .slice (some ⟨g, 0, none⟩) ds.length c5, .slice a6 ss.length c6] 24))
  have bb : Hid (Below w2.heap.size w2 (w2.alloc (.cells #[.int .i64 off, .slice (some ⟨g, 0, none⟩) ds.length c5, .slice a6 ss.length c6] 24))) := Lib.hid ((Below.refl _ w2).alloc (Nat.le_refl _) _)
  have xg : Hid (Box3 (w2.alloc (.cells #[.int .i64 off, .slice (some ⟨g, 0, none⟩) ds.length c5, .slice a6 ss.length c6] 24)) w2.heap.size (.int .i64 off) (.slice (some ⟨g, 0, none⟩) ds.length c5) (.slice a6 ss.length c6)) := Lib.hid (Box3.new w2 _ _ _)
  have P7 := Lib.hid (P5.out.below bb.out)
  have P8 := Lib.hid (P6.out.below bb.out)
  have FD2 := Lib.hid (FD.out.below bb.out)
  have FS2 := Lib.hid (FS.out.below bb.out)
  have x2c := (b3.out.cell (p := ⟨b2', o2' + p, none⟩) hb2).trans X2.out
  obtain ⟨W3, hW3⟩ : ∃ W3, Hid (w2.alloc (.cells #[.int .i64 off, .slice (some ⟨g, 0, none⟩) ds.length c5, .slice a6 ss.length c6] 24) = W3) := ⟨_, Lib.hid rfl⟩
  rw [hW3.out] at b3 xg P7 P8 FD2 FS2 x2c
  have BB : Hid (Below w2.heap.size w2 W3) := Lib.hid (by rw [← hW3.out]; exact bb.out)
  clear bb
  go_wp2_with fail
  rw [hW3.out]
  clear hW3
  obtain ⟨y0, y1, y2⟩ := box3_cells P7.out
  obtain ⟨t0, t1, t2⟩ := box3_cells xg.out
  have tf0 := xg.out.frozen 0
  go_region
  have bG : Hid (Below w2.heap.size w2 (W3.setCell ⟨w2.heap.size, 0, none⟩ (.int .i64 (off + fr * s1))).drew) := Lib.hid ((BB.out.setCell (p := ⟨w2.heap.size, 0, none⟩) (Nat.le_refl _) _).drew)
  have xg4 : Hid (Box3 (W3.setCell ⟨w2.heap.size, 0, none⟩ (.int .i64 (off + fr * s1))).drew w2.heap.size (.int .i64 (off + fr * s1)) (.slice (some ⟨g, 0, none⟩) ds.length c5) (.slice a6 ss.length c6)) := Lib.hid (xg.out.set0 _)
  obtain ⟨W4, hW4⟩ : ∃ W4, Hid ((W3.setCell ⟨w2.heap.size, 0, none⟩ (.int .i64 (off + fr * s1))).drew = W4) := ⟨_, Lib.hid rfl⟩
  rw [hW4.out] at bG xg4 ⊢
  clear hW4 y0 y1 y2 t0 t1 t2 tf0
  have FD4 := FD.out.below bG.out
  have FS4 := Lib.hid (FS.out.below bG.out)
  have P9 := Lib.hid (P5.out.below bG.out)
  have P10 := Lib.hid (P6.out.below bG.out)
  have b4 := Lib.hid (b2.out.trans (bG.out.mono b2.out.size))
  obtain ⟨g', e', hBg', hcell, hfz, hst⟩ := FD4.at rfl hpd
  simp only [Option.some.injEq, Addr.mk.injEq, and_true] at e'
  subst e'
  obtain ⟨t0, t1, t2⟩ := box3_cells xg4.out
  have FD5 := Lib.hid (hst (to - fr))
  have FS5 := Lib.hid (fresh_off (b := g) (j := p) (v := .int .i64 (to - fr)) FS4.out (fun g2 e2 h0 => Ne.symm (HAP.out g g2 _ _ _ _ rfl (by rw [e2]) (by omega) h0)) rfl)
  have b5 : Hid (Below w.heap.size w (W4.setCell ⟨g, p, none⟩ (.int .i64 (to - fr)))) := Lib.hid (b4.out.setCell (p := ⟨g, p, none⟩) (show w.heap.size ≤ g by have := z1.out; omega) _)
  have xg5 : Hid (Box3 (W4.setCell ⟨g, p, none⟩ (.int .i64 (to - fr))) w2.heap.size (.int .i64 (off + fr * s1)) (.slice (some ⟨g, 0, none⟩) ds.length c5) (.slice a6 ss.length c6)) := Lib.hid ((Below.heap_setCell _ _ _ _ (show w2.heap.size ≠ g by have := hgl.out; omega)).trans xg4.out)
  have P11 : Hid (Box3 (W4.setCell ⟨g, p, none⟩ (.int .i64 (to - fr))) (w.heap.size + 1) (.int .i64 0) (.slice none 0 0) (.slice none 0 0)) := Lib.hid ((Below.heap_setCell _ _ _ _ (show w.heap.size + 1 ≠ g by have := z1.out; omega)).trans P10.out)
  have hto2 := hto
  unfold InI at hto2
  obtain ⟨v0, v1, v2⟩ := box3_cells xg5.out
  clear hst FD4
  obtain ⟨W5, hW5⟩ : ∃ W5, Hid (W4.setCell ⟨g, p, none⟩ (.int .i64 (to - fr)) = W5) := ⟨_, Lib.hid rfl⟩
  have q0 := P11.out.c0
  have q1 := P11.out.c1
  have q2 := P11.out.c2
  have r0 := P11.out.frozen 0
  have r1 := P11.out.frozen 1
  have r2 := P11.out.frozen 2
  have zz : Hid (w.heap.size + 2 ≤ w1.heap.size ∧ w1.heap.size ≤ w2.heap.size) := Lib.hid ⟨z1.out, z2.out⟩
  by_cases h6 : 65536 ≤ off + fr * s1
  · have NX := Lib.hid (G7.out (by omega) (by omega) h6)
    have h6' : 65535 < off + fr * s1 := by omega
    have f0 := P11.out.frozen 0
    have f1 := P11.out.frozen 1
    have f2 := P11.out.frozen 2
    have k0 := P11.out.c0
    have k1 := P11.out.c1
    have k2 := P11.out.c2
    have hend : Hid (Box3 (put3 (W4.setCell ⟨g, p, none⟩ (.int .i64 (to - fr))) (w.heap.size + 1) (.int .i64 0) (.slice none 0 0) (.slice none 0 0)) (w.heap.size + 1) (.int .i64 0) (.slice none 0 0) (.slice none 0 0) ∧ Below w.heap.size w (put3 (W4.setCell ⟨g, p, none⟩ (.int .i64 (to - fr))) (w.heap.size + 1) (.int .i64 0) (.slice none 0 0) (.slice none 0 0))) := Lib.hid ⟨P11.out.put _ _ _, below_put b5.out (by omega)⟩
    go_wp2_with fail
    obtain ⟨h1, h2⟩ := hend.out
    obtain ⟨x0, x1', x2'⟩ := box3_cells h1
    unfold put3 at x0 x1' x2' h2
    exact bodyPost_ret (v := .tuple #[.agg #[.int .i64 0, .slice none 0 0, .slice none 0 0], .int .i64 6]) (by simp [results, Try.f30, go_sem, x0, x1', x2']) rfl (by rw [NX.out]; exact ⟨h2, Or.inl ⟨by decide, rfl⟩⟩)
  · have NX := Lib.hid (G8.out (by omega) (by omega) (by omega))
    have h6' : ¬ 65535 < off + fr * s1 := by omega
    have FD6 : Hid (Fresh w1.heap.size (W4.setCell ⟨g, p, none⟩ (.int .i64 (to - fr))) (.slice (some ⟨g, 0, none⟩) ds.length c5) (ds.set p (to - fr))) := FD5
    have hend : Hid (Box3 (put3 (W4.setCell ⟨g, p, none⟩ (.int .i64 (to - fr))) (w.heap.size + 1) (.int .i64 (off + fr * s1)) (.slice (some ⟨g, 0, none⟩) ds.length c5) (.slice a6 ss.length c6)) (w.heap.size + 1) (.int .i64 (off + fr * s1)) (.slice (some ⟨g, 0, none⟩) ds.length c5) (.slice a6 ss.length c6) ∧ Below w.heap.size w (put3 (W4.setCell ⟨g, p, none⟩ (.int .i64 (to - fr))) (w.heap.size + 1) (.int .i64 (off + fr * s1)) (.slice (some ⟨g, 0, none⟩) ds.length c5) (.slice a6 ss.length c6)) ∧ Fresh w.heap.size (put3 (W4.setCell ⟨g, p, none⟩ (.int .i64 (to - fr))) (w.heap.size + 1) (.int .i64 (off + fr * s1)) (.slice (some ⟨g, 0, none⟩) ds.length c5) (.slice a6 ss.length c6)) (.slice (some ⟨g, 0, none⟩) ds.length c5) (ds.set p (to - fr)) ∧ Fresh w.heap.size (put3 (W4.setCell ⟨g, p, none⟩ (.int .i64 (to - fr))) (w.heap.size + 1) (.int .i64 (off + fr * s1)) (.slice (some ⟨g, 0, none⟩) ds.length c5) (.slice a6 ss.length c6)) (.slice a6 ss.length c6) ss) := Lib.hid ⟨P11.out.put _ _ _, below_put b5.out (by omega), FD6.out.put (by have := zz.out; omega) (by have := zz.out; omega), FS5.out.put (by have := zz.out; omega) (by have := zz.out; omega)⟩
    go_wp2_with fail
    obtain ⟨h1, h2, h3, h4⟩ := hend.out
    obtain ⟨x0, x1', x2'⟩ := box3_cells h1
    unfold put3 at x0 x1' x2' h2 h3 h4
    exact bodyPost_ret (v := .tuple #[.agg #[.int .i64 (off + fr * s1), .slice (some ⟨g, 0, none⟩) ds.length c5, .slice a6 ss.length c6], .int .i64 0]) (by simp [results, Try.f30, go_sem, x0, x1', x2']) rfl (by rw [NX.out]; exact ⟨h2, Or.inr ⟨rfl, _, _, rfl, h3, h4⟩⟩)

end Go.Proofs.Ytfdafceolkmkoaa
