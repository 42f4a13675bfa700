/- The walk of view.Spread. Printed by gen_spread.py. -/
import Derived.Test.YtfdafceolkmkoaaViewBr
set_option linter.unusedVariables false
namespace Go.Proofs.Ytfdafceolkmkoaa
open Go.RowKit Vw

theorem equal_any {w : World} {u v : Value} {xs ys : List Int} (h1 : IntsIn w u xs) (h2 : IntsIn w v ys) :
    Calls Try.prog 47 #[u, v] w fun e w' => e = .returned (.bool (decide (xs = ys))) ∧ Below w.heap.size w w' := by
  have hl1 := h1.wf.1
  have hl2 := h2.wf.1
  cases h1 with
  | empty a0 c0 =>
    obtain ⟨a3, c3, rfl⟩ := h2.form
    refine (Try.slices_Equal_int_empty a0 a3 c0 ys.length c3 w (by omega)).mono ?_
    rintro e w' ⟨rfl, rfl⟩
    refine ⟨ret_val (bool_val ?_), Below.refl _ _⟩
    cases ys <;> simp
  | row b1 o1 c1 _ n0 hc hb hr hlen hw =>
    cases h2 with
    | empty a0 c0 =>
      refine (Try.slices_Equal_int_lens (some ⟨b1, o1, none⟩) a0 xs.length c1 0 c0 w (by intro e; exact n0 (List.eq_nil_of_length_eq_zero e))).mono ?_
      rintro e w' ⟨rfl, rfl⟩
      exact ⟨ret_val (bool_val (decide_eq_false n0).symm), Below.refl _ _⟩
    | row b2 o2 c2 _ n0' hc' hb' hr' hlen' hw' =>
      refine (Try.slices_Equal_int b1 o1 xs.length c1 b2 o2 ys.length c2 xs ys w (Nat.le_refl _) (Nat.le_refl _) (by omega) (by omega) hr hr').mono ?_
      rintro e w' ⟨rfl, q, rfl⟩
      refine ⟨ret_val (bool_val ?_), below_drewN (Below.refl _ _) q⟩
      rw [List.take_length, List.take_length]
      by_cases e : xs = ys
      · simp [e]
      · simp [e]

/-- The strides of a view that is spread. -/
def spA (ds ss W : List Int) (j : Nat) : Int := if W.length - ds.length ≤ j ∧ ds.getD (j - (W.length - ds.length)) 0 = W.getD j 0 then ss.getD (j - (W.length - ds.length)) 0 else 0
def spS (ds ss W : List Int) : List Int := (List.range W.length).map (spA ds ss W)
theorem spS_length (ds ss W : List Int) : (spS ds ss W).length = W.length := by simp [spS]
theorem spS_get {ds ss W : List Int} {j : Nat} (h : j < W.length) : (spS ds ss W).getD j 0 = spA ds ss W j := by simp [spS, List.getD, h]

/-- What comes out of Spread. -/
def spO (off : Int) (ds ss W : List Int) : Int × Int × List Int × List Int :=
  if mayV off ds ss = false then (1, 0, [], []) else if (bcO ds W).1 ≠ 0 then ((bcO ds W).1, 0, [], []) else if (bcO ds W).2 ≠ W then (4, 0, [], []) else (0, off, W, spS ds ss W)

theorem bc_good {a b : List Int} (h : (bcO a b).1 = 0) : (cnt a).2 = 0 ∧ (cnt b).2 = 0 ∧ Co a b (max a.length b.length) ∧ (bcO a b).2 = outL a b ∧ (cnt (outL a b)).2 = 0 := by
  unfold bcO at h ⊢
  by_cases h1 : (cnt a).2 ≠ 0
  · rw [if_pos h1] at h; exact absurd h h1
  rw [if_neg h1] at h ⊢
  by_cases h2 : (cnt b).2 ≠ 0
  · rw [if_pos h2] at h; exact absurd h h2
  rw [if_neg h2] at h ⊢
  by_cases h3 : Co a b (max a.length b.length)
  · rw [if_pos h3] at h ⊢
    by_cases h4 : (cnt (outL a b)).2 ≠ 0
    · rw [if_pos h4] at h; exact absurd h h4
    · rw [if_neg h4]; exact ⟨by simpa using h1, by simpa using h2, h3, rfl, by simpa using h4⟩
  · rw [if_neg h3] at h; exact absurd h (by decide)

/-- The strides, so far. -/
def SpTo (ds ss W : List Int) (i : Nat) (xs : List Int) : Prop := xs.length = W.length ∧ (∀ j, j < W.length - ds.length + i → j < W.length → xs.getD j 0 = spA ds ss W j) ∧ (∀ j, W.length - ds.length + i ≤ j → xs.getD j 0 = 0)

theorem SpTo.len {ds ss W xs : List Int} {i : Nat} (h : SpTo ds ss W i xs) : xs.length = W.length := h.1
theorem SpTo.zero (ds ss W : List Int) : SpTo ds ss W 0 (List.replicate W.length 0) := by
  have hz : ∀ j, (List.replicate W.length (0 : Int)).getD j 0 = 0 := fun j => by
    by_cases h : j < W.length
    · simp [List.getD, h]
    · simp [List.getD, h]
  refine ⟨by simp, fun j hj _ => ?_, fun j _ => hz j⟩
  rw [hz]; unfold spA; rw [if_neg (by omega)]
theorem SpTo.put {ds ss W xs : List Int} {i : Nat} (h : SpTo ds ss W i xs) (hl : ds.length ≤ W.length) (hi : i < ds.length) (e : ds.getD i 0 = W.getD (W.length - ds.length + i) 0) : SpTo ds ss W (i + 1) (xs.set (W.length - ds.length + i) (ss.getD i 0)) := by
  refine ⟨by rw [List.length_set]; exact h.1, fun j hj hjW => ?_, fun j hj => ?_⟩
  · by_cases ej : j = W.length - ds.length + i
    · subst ej
      have hlt : W.length - ds.length + i < xs.length := by rw [h.1]; exact hjW
      unfold spA
      rw [if_pos ⟨by omega, by rw [show W.length - ds.length + i - (W.length - ds.length) = i by omega]; exact e⟩, show W.length - ds.length + i - (W.length - ds.length) = i by omega]
      simp [List.getD, hlt]
    · have : (xs.set (W.length - ds.length + i) (ss.getD i 0)).getD j 0 = xs.getD j 0 := by simp [List.getD, List.getElem?_set_ne (Ne.symm ej)]
      rw [this]; exact h.2.1 j (by omega) hjW
  · have : (xs.set (W.length - ds.length + i) (ss.getD i 0)).getD j 0 = xs.getD j 0 := by simp [List.getD, List.getElem?_set_ne (show W.length - ds.length + i ≠ j by omega)]
    rw [this]; exact h.2.2 j (by omega)
theorem SpTo.stay {ds ss W xs : List Int} {i : Nat} (h : SpTo ds ss W i xs) (hl : ds.length ≤ W.length) (hi : i < ds.length) (e : ds.getD i 0 ≠ W.getD (W.length - ds.length + i) 0) : SpTo ds ss W (i + 1) xs := by
  refine ⟨h.1, fun j hj hjW => ?_, fun j hj => h.2.2 j (by omega)⟩
  by_cases ej : j = W.length - ds.length + i
  · subst ej
    rw [h.2.2 _ (Nat.le_refl _)]
    unfold spA
    rw [if_neg]
    rintro ⟨_, g⟩
    rw [show W.length - ds.length + i - (W.length - ds.length) = i by omega] at g
    exact e g
  · exact h.2.1 j (by omega) hjW
theorem SpTo.all {ds ss W xs : List Int} (h : SpTo ds ss W ds.length xs) (hl : ds.length ≤ W.length) : xs = spS ds ss W := by
  refine List.ext_getElem (by rw [h.1, spS_length]) fun j h1 h2 => ?_
  have hj : j < W.length := by rw [← h.1]; exact h1
  have := h.2.1 j (by omega) hj
  rw [← spS_get hj] at this
  simpa [List.getD, List.getElem?_eq_getElem h1, List.getElem?_eq_getElem h2] using this

attribute [local irreducible] cnt mayV bcO outL spS spA SpTo spO

set_option maxRecDepth 100000 in
set_option maxHeartbeats 4000000 in
theorem spread_any {w : World} {off : Int} {d s pv : Value} {ds ss ps : List Int} (hd0 : IntsIn w d ds) (hs0 : IntsIn w s ss) (hp0 : IntsIn w pv ps) :
    Calls Try.prog 27 #[.agg #[.int .i64 off, d, s], pv] w (ViewOut w (spO off ds ss ps)) := by
  have hd := Lib.hid hd0
  have hs := Lib.hid hs0
  have hp := Lib.hid hp0
  clear hd0 hs0 hp0
  obtain ⟨a1, c1, rfl⟩ := hd.out.form
  obtain ⟨a2, c2, rfl⟩ := hs.out.form
  obtain ⟨a3, c3, rfl⟩ := hp.out.form
  obtain ⟨WA, hWA⟩ : ∃ WA, (w.alloc (.cells #[.int .i64 off, .slice a1 ds.length c1, .slice a2 ss.length c2] 24)).alloc (.cells #[.int .i64 0, .slice none 0 0, .slice none 0 0] 24) = WA := ⟨_, rfl⟩
  have bA : Below w.heap.size w WA := by rw [← hWA]; exact ((Below.refl _ w).alloc (Nat.le_refl _) _).alloc (by simp) _
  have zA : WA.heap.size = w.heap.size + 2 := by rw [← hWA]; simp
  have p1 : Box3 WA w.heap.size (.int .i64 off) (.slice a1 ds.length c1) (.slice a2 ss.length c2) := by rw [← hWA]; exact (Below.heap_alloc _ _ _ (by simp)).trans (Box3.new w _ _ _)
  have p2 : Box3 WA (w.heap.size + 1) (.int .i64 0) (.slice none 0 0) (.slice none 0 0) := by
    rw [← hWA]
    have := Box3.new (w.alloc (.cells #[.int .i64 off, .slice a1 ds.length c1, .slice a2 ss.length c2] 24)) (.int .i64 0) (.slice none 0 0) (.slice none 0 0)
    rwa [World.size_alloc] at this
  have q0 := p1.c0
  have q1 := p1.c1
  have q2 := p1.c2
  have P1 := Lib.hid p1
  have P2 := Lib.hid p2
  have BA := Lib.hid bA
  have ZA := Lib.hid zA
  have HF := Lib.hid (fine_any (off := off) (hd.out.below bA) (hs.out.below bA))
  clear p1 p2 bA zA
  have E1 : Hid (mayV off ds ss = false → spO off ds ss ps = (1, 0, [], [])) := Lib.hid fun h => by unfold spO; rw [if_pos h]
  have E2 : Hid (mayV off ds ss = true → (bcO ds ps).1 ≠ 0 → spO off ds ss ps = ((bcO ds ps).1, 0, [], [])) := Lib.hid fun h g => by unfold spO; rw [if_neg (by rw [h]; decide), if_pos g]
  have E3 : Hid (mayV off ds ss = true → (bcO ds ps).1 = 0 → (bcO ds ps).2 ≠ ps → spO off ds ss ps = (4, 0, [], [])) := Lib.hid fun h g k => by unfold spO; rw [if_neg (by rw [h]; decide), if_neg (by rw [g]; decide), if_pos k]
  have E4 : Hid (mayV off ds ss = true → (bcO ds ps).1 = 0 → (bcO ds ps).2 = ps → spO off ds ss ps = (0, off, ps, spS ds ss ps)) := Lib.hid fun h g k => by unfold spO; rw [if_neg (by rw [h]; decide), if_neg (by rw [g]; decide), if_neg (by rw [k]; simp)]
  generalize spO off ds ss ps = O at *
  have HR1 := Lib.hid hd.out.rows.2
  have HR2 := Lib.hid hs.out.rows.2
  go_enter Try.func27, Try.ntmps27
  go_wp2_with fail
  refine HF.out.mono ?_
  rintro e w1 ⟨rfl, B1⟩
  have z1 : Hid (w.heap.size + 2 ≤ w1.heap.size) := Lib.hid (by have := ZA.out; have := B1.size; omega)
  have b1 : Hid (Below w.heap.size w w1) := Lib.hid (BA.out.trans (B1.mono BA.out.size))
  have P3 := Lib.hid (P1.out.below B1)
  have P4 := Lib.hid (P2.out.below B1)
  clear B1 q0 q1 q2
  cases hm : mayV off ds ss
  · have NX := Lib.hid (E1.out hm)
    clear hm
    have f0 := P4.out.frozen 0
    have f1 := P4.out.frozen 1
    have f2 := P4.out.frozen 2
    have k0 := P4.out.c0
    have k1 := P4.out.c1
    have k2 := P4.out.c2
    have hend : Hid (Box3 (put3 w1 (w.heap.size + 1) (.int .i64 0) (.slice none 0 0) (.slice none 0 0)) (w.heap.size + 1) (.int .i64 0) (.slice none 0 0) (.slice none 0 0) ∧ Below w.heap.size w (put3 w1 (w.heap.size + 1) (.int .i64 0) (.slice none 0 0) (.slice none 0 0))) := Lib.hid ⟨P4.out.put _ _ _, below_put b1.out (by omega)⟩
    go_wp2_with fail
    obtain ⟨h1, h2⟩ := hend.out
    obtain ⟨x0, x1', x2'⟩ := box3_cells h1
    unfold put3 at x0 x1' x2' h2
    exact bodyPost_ret (v := .tuple #[.agg #[.int .i64 0, .slice none 0 0, .slice none 0 0], .int .i64 1]) (by simp [results, Try.f27, go_sem, x0, x1', x2']) rfl (by rw [NX.out]; exact ⟨h2, Or.inl ⟨by decide, rfl⟩⟩)
  have HM := Lib.hid hm
  have hmg := may_good hm
  have hn6 := hmg.2.1
  have hsl : Hid (ss.length = ds.length) := Lib.hid hmg.2.2.2.2.1
  clear hm hmg
  obtain ⟨y0, y1, y2⟩ := box3_cells P3.out
  go_wp2_with fail
  refine (broadcast_any (hd.out.below b1.out) (hp.out.below b1.out)).mono ?_
  rintro e w2 ⟨B2, h2⟩
  have z2 : Hid (w1.heap.size ≤ w2.heap.size) := Lib.hid B2.size
  have b2 := Lib.hid (b1.out.trans (B2.mono b1.out.size))
  have P5 := Lib.hid (P3.out.below B2)
  have P6 := Lib.hid (P4.out.below B2)
  clear B2 y0 y1 y2
  rcases h2 with ⟨hne, rfl⟩ | ⟨h0, v, rfl, hf⟩
  · have NX := Lib.hid (E2.out HM.out hne)
    generalize (bcO ds ps).1 = ce at *
    have hb1 : (ce != 0) = true := by simpa using hne
    have HNE := Lib.hid hne
    clear hne
    have f0 := P6.out.frozen 0
    have f1 := P6.out.frozen 1
    have f2 := P6.out.frozen 2
    have k0 := P6.out.c0
    have k1 := P6.out.c1
    have k2 := P6.out.c2
    have hend : Hid (Box3 (put3 w2 (w.heap.size + 1) (.int .i64 0) (.slice none 0 0) (.slice none 0 0)) (w.heap.size + 1) (.int .i64 0) (.slice none 0 0) (.slice none 0 0) ∧ Below w.heap.size w (put3 w2 (w.heap.size + 1) (.int .i64 0) (.slice none 0 0) (.slice none 0 0))) := Lib.hid ⟨P6.out.put _ _ _, below_put b2.out (by omega)⟩
    go_wp2_with fail
    obtain ⟨h1, h2⟩ := hend.out
    obtain ⟨x0, x1', x2'⟩ := box3_cells h1
    unfold put3 at x0 x1' x2' h2
    exact bodyPost_ret (v := .tuple #[.agg #[.int .i64 0, .slice none 0 0, .slice none 0 0], .int .i64 ce]) (by simp [results, Try.f27, go_sem, x0, x1', x2']) rfl (by rw [NX.out]; exact ⟨h2, Or.inl ⟨HNE.out, rfl⟩⟩)
  have HB0 := Lib.hid h0
  have hbg := bc_good h0
  have hbe := hbg.2.2.2.1
  have hcp := (cnt_good hbg.2.1).2.1
  have hol : Hid ((outL ds ps).length = max ds.length ps.length) := Lib.hid (outL_length ds ps)
  have hoi : Hid (∀ z ∈ outL ds ps, InI z) := Lib.hid (outL_inI hd.out.wf.2 hp.out.wf.2)
  have HE3 := Lib.hid (E3.out HM.out h0)
  have HE4 := Lib.hid (E4.out HM.out h0)
  rw [hbe] at hf HE3 HE4
  have iv := Lib.hid (hf.ints (by rw [hol.out]; omega) hoi.out)
  have hF := Lib.hid hf
  obtain ⟨a4, c4, rfl⟩ := hf.form
  clear hf h0 hbg hbe
  go_wp2_with fail
  refine (equal_any iv.out (hp.out.below b2.out)).mono ?_
  rintro e w3 ⟨rfl, B3⟩
  have z3 : Hid (w2.heap.size ≤ w3.heap.size) := Lib.hid B3.size
  have b3 := Lib.hid (b2.out.trans (B3.mono b2.out.size))
  have P7 := Lib.hid (P5.out.below B3)
  have P8 := Lib.hid (P6.out.below B3)
  have hF3 := Lib.hid (hF.out.below B3)
  clear B3
  by_cases hq : outL ds ps = ps
  rotate_left
  · have NX := Lib.hid (HE3.out hq)
    rw [decide_eq_false hq]
    clear hq
    have f0 := P8.out.frozen 0
    have f1 := P8.out.frozen 1
    have f2 := P8.out.frozen 2
    have k0 := P8.out.c0
    have k1 := P8.out.c1
    have k2 := P8.out.c2
    have hend : Hid (Box3 (put3 w3 (w.heap.size + 1) (.int .i64 0) (.slice none 0 0) (.slice none 0 0)) (w.heap.size + 1) (.int .i64 0) (.slice none 0 0) (.slice none 0 0) ∧ Below w.heap.size w (put3 w3 (w.heap.size + 1) (.int .i64 0) (.slice none 0 0) (.slice none 0 0))) := Lib.hid ⟨P8.out.put _ _ _, below_put b3.out (by omega)⟩
    go_wp2_with fail
    obtain ⟨h1, h2⟩ := hend.out
    obtain ⟨x0, x1', x2'⟩ := box3_cells h1
    unfold put3 at x0 x1' x2' h2
    exact bodyPost_ret (v := .tuple #[.agg #[.int .i64 0, .slice none 0 0, .slice none 0 0], .int .i64 4]) (by simp [results, Try.f27, go_sem, x0, x1', x2']) rfl (by rw [NX.out]; exact ⟨h2, Or.inl ⟨by decide, rfl⟩⟩)
  have NX := Lib.hid (HE4.out hq)
  rw [decide_eq_true hq]
  rw [hq] at hF3 hol ⊢
  have hle : ds.length ≤ ps.length := by have := hol.out; omega
  clear hq HE3 HE4 E1 E2 E3 E4 iv hF hoi
  have iv3 := Lib.hid (hF3.out.ints hp.out.wf.1 hp.out.wf.2)
  have HR4 := Lib.hid iv3.out.rows.2
  obtain ⟨ah, hah⟩ : ∃ ah : Nat, ah = ps.length - ds.length := ⟨_, rfl⟩
  have hsub : (ps.length : Int) - (ds.length : Int) = (ah : Int) := by omega
  have HAH := Lib.hid hah
  clear hah
  have hmk := run_make_ints w3 ps.length (by omega)
  have hrow : Hid (RowAt (w3.alloc (.cells (intCells (List.replicate ps.length 0)) 3)) w3.heap.size (List.replicate ps.length 0)) := Lib.hid (RowAt.new w3 _)
  have hbel : Hid (Below w3.heap.size w3 (w3.alloc (.cells (intCells (List.replicate ps.length 0)) 3))) := Lib.hid ((Below.refl _ w3).alloc (Nat.le_refl _) _)
  have HSZ : Hid (SpTo ds ss ps 0 (List.replicate ps.length 0)) := Lib.hid (SpTo.zero ds ss ps)
  have P9 := Lib.hid (P7.out.below hbel.out)
  obtain ⟨y0, y1, y2⟩ := box3_cells P9.out
  go_wp2_with fail
  go_loopw [40] (fun i wr => ∃ k : Nat, k ≤ ds.length ∧ i = .int .i64 (k : Int) ∧ Hid (∃ xs, RowAt wr w3.heap.size xs ∧ SpTo ds ss ps k xs) ∧ Hid (Below w3.heap.size w3 wr)) (fun i _ => ds.length - (intOf i).toNat)
  case atStart => exact ⟨0, Nat.zero_le _, rfl, Lib.hid ⟨_, hrow.out, HSZ.out⟩, hbel⟩
  case round =>
    obtain ⟨k, hk, rfl, hx, hb⟩ := hrel
    obtain ⟨xs, hr, hsp⟩ := hx.out
    have PV := Lib.hid (P7.out.below hb.out)
    clear y0 y1 y2
    obtain ⟨y0, y1, y2⟩ := box3_cells PV.out
    have bw := Lib.hid (b3.out.trans (hb.out.mono b3.out.size))
    by_cases hkl : k < ds.length
    · have hki : (k : Int) < (ds.length : Int) := by omega
      have hki2 : (k : Int) < (ss.length : Int) := by rw [hsl.out]; exact hki
      obtain ⟨p, hpp⟩ : ∃ p : Nat, p = ah + k := ⟨_, rfl⟩
      have hpi : (ah : Int) + (k : Int) = (p : Int) := by omega
      have hpe : ps.length - ds.length + k = p := by rw [← HAH.out, hpp]
      have hpL : p < ps.length := by omega
      have hpl : (p : Int) < (ps.length : Int) := by omega
      have hput := hsp.put hle hkl
      have hstay := hsp.stay hle hkl
      rw [hpe] at hput hstay
      obtain ⟨b1', o1', rfl, hb1, hr1⟩ := HR1.out k hkl
      obtain ⟨b2', o2', rfl, hb2, hr2⟩ := HR2.out k (by rw [hsl.out]; exact hkl)
      obtain ⟨b4', o4', rfl, hb4, hr4⟩ := HR4.out p hpL
      have x1 := (bw.out.cell (p := ⟨b1', o1' + k, none⟩) hb1).trans (hr1 k hkl)
      have x2 := (bw.out.cell (p := ⟨b2', o2' + k, none⟩) hb2).trans (hr2 k (by rw [hsl.out]; exact hkl))
      have x4 := (hb.out.cell (p := ⟨b4', o4' + p, none⟩) hb4).trans (hr4 p hpL)
      have hcell := hr.cell (j := p) (by rw [hsp.len]; exact hpL)
      have hfz := hr.frozen p
      have hset := hr.set p (ss.getD k 0)
      clear hpp hpe
      generalize ds.getD k 0 = d1 at *
      generalize ss.getD k 0 = s1 at *
      generalize ps.getD p 0 = q1 at *
      by_cases he : d1 = q1
      · have HPT := Lib.hid (hput he)
        have HST := Lib.hid hset
        have hbs : Hid (Below w3.heap.size w3 (wr.setCell ⟨w3.heap.size, p, none⟩ (.int .i64 s1))) := Lib.hid (hb.out.setCell (p := ⟨w3.heap.size, p, none⟩) (Nat.le_refl _) _)
        clear hput hstay hset hr hsp hx
        subst he
        go_wp2_with fail
        go_roundw
        case rel => exact ⟨k + 1, by omega, by go_num, Lib.hid ⟨_, HST.out, HPT.out⟩, hbs⟩
        case measure => simp [intOf]; omega
      · have HPT := Lib.hid (hstay he)
        have HST := Lib.hid hr
        have hb1' : (d1 == q1) = false := by simpa using he
        clear hput hstay hset hr hsp hx he
        go_wp2_with fail
        go_roundw
        case rel => exact ⟨k + 1, by omega, by go_num, Lib.hid ⟨_, HST.out, HPT.out⟩, hb⟩
        case measure => simp [intOf]; omega
    · obtain rfl : k = ds.length := by omega
      have hxe := hsp.all hle
      subst hxe
      have hFS : Hid (Fresh w3.heap.size wr (.slice (some ⟨w3.heap.size, 0, none⟩) ps.length ps.length) (spS ds ss ps)) := Lib.hid (Fresh.row hr (Nat.le_refl _) (spS_length ds ss ps).symm)
      have hFD := Lib.hid (hF3.out.below hb.out)
      have P10 := Lib.hid (P8.out.below hb.out)
      have zz : Hid (w.heap.size + 2 ≤ w1.heap.size ∧ w1.heap.size ≤ w3.heap.size) := Lib.hid ⟨z1.out, Nat.le_trans z2.out z3.out⟩
      have f0 := P10.out.frozen 0
      have f1 := P10.out.frozen 1
      have f2 := P10.out.frozen 2
      have k0 := P10.out.c0
      have k1 := P10.out.c1
      have k2 := P10.out.c2
      clear hr hsp hx
      have hend : Hid (Box3 (put3 wr (w.heap.size + 1) (.int .i64 off) (.slice a4 ps.length c4) (.slice (some ⟨w3.heap.size, 0, none⟩) ps.length ps.length)) (w.heap.size + 1) (.int .i64 off) (.slice a4 ps.length c4) (.slice (some ⟨w3.heap.size, 0, none⟩) ps.length ps.length) ∧ Below w.heap.size w (put3 wr (w.heap.size + 1) (.int .i64 off) (.slice a4 ps.length c4) (.slice (some ⟨w3.heap.size, 0, none⟩) ps.length ps.length)) ∧ Fresh w.heap.size (put3 wr (w.heap.size + 1) (.int .i64 off) (.slice a4 ps.length c4) (.slice (some ⟨w3.heap.size, 0, none⟩) ps.length ps.length)) (.slice a4 ps.length c4) ps ∧ Fresh w.heap.size (put3 wr (w.heap.size + 1) (.int .i64 off) (.slice a4 ps.length c4) (.slice (some ⟨w3.heap.size, 0, none⟩) ps.length ps.length)) (.slice (some ⟨w3.heap.size, 0, none⟩) ps.length ps.length) (spS ds ss ps)) := Lib.hid ⟨P10.out.put _ _ _, below_put bw.out (by omega), hFD.out.put (by have := zz.out; omega) (by have := zz.out; omega), hFS.out.put (by have := zz.out; omega) (by have := zz.out; omega)⟩
      go_wp2_with fail
      obtain ⟨h1, h2, h3, h4⟩ := hend.out
      obtain ⟨x0, x1', x2'⟩ := box3_cells h1
      unfold put3 at x0 x1' x2' h2 h3 h4
      exact bodyPost_ret (v := .tuple #[.agg #[.int .i64 off, .slice a4 ps.length c4, .slice (some ⟨w3.heap.size, 0, none⟩) ps.length ps.length], .int .i64 0]) (by simp [results, Try.f27, go_sem, x0, x1', x2']) rfl (by rw [NX.out]; exact ⟨h2, Or.inr ⟨rfl, _, _, rfl, h3, h4⟩⟩)

end Go.Proofs.Ytfdafceolkmkoaa
