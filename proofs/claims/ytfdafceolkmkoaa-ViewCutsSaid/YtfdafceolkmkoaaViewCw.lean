/- The walk of mandrellaw04.ViewCuts. Printed by gen_laws2.py. -/
import Derived.Test.YtfdafceolkmkoaaViewSf
set_option linter.unusedVariables false
namespace Go.Proofs.Ytfdafceolkmkoaa
open Go.RowKit Vw

attribute [local irreducible] mayV cnt strd slO spO sameV Own

set_option maxRecDepth 100000 in
set_option maxHeartbeats 8000000 in
theorem cuts_walk {w : World} (off : Int) (d s : Value) (ds ss : List Int) (ax fr to : Int) (pv : Value) (ps : List Int) (hd : Hid (IntsIn w d ds)) (hs : Hid (IntsIn w s ss)) (hax : Hid (InI ax)) (hfr : Hid (InI fr)) (hto : Hid (InI to)) (hp : Hid (IntsIn w pv ps)) :
    Calls Try.prog 10 #[.agg #[.int .i64 off, d, s], .agg #[.int .i64 ax, .int .i64 fr, .int .i64 to], pv] w fun e w' => e = .returned (.bool true) ∧ Below w.heap.size w w' := by
  obtain ⟨a1, c1, rfl⟩ := hd.out.form
  obtain ⟨a2, c2, rfl⟩ := hs.out.form
  obtain ⟨a3, c3, rfl⟩ := hp.out.form
  have ocA : Hid (Outc (slO off ax fr to ds ss)) := Lib.hid (slO_outc hd.out.wf.2 hs.out.wf.2)
  have ocB : Hid (Outc (spO off ds ss ps)) := Lib.hid (spO_outc hs.out.wf.2 hp.out.wf.2)
  obtain ⟨W0, hW0⟩ : ∃ W0, Hid ((w.alloc (.cells #[.int .i64 off, .slice a1 ds.length c1, .slice a2 ss.length c2] 24)).alloc (.cells #[.int .i64 ax, .int .i64 fr, .int .i64 to] 51) = W0) := ⟨_, Lib.hid rfl⟩
  have b0 : Hid (Below w.heap.size w W0) := Lib.hid (by rw [← hW0.out]; exact ((Below.refl _ w).alloc (Nat.le_refl _) _).alloc (by simp) _)
  have xv : Hid (Box3 W0 w.heap.size (.int .i64 off) (.slice a1 ds.length c1) (.slice a2 ss.length c2)) := Lib.hid (by rw [← hW0.out]; exact (Below.heap_alloc _ _ _ (by simp)).trans (Box3.new w _ _ _))
  have xc : W0.heap[w.heap.size + 1]? = some (.cells #[.int .i64 ax, .int .i64 fr, .int .i64 to] 51) := by
    rw [← hW0.out]
    have := World.alloc_heap_new (w.alloc (.cells #[.int .i64 off, .slice a1 ds.length c1, .slice a2 ss.length c2] 24)) (.cells #[.int .i64 ax, .int .i64 fr, .int .i64 to] 51)
    rwa [World.size_alloc] at this
  have zc : w.heap.size + 1 < W0.heap.size := (Array.getElem?_eq_some_iff.1 xc).1
  have HCut : Hid (∀ W', Below W0.heap.size W0 W' → W'.cell? ⟨w.heap.size + 1, 0, none⟩ = some (.int .i64 ax) ∧ W'.cell? ⟨w.heap.size + 1, 1, none⟩ = some (.int .i64 fr) ∧ W'.cell? ⟨w.heap.size + 1, 2, none⟩ = some (.int .i64 to)) := Lib.hid fun W' hb => by
    have h : W'.heap[w.heap.size + 1]? = some (.cells #[.int .i64 ax, .int .i64 fr, .int .i64 to] 51) := (hb.block _ zc).trans xc
    refine ⟨?_, ?_, ?_⟩ <;> (unfold World.cell?; rw [h]; rfl)
  clear xc zc
  obtain ⟨y0, y1, y2⟩ := box3_cells xv.out
  rw [← hW0.out] at y0 y1 y2
  go_enter Try.func10, Try.ntmps10
  go_wp2_with fail
  rw [hW0.out]
  clear y0 y1 y2
  refine (copy_any (hd.out.below b0.out) (hs.out.below b0.out)).mono ?_
  rintro e u1 ⟨d', s', rfl, fd, fs, B1⟩
  have z1 : Hid (W0.heap.size ≤ u1.heap.size) := Lib.hid B1.size
  have io := Lib.hid (fd.ints hd.out.wf.1 hd.out.wf.2)
  have jo := Lib.hid (fs.ints hs.out.wf.1 hs.out.wf.2)
  obtain ⟨a5, c5, rfl⟩ := io.out.form
  obtain ⟨a6, c6, rfl⟩ := jo.out.form
  clear fd fs
  obtain ⟨W1, hW1⟩ : ∃ W1, Hid (u1.alloc (.cells #[.int .i64 off, .slice a5 ds.length c5, .slice a6 ss.length c6] 24) = W1) := ⟨_, Lib.hid rfl⟩
  have eW1 : Hid (Below u1.heap.size u1 W1) := Lib.hid (by rw [← hW1.out]; exact (Below.refl _ u1).alloc (Nat.le_refl _) _)
  have chV1 : Hid (Below W0.heap.size W0 W1) := Lib.hid (B1.trans (eW1.out.mono B1.size))
  have chO1 : Hid (Below W1.heap.size W1 W1) := Lib.hid (Below.refl _ _)
  have xo : Hid (Box3 W1 u1.heap.size (.int .i64 off) (.slice a5 ds.length c5) (.slice a6 ss.length c6)) := Lib.hid (by rw [← hW1.out]; exact Box3.new u1 _ _ _)
  have IO := Lib.hid (io.out.below eW1.out)
  have JO := Lib.hid (jo.out.below eW1.out)
  have VO := Lib.hid chV1.out
  have hlt : Hid (u1.heap.size < W1.heap.size ∧ w.heap.size ≤ W1.heap.size) := Lib.hid ⟨xo.out.lt, by have := VO.out.size; have := b0.out.size; omega⟩
  clear B1
  obtain ⟨y0, y1, y2⟩ := box3_cells (xo.out.below chO1.out)
  rw [← hW1.out] at y0 y1 y2
  obtain ⟨s0, s1, s2⟩ := HCut.out _ chV1.out
  rw [← hW1.out] at s0 s1 s2
  go_wp2_with fail
  rw [hW1.out]
  clear y0 y1 y2
  clear s0 s1 s2
  refine (slice_any (ax := ax) (fr := fr) (to := to) (IO.out.below chO1.out) (JO.out.below chO1.out)).mono ?_
  rintro e u2 hv2
  have hv := hv2.uni (ocA.out)
  clear hv2
  obtain ⟨cA, oA, DA, SA, gEA⟩ : ∃ c o D S, Hid (slO off ax fr to ds ss = (c, o, D, S)) := ⟨_, _, _, _, Lib.hid rfl⟩
  rw [gEA.out] at hv
  have fDA : Hid (Fits DA) := Lib.hid (by have := ocA.out.d; rw [gEA.out] at this; exact this)
  have fSA : Hid (Fits SA) := Lib.hid (by have := ocA.out.s; rw [gEA.out] at this; exact this)
  obtain ⟨B, aA0, kA0, mA0, lA0, rfl, f1, f2⟩ := hv
  have bnd : Hid (W1.heap.size ≤ W1.heap.size) := Lib.hid chO1.out.size
  have chVu2 := Lib.hid (chV1.out.trans (B.mono chV1.out.size))
  have chOu2 := Lib.hid (chO1.out.trans (B.mono chO1.out.size))
  clear chV1 chO1
  obtain ⟨V2, hV2⟩ : ∃ V, Hid (u2.alloc (.cells #[.int .i64 oA, .slice aA0 DA.length kA0, .slice mA0 SA.length lA0] 24) = V) := ⟨_, Lib.hid rfl⟩
  have E : Hid (Below u2.heap.size u2 V2) := Lib.hid (by rw [← hV2.out]; exact (Below.refl _ u2).alloc (Nat.le_refl _) _)
  have chVV2 := Lib.hid (chVu2.out.trans (E.out.mono chVu2.out.size))
  have chOV2 := Lib.hid (chOu2.out.trans (E.out.mono chOu2.out.size))
  clear chVu2 chOu2
  have xA0 : Hid (Box3 V2 u2.heap.size (.int .i64 oA) (.slice aA0 DA.length kA0) (.slice mA0 SA.length lA0)) := Lib.hid (by rw [← hV2.out]; exact Box3.new u2 _ _ _)
  have IA0 := Lib.hid ((fDA.out.ints f1).below E.out)
  have JA0 := Lib.hid ((fSA.out.ints f2).below E.out)
  have w1A := Lib.hid (((Fresh.own f1).mono bnd.out).below E.out)
  have w2A := Lib.hid (((Fresh.own f2).mono bnd.out).below E.out)
  have chA0V2 : Hid (Below V2.heap.size V2 V2) := Lib.hid (Below.refl _ _)
  clear f1 f2 E B bnd
  obtain ⟨y0, y1, y2⟩ := box3_cells (xv.out.below chVV2.out)
  rw [← hV2.out] at y0 y1 y2
  obtain ⟨s0, s1, s2⟩ := HCut.out _ chVV2.out
  rw [← hV2.out] at s0 s1 s2
  go_wp2_with fail
  rw [hV2.out]
  clear y0 y1 y2
  clear s0 s1 s2
  refine (rslice_any (ax := ax) (hd.out.below (b0.out.trans (chVV2.out.mono b0.out.size))) (hs.out.below (b0.out.trans (chVV2.out.mono b0.out.size))) hfr.out hto.out).mono ?_
  rintro e u3 hv3
  have hv := hv3.uni (ocA.out)
  clear hv3
  rw [gEA.out] at hv
  obtain ⟨B, aA1, kA1, mA1, lA1, rfl, f1, f2⟩ := hv
  have bnd : Hid (W1.heap.size ≤ V2.heap.size) := Lib.hid chOV2.out.size
  have chVu3 := Lib.hid (chVV2.out.trans (B.mono chVV2.out.size))
  have chOu3 := Lib.hid (chOV2.out.trans (B.mono chOV2.out.size))
  have chA0u3 := Lib.hid (chA0V2.out.trans (B.mono chA0V2.out.size))
  clear chVV2 chOV2 chA0V2
  obtain ⟨V3, hV3⟩ : ∃ V, Hid (u3.alloc (.cells #[.int .i64 oA, .slice aA1 DA.length kA1, .slice mA1 SA.length lA1] 24) = V) := ⟨_, Lib.hid rfl⟩
  have E : Hid (Below u3.heap.size u3 V3) := Lib.hid (by rw [← hV3.out]; exact (Below.refl _ u3).alloc (Nat.le_refl _) _)
  have chVV3 := Lib.hid (chVu3.out.trans (E.out.mono chVu3.out.size))
  have chOV3 := Lib.hid (chOu3.out.trans (E.out.mono chOu3.out.size))
  have chA0V3 := Lib.hid (chA0u3.out.trans (E.out.mono chA0u3.out.size))
  clear chVu3 chOu3 chA0u3
  have xA1 : Hid (Box3 V3 u3.heap.size (.int .i64 oA) (.slice aA1 DA.length kA1) (.slice mA1 SA.length lA1)) := Lib.hid (by rw [← hV3.out]; exact Box3.new u3 _ _ _)
  have IA1 := Lib.hid ((fDA.out.ints f1).below E.out)
  have JA1 := Lib.hid ((fSA.out.ints f2).below E.out)
  have chA1V3 : Hid (Below V3.heap.size V3 V3) := Lib.hid (Below.refl _ _)
  clear f1 f2 E B bnd
  obtain ⟨y0, y1, y2⟩ := box3_cells (xo.out.below chOV3.out)
  rw [← hV3.out] at y0 y1 y2
  go_wp2_with fail
  rw [hV3.out]
  clear y0 y1 y2
  refine (spread_any (IO.out.below chOV3.out) (JO.out.below chOV3.out) (hp.out.below (b0.out.trans (chVV3.out.mono b0.out.size)))).mono ?_
  rintro e u4 hv4
  have hv := hv4.uni (ocB.out)
  clear hv4
  obtain ⟨cB, oB, DB, SB, gEB⟩ : ∃ c o D S, Hid (spO off ds ss ps = (c, o, D, S)) := ⟨_, _, _, _, Lib.hid rfl⟩
  rw [gEB.out] at hv
  have fDB : Hid (Fits DB) := Lib.hid (by have := ocB.out.d; rw [gEB.out] at this; exact this)
  have fSB : Hid (Fits SB) := Lib.hid (by have := ocB.out.s; rw [gEB.out] at this; exact this)
  obtain ⟨B, aB0, kB0, mB0, lB0, rfl, f1, f2⟩ := hv
  have bnd : Hid (W1.heap.size ≤ V3.heap.size) := Lib.hid chOV3.out.size
  have chVu4 := Lib.hid (chVV3.out.trans (B.mono chVV3.out.size))
  have chOu4 := Lib.hid (chOV3.out.trans (B.mono chOV3.out.size))
  have chA0u4 := Lib.hid (chA0V3.out.trans (B.mono chA0V3.out.size))
  have chA1u4 := Lib.hid (chA1V3.out.trans (B.mono chA1V3.out.size))
  clear chVV3 chOV3 chA0V3 chA1V3
  obtain ⟨V4, hV4⟩ : ∃ V, Hid (u4.alloc (.cells #[.int .i64 oB, .slice aB0 DB.length kB0, .slice mB0 SB.length lB0] 24) = V) := ⟨_, Lib.hid rfl⟩
  have E : Hid (Below u4.heap.size u4 V4) := Lib.hid (by rw [← hV4.out]; exact (Below.refl _ u4).alloc (Nat.le_refl _) _)
  have chVV4 := Lib.hid (chVu4.out.trans (E.out.mono chVu4.out.size))
  have chOV4 := Lib.hid (chOu4.out.trans (E.out.mono chOu4.out.size))
  have chA0V4 := Lib.hid (chA0u4.out.trans (E.out.mono chA0u4.out.size))
  have chA1V4 := Lib.hid (chA1u4.out.trans (E.out.mono chA1u4.out.size))
  clear chVu4 chOu4 chA0u4 chA1u4
  have xB0 : Hid (Box3 V4 u4.heap.size (.int .i64 oB) (.slice aB0 DB.length kB0) (.slice mB0 SB.length lB0)) := Lib.hid (by rw [← hV4.out]; exact Box3.new u4 _ _ _)
  have IB0 := Lib.hid ((fDB.out.ints f1).below E.out)
  have JB0 := Lib.hid ((fSB.out.ints f2).below E.out)
  have w1B := Lib.hid (((Fresh.own f1).mono bnd.out).below E.out)
  have w2B := Lib.hid (((Fresh.own f2).mono bnd.out).below E.out)
  have chB0V4 : Hid (Below V4.heap.size V4 V4) := Lib.hid (Below.refl _ _)
  clear f1 f2 E B bnd
  obtain ⟨y0, y1, y2⟩ := box3_cells (xv.out.below chVV4.out)
  rw [← hV4.out] at y0 y1 y2
  go_wp2_with fail
  rw [hV4.out]
  clear y0 y1 y2
  refine (rspread_any (hd.out.below (b0.out.trans (chVV4.out.mono b0.out.size))) (hs.out.below (b0.out.trans (chVV4.out.mono b0.out.size))) (hp.out.below (b0.out.trans (chVV4.out.mono b0.out.size)))).mono ?_
  rintro e u5 hv5
  have hv := hv5.uni (ocB.out)
  clear hv5
  rw [gEB.out] at hv
  obtain ⟨B, aB1, kB1, mB1, lB1, rfl, f1, f2⟩ := hv
  have bnd : Hid (W1.heap.size ≤ V4.heap.size) := Lib.hid chOV4.out.size
  have chVu5 := Lib.hid (chVV4.out.trans (B.mono chVV4.out.size))
  have chOu5 := Lib.hid (chOV4.out.trans (B.mono chOV4.out.size))
  have chA0u5 := Lib.hid (chA0V4.out.trans (B.mono chA0V4.out.size))
  have chA1u5 := Lib.hid (chA1V4.out.trans (B.mono chA1V4.out.size))
  have chB0u5 := Lib.hid (chB0V4.out.trans (B.mono chB0V4.out.size))
  clear chVV4 chOV4 chA0V4 chA1V4 chB0V4
  obtain ⟨V5, hV5⟩ : ∃ V, Hid (u5.alloc (.cells #[.int .i64 oB, .slice aB1 DB.length kB1, .slice mB1 SB.length lB1] 24) = V) := ⟨_, Lib.hid rfl⟩
  have E : Hid (Below u5.heap.size u5 V5) := Lib.hid (by rw [← hV5.out]; exact (Below.refl _ u5).alloc (Nat.le_refl _) _)
  have chVV5 := Lib.hid (chVu5.out.trans (E.out.mono chVu5.out.size))
  have chOV5 := Lib.hid (chOu5.out.trans (E.out.mono chOu5.out.size))
  have chA0V5 := Lib.hid (chA0u5.out.trans (E.out.mono chA0u5.out.size))
  have chA1V5 := Lib.hid (chA1u5.out.trans (E.out.mono chA1u5.out.size))
  have chB0V5 := Lib.hid (chB0u5.out.trans (E.out.mono chB0u5.out.size))
  clear chVu5 chOu5 chA0u5 chA1u5 chB0u5
  have xB1 : Hid (Box3 V5 u5.heap.size (.int .i64 oB) (.slice aB1 DB.length kB1) (.slice mB1 SB.length lB1)) := Lib.hid (by rw [← hV5.out]; exact Box3.new u5 _ _ _)
  have IB1 := Lib.hid ((fDB.out.ints f1).below E.out)
  have JB1 := Lib.hid ((fSB.out.ints f2).below E.out)
  have chB1V5 : Hid (Below V5.heap.size V5 V5) := Lib.hid (Below.refl _ _)
  clear f1 f2 E B bnd
  obtain ⟨y0, y1, y2⟩ := box3_cells (xA0.out.below chA0V5.out)
  obtain ⟨t0, t1, t2⟩ := box3_cells (xA1.out.below chA1V5.out)
  rw [← hV5.out] at y0 y1 y2 t0 t1 t2
  go_wp2_with fail
  rw [hV5.out]
  clear y0 y1 y2 t0 t1 t2
  refine (same_any (IA0.out.below chA0V5.out) (JA0.out.below chA0V5.out) (IA1.out.below chA1V5.out) (JA1.out.below chA1V5.out)).mono ?_
  rw [sameV_refl]
  rintro e u6 ⟨rfl, B⟩
  have chVu6 := Lib.hid (chVV5.out.trans (B.mono chVV5.out.size))
  have chOu6 := Lib.hid (chOV5.out.trans (B.mono chOV5.out.size))
  have chA0u6 := Lib.hid (chA0V5.out.trans (B.mono chA0V5.out.size))
  have chA1u6 := Lib.hid (chA1V5.out.trans (B.mono chA1V5.out.size))
  have chB0u6 := Lib.hid (chB0V5.out.trans (B.mono chB0V5.out.size))
  have chB1u6 := Lib.hid (chB1V5.out.trans (B.mono chB1V5.out.size))
  clear chVV5 chOV5 chA0V5 chA1V5 chB0V5 chB1V5
  clear B
  obtain ⟨y0, y1, y2⟩ := box3_cells (xB0.out.below chB0u6.out)
  obtain ⟨t0, t1, t2⟩ := box3_cells (xB1.out.below chB1u6.out)
  go_wp2_with fail
  clear y0 y1 y2 t0 t1 t2
  refine (same_any (IB0.out.below chB0u6.out) (JB0.out.below chB0u6.out) (IB1.out.below chB1u6.out) (JB1.out.below chB1u6.out)).mono ?_
  rw [sameV_refl]
  rintro e u7 ⟨rfl, B⟩
  have chVu7 := Lib.hid (chVu6.out.trans (B.mono chVu6.out.size))
  have chOu7 := Lib.hid (chOu6.out.trans (B.mono chOu6.out.size))
  have chA0u7 := Lib.hid (chA0u6.out.trans (B.mono chA0u6.out.size))
  have chA1u7 := Lib.hid (chA1u6.out.trans (B.mono chA1u6.out.size))
  have chB0u7 := Lib.hid (chB0u6.out.trans (B.mono chB0u6.out.size))
  have chB1u7 := Lib.hid (chB1u6.out.trans (B.mono chB1u6.out.size))
  clear chVu6 chOu6 chA0u6 chA1u6 chB0u6 chB1u6
  clear B
  have bo : Hid (Below W1.heap.size W1 u7) := Lib.hid chOu7.out
  have qA := Lib.hid (xA0.out.below chA0u7.out)
  have p1A := Lib.hid (w1A.out.below chA0u7.out)
  have p2A := Lib.hid (w2A.out.below chA0u7.out)
  have qB := Lib.hid (xB0.out.below chB0u7.out)
  have p1B := Lib.hid (w1B.out.below chB0u7.out)
  have p2B := Lib.hid (w2B.out.below chB0u7.out)
  clear chVu7 chOu7 chA0u7 chA1u7 chB0u7 chB1u7
  obtain ⟨y0, y1, y2⟩ := box3_cells qA.out
  go_wp2_with fail
  clear y0 y1 y2
  refine (spoil_any W1.heap.size oA aA0 mA0 DA.length SA.length kA0 lA0 p1A.out p2A.out bo.out.size fDA.out.1 fSA.out.1).mono ?_
  rintro e u8 ⟨rfl, B, hK⟩
  have bo8 := Lib.hid (bo.out.trans B)
  have qB8 := Lib.hid (hK.box _ _ _ _ qB.out)
  have p1B8 := Lib.hid (p1B.out.keeps hK)
  have p2B8 := Lib.hid (p2B.out.keeps hK)
  clear qB p1B p2B
  have qB := qB8
  have p1B := p1B8
  have p2B := p2B8
  clear qB8 p1B8 p2B8
  clear B hK bo
  have bo := bo8
  clear bo8
  obtain ⟨y0, y1, y2⟩ := box3_cells qB.out
  go_wp2_with fail
  clear y0 y1 y2
  refine (spoil_any W1.heap.size oB aB0 mB0 DB.length SB.length kB0 lB0 p1B.out p2B.out bo.out.size fDB.out.1 fSB.out.1).mono ?_
  rintro e u9 ⟨rfl, B, hK⟩
  have bo9 := Lib.hid (bo.out.trans B)
  clear B hK bo
  have bo := bo9
  clear bo9
  obtain ⟨y0, y1, y2⟩ := box3_cells (xo.out.below bo.out)
  have bv := Lib.hid (VO.out.trans (bo.out.mono VO.out.size))
  have bw := Lib.hid (b0.out.trans (bv.out.mono b0.out.size))
  obtain ⟨t0, t1, t2⟩ := box3_cells (xv.out.below bv.out)
  go_wp2_with fail
  clear y0 y1 y2 t0 t1 t2
  refine (same_any (IO.out.below bo.out) (JO.out.below bo.out) (hd.out.below bw.out) (hs.out.below bw.out)).mono ?_
  rw [sameV_refl]
  rintro e v1 ⟨rfl, B⟩
  have bx := Lib.hid (bw.out.trans (B.mono bw.out.size))
  clear B
  go_wp2_with fail
  refine (live_from bx).mono ?_
  rintro e v2 ⟨rfl, by_⟩
  go_wp2_with fail
  go_ret
  exact ⟨rfl, by_.out⟩

end Go.Proofs.Ytfdafceolkmkoaa
