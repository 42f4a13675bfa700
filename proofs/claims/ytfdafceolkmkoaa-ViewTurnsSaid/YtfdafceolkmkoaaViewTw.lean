/- The walk of mandrellaw04.ViewTurns. Printed by gen_laws2.py. -/
import Derived.Test.YtfdafceolkmkoaaViewVo
set_option linter.unusedVariables false
namespace Go.Proofs.Ytfdafceolkmkoaa
open Go.RowKit Vw

attribute [local irreducible] mayV cnt strd trO reshO wholeO sameV Own

set_option maxRecDepth 100000 in
set_option maxHeartbeats 8000000 in
theorem turns_walk {w : World} (off : Int) (d s : Value) (ds ss : List Int) (pv : Value) (ps : List Int) (hd : Hid (IntsIn w d ds)) (hs : Hid (IntsIn w s ss)) (hp : Hid (IntsIn w pv ps)) :
    Calls Try.prog 3 #[.agg #[.int .i64 off, d, s], pv] w fun e w' => e = .returned (.bool true) ∧ Below w.heap.size w w' := by
  obtain ⟨a1, c1, rfl⟩ := hd.out.form
  obtain ⟨a2, c2, rfl⟩ := hs.out.form
  obtain ⟨a3, c3, rfl⟩ := hp.out.form
  have ocA : Hid (Outc (trO off ds ss ps)) := Lib.hid (trO_outc hd.out.wf.2 hs.out.wf.2)
  have ocB : Hid (Outc (reshO off ds ss ps)) := Lib.hid (reshO_outc hp.out.wf.2)
  have ocC : Hid (Outc (wholeO ps)) := Lib.hid (wholeO_outc hp.out.wf.2)
  obtain ⟨W0, hW0⟩ : ∃ W0, Hid (w.alloc (.cells #[.int .i64 off, .slice a1 ds.length c1, .slice a2 ss.length c2] 24) = W0) := ⟨_, Lib.hid rfl⟩
  have b0 : Hid (Below w.heap.size w W0) := Lib.hid (by rw [← hW0.out]; exact (Below.refl _ w).alloc (Nat.le_refl _) _)
  have xv : Hid (Box3 W0 w.heap.size (.int .i64 off) (.slice a1 ds.length c1) (.slice a2 ss.length c2)) := Lib.hid (by rw [← hW0.out]; exact Box3.new w _ _ _)
  obtain ⟨y0, y1, y2⟩ := box3_cells xv.out
  rw [← hW0.out] at y0 y1 y2
  go_enter Try.func3, Try.ntmps3
  go_wp2_with fail
  rw [hW0.out]
  clear y0 y1 y2
  refine (copy_any (hd.out.below b0.out) (hs.out.below b0.out)).mono ?_
  rintro e u1 ⟨d', s', rfl, fd, fs, B1⟩
  have z1 : Hid (W0.heap.size ≤ u1.heap.size) := Lib.hid B1.size
  have io := Lib.hid (fd.ints hd.out.wf.1 hd.out.wf.2)
  have jo := Lib.hid (fs.ints hs.out.wf.1 hs.out.wf.2)
  obtain ⟨a5, c5, rfl⟩ := io.out.form
  obtain ⟨a6, c6, rfl⟩ := jo.out.form
  clear fd fs
  obtain ⟨W1, hW1⟩ : ∃ W1, Hid (u1.alloc (.cells #[.int .i64 off, .slice a5 ds.length c5, .slice a6 ss.length c6] 24) = W1) := ⟨_, Lib.hid rfl⟩
  have eW1 : Hid (Below u1.heap.size u1 W1) := Lib.hid (by rw [← hW1.out]; exact (Below.refl _ u1).alloc (Nat.le_refl _) _)
  have chV1 : Hid (Below W0.heap.size W0 W1) := Lib.hid (B1.trans (eW1.out.mono B1.size))
  have chO1 : Hid (Below W1.heap.size W1 W1) := Lib.hid (Below.refl _ _)
  have xo : Hid (Box3 W1 u1.heap.size (.int .i64 off) (.slice a5 ds.length c5) (.slice a6 ss.length c6)) := Lib.hid (by rw [← hW1.out]; exact Box3.new u1 _ _ _)
  have IO := Lib.hid (io.out.below eW1.out)
  have JO := Lib.hid (jo.out.below eW1.out)
  have VO := Lib.hid chV1.out
  have hlt : Hid (u1.heap.size < W1.heap.size ∧ w.heap.size ≤ W1.heap.size) := Lib.hid ⟨xo.out.lt, by have := VO.out.size; have := b0.out.size; omega⟩
  clear B1
  obtain ⟨y0, y1, y2⟩ := box3_cells (xo.out.below chO1.out)
  rw [← hW1.out] at y0 y1 y2
  go_wp2_with fail
  rw [hW1.out]
  clear y0 y1 y2
  refine (transpose_any (IO.out.below chO1.out) (JO.out.below chO1.out) (hp.out.below (b0.out.trans (chV1.out.mono b0.out.size)))).mono ?_
  rintro e u2 hv2
  have hv := hv2.uni (ocA.out)
  clear hv2
  obtain ⟨cA, oA, DA, SA, gEA⟩ : ∃ c o D S, Hid (trO off ds ss ps = (c, o, D, S)) := ⟨_, _, _, _, Lib.hid rfl⟩
  rw [gEA.out] at hv
  have fDA : Hid (Fits DA) := Lib.hid (by have := ocA.out.d; rw [gEA.out] at this; exact this)
  have fSA : Hid (Fits SA) := Lib.hid (by have := ocA.out.s; rw [gEA.out] at this; exact this)
  obtain ⟨B, aA0, kA0, mA0, lA0, rfl, f1, f2⟩ := hv
  have bnd : Hid (W1.heap.size ≤ W1.heap.size) := Lib.hid chO1.out.size
  have chVu2 := Lib.hid (chV1.out.trans (B.mono chV1.out.size))
  have chOu2 := Lib.hid (chO1.out.trans (B.mono chO1.out.size))
  clear chV1 chO1
  obtain ⟨V2, hV2⟩ : ∃ V, Hid (u2.alloc (.cells #[.int .i64 oA, .slice aA0 DA.length kA0, .slice mA0 SA.length lA0] 24) = V) := ⟨_, Lib.hid rfl⟩
  have E : Hid (Below u2.heap.size u2 V2) := Lib.hid (by rw [← hV2.out]; exact (Below.refl _ u2).alloc (Nat.le_refl _) _)
  have chVV2 := Lib.hid (chVu2.out.trans (E.out.mono chVu2.out.size))
  have chOV2 := Lib.hid (chOu2.out.trans (E.out.mono chOu2.out.size))
  clear chVu2 chOu2
  have xA0 : Hid (Box3 V2 u2.heap.size (.int .i64 oA) (.slice aA0 DA.length kA0) (.slice mA0 SA.length lA0)) := Lib.hid (by rw [← hV2.out]; exact Box3.new u2 _ _ _)
  have IA0 := Lib.hid ((fDA.out.ints f1).below E.out)
  have JA0 := Lib.hid ((fSA.out.ints f2).below E.out)
  have w1A := Lib.hid (((Fresh.own f1).mono bnd.out).below E.out)
  have w2A := Lib.hid (((Fresh.own f2).mono bnd.out).below E.out)
  have chA0V2 : Hid (Below V2.heap.size V2 V2) := Lib.hid (Below.refl _ _)
  clear f1 f2 E B bnd
  obtain ⟨y0, y1, y2⟩ := box3_cells (xv.out.below chVV2.out)
  rw [← hV2.out] at y0 y1 y2
  go_wp2_with fail
  rw [hV2.out]
  clear y0 y1 y2
  refine (rtranspose_any (hd.out.below (b0.out.trans (chVV2.out.mono b0.out.size))) (hs.out.below (b0.out.trans (chVV2.out.mono b0.out.size))) (hp.out.below (b0.out.trans (chVV2.out.mono b0.out.size)))).mono ?_
  rintro e u3 hv3
  have hv := hv3.uni (ocA.out)
  clear hv3
  rw [gEA.out] at hv
  obtain ⟨B, aA1, kA1, mA1, lA1, rfl, f1, f2⟩ := hv
  have bnd : Hid (W1.heap.size ≤ V2.heap.size) := Lib.hid chOV2.out.size
  have chVu3 := Lib.hid (chVV2.out.trans (B.mono chVV2.out.size))
  have chOu3 := Lib.hid (chOV2.out.trans (B.mono chOV2.out.size))
  have chA0u3 := Lib.hid (chA0V2.out.trans (B.mono chA0V2.out.size))
  clear chVV2 chOV2 chA0V2
  obtain ⟨V3, hV3⟩ : ∃ V, Hid (u3.alloc (.cells #[.int .i64 oA, .slice aA1 DA.length kA1, .slice mA1 SA.length lA1] 24) = V) := ⟨_, Lib.hid rfl⟩
  have E : Hid (Below u3.heap.size u3 V3) := Lib.hid (by rw [← hV3.out]; exact (Below.refl _ u3).alloc (Nat.le_refl _) _)
  have chVV3 := Lib.hid (chVu3.out.trans (E.out.mono chVu3.out.size))
  have chOV3 := Lib.hid (chOu3.out.trans (E.out.mono chOu3.out.size))
  have chA0V3 := Lib.hid (chA0u3.out.trans (E.out.mono chA0u3.out.size))
  clear chVu3 chOu3 chA0u3
  have xA1 : Hid (Box3 V3 u3.heap.size (.int .i64 oA) (.slice aA1 DA.length kA1) (.slice mA1 SA.length lA1)) := Lib.hid (by rw [← hV3.out]; exact Box3.new u3 _ _ _)
  have IA1 := Lib.hid ((fDA.out.ints f1).below E.out)
  have JA1 := Lib.hid ((fSA.out.ints f2).below E.out)
  have chA1V3 : Hid (Below V3.heap.size V3 V3) := Lib.hid (Below.refl _ _)
  clear f1 f2 E B bnd
  obtain ⟨y0, y1, y2⟩ := box3_cells (xo.out.below chOV3.out)
  rw [← hV3.out] at y0 y1 y2
  go_wp2_with fail
  rw [hV3.out]
  clear y0 y1 y2
  refine (reshape_any (IO.out.below chOV3.out) (JO.out.below chOV3.out) (hp.out.below (b0.out.trans (chVV3.out.mono b0.out.size)))).mono ?_
  rintro e u4 hv4
  have hv := hv4.uni (ocB.out)
  clear hv4
  obtain ⟨cB, oB, DB, SB, gEB⟩ : ∃ c o D S, Hid (reshO off ds ss ps = (c, o, D, S)) := ⟨_, _, _, _, Lib.hid rfl⟩
  rw [gEB.out] at hv
  have fDB : Hid (Fits DB) := Lib.hid (by have := ocB.out.d; rw [gEB.out] at this; exact this)
  have fSB : Hid (Fits SB) := Lib.hid (by have := ocB.out.s; rw [gEB.out] at this; exact this)
  obtain ⟨B, aB0, kB0, mB0, lB0, rfl, f1, f2⟩ := hv
  have bnd : Hid (W1.heap.size ≤ V3.heap.size) := Lib.hid chOV3.out.size
  have chVu4 := Lib.hid (chVV3.out.trans (B.mono chVV3.out.size))
  have chOu4 := Lib.hid (chOV3.out.trans (B.mono chOV3.out.size))
  have chA0u4 := Lib.hid (chA0V3.out.trans (B.mono chA0V3.out.size))
  have chA1u4 := Lib.hid (chA1V3.out.trans (B.mono chA1V3.out.size))
  clear chVV3 chOV3 chA0V3 chA1V3
  obtain ⟨V4, hV4⟩ : ∃ V, Hid (u4.alloc (.cells #[.int .i64 oB, .slice aB0 DB.length kB0, .slice mB0 SB.length lB0] 24) = V) := ⟨_, Lib.hid rfl⟩
  have E : Hid (Below u4.heap.size u4 V4) := Lib.hid (by rw [← hV4.out]; exact (Below.refl _ u4).alloc (Nat.le_refl _) _)
  have chVV4 := Lib.hid (chVu4.out.trans (E.out.mono chVu4.out.size))
  have chOV4 := Lib.hid (chOu4.out.trans (E.out.mono chOu4.out.size))
  have chA0V4 := Lib.hid (chA0u4.out.trans (E.out.mono chA0u4.out.size))
  have chA1V4 := Lib.hid (chA1u4.out.trans (E.out.mono chA1u4.out.size))
  clear chVu4 chOu4 chA0u4 chA1u4
  have xB0 : Hid (Box3 V4 u4.heap.size (.int .i64 oB) (.slice aB0 DB.length kB0) (.slice mB0 SB.length lB0)) := Lib.hid (by rw [← hV4.out]; exact Box3.new u4 _ _ _)
  have IB0 := Lib.hid ((fDB.out.ints f1).below E.out)
  have JB0 := Lib.hid ((fSB.out.ints f2).below E.out)
  have w1B := Lib.hid (((Fresh.own f1).mono bnd.out).below E.out)
  have w2B := Lib.hid (((Fresh.own f2).mono bnd.out).below E.out)
  have chB0V4 : Hid (Below V4.heap.size V4 V4) := Lib.hid (Below.refl _ _)
  clear f1 f2 E B bnd
  obtain ⟨y0, y1, y2⟩ := box3_cells (xv.out.below chVV4.out)
  rw [← hV4.out] at y0 y1 y2
  go_wp2_with fail
  rw [hV4.out]
  clear y0 y1 y2
  refine (rreshape_any (hd.out.below (b0.out.trans (chVV4.out.mono b0.out.size))) (hs.out.below (b0.out.trans (chVV4.out.mono b0.out.size))) (hp.out.below (b0.out.trans (chVV4.out.mono b0.out.size)))).mono ?_
  rintro e u5 hv5
  have hv := hv5.uni (ocB.out)
  clear hv5
  rw [gEB.out] at hv
  obtain ⟨B, aB1, kB1, mB1, lB1, rfl, f1, f2⟩ := hv
  have bnd : Hid (W1.heap.size ≤ V4.heap.size) := Lib.hid chOV4.out.size
  have chVu5 := Lib.hid (chVV4.out.trans (B.mono chVV4.out.size))
  have chOu5 := Lib.hid (chOV4.out.trans (B.mono chOV4.out.size))
  have chA0u5 := Lib.hid (chA0V4.out.trans (B.mono chA0V4.out.size))
  have chA1u5 := Lib.hid (chA1V4.out.trans (B.mono chA1V4.out.size))
  have chB0u5 := Lib.hid (chB0V4.out.trans (B.mono chB0V4.out.size))
  clear chVV4 chOV4 chA0V4 chA1V4 chB0V4
  obtain ⟨V5, hV5⟩ : ∃ V, Hid (u5.alloc (.cells #[.int .i64 oB, .slice aB1 DB.length kB1, .slice mB1 SB.length lB1] 24) = V) := ⟨_, Lib.hid rfl⟩
  have E : Hid (Below u5.heap.size u5 V5) := Lib.hid (by rw [← hV5.out]; exact (Below.refl _ u5).alloc (Nat.le_refl _) _)
  have chVV5 := Lib.hid (chVu5.out.trans (E.out.mono chVu5.out.size))
  have chOV5 := Lib.hid (chOu5.out.trans (E.out.mono chOu5.out.size))
  have chA0V5 := Lib.hid (chA0u5.out.trans (E.out.mono chA0u5.out.size))
  have chA1V5 := Lib.hid (chA1u5.out.trans (E.out.mono chA1u5.out.size))
  have chB0V5 := Lib.hid (chB0u5.out.trans (E.out.mono chB0u5.out.size))
  clear chVu5 chOu5 chA0u5 chA1u5 chB0u5
  have xB1 : Hid (Box3 V5 u5.heap.size (.int .i64 oB) (.slice aB1 DB.length kB1) (.slice mB1 SB.length lB1)) := Lib.hid (by rw [← hV5.out]; exact Box3.new u5 _ _ _)
  have IB1 := Lib.hid ((fDB.out.ints f1).below E.out)
  have JB1 := Lib.hid ((fSB.out.ints f2).below E.out)
  have chB1V5 : Hid (Below V5.heap.size V5 V5) := Lib.hid (Below.refl _ _)
  clear f1 f2 E B bnd
  go_wp2_with fail
  rw [hV5.out]
  refine (whole_any (hp.out.below (b0.out.trans (chVV5.out.mono b0.out.size)))).mono ?_
  rintro e u6 hv6
  have hv := hv6.uni (ocC.out)
  clear hv6
  obtain ⟨cC, oC, DC, SC, gEC⟩ : ∃ c o D S, Hid (wholeO ps = (c, o, D, S)) := ⟨_, _, _, _, Lib.hid rfl⟩
  rw [gEC.out] at hv
  have fDC : Hid (Fits DC) := Lib.hid (by have := ocC.out.d; rw [gEC.out] at this; exact this)
  have fSC : Hid (Fits SC) := Lib.hid (by have := ocC.out.s; rw [gEC.out] at this; exact this)
  obtain ⟨B, aC0, kC0, mC0, lC0, rfl, f1, f2⟩ := hv
  have bnd : Hid (W1.heap.size ≤ V5.heap.size) := Lib.hid chOV5.out.size
  have chVu6 := Lib.hid (chVV5.out.trans (B.mono chVV5.out.size))
  have chOu6 := Lib.hid (chOV5.out.trans (B.mono chOV5.out.size))
  have chA0u6 := Lib.hid (chA0V5.out.trans (B.mono chA0V5.out.size))
  have chA1u6 := Lib.hid (chA1V5.out.trans (B.mono chA1V5.out.size))
  have chB0u6 := Lib.hid (chB0V5.out.trans (B.mono chB0V5.out.size))
  have chB1u6 := Lib.hid (chB1V5.out.trans (B.mono chB1V5.out.size))
  clear chVV5 chOV5 chA0V5 chA1V5 chB0V5 chB1V5
  obtain ⟨V6, hV6⟩ : ∃ V, Hid (u6.alloc (.cells #[.int .i64 oC, .slice aC0 DC.length kC0, .slice mC0 SC.length lC0] 24) = V) := ⟨_, Lib.hid rfl⟩
  have E : Hid (Below u6.heap.size u6 V6) := Lib.hid (by rw [← hV6.out]; exact (Below.refl _ u6).alloc (Nat.le_refl _) _)
  have chVV6 := Lib.hid (chVu6.out.trans (E.out.mono chVu6.out.size))
  have chOV6 := Lib.hid (chOu6.out.trans (E.out.mono chOu6.out.size))
  have chA0V6 := Lib.hid (chA0u6.out.trans (E.out.mono chA0u6.out.size))
  have chA1V6 := Lib.hid (chA1u6.out.trans (E.out.mono chA1u6.out.size))
  have chB0V6 := Lib.hid (chB0u6.out.trans (E.out.mono chB0u6.out.size))
  have chB1V6 := Lib.hid (chB1u6.out.trans (E.out.mono chB1u6.out.size))
  clear chVu6 chOu6 chA0u6 chA1u6 chB0u6 chB1u6
  have xC0 : Hid (Box3 V6 u6.heap.size (.int .i64 oC) (.slice aC0 DC.length kC0) (.slice mC0 SC.length lC0)) := Lib.hid (by rw [← hV6.out]; exact Box3.new u6 _ _ _)
  have IC0 := Lib.hid ((fDC.out.ints f1).below E.out)
  have JC0 := Lib.hid ((fSC.out.ints f2).below E.out)
  have w1C := Lib.hid (((Fresh.own f1).mono bnd.out).below E.out)
  have w2C := Lib.hid (((Fresh.own f2).mono bnd.out).below E.out)
  have chC0V6 : Hid (Below V6.heap.size V6 V6) := Lib.hid (Below.refl _ _)
  clear f1 f2 E B bnd
  go_wp2_with fail
  rw [hV6.out]
  refine (rwhole_any (hp.out.below (b0.out.trans (chVV6.out.mono b0.out.size)))).mono ?_
  rintro e u7 hv7
  have hv := hv7.uni (ocC.out)
  clear hv7
  rw [gEC.out] at hv
  obtain ⟨B, aC1, kC1, mC1, lC1, rfl, f1, f2⟩ := hv
  have bnd : Hid (W1.heap.size ≤ V6.heap.size) := Lib.hid chOV6.out.size
  have chVu7 := Lib.hid (chVV6.out.trans (B.mono chVV6.out.size))
  have chOu7 := Lib.hid (chOV6.out.trans (B.mono chOV6.out.size))
  have chA0u7 := Lib.hid (chA0V6.out.trans (B.mono chA0V6.out.size))
  have chA1u7 := Lib.hid (chA1V6.out.trans (B.mono chA1V6.out.size))
  have chB0u7 := Lib.hid (chB0V6.out.trans (B.mono chB0V6.out.size))
  have chB1u7 := Lib.hid (chB1V6.out.trans (B.mono chB1V6.out.size))
  have chC0u7 := Lib.hid (chC0V6.out.trans (B.mono chC0V6.out.size))
  clear chVV6 chOV6 chA0V6 chA1V6 chB0V6 chB1V6 chC0V6
  obtain ⟨V7, hV7⟩ : ∃ V, Hid (u7.alloc (.cells #[.int .i64 oC, .slice aC1 DC.length kC1, .slice mC1 SC.length lC1] 24) = V) := ⟨_, Lib.hid rfl⟩
  have E : Hid (Below u7.heap.size u7 V7) := Lib.hid (by rw [← hV7.out]; exact (Below.refl _ u7).alloc (Nat.le_refl _) _)
  have chVV7 := Lib.hid (chVu7.out.trans (E.out.mono chVu7.out.size))
  have chOV7 := Lib.hid (chOu7.out.trans (E.out.mono chOu7.out.size))
  have chA0V7 := Lib.hid (chA0u7.out.trans (E.out.mono chA0u7.out.size))
  have chA1V7 := Lib.hid (chA1u7.out.trans (E.out.mono chA1u7.out.size))
  have chB0V7 := Lib.hid (chB0u7.out.trans (E.out.mono chB0u7.out.size))
  have chB1V7 := Lib.hid (chB1u7.out.trans (E.out.mono chB1u7.out.size))
  have chC0V7 := Lib.hid (chC0u7.out.trans (E.out.mono chC0u7.out.size))
  clear chVu7 chOu7 chA0u7 chA1u7 chB0u7 chB1u7 chC0u7
  have xC1 : Hid (Box3 V7 u7.heap.size (.int .i64 oC) (.slice aC1 DC.length kC1) (.slice mC1 SC.length lC1)) := Lib.hid (by rw [← hV7.out]; exact Box3.new u7 _ _ _)
  have IC1 := Lib.hid ((fDC.out.ints f1).below E.out)
  have JC1 := Lib.hid ((fSC.out.ints f2).below E.out)
  have chC1V7 : Hid (Below V7.heap.size V7 V7) := Lib.hid (Below.refl _ _)
  clear f1 f2 E B bnd
  obtain ⟨y0, y1, y2⟩ := box3_cells (xA0.out.below chA0V7.out)
  obtain ⟨t0, t1, t2⟩ := box3_cells (xA1.out.below chA1V7.out)
  rw [← hV7.out] at y0 y1 y2 t0 t1 t2
  go_wp2_with fail
  rw [hV7.out]
  clear y0 y1 y2 t0 t1 t2
  refine (same_any (IA0.out.below chA0V7.out) (JA0.out.below chA0V7.out) (IA1.out.below chA1V7.out) (JA1.out.below chA1V7.out)).mono ?_
  rw [sameV_refl]
  rintro e u8 ⟨rfl, B⟩
  have chVu8 := Lib.hid (chVV7.out.trans (B.mono chVV7.out.size))
  have chOu8 := Lib.hid (chOV7.out.trans (B.mono chOV7.out.size))
  have chA0u8 := Lib.hid (chA0V7.out.trans (B.mono chA0V7.out.size))
  have chA1u8 := Lib.hid (chA1V7.out.trans (B.mono chA1V7.out.size))
  have chB0u8 := Lib.hid (chB0V7.out.trans (B.mono chB0V7.out.size))
  have chB1u8 := Lib.hid (chB1V7.out.trans (B.mono chB1V7.out.size))
  have chC0u8 := Lib.hid (chC0V7.out.trans (B.mono chC0V7.out.size))
  have chC1u8 := Lib.hid (chC1V7.out.trans (B.mono chC1V7.out.size))
  clear chVV7 chOV7 chA0V7 chA1V7 chB0V7 chB1V7 chC0V7 chC1V7
  clear B
  obtain ⟨y0, y1, y2⟩ := box3_cells (xB0.out.below chB0u8.out)
  obtain ⟨t0, t1, t2⟩ := box3_cells (xB1.out.below chB1u8.out)
  go_wp2_with fail
  clear y0 y1 y2 t0 t1 t2
  refine (same_any (IB0.out.below chB0u8.out) (JB0.out.below chB0u8.out) (IB1.out.below chB1u8.out) (JB1.out.below chB1u8.out)).mono ?_
  rw [sameV_refl]
  rintro e u9 ⟨rfl, B⟩
  have chVu9 := Lib.hid (chVu8.out.trans (B.mono chVu8.out.size))
  have chOu9 := Lib.hid (chOu8.out.trans (B.mono chOu8.out.size))
  have chA0u9 := Lib.hid (chA0u8.out.trans (B.mono chA0u8.out.size))
  have chA1u9 := Lib.hid (chA1u8.out.trans (B.mono chA1u8.out.size))
  have chB0u9 := Lib.hid (chB0u8.out.trans (B.mono chB0u8.out.size))
  have chB1u9 := Lib.hid (chB1u8.out.trans (B.mono chB1u8.out.size))
  have chC0u9 := Lib.hid (chC0u8.out.trans (B.mono chC0u8.out.size))
  have chC1u9 := Lib.hid (chC1u8.out.trans (B.mono chC1u8.out.size))
  clear chVu8 chOu8 chA0u8 chA1u8 chB0u8 chB1u8 chC0u8 chC1u8
  clear B
  obtain ⟨y0, y1, y2⟩ := box3_cells (xC0.out.below chC0u9.out)
  obtain ⟨t0, t1, t2⟩ := box3_cells (xC1.out.below chC1u9.out)
  go_wp2_with fail
  clear y0 y1 y2 t0 t1 t2
  refine (same_any (IC0.out.below chC0u9.out) (JC0.out.below chC0u9.out) (IC1.out.below chC1u9.out) (JC1.out.below chC1u9.out)).mono ?_
  rw [sameV_refl]
  rintro e u10 ⟨rfl, B⟩
  have chVu10 := Lib.hid (chVu9.out.trans (B.mono chVu9.out.size))
  have chOu10 := Lib.hid (chOu9.out.trans (B.mono chOu9.out.size))
  have chA0u10 := Lib.hid (chA0u9.out.trans (B.mono chA0u9.out.size))
  have chA1u10 := Lib.hid (chA1u9.out.trans (B.mono chA1u9.out.size))
  have chB0u10 := Lib.hid (chB0u9.out.trans (B.mono chB0u9.out.size))
  have chB1u10 := Lib.hid (chB1u9.out.trans (B.mono chB1u9.out.size))
  have chC0u10 := Lib.hid (chC0u9.out.trans (B.mono chC0u9.out.size))
  have chC1u10 := Lib.hid (chC1u9.out.trans (B.mono chC1u9.out.size))
  clear chVu9 chOu9 chA0u9 chA1u9 chB0u9 chB1u9 chC0u9 chC1u9
  clear B
  have bo : Hid (Below W1.heap.size W1 u10) := Lib.hid chOu10.out
  have qA := Lib.hid (xA0.out.below chA0u10.out)
  have p1A := Lib.hid (w1A.out.below chA0u10.out)
  have p2A := Lib.hid (w2A.out.below chA0u10.out)
  have qB := Lib.hid (xB0.out.below chB0u10.out)
  have p1B := Lib.hid (w1B.out.below chB0u10.out)
  have p2B := Lib.hid (w2B.out.below chB0u10.out)
  have qC := Lib.hid (xC0.out.below chC0u10.out)
  have p1C := Lib.hid (w1C.out.below chC0u10.out)
  have p2C := Lib.hid (w2C.out.below chC0u10.out)
  clear chVu10 chOu10 chA0u10 chA1u10 chB0u10 chB1u10 chC0u10 chC1u10
  obtain ⟨y0, y1, y2⟩ := box3_cells qA.out
  go_wp2_with fail
  clear y0 y1 y2
  refine (spoil_any W1.heap.size oA aA0 mA0 DA.length SA.length kA0 lA0 p1A.out p2A.out bo.out.size fDA.out.1 fSA.out.1).mono ?_
  rintro e u11 ⟨rfl, B, hK⟩
  have bo11 := Lib.hid (bo.out.trans B)
  have qB11 := Lib.hid (hK.box _ _ _ _ qB.out)
  have p1B11 := Lib.hid (p1B.out.keeps hK)
  have p2B11 := Lib.hid (p2B.out.keeps hK)
  clear qB p1B p2B
  have qB := qB11
  have p1B := p1B11
  have p2B := p2B11
  clear qB11 p1B11 p2B11
  have qC11 := Lib.hid (hK.box _ _ _ _ qC.out)
  have p1C11 := Lib.hid (p1C.out.keeps hK)
  have p2C11 := Lib.hid (p2C.out.keeps hK)
  clear qC p1C p2C
  have qC := qC11
  have p1C := p1C11
  have p2C := p2C11
  clear qC11 p1C11 p2C11
  clear B hK bo
  have bo := bo11
  clear bo11
  obtain ⟨y0, y1, y2⟩ := box3_cells qB.out
  go_wp2_with fail
  clear y0 y1 y2
  refine (spoil_any W1.heap.size oB aB0 mB0 DB.length SB.length kB0 lB0 p1B.out p2B.out bo.out.size fDB.out.1 fSB.out.1).mono ?_
  rintro e u12 ⟨rfl, B, hK⟩
  have bo12 := Lib.hid (bo.out.trans B)
  have qC12 := Lib.hid (hK.box _ _ _ _ qC.out)
  have p1C12 := Lib.hid (p1C.out.keeps hK)
  have p2C12 := Lib.hid (p2C.out.keeps hK)
  clear qC p1C p2C
  have qC := qC12
  have p1C := p1C12
  have p2C := p2C12
  clear qC12 p1C12 p2C12
  clear B hK bo
  have bo := bo12
  clear bo12
  obtain ⟨y0, y1, y2⟩ := box3_cells qC.out
  go_wp2_with fail
  clear y0 y1 y2
  refine (spoil_any W1.heap.size oC aC0 mC0 DC.length SC.length kC0 lC0 p1C.out p2C.out bo.out.size fDC.out.1 fSC.out.1).mono ?_
  rintro e u13 ⟨rfl, B, hK⟩
  have bo13 := Lib.hid (bo.out.trans B)
  clear B hK bo
  have bo := bo13
  clear bo13
  obtain ⟨y0, y1, y2⟩ := box3_cells (xo.out.below bo.out)
  have bv := Lib.hid (VO.out.trans (bo.out.mono VO.out.size))
  have bw := Lib.hid (b0.out.trans (bv.out.mono b0.out.size))
  obtain ⟨t0, t1, t2⟩ := box3_cells (xv.out.below bv.out)
  go_wp2_with fail
  clear y0 y1 y2 t0 t1 t2
  refine (same_any (IO.out.below bo.out) (JO.out.below bo.out) (hd.out.below bw.out) (hs.out.below bw.out)).mono ?_
  rw [sameV_refl]
  rintro e v1 ⟨rfl, B⟩
  have bx := Lib.hid (bw.out.trans (B.mono bw.out.size))
  clear B
  go_wp2_with fail
  refine (live_from bx).mono ?_
  rintro e v2 ⟨rfl, by_⟩
  go_wp2_with fail
  go_ret
  exact ⟨rfl, by_.out⟩

end Go.Proofs.Ytfdafceolkmkoaa
