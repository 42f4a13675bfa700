/- The walk of mandrellaw04.ViewWhole. -/
import Derived.Test.YtfdafceolkmkoaaViewWp
import Derived.Deep.RegionHeld3
set_option linter.unusedVariables false
namespace Go.Proofs.Ytfdafceolkmkoaa
open Go.RowKit Vw

attribute [local irreducible] mayV cnt strd readL upto wholeO reshO pr

set_option maxRecDepth 100000 in
set_option maxHeartbeats 4000000 in
theorem whole_law {w : World} (d : Value) (ds : List Int) (o : Value) (ps : List Int) (hd : Hid (IntsIn w d ds)) (ho : Hid (IntsIn w o ps)) :
    Calls Try.prog 6 #[d, o] w fun e w' => e = .returned (.bool true) ∧ Below w.heap.size w w' := by
  obtain ⟨a1, c1, rfl⟩ := hd.out.form
  obtain ⟨a2, c2, rfl⟩ := ho.out.form
  go_enter Try.func6, Try.ntmps6
  go_wp2_with fail
  refine (whole_any hd.out).mono ?_
  rintro e w1 ⟨B1, h1⟩
  have b1 : Hid (Below w.heap.size w w1) := Lib.hid B1
  clear B1
  by_cases hc : (cnt ds).2 = 0
  · have hO : wholeO ds = (0, 0, ds, strd ds) := by unfold wholeO; rw [if_pos hc]
    rw [hO] at h1
    rcases h1 with ⟨hne, _⟩ | ⟨_, dv, sv, rfl, g1, g2⟩
    · exact absurd rfl hne
    clear hO
    have hg := cnt_good hc
    have hp := cnt_pos hc
    have HG := Lib.hid hg
    have HC := Lib.hid hc
    have HP := Lib.hid (pr_pos hp)
    have i1 := Lib.hid (g1.ints hd.out.wf.1 hd.out.wf.2)
    have i2 : Hid (IntsIn w1 sv (strd ds)) := Lib.hid (g2.ints (by rw [strd_length]; exact hd.out.wf.1) fun z hz => by have := strd_mem hp hz; have := hg.2.2.2; constructor <;> omega)
    clear hg hp hc g1 g2
    obtain ⟨a3, c3, rfl⟩ := i1.out.form
    obtain ⟨a4, c4, rfl⟩ := i2.out.form
    obtain ⟨W2, hW2⟩ : ∃ W2, Hid (w1.alloc (.cells #[.int .i64 0, .slice a3 ds.length c3, .slice a4 (strd ds).length c4] 24) = W2) := ⟨_, Lib.hid rfl⟩
    have z2 : Hid (W2.heap.size = w1.heap.size + 1) := Lib.hid (by rw [← hW2.out]; simp)
    have b2 : Hid (Below w1.heap.size w1 W2) := Lib.hid (by rw [← hW2.out]; exact (Below.refl _ w1).alloc (Nat.le_refl _) _)
    have x2 : Hid (Box3 W2 w1.heap.size (.int .i64 0) (.slice a3 ds.length c3) (.slice a4 (strd ds).length c4)) := Lib.hid (by rw [← hW2.out]; exact Box3.new w1 _ _ _)
    have b3 : Hid (Below w.heap.size w W2) := Lib.hid (b1.out.trans (b2.out.mono b1.out.size))
    have I1 := Lib.hid (i1.out.below b2.out)
    have I2 := Lib.hid (i2.out.below b2.out)
    go_wp2_with fail
    rw [hW2.out]
    refine (rcount_any (hd.out.below b3.out)).mono ?_
    rintro e _ ⟨rfl, rfl⟩
    rw [show cnt ds = (pr ds, 0) from Prod.ext HG.out.2.2.1 HC.out]
    obtain ⟨n, hn⟩ : ∃ n : Nat, Hid (pr ds = (n : Int)) := ⟨(pr ds).toNat, Lib.hid (by have := HP.out; omega)⟩
    have hn6 : n ≤ 65536 := by have := HG.out.2.2.2; have := hn.out; omega
    rw [hn.out]
    have HR := Lib.hid (whole_reads HC.out)
    rw [hn.out, Int.toNat_natCast] at HR
    obtain ⟨y0, y1, y2⟩ := box3_cells x2.out
    go_wp2_with fail
    go_region_held3 (fun w' => w'.cell? ⟨w1.heap.size, 0, none⟩ = some (.int .i64 0) ∧ w'.cell? ⟨w1.heap.size, 1, none⟩ = some (.slice a3 ds.length c3) ∧ w'.cell? ⟨w1.heap.size, 2, none⟩ = some (.slice a4 (strd ds).length c4)) (go_keep) (first | (go_at_call 25; refine (numbers_any n hn6 _).mono ?_; rintro e w3 ⟨B4, v, rfl, r4, i4⟩; have X3 := Lib.hid (x2.out.drew.below B4); obtain ⟨t0, t1, t2⟩ := box3_cells X3.out; have BB := Lib.hid ((Below.refl _ W2).drew.trans B4); have J4 := Lib.hid i4; clear B4 r4 i4) | (go_at_call 21; refine (read0_any (I1.out.below BB.out) (I2.out.below BB.out) J4.out).mono ?_; rintro e w5 ⟨B5, k5, l5, av5, n5, rfl, il5, hn5, hrow5, hR5⟩; have X5 := Lib.hid (X3.out.below B5); obtain ⟨u0, u1, u2⟩ := box3_cells X5.out; have BC := Lib.hid (BB.out.trans (B5.mono BB.out.size)); have I5 := Lib.hid il5; have HR5 := Lib.hid hR5; clear B5 il5 hn5 hrow5 hR5) | fail)
    have hkl : k5 = 0 ∧ l5 = upto n := by
      rcases HR5.out with ⟨h1, h2⟩ | ⟨h1, h2⟩
      · rw [HR.out] at h2; exact ⟨h1, (Option.some.inj h2).symm⟩
      · rw [HR.out] at h2; exact absurd h2 (by simp)
    obtain ⟨rfl, rfl⟩ := hkl
    obtain ⟨a5, c5, rfl⟩ := I5.out.form
    have b5 : Hid (Below w.heap.size w w5) := Lib.hid (b3.out.trans (BC.out.mono b3.out.size))
    clear t0 t1 t2 u0 u1 u2 y0 y1 y2
    go_wp2_with fail
    refine (numbers_any n hn6 _).mono ?_
    rintro e w6 ⟨B6, v6, rfl, r6, i6⟩
    have I6 := Lib.hid i6
    have I7 := Lib.hid (I5.out.below B6)
    have BD := Lib.hid (BC.out.trans (B6.mono BC.out.size))
    have X6 := Lib.hid (X5.out.below B6)
    clear B6 r6 i6
    obtain ⟨a6, c6, rfl⟩ := I6.out.form
    go_wp2_with fail
    refine (sameData_any I7.out I6.out).mono ?_
    rintro e w7 ⟨he, B7⟩
    rw [decide_eq_true rfl] at he
    subst he
    have I8 := Lib.hid (I7.out.below B7)
    have BE := Lib.hid (BD.out.trans (B7.mono BD.out.size))
    have X7 := Lib.hid (X6.out.below B7)
    have b7 : Hid (Below w.heap.size w w7) := Lib.hid (b3.out.trans (BE.out.mono b3.out.size))
    clear B7
    obtain ⟨y0, y1, y2⟩ := box3_cells X7.out
    go_wp2_with fail
    refine (reshape_any (I1.out.below BE.out) (I2.out.below BE.out) (ho.out.below b7.out)).mono ?_
    rintro e w8 ⟨B8, h8⟩
    have I9 := Lib.hid (I8.out.below B8)
    have b8 : Hid (Below w.heap.size w w8) := Lib.hid (b7.out.trans (B8.mono b7.out.size))
    clear B8 y0 y1 y2
    have HX := Lib.hid (resh_whole (ps := ps) HC.out)
    rcases h8 with ⟨hne, rfl⟩ | ⟨h0, d', s', rfl, g1, g2⟩
    · generalize (reshO 0 ds (strd ds) ps).1 = cc at hne ⊢
      have hb1 : (cc != 0) = true := by simpa using hne
      have b9 : Hid (Below w.heap.size w (w8.alloc (.cells #[.int .i64 0, .slice none 0 0, .slice none 0 0] 24))) := Lib.hid (b8.out.alloc b8.out.size _)
      clear hne HX
      go_wp2_with fail
      refine (live_any _).mono ?_
      rintro e w9 ⟨rfl, hB⟩
      have b10 := Lib.hid (b9.out.trans (hB.mono b9.out.size))
      clear hB
      go_wp2_with fail
      go_ret
      exact ⟨rfl, b10.out⟩
    · obtain ⟨hO, hps, hpr⟩ := HX.out.resolve_left (fun h => h h0)
      rw [hO] at g1 g2 ⊢
      have hp := cnt_pos hps
      have hg := cnt_good hps
      have j1 := Lib.hid (g1.ints ho.out.wf.1 ho.out.wf.2)
      have j2 : Hid (IntsIn w8 s' (strd ps)) := Lib.hid (g2.ints (by rw [strd_length]; exact ho.out.wf.1) fun z hz => by have := strd_mem hp hz; have := hg.2.2.2; constructor <;> omega)
      have HR2 := Lib.hid (whole_reads hps)
      rw [hpr, hn.out, Int.toNat_natCast] at HR2
      clear hp hg hO h0 HX g1 g2 hpr hps
      obtain ⟨a7, c7, rfl⟩ := j1.out.form
      obtain ⟨a8, c8, rfl⟩ := j2.out.form
      obtain ⟨W3, hW3⟩ : ∃ W3, Hid (w8.alloc (.cells #[.int .i64 0, .slice a7 ps.length c7, .slice a8 (strd ps).length c8] 24) = W3) := ⟨_, Lib.hid rfl⟩
      have b9 : Hid (Below w8.heap.size w8 W3) := Lib.hid (by rw [← hW3.out]; exact (Below.refl _ w8).alloc (Nat.le_refl _) _)
      have x9 : Hid (Box3 W3 w8.heap.size (.int .i64 0) (.slice a7 ps.length c7) (.slice a8 (strd ps).length c8)) := Lib.hid (by rw [← hW3.out]; exact Box3.new w8 _ _ _)
      have b10 : Hid (Below w.heap.size w W3) := Lib.hid (b8.out.trans (b9.out.mono b8.out.size))
      have J1 := Lib.hid (j1.out.below b9.out)
      have J2 := Lib.hid (j2.out.below b9.out)
      have I10 := Lib.hid (I9.out.below b9.out)
      clear J4 X3 BB BC BD BE b2 b3 I1 I2 I5 I6 I7 I8 X5 X6 X7 x2 HR5
      go_wp2_with fail
      rw [hW3.out]
      obtain ⟨y0, y1, y2⟩ := box3_cells x9.out
      go_region_held3 (fun w' => w'.cell? ⟨w8.heap.size, 0, none⟩ = some (.int .i64 0) ∧ w'.cell? ⟨w8.heap.size, 1, none⟩ = some (.slice a7 ps.length c7) ∧ w'.cell? ⟨w8.heap.size, 2, none⟩ = some (.slice a8 (strd ps).length c8)) (go_keep) (first | (go_at_call 25; refine (numbers_any n hn6 _).mono ?_; rintro e w10 ⟨B4, v, rfl, r4, i4⟩; have X3 := Lib.hid (x9.out.drew.below B4); obtain ⟨t0, t1, t2⟩ := box3_cells X3.out; have BB := Lib.hid ((Below.refl _ W3).drew.trans B4); have J4 := Lib.hid i4; clear B4 r4 i4) | (go_at_call 21; refine (read0_any (J1.out.below BB.out) (J2.out.below BB.out) J4.out).mono ?_; rintro e w11 ⟨B5, k6, l6, av6, n6, rfl, il6, hn6', hrow6, hR6⟩; have X5 := Lib.hid (X3.out.below B5); obtain ⟨u0, u1, u2⟩ := box3_cells X5.out; have BC := Lib.hid (BB.out.trans (B5.mono BB.out.size)); have I11 := Lib.hid il6; have HR6 := Lib.hid hR6; clear B5 il6 hn6' hrow6 hR6) | fail)
      have hkl : k6 = 0 ∧ l6 = upto n := by
        rcases HR6.out with ⟨h1, h2⟩ | ⟨h1, h2⟩
        · rw [HR2.out] at h2; exact ⟨h1, (Option.some.inj h2).symm⟩
        · rw [HR2.out] at h2; exact absurd h2 (by simp)
      obtain ⟨rfl, rfl⟩ := hkl
      obtain ⟨a9, c9, rfl⟩ := I11.out.form
      have b11 : Hid (Below w.heap.size w w11) := Lib.hid (b10.out.trans (BC.out.mono b10.out.size))
      have I12 := Lib.hid (I10.out.below BC.out)
      clear t0 t1 t2 u0 u1 u2 y0 y1 y2
      go_wp2_with fail
      refine (sameData_any I11.out I12.out).mono ?_
      rintro e w12 ⟨he, B7⟩
      rw [decide_eq_true rfl] at he
      subst he
      have b12 := Lib.hid (b11.out.trans (B7.mono b11.out.size))
      clear B7
      go_wp2_with fail
      refine (live_any _).mono ?_
      rintro e w13 ⟨rfl, B8⟩
      have b13 := Lib.hid (b12.out.trans (B8.mono b12.out.size))
      clear B8
      go_wp2_with fail
      go_ret
      exact ⟨rfl, b13.out⟩
  · have hO : wholeO ds = ((cnt ds).2, 0, [], []) := by unfold wholeO; rw [if_neg hc]
    rw [hO] at h1
    rcases h1 with ⟨hne, rfl⟩ | ⟨h0, _⟩
    rotate_left
    · exact absurd h0 hc
    generalize (cnt ds).2 = cc at hne ⊢
    have hb1 : (cc != 0) = true := by simpa using hne
    have b9 : Hid (Below w.heap.size w (w1.alloc (.cells #[.int .i64 0, .slice none 0 0, .slice none 0 0] 24))) := Lib.hid (b1.out.alloc b1.out.size _)
    clear hne hO hc
    go_wp2_with fail
    refine (live_any _).mono ?_
    rintro e w9 ⟨rfl, hB⟩
    have b10 := Lib.hid (b9.out.trans (hB.mono b9.out.size))
    clear hB
    go_wp2_with fail
    go_ret
    exact ⟨rfl, b10.out⟩

end Go.Proofs.Ytfdafceolkmkoaa
