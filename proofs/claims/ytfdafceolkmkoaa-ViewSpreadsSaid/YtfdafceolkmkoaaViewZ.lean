/- The walk of view.Transpose, second part. -/
import Derived.Test.YtfdafceolkmkoaaViewY
set_option linter.unusedVariables false
namespace Go.Proofs.Ytfdafceolkmkoaa
open Go.RowKit Vw

attribute [local irreducible] mayV sortI rng pd

set_option maxRecDepth 100000 in
set_option maxHeartbeats 4000000 in
theorem transpose_good {w : World} (off : Int) (d s : Value) (bp op cp : Nat) (ds ss ps : List Int) (hd : Hid (IntsIn w d ds)) (hs : Hid (IntsIn w s ss)) (hpr : Hid (Reads w bp op ps)) (hbp : bp < w.heap.size) (hpi : Hid (IntsIn w (.slice (some ⟨bp, op, none⟩) ps.length cp) ps))
    (hm : Hid (mayV off ds ss = true)) (hlen : ds.length ≤ 6) (h0 : 0 < ds.length) (hl : Hid (ps.length = ds.length)) (hl2 : Hid (ss.length = ds.length)) (hsrt : Hid (sortI ps = rng ps.length)) :
    Calls Try.prog 12 #[.agg #[.int .i64 off, d, s], .slice (some ⟨bp, op, none⟩) ps.length cp] w fun e w' => ∃ d' s', e = .returned (.tuple #[.agg #[.int .i64 off, d', s'], .int .i64 0]) ∧ Below w.heap.size w w' ∧
      Fresh w.heap.size w' d' (ps.map fun p => ds.getD p.toNat 0) ∧ Fresh w.heap.size w' s' (ps.map fun p => ss.getD p.toNat 0) := by
  obtain ⟨a1, c1, rfl⟩ := hd.out.form
  obtain ⟨a2, c2, rfl⟩ := hs.out.form
  rw [hl2.out] at hs ⊢
  obtain ⟨WA, hWA⟩ : ∃ WA, (w.alloc (.cells #[.int .i64 off, .slice a1 ds.length c1, .slice a2 ds.length c2] 24)).alloc (.cells #[.int .i64 0, .slice none 0 0, .slice none 0 0] 24) = WA := ⟨_, rfl⟩
  have bA : Below w.heap.size w WA := by rw [← hWA]; exact ((Below.refl _ w).alloc (Nat.le_refl _) _).alloc (by simp) _
  have zA : WA.heap.size = w.heap.size + 2 := by rw [← hWA]; simp
  have p1 : Box3 WA w.heap.size (.int .i64 off) (.slice a1 ds.length c1) (.slice a2 ds.length c2) := by rw [← hWA]; exact (Below.heap_alloc _ _ _ (by simp)).trans (Box3.new w _ _ _)
  have p2 : Box3 WA (w.heap.size + 1) (.int .i64 0) (.slice none 0 0) (.slice none 0 0) := by
    rw [← hWA]
    have := Box3.new (w.alloc (.cells #[.int .i64 off, .slice a1 ds.length c1, .slice a2 ds.length c2] 24)) (.int .i64 0) (.slice none 0 0) (.slice none 0 0)
    rwa [World.size_alloc] at this
  have q0 := p1.c0
  have q1 := p1.c1
  have q2 := p1.c2
  have HF := Lib.hid (fine_any (off := off) (hd.out.below bA) (hs.out.below bA))
  rw [hm.out] at HF
  have P1 := Lib.hid p1
  have P2 := Lib.hid p2
  have BA := Lib.hid bA
  have ZA := Lib.hid zA
  clear p1 p2 bA zA
  go_enter Try.func12, Try.ntmps12
  go_wp2_with fail
  refine HF.out.mono ?_
  rintro e w1 ⟨rfl, hB1⟩
  have z1 : w.heap.size + 2 ≤ w1.heap.size := by have := ZA.out; have := hB1.size; omega
  have B1 : Hid (Below w.heap.size w w1) := Lib.hid (BA.out.trans (hB1.mono (by have := ZA.out; omega)))
  have P3 := Lib.hid (P1.out.below hB1)
  have P4 := Lib.hid (P2.out.below hB1)
  obtain ⟨r0, r1, r2⟩ := box3_cells P3.out
  clear hB1 q0 q1 q2
  go_wp2_with (go_at_call 35; refine (values_any _ _ _ _).mono ?_; rintro e w2 ⟨rfl, rfl⟩)
  have B2 : Hid (Below w.heap.size w (w1.alloc (.cells #[.slice (some ⟨bp, op, none⟩) ps.length cp] 22))) := Lib.hid (B1.out.alloc (by omega) _)
  have HSo := Lib.hid (sorted_any w1.heap.size (some ⟨bp, op, none⟩) cp ps (by have := hl.out; omega) (w1.alloc (.cells #[.slice (some ⟨bp, op, none⟩) ps.length cp] 22)) (by simp) (Boxed.new w1 22 (.slice (some ⟨bp, op, none⟩) ps.length cp)).cell ((hpi.out.below B2.out).rows.2))
  refine HSo.out.mono ?_
  rintro e w3 ⟨v, rfl, hfv, hB3⟩
  have z3 : w1.heap.size + 1 ≤ w3.heap.size := by have := hB3.size; simp at this; omega
  obtain ⟨g5, c5, rfl, hg5, hc5, hrow5⟩ := hfv.rowC (by intro e; have e2 := congrArg List.length e; rw [sortI_length] at e2; have e3 := hl.out; simp only [List.length_nil] at e2; omega)
  rw [sortI_length] at hc5 ⊢
  have R5 : Hid (RowC w3 g5 (rng ps.length)) := Lib.hid (by rw [← hsrt.out]; exact hrow5)
  have B3 : Hid (Below w.heap.size w w3) := Lib.hid (B2.out.trans (hB3.mono (by simp; omega)))
  have P5 : Hid (Box3 w3 w.heap.size (.int .i64 off) (.slice a1 ds.length c1) (.slice a2 ds.length c2)) := Lib.hid ((hB3.block _ (by simp; omega)).trans ((Below.heap_alloc _ _ _ (by omega)).trans P3.out))
  have P6 : Hid (Box3 w3 (w.heap.size + 1) (.int .i64 0) (.slice none 0 0) (.slice none 0 0)) := Lib.hid ((hB3.block _ (by simp; omega)).trans ((Below.heap_alloc _ _ _ (by omega)).trans P4.out))
  obtain ⟨y0, y1, y2⟩ := box3_cells P5.out
  have HO := Lib.hid (own_any (off := off) (hd.out.below B3.out) (hs.out.below B3.out))
  clear hB3 hfv hrow5 r0 r1 r2
  have hll := hl.out
  go_wp2
  go_loop [19] (fun i => ∃ k : Nat, k ≤ ps.length ∧ i = .int .i64 (k : Int)) (fun i => ps.length - (intOf i).toNat)
  case atStart => exact ⟨0, Nat.zero_le _, rfl⟩
  case round =>
    obtain ⟨k, hk, rfl⟩ := hrel
    by_cases hkl : k < ps.length
    · have hcx := R5.out.cell (j := k) (by rw [rng_length]; exact hkl)
      rw [rng_get hkl] at hcx
      go_wp2
      go_round
      case rel => exact ⟨k + 1, by omega, by go_num⟩
      case measure => simp [intOf]; omega
    · obtain rfl : k = ps.length := by omega
      go_wp2_with fail
      refine HO.out.mono ?_
      rintro e w4 ⟨d', s', rfl, hfd, hfs, hap, hB4⟩
      obtain ⟨gd, cd, rfl, hgd, hcd, hrd⟩ := hfd.rowC (by intro e; rw [e] at h0; simp at h0)
      obtain ⟨gs, cs, rfl, hgs, hcs, hrs⟩ := hfs.rowC (by intro e; have e2 := hl2.out; rw [e] at e2; simp at e2; omega)
      have hne : gd ≠ gs := hap gd gs _ _ _ _ rfl rfl (by omega) (by have := hl2.out; omega)
      have z4 : w3.heap.size ≤ w4.heap.size := hB4.size
      have lgd := hrd.lt
      have lgs := hrs.lt
      have TS : Hid (TrS w w.heap.size (w.heap.size + 1) w4.heap.size gd gs off (.slice a1 ds.length c1) (.slice a2 ds.length c2) (.slice (some ⟨gd, 0, none⟩) ds.length cd) (.slice (some ⟨gs, 0, none⟩) ss.length cs) ds ss ps 0
          (w4.alloc (.cells #[.int .i64 off, .slice (some ⟨gd, 0, none⟩) ds.length cd, .slice (some ⟨gs, 0, none⟩) ss.length cs] 24))) := Lib.hid (by
        refine ⟨(Below.heap_alloc _ _ _ (by omega)).trans (P5.out.below hB4), (Below.heap_alloc _ _ _ (by omega)).trans (P6.out.below hB4), Box3.new w4 _ _ _, by rw [pd_zero]; exact hrd.keep (Below.heap_alloc _ _ _ lgd), by rw [pd_zero]; exact hrs.keep (Below.heap_alloc _ _ _ lgs), (B3.out.trans (hB4.mono (by omega))).alloc (by omega) _⟩)
      have HX := Lib.hid (⟨hne, hgd, hgs, lgd, lgs, hcd, hcs⟩ : gd ≠ gs ∧ w3.heap.size ≤ gd ∧ w3.heap.size ≤ gs ∧ gd < w4.heap.size ∧ gs < w4.heap.size ∧ ds.length ≤ cd ∧ ss.length ≤ cs)
      clear hfd hfs hap hB4 hrd hrs hne hgd hgs lgd lgs hcd hcs
      have hprg := Lib.hid (perm_range (hsrt.out))
      go_wp2_with fail
      go_loopw [40] (fun i wr => ∃ k : Nat, k ≤ ps.length ∧ i = .int .i64 (k : Int) ∧ Hid (TrS w w.heap.size (w.heap.size + 1) w4.heap.size gd gs off (.slice a1 ds.length c1) (.slice a2 ds.length c2) (.slice (some ⟨gd, 0, none⟩) ds.length cd) (.slice (some ⟨gs, 0, none⟩) ss.length cs) ds ss ps k wr)) (fun i _ => ps.length - (intOf i).toNat)
      case atStart => exact ⟨0, Nat.zero_le _, rfl, TS⟩
      case round =>
        obtain ⟨k, hk, rfl, ts⟩ := hrel
        have hdl := hl.out
        have hsl := hl2.out
        obtain ⟨n1, n2, n3, n4, n5, n6, n7⟩ := HX.out
        by_cases hkl : k < ps.length
        · obtain ⟨pn, hpn⟩ := Int.eq_ofNat_of_zero_le (hprg.out _ (getD_mem hkl)).1
          have hpn2 : pn < ds.length := by have := (hprg.out _ (getD_mem hkl)).2; omega
          obtain ⟨bd, od, rfl, hbd, hrd⟩ := hd.out.rows.2 pn hpn2
          obtain ⟨bs, os, rfl, hbs, hrs⟩ := hs.out.rows.2 pn (by omega)
          have kp := (ts.out.below.cell (p := ⟨bp, op + k, none⟩) hbp).trans (hpr.out k hkl)
          rw [hpn] at kp
          have kd := (ts.out.below.cell (p := ⟨bd, od + pn, none⟩) hbd).trans (hrd pn hpn2)
          have ks := (ts.out.below.cell (p := ⟨bs, os + pn, none⟩) hbs).trans (hrs pn (by omega))
          have st := ts.out.step hkl hdl hsl n1 (by omega) (by omega) (by omega) (by omega) (by omega) (by omega) (by omega) (by omega)
          rw [hpn, Int.toNat_natCast] at st
          have m1 := ts.out.rd.cell (j := k) (by rw [pd_length (by omega) hdl]; omega)
          have m2 := ts.out.rd.frozen k
          have ms : RowC (wr.setCell ⟨gd, k, none⟩ (.int .i64 (ds.getD pn 0))) gs (pd ss ps k) := ts.out.rs.keep (Below.heap_setCell _ _ _ gs (Ne.symm n1))
          have m3 := ms.cell (j := k) (by rw [pd_length (by omega) (by omega)]; omega)
          have m4 := ms.frozen k
          obtain ⟨u0, u1, u2⟩ := box3_cells ts.out.v2
          obtain ⟨t0, t1, t2⟩ := box3_cells ts.out.v8
          have ms8 : Box3 (wr.setCell ⟨gd, k, none⟩ (.int .i64 (ds.getD pn 0))) w4.heap.size (.int .i64 off) (.slice (some ⟨gd, 0, none⟩) ds.length cd) (.slice (some ⟨gs, 0, none⟩) ss.length cs) := (Below.heap_setCell _ _ _ _ (show w4.heap.size ≠ gd by omega)).trans ts.out.v8
          obtain ⟨t3, t4, t5⟩ := box3_cells ms8
          have ST := Lib.hid st.drew
          clear st ms ms8 n2 n3 n4 n5 n6 n7
          have hpn3 : (pn : Int) < (ds.length : Int) := by omega
          have hkl3 : (k : Int) < (ds.length : Int) := by omega
          have hkl4 : (k : Int) < (ps.length : Int) := by omega
          generalize ds.getD pn 0 = xd at *
          generalize ss.getD pn 0 = xs at *
          go_wp2
          go_region
          go_wp2
          go_roundw
          case rel => exact ⟨k + 1, by omega, by go_num, ST⟩
          case measure => simp [intOf]; omega
        · obtain rfl : k = ps.length := by omega
          obtain ⟨u0, u1, u2⟩ := box3_cells ts.out.v4
          obtain ⟨t0, t1, t2⟩ := box3_cells ts.out.v8
          have f0 := ts.out.v4.frozen 0
          have f1 := ts.out.v4.frozen 1
          have f2 := ts.out.v4.frozen 2
          have hend : Hid (Box3 (put3 wr (w.heap.size + 1) (.int .i64 off) (.slice (some ⟨gd, 0, none⟩) ds.length cd) (.slice (some ⟨gs, 0, none⟩) ss.length cs)) (w.heap.size + 1) (.int .i64 off) (.slice (some ⟨gd, 0, none⟩) ds.length cd) (.slice (some ⟨gs, 0, none⟩) ss.length cs) ∧
              Below w.heap.size w (put3 wr (w.heap.size + 1) (.int .i64 off) (.slice (some ⟨gd, 0, none⟩) ds.length cd) (.slice (some ⟨gs, 0, none⟩) ss.length cs)) ∧
              Fresh w.heap.size (put3 wr (w.heap.size + 1) (.int .i64 off) (.slice (some ⟨gd, 0, none⟩) ds.length cd) (.slice (some ⟨gs, 0, none⟩) ss.length cs)) (.slice (some ⟨gd, 0, none⟩) ds.length cd) (ps.map fun p => ds.getD p.toNat 0) ∧
              Fresh w.heap.size (put3 wr (w.heap.size + 1) (.int .i64 off) (.slice (some ⟨gd, 0, none⟩) ds.length cd) (.slice (some ⟨gs, 0, none⟩) ss.length cs)) (.slice (some ⟨gs, 0, none⟩) ss.length cs) (ps.map fun p => ss.getD p.toNat 0)) := Lib.hid (by
            have e1 : (ps.map fun p => ds.getD p.toNat 0).length = ds.length := by simp; omega
            have e2 : (ps.map fun p => ss.getD p.toNat 0).length = ss.length := by simp; omega
            have r1 := ts.out.rd
            have r2 := ts.out.rs
            rw [pd_all hdl] at r1
            rw [pd_all (by omega)] at r2
            have f1 := (r1.keep (put_other (b := w.heap.size + 1) (x := .int .i64 off) (y := .slice (some ⟨gd, 0, none⟩) ds.length cd) (z := .slice (some ⟨gs, 0, none⟩) ss.length cs) (show gd ≠ w.heap.size + 1 by omega))).fresh (B := w.heap.size) (cap := cd) (by omega) (by omega)
            have f2 := (r2.keep (put_other (b := w.heap.size + 1) (x := .int .i64 off) (y := .slice (some ⟨gd, 0, none⟩) ds.length cd) (z := .slice (some ⟨gs, 0, none⟩) ss.length cs) (show gs ≠ w.heap.size + 1 by omega))).fresh (B := w.heap.size) (cap := cs) (by omega) (by omega)
            rw [e1] at f1
            rw [e2] at f2
            exact ⟨ts.out.v4.put _ _ _, below_put ts.out.below (by omega), f1, f2⟩)
          go_wp2
          obtain ⟨h1, h2, h3, h4⟩ := hend.out
          rw [hsl] at h1 h2 h3 h4
          obtain ⟨x0, x1, x2⟩ := box3_cells h1
          unfold put3 at x0 x1 x2 h2 h3 h4
          exact bodyPost_ret (v := .tuple #[.agg #[.int .i64 off, .slice (some ⟨gd, 0, none⟩) ds.length cd, .slice (some ⟨gs, 0, none⟩) ds.length cs], .int .i64 0]) (by simp [results, Try.f12, go_sem, x0, x1, x2]) rfl ⟨_, _, rfl, h2, h3, h4⟩

end Go.Proofs.Ytfdafceolkmkoaa
