/- The walk of the reference's Spread. Printed by gen_rspread.py. -/
import Derived.Test.YtfdafceolkmkoaaViewSd
set_option linter.unusedVariables false
namespace Go.Proofs.Ytfdafceolkmkoaa
open Go.RowKit Vw

theorem cell_new (w : World) (x : Value) (t : TypeId) : (w.alloc (.cells #[x] t)).cell? ((⟨w.heap.size, 0, none⟩ : Addr).add 0) = some x := by
  have h := World.alloc_heap_new w (Obj.cells #[x] t)
  show (w.alloc (.cells #[x] t)).cell? ⟨w.heap.size, 0, none⟩ = some x
  unfold World.cell?
  rw [h]
  rfl

/-- The first strides. -/
def spK (ds ss W : List Int) (k : Nat) : List Value := ((List.range k).map (spA ds ss W)).map (Value.int .i64)
theorem spK_zero (ds ss W : List Int) : spK ds ss W 0 = [] := rfl
theorem spK_next (ds ss W : List Int) (k : Nat) : spK ds ss W (k + 1) = spK ds ss W k ++ [.int .i64 (spA ds ss W k)] := by simp [spK, List.range_succ]
theorem spK_all (ds ss W : List Int) : spK ds ss W W.length = (spS ds ss W).map (Value.int .i64) := rfl
theorem spA_ahead {ds ss W : List Int} {k : Nat} (h : k < W.length - ds.length) : spA ds ss W k = 0 := by unfold spA; rw [if_neg (by omega)]
theorem spA_same {ds ss W : List Int} {k p : Nat} (h : W.length - ds.length + p = k) (e : ds.getD p 0 = W.getD k 0) : spA ds ss W k = ss.getD p 0 := by
  unfold spA
  rw [show k - (W.length - ds.length) = p by omega, if_pos ⟨by omega, e⟩]
theorem spA_other {ds ss W : List Int} {k p : Nat} (h : W.length - ds.length + p = k) (e : ds.getD p 0 ≠ W.getD k 0) : spA ds ss W k = 0 := by
  unfold spA
  rw [show k - (W.length - ds.length) = p by omega, if_neg (fun g => e g.2)]

attribute [local irreducible] cnt mayV bcO outL spS spA SpTo spO spK

set_option maxRecDepth 100000 in
set_option maxHeartbeats 8000000 in
theorem rspread_any {w : World} {off : Int} {d s pv : Value} {ds ss ps : List Int} (hd0 : IntsIn w d ds) (hs0 : IntsIn w s ss) (hp0 : IntsIn w pv ps) :
    Calls Try.prog 31 #[.agg #[.int .i64 off, d, s], pv] w (ViewOut w (spO off ds ss ps)) := by
  obtain ⟨i0, hi, hz0, hz1, hz2⟩ := info_parts info_int
  have hd := Lib.hid hd0
  have hs := Lib.hid hs0
  have hp := Lib.hid hp0
  clear hd0 hs0 hp0
  obtain ⟨a1, c1, rfl⟩ := hd.out.form
  obtain ⟨a2, c2, rfl⟩ := hs.out.form
  obtain ⟨a3, c3, rfl⟩ := hp.out.form
  obtain ⟨WA, hWA⟩ : ∃ WA, (w.alloc (.cells #[.int .i64 off, .slice a1 ds.length c1, .slice a2 ss.length c2] 24)).alloc (.cells #[.int .i64 0, .slice none 0 0, .slice none 0 0] 24) = WA := ⟨_, rfl⟩
  have bA : Below w.heap.size w WA := by rw [← hWA]; exact ((Below.refl _ w).alloc (Nat.le_refl _) _).alloc (by simp) _
  have zA : WA.heap.size = w.heap.size + 2 := by rw [← hWA]; simp
  have p1 : Box3 WA w.heap.size (.int .i64 off) (.slice a1 ds.length c1) (.slice a2 ss.length c2) := by rw [← hWA]; exact (Below.heap_alloc _ _ _ (by simp)).trans (Box3.new w _ _ _)
  have p2 : Box3 WA (w.heap.size + 1) (.int .i64 0) (.slice none 0 0) (.slice none 0 0) := by
    rw [← hWA]
    have := Box3.new (w.alloc (.cells #[.int .i64 off, .slice a1 ds.length c1, .slice a2 ss.length c2] 24)) (.int .i64 0) (.slice none 0 0) (.slice none 0 0)
    rwa [World.size_alloc] at this
  have q0 := p1.c0
  have q1 := p1.c1
  have q2 := p1.c2
  have P1 := Lib.hid p1
  have P2 := Lib.hid p2
  have BA := Lib.hid bA
  have ZA := Lib.hid zA
  have HF := Lib.hid (rmay_any (off := off) (hd.out.below bA) (hs.out.below bA))
  clear p1 p2 bA zA
  have E1 : Hid (mayV off ds ss = false → spO off ds ss ps = (1, 0, [], [])) := Lib.hid fun h => by unfold spO; rw [if_pos h]
  have E2 : Hid (mayV off ds ss = true → (bcO ds ps).1 ≠ 0 → spO off ds ss ps = ((bcO ds ps).1, 0, [], [])) := Lib.hid fun h g => by unfold spO; rw [if_neg (by rw [h]; decide), if_pos g]
  have E3 : Hid (mayV off ds ss = true → (bcO ds ps).1 = 0 → (bcO ds ps).2 ≠ ps → spO off ds ss ps = (4, 0, [], [])) := Lib.hid fun h g k => by unfold spO; rw [if_neg (by rw [h]; decide), if_neg (by rw [g]; decide), if_pos k]
  have E4 : Hid (mayV off ds ss = true → (bcO ds ps).1 = 0 → (bcO ds ps).2 = ps → spO off ds ss ps = (0, off, ps, spS ds ss ps)) := Lib.hid fun h g k => by unfold spO; rw [if_neg (by rw [h]; decide), if_neg (by rw [g]; decide), if_neg (by rw [k]; simp)]
  generalize spO off ds ss ps = O at *
  have HR1 := Lib.hid hd.out.rows.2
  have HR2 := Lib.hid hs.out.rows.2
  have HR3 := Lib.hid hp.out.rows.2
  go_enter Try.func31, Try.ntmps31
  go_wp2_with fail
  refine HF.out.mono ?_
  rintro e w1 ⟨rfl, B1⟩
  have z1 : Hid (w.heap.size + 2 ≤ w1.heap.size) := Lib.hid (by have := ZA.out; have := B1.size; omega)
  have b1 : Hid (Below w.heap.size w w1) := Lib.hid (BA.out.trans (B1.mono BA.out.size))
  have P3 := Lib.hid (P1.out.below B1)
  have P4 := Lib.hid (P2.out.below B1)
  clear B1 q0 q1 q2
  cases hm : mayV off ds ss
  · have NX := Lib.hid (E1.out hm)
    clear hm
    have f0 := P4.out.frozen 0
    have f1 := P4.out.frozen 1
    have f2 := P4.out.frozen 2
    have k0 := P4.out.c0
    have k1 := P4.out.c1
    have k2 := P4.out.c2
    have hend : Hid (Box3 (put3 w1 (w.heap.size + 1) (.int .i64 0) (.slice none 0 0) (.slice none 0 0)) (w.heap.size + 1) (.int .i64 0) (.slice none 0 0) (.slice none 0 0) ∧ Below w.heap.size w (put3 w1 (w.heap.size + 1) (.int .i64 0) (.slice none 0 0) (.slice none 0 0))) := Lib.hid ⟨P4.out.put _ _ _, below_put b1.out (by omega)⟩
    go_wp2_with fail
    obtain ⟨h1, h2⟩ := hend.out
    obtain ⟨x0, x1', x2'⟩ := box3_cells h1
    unfold put3 at x0 x1' x2' h2
    exact bodyPost_ret (v := .tuple #[.agg #[.int .i64 0, .slice none 0 0, .slice none 0 0], .int .i64 1]) (by simp [results, Try.f31, go_sem, x0, x1', x2']) rfl (by rw [NX.out]; exact ⟨h2, Or.inl ⟨by decide, rfl⟩⟩)
  have HM := Lib.hid hm
  have hmg := may_good hm
  have hn6 := hmg.2.1
  have hsl : Hid (ss.length = ds.length) := Lib.hid hmg.2.2.2.2.1
  clear hm hmg
  obtain ⟨y0, y1, y2⟩ := box3_cells P3.out
  go_wp2_with fail
  refine (rbroadcast_any (hd.out.below b1.out) (hp.out.below b1.out)).mono ?_
  rintro e w2 ⟨B2, h2⟩
  have z2 : Hid (w1.heap.size ≤ w2.heap.size) := Lib.hid B2.size
  have b2 := Lib.hid (b1.out.trans (B2.mono b1.out.size))
  have P5 := Lib.hid (P3.out.below B2)
  have P6 := Lib.hid (P4.out.below B2)
  clear B2 y0 y1 y2
  rcases h2 with ⟨hne, rfl⟩ | ⟨h0, v, rfl, hf⟩
  · have NX := Lib.hid (E2.out HM.out hne)
    generalize (bcO ds ps).1 = ce at *
    have hb1 : (ce != 0) = true := by simpa using hne
    have HNE := Lib.hid hne
    clear hne
    have f0 := P6.out.frozen 0
    have f1 := P6.out.frozen 1
    have f2 := P6.out.frozen 2
    have k0 := P6.out.c0
    have k1 := P6.out.c1
    have k2 := P6.out.c2
    have hend : Hid (Box3 (put3 w2 (w.heap.size + 1) (.int .i64 0) (.slice none 0 0) (.slice none 0 0)) (w.heap.size + 1) (.int .i64 0) (.slice none 0 0) (.slice none 0 0) ∧ Below w.heap.size w (put3 w2 (w.heap.size + 1) (.int .i64 0) (.slice none 0 0) (.slice none 0 0))) := Lib.hid ⟨P6.out.put _ _ _, below_put b2.out (by omega)⟩
    go_wp2_with fail
    obtain ⟨h1, h2⟩ := hend.out
    obtain ⟨x0, x1', x2'⟩ := box3_cells h1
    unfold put3 at x0 x1' x2' h2
    exact bodyPost_ret (v := .tuple #[.agg #[.int .i64 0, .slice none 0 0, .slice none 0 0], .int .i64 ce]) (by simp [results, Try.f31, go_sem, x0, x1', x2']) rfl (by rw [NX.out]; exact ⟨h2, Or.inl ⟨HNE.out, rfl⟩⟩)
  have HB0 := Lib.hid h0
  have hbg := bc_good h0
  have hbe := hbg.2.2.2.1
  have hcp := (cnt_good hbg.2.1).2.1
  have hol : Hid ((outL ds ps).length = max ds.length ps.length) := Lib.hid (outL_length ds ps)
  have hoi : Hid (∀ z ∈ outL ds ps, InI z) := Lib.hid (outL_inI hd.out.wf.2 hp.out.wf.2)
  have HE3 := Lib.hid (E3.out HM.out h0)
  have HE4 := Lib.hid (E4.out HM.out h0)
  rw [hbe] at hf HE3 HE4
  have iv := Lib.hid (hf.ints (by rw [hol.out]; omega) hoi.out)
  have hF := Lib.hid hf
  obtain ⟨a4, c4, rfl⟩ := hf.form
  clear hf h0 hbg hbe
  go_wp2_with fail
  refine (rsame_any iv.out (hp.out.below b2.out)).mono ?_
  rintro e w5 ⟨rfl, B3⟩
  have z3 : Hid (w2.heap.size ≤ w5.heap.size) := Lib.hid B3.size
  have b3 := Lib.hid (b2.out.trans (B3.mono b2.out.size))
  have P7 := Lib.hid (P5.out.below B3)
  have P8 := Lib.hid (P6.out.below B3)
  have hF3 := Lib.hid (hF.out.below B3)
  clear B3
  by_cases hq : outL ds ps = ps
  rotate_left
  · have NX := Lib.hid (HE3.out hq)
    rw [decide_eq_false hq]
    clear hq
    have f0 := P8.out.frozen 0
    have f1 := P8.out.frozen 1
    have f2 := P8.out.frozen 2
    have k0 := P8.out.c0
    have k1 := P8.out.c1
    have k2 := P8.out.c2
    have hend : Hid (Box3 (put3 w5 (w.heap.size + 1) (.int .i64 0) (.slice none 0 0) (.slice none 0 0)) (w.heap.size + 1) (.int .i64 0) (.slice none 0 0) (.slice none 0 0) ∧ Below w.heap.size w (put3 w5 (w.heap.size + 1) (.int .i64 0) (.slice none 0 0) (.slice none 0 0))) := Lib.hid ⟨P8.out.put _ _ _, below_put b3.out (by omega)⟩
    go_wp2_with fail
    obtain ⟨h1, h2⟩ := hend.out
    obtain ⟨x0, x1', x2'⟩ := box3_cells h1
    unfold put3 at x0 x1' x2' h2
    exact bodyPost_ret (v := .tuple #[.agg #[.int .i64 0, .slice none 0 0, .slice none 0 0], .int .i64 4]) (by simp [results, Try.f31, go_sem, x0, x1', x2']) rfl (by rw [NX.out]; exact ⟨h2, Or.inl ⟨by decide, rfl⟩⟩)
  have NX := Lib.hid (HE4.out hq)
  rw [decide_eq_true hq]
  rw [hq] at hF3 hol ⊢
  have hle : ds.length ≤ ps.length := by have := hol.out; omega
  clear hq HE3 HE4 E1 E2 E3 E4 iv hF hoi
  obtain ⟨ah, hah⟩ : ∃ ah : Nat, ah = ps.length - ds.length := ⟨_, rfl⟩
  have hsub : (ps.length : Int) - (ds.length : Int) = (ah : Int) := by omega
  have HAH := Lib.hid hah
  clear hah
  have hI0 : Hid (Box3 (w5.alloc (.cells #[.int .i64 off, .slice a4 ps.length c4, .slice none 0 0] 24)) w5.heap.size (.int .i64 off) (.slice a4 ps.length c4) (.slice none 0 0)) := Lib.hid (Box3.new w5 _ _ _)
  have hbel : Hid (Below w5.heap.size w5 (w5.alloc (.cells #[.int .i64 off, .slice a4 ps.length c4, .slice none 0 0] 24))) := Lib.hid ((Below.refl _ w5).alloc (Nat.le_refl _) _)
  have hO0 : Hid ((w5.alloc (.cells #[.int .i64 off, .slice a4 ps.length c4, .slice none 0 0] 24)).ownsRow (w5.heap.size + 1) 3 1 (.slice none 0 0) 0 (spK ds ss ps 0)) := Lib.hid (by rw [spK_zero]; exact World.ownsRow_nil _ _ _ _)
  have P9 := Lib.hid (P7.out.below hbel.out)
  obtain ⟨y0, y1, y2⟩ := box3_cells P7.out
  obtain ⟨t0, t1, t2⟩ := box3_cells P9.out
  go_wp2_with fail
  clear y0 y1 y2 t0 t1 t2
  go_loopw [10] (fun i wr => ∃ k : Nat, k ≤ ps.length ∧ i = .int .i64 (k : Int) ∧ Hid (∃ vs, Box3 wr w5.heap.size (.int .i64 off) (.slice a4 ps.length c4) vs ∧ wr.ownsRow (w5.heap.size + 1) 3 1 vs k (spK ds ss ps k)) ∧ Hid (Below w5.heap.size w5 wr)) (fun i _ => ps.length - (intOf i).toNat)
  case atStart => exact ⟨0, Nat.zero_le _, rfl, Lib.hid ⟨_, hI0.out, hO0.out⟩, hbel⟩
  case round =>
    obtain ⟨k, hk, rfl, hx, hb⟩ := hrel
    obtain ⟨vs, hxo, hos⟩ := hx.out
    have PV := Lib.hid (P7.out.below hb.out)
    obtain ⟨y0, y1, y2⟩ := box3_cells PV.out
    have bw := Lib.hid (b3.out.trans (hb.out.mono b3.out.size))
    have HXO := Lib.hid hxo
    have HOS := Lib.hid hos
    have v0 := hxo.c2
    by_cases hkl : k < ps.length
    · have hki : (k : Int) < (ps.length : Int) := by omega
      clear hx hxo hos
      by_cases hA : ah ≤ k
      · have hAi : (ah : Int) ≤ (k : Int) := by omega
        obtain ⟨p, hpp⟩ : ∃ p : Nat, k = ah + p := ⟨k - ah, by omega⟩
        have hpi : (k : Int) - (ah : Int) = (p : Int) := by omega
        have hpd : p < ds.length := by have := HAH.out; omega
        have hpl : (p : Int) < (ds.length : Int) := by omega
        have hpl2 : (p : Int) < (ss.length : Int) := by rw [hsl.out]; exact hpl
        have hpe : ps.length - ds.length + p = k := by have := HAH.out; omega
        have e1 : IntKind.i64.wrap ((k : Int) - (ah : Int)) = (p : Int) := by rw [hpi]; exact IntWalk.i64_in _ (by omega)
        have HSA := Lib.hid (spA_same (ds := ds) (ss := ss) hpe)
        have HSO := Lib.hid (spA_other (ds := ds) (ss := ss) hpe)
        obtain ⟨b1', o1', rfl, hb1, hr1⟩ := HR1.out p hpd
        obtain ⟨b2', o2', rfl, hb2, hr2⟩ := HR2.out p (by rw [hsl.out]; exact hpd)
        obtain ⟨b3', o3', rfl, hb3, hr3⟩ := HR3.out k hkl
        have x1 := (bw.out.cell (p := ⟨b1', o1' + p, none⟩) hb1).trans (hr1 p hpd)
        have x2 := (bw.out.cell (p := ⟨b2', o2' + p, none⟩) hb2).trans (hr2 p (by rw [hsl.out]; exact hpd))
        have x3 := (bw.out.cell (p := ⟨b3', o3' + k, none⟩) hb3).trans (hr3 k hkl)
        clear hpp hpe
        generalize ds.getD p 0 = d1 at *
        generalize ss.getD p 0 = s1 at *
        generalize ps.getD k 0 = q1 at *
        by_cases he : d1 = q1
        · have HS1 := Lib.hid (HSA.out he)
          have hbq : (d1 == q1) = true := by simpa using he
          clear he
          go_wp2
          go_quiet (fail)
          go_wp2_with (first
            | (at_builtin; refine wpList_append_own _ rfl _ _ 22 rfl (w5.heap.size + 1) 3 i0 (.int .i64 0) 1 8 Try.underlying22 hi hz0 hz1 hz2 rfl (by decide) vs k _ rfl (HOS.out.alloc _) ⟨wr.heap.size, 0, none⟩ 1 1 [.int .i64 s1] rfl rfl ?c1 ?c2 ?c3 ?c4 ?c5 ?_)
            | go_in)
          case c1 =>
            intro j u hj
            match j, hj with
            | 0, hj => simp at hj; subst hj; exact cell_new _ _ _
          case c2 => intro u hu; simp at hu; subst hu; rfl
          case c3 => unfold maxLen; omega
          case c4 => omega
          case c5 => have := HXO.out.lt; simp; omega
          intro v' w6 hown' hgrow _
          have hgx := hgrow.block w5.heap.size (by have := HXO.out.lt; simp; omega) (fun e => by have := (HOS.out.lt _ e.symm).1; omega)
          have xo6 : Hid (Box3 w6 w5.heap.size (.int .i64 off) (.slice a4 ps.length c4) vs) := Lib.hid (hgx.trans ((Below.heap_alloc _ _ _ (by have := HXO.out.lt; simpa using this)).trans HXO.out))
          have hb6 : Hid (Below w5.heap.size w5 w6) := Lib.hid (((below_drewN hb.out _).alloc (by have := HXO.out.lt; simp; omega) _).grown hgrow (by have := HXO.out.lt; simp; omega) fun g hg => by have := (HOS.out.lt g hg).1; omega)
          have ho6 : Hid (w6.ownsRow (w5.heap.size + 1) 3 1 v' (k + 1) (spK ds ss ps (k + 1))) := Lib.hid (by rw [spK_next, HS1.out]; exact hown')
          obtain ⟨a6, c6, rfl⟩ := owns_form hown'
          clear hown' hgrow hgx
          have f6 := xo6.out.frozen 2
          have v6 := xo6.out.c2
          have hnew : Hid (Box3 (w6.setCell ⟨w5.heap.size, 2, none⟩ (.slice a6 (k + 1) c6)) w5.heap.size (.int .i64 off) (.slice a4 ps.length c4) (.slice a6 (k + 1) c6)) := Lib.hid (xo6.out.set2 _)
          have hbn : Hid (Below w5.heap.size w5 (w6.setCell ⟨w5.heap.size, 2, none⟩ (.slice a6 (k + 1) c6))) := Lib.hid (hb6.out.setCell (p := ⟨w5.heap.size, 2, none⟩) (Nat.le_refl _) _)
          have hon : Hid ((w6.setCell ⟨w5.heap.size, 2, none⟩ (.slice a6 (k + 1) c6)).ownsRow (w5.heap.size + 1) 3 1 (.slice a6 (k + 1) c6) (k + 1) (spK ds ss ps (k + 1))) := Lib.hid (owns_block ho6.out fun b hb => Below.heap_setCell _ _ _ _ (show b ≠ w5.heap.size by have := (ho6.out.lt b hb).1; omega))
          go_wp2
          go_roundw
          case rel => exact ⟨k + 1, by omega, by go_num, Lib.hid ⟨_, hnew.out, hon.out⟩, hbn⟩
          case measure => simp [intOf]; omega
        · have HS1 := Lib.hid (HSO.out he)
          have hbq : (d1 == q1) = false := by simpa using he
          clear he
          go_wp2
          go_quiet (fail)
          go_wp2_with (first
            | (at_builtin; refine wpList_append_own _ rfl _ _ 22 rfl (w5.heap.size + 1) 3 i0 (.int .i64 0) 1 8 Try.underlying22 hi hz0 hz1 hz2 rfl (by decide) vs k _ rfl (HOS.out.alloc _) ⟨wr.heap.size, 0, none⟩ 1 1 [.int .i64 0] rfl rfl ?c1 ?c2 ?c3 ?c4 ?c5 ?_)
            | go_in)
          case c1 =>
            intro j u hj
            match j, hj with
            | 0, hj => simp at hj; subst hj; exact cell_new _ _ _
          case c2 => intro u hu; simp at hu; subst hu; rfl
          case c3 => unfold maxLen; omega
          case c4 => omega
          case c5 => have := HXO.out.lt; simp; omega
          intro v' w6 hown' hgrow _
          have hgx := hgrow.block w5.heap.size (by have := HXO.out.lt; simp; omega) (fun e => by have := (HOS.out.lt _ e.symm).1; omega)
          have xo6 : Hid (Box3 w6 w5.heap.size (.int .i64 off) (.slice a4 ps.length c4) vs) := Lib.hid (hgx.trans ((Below.heap_alloc _ _ _ (by have := HXO.out.lt; simpa using this)).trans HXO.out))
          have hb6 : Hid (Below w5.heap.size w5 w6) := Lib.hid (((below_drewN hb.out _).alloc (by have := HXO.out.lt; simp; omega) _).grown hgrow (by have := HXO.out.lt; simp; omega) fun g hg => by have := (HOS.out.lt g hg).1; omega)
          have ho6 : Hid (w6.ownsRow (w5.heap.size + 1) 3 1 v' (k + 1) (spK ds ss ps (k + 1))) := Lib.hid (by rw [spK_next, HS1.out]; exact hown')
          obtain ⟨a6, c6, rfl⟩ := owns_form hown'
          clear hown' hgrow hgx
          have f6 := xo6.out.frozen 2
          have v6 := xo6.out.c2
          have hnew : Hid (Box3 (w6.setCell ⟨w5.heap.size, 2, none⟩ (.slice a6 (k + 1) c6)) w5.heap.size (.int .i64 off) (.slice a4 ps.length c4) (.slice a6 (k + 1) c6)) := Lib.hid (xo6.out.set2 _)
          have hbn : Hid (Below w5.heap.size w5 (w6.setCell ⟨w5.heap.size, 2, none⟩ (.slice a6 (k + 1) c6))) := Lib.hid (hb6.out.setCell (p := ⟨w5.heap.size, 2, none⟩) (Nat.le_refl _) _)
          have hon : Hid ((w6.setCell ⟨w5.heap.size, 2, none⟩ (.slice a6 (k + 1) c6)).ownsRow (w5.heap.size + 1) 3 1 (.slice a6 (k + 1) c6) (k + 1) (spK ds ss ps (k + 1))) := Lib.hid (owns_block ho6.out fun b hb => Below.heap_setCell _ _ _ _ (show b ≠ w5.heap.size by have := (ho6.out.lt b hb).1; omega))
          go_wp2
          go_roundw
          case rel => exact ⟨k + 1, by omega, by go_num, Lib.hid ⟨_, hnew.out, hon.out⟩, hbn⟩
          case measure => simp [intOf]; omega
      · have hAi : decide ((ah : Int) ≤ (k : Int)) = false := by simp; omega
        have hAi2 : ¬ (ah : Int) ≤ (k : Int) := by omega
        have HS1 := Lib.hid (spA_ahead (ds := ds) (ss := ss) (W := ps) (k := k) (by have := HAH.out; omega))
        go_wp2
        go_quiet (fail)
        go_wp2_with (first
          | (at_builtin; refine wpList_append_own _ rfl _ _ 22 rfl (w5.heap.size + 1) 3 i0 (.int .i64 0) 1 8 Try.underlying22 hi hz0 hz1 hz2 rfl (by decide) vs k _ rfl (HOS.out.alloc _) ⟨wr.heap.size, 0, none⟩ 1 1 [.int .i64 0] rfl rfl ?c1 ?c2 ?c3 ?c4 ?c5 ?_)
          | go_in)
        case c1 =>
          intro j u hj
          match j, hj with
          | 0, hj => simp at hj; subst hj; exact cell_new _ _ _
        case c2 => intro u hu; simp at hu; subst hu; rfl
        case c3 => unfold maxLen; omega
        case c4 => omega
        case c5 => have := HXO.out.lt; simp; omega
        intro v' w6 hown' hgrow _
        have hgx := hgrow.block w5.heap.size (by have := HXO.out.lt; simp; omega) (fun e => by have := (HOS.out.lt _ e.symm).1; omega)
        have xo6 : Hid (Box3 w6 w5.heap.size (.int .i64 off) (.slice a4 ps.length c4) vs) := Lib.hid (hgx.trans ((Below.heap_alloc _ _ _ (by have := HXO.out.lt; simpa using this)).trans HXO.out))
        have hb6 : Hid (Below w5.heap.size w5 w6) := Lib.hid (((below_drewN hb.out _).alloc (by have := HXO.out.lt; simp; omega) _).grown hgrow (by have := HXO.out.lt; simp; omega) fun g hg => by have := (HOS.out.lt g hg).1; omega)
        have ho6 : Hid (w6.ownsRow (w5.heap.size + 1) 3 1 v' (k + 1) (spK ds ss ps (k + 1))) := Lib.hid (by rw [spK_next, HS1.out]; exact hown')
        obtain ⟨a6, c6, rfl⟩ := owns_form hown'
        clear hown' hgrow hgx
        have f6 := xo6.out.frozen 2
        have v6 := xo6.out.c2
        have hnew : Hid (Box3 (w6.setCell ⟨w5.heap.size, 2, none⟩ (.slice a6 (k + 1) c6)) w5.heap.size (.int .i64 off) (.slice a4 ps.length c4) (.slice a6 (k + 1) c6)) := Lib.hid (xo6.out.set2 _)
        have hbn : Hid (Below w5.heap.size w5 (w6.setCell ⟨w5.heap.size, 2, none⟩ (.slice a6 (k + 1) c6))) := Lib.hid (hb6.out.setCell (p := ⟨w5.heap.size, 2, none⟩) (Nat.le_refl _) _)
        have hon : Hid ((w6.setCell ⟨w5.heap.size, 2, none⟩ (.slice a6 (k + 1) c6)).ownsRow (w5.heap.size + 1) 3 1 (.slice a6 (k + 1) c6) (k + 1) (spK ds ss ps (k + 1))) := Lib.hid (owns_block ho6.out fun b hb => Below.heap_setCell _ _ _ _ (show b ≠ w5.heap.size by have := (ho6.out.lt b hb).1; omega))
        go_wp2
        go_roundw
        case rel => exact ⟨k + 1, by omega, by go_num, Lib.hid ⟨_, hnew.out, hon.out⟩, hbn⟩
        case measure => simp [intOf]; omega
    · obtain rfl : k = ps.length := by omega
      obtain ⟨au, cu, rfl⟩ := owns_form hos
      have hFS : Hid (Fresh (w5.heap.size + 1) wr (.slice au ps.length cu) (spS ds ss ps)) := Lib.hid (Fresh.of_owns (by rw [spS_length, ← spK_all]; exact hos))
      have hFD := Lib.hid (hF3.out.below hb.out)
      have P10 := Lib.hid (P8.out.below hb.out)
      have zz : Hid (w.heap.size + 2 ≤ w1.heap.size ∧ w1.heap.size ≤ w5.heap.size) := Lib.hid ⟨z1.out, Nat.le_trans z2.out z3.out⟩
      obtain ⟨t0, t1, t2⟩ := box3_cells hxo
      have f0 := P10.out.frozen 0
      have f1 := P10.out.frozen 1
      have f2 := P10.out.frozen 2
      have k0 := P10.out.c0
      have k1 := P10.out.c1
      have k2 := P10.out.c2
      clear hx hxo hos
      have hend : Hid (Box3 (put3 wr (w.heap.size + 1) (.int .i64 off) (.slice a4 ps.length c4) (.slice au ps.length cu)) (w.heap.size + 1) (.int .i64 off) (.slice a4 ps.length c4) (.slice au ps.length cu) ∧ Below w.heap.size w (put3 wr (w.heap.size + 1) (.int .i64 off) (.slice a4 ps.length c4) (.slice au ps.length cu)) ∧ Fresh w.heap.size (put3 wr (w.heap.size + 1) (.int .i64 off) (.slice a4 ps.length c4) (.slice au ps.length cu)) (.slice a4 ps.length c4) ps ∧ Fresh w.heap.size (put3 wr (w.heap.size + 1) (.int .i64 off) (.slice a4 ps.length c4) (.slice au ps.length cu)) (.slice au ps.length cu) (spS ds ss ps)) := Lib.hid ⟨P10.out.put _ _ _, below_put bw.out (by omega), hFD.out.put (by have := zz.out; omega) (by have := zz.out; omega), hFS.out.put (by have := zz.out; omega) (by have := zz.out; omega)⟩
      go_wp2_with fail
      obtain ⟨h1, h2, h3, h4⟩ := hend.out
      obtain ⟨x0, x1', x2'⟩ := box3_cells h1
      unfold put3 at x0 x1' x2' h2 h3 h4
      exact bodyPost_ret (v := .tuple #[.agg #[.int .i64 off, .slice a4 ps.length c4, .slice au ps.length cu], .int .i64 0]) (by simp [results, Try.f31, go_sem, x0, x1', x2']) rfl (by rw [NX.out]; exact ⟨h2, Or.inr ⟨rfl, _, _, rfl, h3, h4⟩⟩)

end Go.Proofs.Ytfdafceolkmkoaa
