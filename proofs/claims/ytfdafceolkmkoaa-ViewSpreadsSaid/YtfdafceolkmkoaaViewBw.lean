/- The walk of mandrellaw04.ViewBack. -/
import Derived.Test.YtfdafceolkmkoaaViewBp
import Derived.Test.YtfdafceolkmkoaaViewSm
import Derived.Test.YtfdafceolkmkoaaViewOw
set_option linter.unusedVariables false
namespace Go.Proofs.Ytfdafceolkmkoaa
open Go.RowKit Vw

/-- Both orders, so far. -/
def BothTo (ps qs : List Int) (k : Nat) (xs : List Int) : Prop := xs.length = qs.length ∧ ∀ i, i < k → xs.getD i 0 = ps.getD (qs.getD i 0).toNat 0

theorem BothTo.step {ps qs xs : List Int} {k : Nat} (h : BothTo ps qs k xs) (hk : k < qs.length) : BothTo ps qs (k + 1) (xs.set k (ps.getD (qs.getD k 0).toNat 0)) := by
  refine ⟨by rw [List.length_set]; exact h.1, fun i hi => ?_⟩
  by_cases e : i = k
  · subst e; simp [List.getD, h.1, hk]
  · have e3 : (xs.set k (ps.getD (qs.getD k 0).toNat 0)).getD i 0 = xs.getD i 0 := by simp [List.getD, List.getElem?_set_ne (Ne.symm e)]
    rw [e3]
    exact h.2 i (by omega)

theorem BothTo.all {ps qs xs : List Int} (h : BothTo ps qs qs.length xs) : xs = both ps qs := by
  refine List.ext_getElem (by simp [both, h.1]) fun j h1 h2 => ?_
  have := h.2 j (by rw [← h.1]; exact h1)
  simp only [List.getD, List.getElem?_eq_getElem h1, Option.getD_some] at this
  rw [this]
  simp [both, List.getD, List.getElem?_eq_getElem (show j < qs.length by rw [← h.1]; exact h1)]

/-- What comes out of Transpose, if it may be. -/
theorem out_ints {w w' : World} {ds ss ps : List Int} {d' s' : Value} (hdw : ∀ z ∈ ds, InI z) (hsw : ∀ z ∈ ss, InI z) (hl : ps.length ≤ 6) (g1 : Fresh w.heap.size w' d' (ps.map fun p => ds.getD p.toNat 0)) (g2 : Fresh w.heap.size w' s' (ps.map fun p => ss.getD p.toNat 0)) :
    IntsIn w' d' (ps.map fun p => ds.getD p.toNat 0) ∧ IntsIn w' s' (ps.map fun p => ss.getD p.toNat 0) :=
  ⟨g1.ints (by simp; omega) (fun z hz => by
    obtain ⟨p, _, rfl⟩ := List.mem_map.1 hz
    exact getD_inI hdw _), g2.ints (by simp; omega) (fun z hz => by
    obtain ⟨p, _, rfl⟩ := List.mem_map.1 hz
    exact getD_inI hsw _)⟩

theorem Ord.ints {qs : List Int} {n : Nat} (h : Ord qs n) (hn : n ≤ 6) : ∀ z ∈ qs, InI z := fun z hz => by
  have := perm_range h.sort z hz
  constructor <;> omega

theorem ord_length {qs : List Int} {n : Nat} (h : Ord qs n) : qs.length = n := h.1
theorem back_len {ps qs : List Int} {n k : Nat} (h : Back ps n k qs) : qs.length = n := h.1
theorem bothTo_len {ps qs xs : List Int} {k : Nat} (h : BothTo ps qs k xs) : xs.length = qs.length := h.1
theorem both_zero (ps qs : List Int) : BothTo ps qs 0 (List.replicate qs.length 0) := ⟨by simp, fun i hi => by omega⟩
theorem back_zero (ps : List Int) : Back ps ps.length 0 (List.replicate ps.length 0) := ⟨by simp, fun i hi => by omega⟩

attribute [local irreducible] mayV cnt strd readL upto wholeO trO pr sortI rng Back BothTo both sameV Ord

set_option maxRecDepth 100000 in
set_option maxHeartbeats 4000000 in
theorem back_walk {w : World} (off : Int) (d s : Value) (ds ss : List Int) (pv : Value) (ps : List Int) (qv : Value) (qs : List Int) (hd : Hid (IntsIn w d ds)) (hs : Hid (IntsIn w s ss)) (hp : Hid (IntsIn w pv ps)) (hq : Hid (IntsIn w qv qs)) :
    Calls Try.prog 5 #[.agg #[.int .i64 off, d, s], pv, qv] w fun e w' => e = .returned (.bool true) ∧ Below w.heap.size w w' := by
  obtain ⟨a1, c1, rfl⟩ := hd.out.form
  obtain ⟨a2, c2, rfl⟩ := hs.out.form
  obtain ⟨a3, c3, rfl⟩ := hp.out.form
  obtain ⟨a4, c4, rfl⟩ := hq.out.form
  obtain ⟨W0, hW0⟩ : ∃ W0, Hid (w.alloc (.cells #[.int .i64 off, .slice a1 ds.length c1, .slice a2 ss.length c2] 24) = W0) := ⟨_, Lib.hid rfl⟩
  have b0 : Hid (Below w.heap.size w W0) := Lib.hid (by rw [← hW0.out]; exact (Below.refl _ w).alloc (Nat.le_refl _) _)
  have x0 : Hid (Box3 W0 w.heap.size (.int .i64 off) (.slice a1 ds.length c1) (.slice a2 ss.length c2)) := Lib.hid (by rw [← hW0.out]; exact Box3.new w _ _ _)
  obtain ⟨y0, y1, y2⟩ := box3_cells x0.out
  rw [← hW0.out] at y0 y1 y2
  go_enter Try.func5, Try.ntmps5
  go_wp2_with fail
  rw [hW0.out]
  refine (transpose_any (hd.out.below b0.out) (hs.out.below b0.out) (hp.out.below b0.out)).mono ?_
  rintro e w1 ⟨B1, h1⟩
  have b1 : Hid (Below w.heap.size w w1) := Lib.hid (b0.out.trans (B1.mono b0.out.size))
  have x1 := Lib.hid (x0.out.below B1)
  clear B1 y0 y1 y2
  rcases h1 with ⟨hne, rfl⟩ | ⟨h0, d', s', rfl, g1, g2⟩
  · generalize (trO off ds ss ps).1 = cc at hne ⊢
    have hb1 : (cc != 0) = true := by simpa using hne
    have b5 : Hid (Below w.heap.size w (w1.alloc (.cells #[.int .i64 0, .slice none 0 0, .slice none 0 0] 24))) := Lib.hid (b1.out.alloc b1.out.size _)
    clear hne
    go_wp2_with fail
    refine (live_from b5).mono ?_
    rintro e w4 ⟨rfl, b6⟩
    go_wp2_with fail
    go_ret
    exact ⟨rfl, b6.out⟩
  obtain ⟨hm, ho⟩ := tr_ok h0
  have HM := Lib.hid hm
  have HO := Lib.hid ho
  have hg := may_good hm
  have hn6 : ds.length ≤ 6 := hg.2.1
  have hsl : Hid (ss.length = ds.length) := Lib.hid hg.2.2.2.2.1
  have hpl : ps.length = ds.length := ord_length ho
  have hp6 : ps.length ≤ 6 := by omega
  have HPL := Lib.hid hpl
  have HO2 : Hid (Ord ps ps.length) := Lib.hid (by rw [hpl]; exact ho)
  rw [tr_good hm ho] at g1 g2 ⊢
  have j12 := out_ints hd.out.wf.2 hs.out.wf.2 (by omega) g1 g2
  have j1 := Lib.hid j12.1
  have j2 := Lib.hid j12.2
  have HM1 := Lib.hid (may_turned hm ho)
  have hl1 : Hid ((ps.map fun p => ds.getD p.toNat 0).length = ds.length) := Lib.hid (by simp [hpl])
  have hl2 : Hid ((ps.map fun p => ss.getD p.toNat 0).length = ds.length) := Lib.hid (by simp [hpl])
  have HTu : Hid (∀ xs, Back ps ps.length ps.length xs → (xs.map fun q => (ps.map fun p => ds.getD p.toNat 0).getD q.toNat 0) = ds ∧ (xs.map fun q => (ps.map fun p => ss.getD p.toNat 0).getD q.toNat 0) = ss) := Lib.hid fun xs h => by rw [hpl] at h; exact ⟨h.turned ho rfl, h.turned ho hsl.out⟩
  have HBo : Hid (∀ qs, Ord qs ds.length → ((both ps qs).map fun p => ds.getD p.toNat 0) = (qs.map fun q => (ps.map fun p => ds.getD p.toNat 0).getD q.toNat 0) ∧ ((both ps qs).map fun p => ss.getD p.toNat 0) = (qs.map fun q => (ps.map fun p => ss.getD p.toNat 0).getD q.toNat 0)) := Lib.hid fun qs h => ⟨both_turned ds ho h, both_turned ss ho h⟩
  clear hm ho hg h0 g1 g2 j12 hpl
  generalize (ps.map fun p => ds.getD p.toNat 0) = ds1 at *
  generalize (ps.map fun p => ss.getD p.toNat 0) = ss1 at *
  obtain ⟨a5, c5, rfl⟩ := j1.out.form
  obtain ⟨a6, c6, rfl⟩ := j2.out.form
  obtain ⟨W1, hW1⟩ : ∃ W1, Hid (w1.alloc (.cells #[.int .i64 off, .slice a5 ds1.length c5, .slice a6 ss1.length c6] 24) = W1) := ⟨_, Lib.hid rfl⟩
  have b2 : Hid (Below w1.heap.size w1 W1) := Lib.hid (by rw [← hW1.out]; exact (Below.refl _ w1).alloc (Nat.le_refl _) _)
  have xa : Hid (Box3 W1 w1.heap.size (.int .i64 off) (.slice a5 ds1.length c5) (.slice a6 ss1.length c6)) := Lib.hid (by rw [← hW1.out]; exact Box3.new w1 _ _ _)
  have xv := Lib.hid (x1.out.below b2.out)
  have bW1 : Hid (Below w.heap.size w W1) := Lib.hid (b1.out.trans (b2.out.mono b1.out.size))
  have J1 := Lib.hid (j1.out.below b2.out)
  have J2 := Lib.hid (j2.out.below b2.out)
  have hmk := run_make_ints W1 ps.length (by omega)
  obtain ⟨W2, hW2⟩ : ∃ W2, Hid (W1.alloc (.cells (intCells (List.replicate ps.length 0)) 3) = W2) := ⟨_, Lib.hid rfl⟩
  have zW1 : Hid (W1.heap.size = w1.heap.size + 1) := Lib.hid (by rw [← hW1.out]; simp)
  have hrow : Hid (RowAt W2 (w1.heap.size + 1) (List.replicate ps.length 0)) := Lib.hid (by rw [← hW2.out, ← zW1.out]; exact RowAt.new W1 _)
  have c2' : Hid (Below W1.heap.size W1 W2) := Lib.hid (by rw [← hW2.out]; exact (Below.refl _ W1).alloc (Nat.le_refl _) _)
  have HB0 : Hid (Back ps ps.length 0 (List.replicate ps.length 0)) := Lib.hid (back_zero ps)
  have HR := Lib.hid hp.out.rows.2
  rw [← hW1.out] at hmk
  go_wp2_with fail
  rw [hW1.out, hW2.out]
  go_loopw [10] (fun i wr => ∃ k : Nat, k ≤ ps.length ∧ i = .int .i64 (k : Int) ∧ Hid (∃ xs, RowAt wr (w1.heap.size + 1) xs ∧ Back ps ps.length k xs) ∧ Hid (Below W1.heap.size W1 wr)) (fun i _ => ps.length - (intOf i).toNat)
  case atStart => exact ⟨0, Nat.zero_le _, rfl, Lib.hid ⟨_, hrow.out, HB0.out⟩, c2'⟩
  case round =>
    obtain ⟨k, hk, rfl, hx, hb⟩ := hrel
    obtain ⟨xs, hr, hbk⟩ := hx.out
    by_cases hkl : k < ps.length
    · have hki : (k : Int) < (ps.length : Int) := by omega
      obtain ⟨b, o, rfl, hbb, hrd⟩ := HR.out k hkl
      have hcx := ((bW1.out.trans (hb.out.mono bW1.out.size)).cell (p := ⟨b, o + k, none⟩) hbb).trans (hrd k hkl)
      have hat := HO2.out.at hkl
      obtain ⟨p, hpx⟩ : ∃ p : Nat, ps.getD k 0 = (p : Int) := ⟨(ps.getD k 0).toNat, by omega⟩
      rw [hpx] at hcx hat
      have hpn : p < ps.length := by omega
      have hpi : (p : Int) < (ps.length : Int) := by omega
      have hcell := hr.cell (j := p) (by rw [back_len hbk]; exact hpn)
      have hfz := hr.frozen p
      have hset : Hid (RowAt (wr.setCell ⟨w1.heap.size + 1, p, none⟩ (.int .i64 (k : Int))) (w1.heap.size + 1) (xs.set p (k : Int))) := Lib.hid (hr.set p _)
      have hbs : Hid (Below W1.heap.size W1 (wr.setCell ⟨w1.heap.size + 1, p, none⟩ (.int .i64 (k : Int)))) := Lib.hid (hb.out.setCell (p := ⟨w1.heap.size + 1, p, none⟩) (by rw [zW1.out]; exact Nat.le_refl _) _)
      have hbn := Lib.hid (hbk.step HO2.out hkl hpx)
      clear hx hr hbk hpx hat
      go_wp2
      go_roundw
      case rel => exact ⟨k + 1, by omega, by go_num, Lib.hid ⟨_, hset.out, hbn.out⟩, hbs⟩
      case measure => simp [intOf]; omega
    · obtain rfl : k = ps.length := by omega
      have hbo : Ord xs ps.length := hbk.ord HO2.out
      have hxl := back_len hbk
      have iq : Hid (IntsIn wr (.slice (some ⟨w1.heap.size + 1, 0, none⟩) ps.length ps.length) xs) := Lib.hid ((Fresh.row (B := 0) hr (by omega) hxl.symm).ints (by omega) (hbo.ints hp6))
      have htg := Lib.hid (tr_good (off := off) (ds := ds1) (ss := ss1) HM1.out (by rw [hl1.out, ← HPL.out]; exact hbo))
      have htu := Lib.hid (HTu.out xs hbk)
      have bq := Lib.hid (bW1.out.trans (hb.out.mono bW1.out.size))
      have xa2 := Lib.hid (xa.out.below hb.out)
      have xv2 := Lib.hid (xv.out.below hb.out)
      obtain ⟨y0, y1, y2⟩ := box3_cells xa2.out
      clear hx hr hbk hbo hkl hrow HB0 c2' hW2 hmk
      go_wp2_with fail
      refine (transpose_any (J1.out.below hb.out) (J2.out.below hb.out) iq.out).mono ?_
      rintro e w3 ⟨B3, h3⟩
      rw [htg.out, htu.out.1, htu.out.2] at h3
      rcases h3 with ⟨hne, _⟩ | ⟨_, d3, s3, rfl, g1, g2⟩
      · exact absurd rfl hne
      have k1 := Lib.hid (g1.ints hd.out.wf.1 hd.out.wf.2)
      have k2 := Lib.hid (g2.ints hs.out.wf.1 hs.out.wf.2)
      have bA3 := Lib.hid (hb.out.trans (B3.mono hb.out.size))
      have b3 := Lib.hid (bq.out.trans (B3.mono bq.out.size))
      have xa3 := Lib.hid (xa2.out.below B3)
      have xv3 := Lib.hid (xv2.out.below B3)
      clear B3 g1 g2 y0 y1 y2 htg htu iq
      obtain ⟨a7, c7, rfl⟩ := k1.out.form
      obtain ⟨a8, c8, rfl⟩ := k2.out.form
      obtain ⟨W3, hW3⟩ : ∃ W3, Hid (w3.alloc (.cells #[.int .i64 off, .slice a7 ds.length c7, .slice a8 ss.length c8] 24) = W3) := ⟨_, Lib.hid rfl⟩
      have e3 : Hid (Below w3.heap.size w3 W3) := Lib.hid (by rw [← hW3.out]; exact (Below.refl _ w3).alloc (Nat.le_refl _) _)
      have xb := Lib.hid (show Box3 W3 w3.heap.size (.int .i64 off) (.slice a7 ds.length c7) (.slice a8 ss.length c8) by rw [← hW3.out]; exact Box3.new w3 _ _ _)
      have xv4 := Lib.hid (xv3.out.below e3.out)
      have xa4 := Lib.hid (xa3.out.below e3.out)
      have bA4 := Lib.hid (bA3.out.trans (e3.out.mono bA3.out.size))
      have b4 := Lib.hid (b3.out.trans (e3.out.mono b3.out.size))
      have K1 := Lib.hid (k1.out.below e3.out)
      have K2 := Lib.hid (k2.out.below e3.out)
      obtain ⟨y0, y1, y2⟩ := box3_cells xv4.out
      obtain ⟨t0, t1, t2⟩ := box3_cells xb.out
      rw [← hW3.out] at y0 y1 y2 t0 t1 t2
      go_wp2_with fail
      rw [hW3.out]
      clear y0 y1 y2 t0 t1 t2
      refine (same_any K1.out K2.out (hd.out.below b4.out) (hs.out.below b4.out)).mono ?_
      rw [sameV_refl]
      rintro e w5 ⟨rfl, B5⟩
      have b5 := Lib.hid (b4.out.trans (B5.mono b4.out.size))
      have bA5 := Lib.hid (bA4.out.trans (B5.mono bA4.out.size))
      have xv5 := Lib.hid (xv4.out.below B5)
      have xa5 := Lib.hid (xa4.out.below B5)
      clear B5 xv4 xa4 xv3 xa3 xa2 xv2 xb K1 K2 k1 k2 hW3 e3 b3 b4 bA3 bA4
      obtain ⟨y0, y1, y2⟩ := box3_cells xa5.out
      go_wp2_with fail
      refine (transpose_any (J1.out.below bA5.out) (J2.out.below bA5.out) (hq.out.below b5.out)).mono ?_
      rintro e w6 ⟨B6, h6⟩
      have b6 := Lib.hid (b5.out.trans (B6.mono b5.out.size))
      have xv6 := Lib.hid (xv5.out.below B6)
      clear B6 y0 y1 y2
      rcases h6 with ⟨hne, rfl⟩ | ⟨h0, d6, s6, rfl, g1, g2⟩
      · generalize (trO off ds1 ss1 qs).1 = cc at hne ⊢
        have hb1 : (cc != 0) = true := by simpa using hne
        have b7 : Hid (Below w.heap.size w (w6.alloc (.cells #[.int .i64 0, .slice none 0 0, .slice none 0 0] 24))) := Lib.hid (b6.out.alloc b6.out.size _)
        clear hne
        go_wp2_with fail
        refine (live_from b7).mono ?_
        rintro e w7 ⟨rfl, b8⟩
        go_wp2_with fail
        go_ret
        exact ⟨rfl, b8.out⟩
      obtain ⟨hm, ho⟩ := tr_ok h0
      have HOq := Lib.hid ho
      have hql : Hid (qs.length = ds.length) := Lib.hid (by rw [← hl1.out]; exact ord_length ho)
      have hq6 : qs.length ≤ 6 := by rw [hql.out]; exact hn6
      have hoq : Hid (Ord qs ds.length) := Lib.hid (by rw [← hl1.out]; exact ho)
      rw [tr_good hm ho] at g1 g2 ⊢
      have j12 := out_ints (ds := ds1) (ss := ss1) J1.out.wf.2 J2.out.wf.2 hq6 g1 g2
      have hD2 := (HBo.out qs hoq.out).1
      have hS2 := (HBo.out qs hoq.out).2
      have k1 := Lib.hid j12.1
      have k2 := Lib.hid j12.2
      have htg := Lib.hid (tr_good (off := off) HM.out (both_ord HO.out hoq.out))
      have hbo := Lib.hid (both_ord HO.out hoq.out)
      rw [hD2, hS2] at htg
      clear hm ho h0 g1 g2 j12 hD2 hS2 HBo HTu
      generalize (qs.map fun q => ds1.getD q.toNat 0) = ds2 at *
      generalize (qs.map fun q => ss1.getD q.toNat 0) = ss2 at *
      obtain ⟨a7, c7', rfl⟩ := k1.out.form
      obtain ⟨a8, c8', rfl⟩ := k2.out.form
      obtain ⟨W6, hW6⟩ : ∃ W6, Hid (w6.alloc (.cells #[.int .i64 off, .slice a7 ds2.length c7', .slice a8 ss2.length c8'] 24) = W6) := ⟨_, Lib.hid rfl⟩
      have e6 : Hid (Below w6.heap.size w6 W6) := Lib.hid (by rw [← hW6.out]; exact (Below.refl _ w6).alloc (Nat.le_refl _) _)
      have xc := Lib.hid (show Box3 W6 w6.heap.size (.int .i64 off) (.slice a7 ds2.length c7') (.slice a8 ss2.length c8') by rw [← hW6.out]; exact Box3.new w6 _ _ _)
      have zW6 : Hid (W6.heap.size = w6.heap.size + 1) := Lib.hid (by rw [← hW6.out]; simp)
      have xv7 := Lib.hid (xv6.out.below e6.out)
      have b7 := Lib.hid (b6.out.trans (e6.out.mono b6.out.size))
      have K1 := Lib.hid (k1.out.below e6.out)
      have K2 := Lib.hid (k2.out.below e6.out)
      have hmk := run_make_ints W6 qs.length (by omega)
      obtain ⟨W7, hW7⟩ : ∃ W7, Hid (W6.alloc (.cells (intCells (List.replicate qs.length 0)) 3) = W7) := ⟨_, Lib.hid rfl⟩
      have hrow : Hid (RowAt W7 (w6.heap.size + 1) (List.replicate qs.length 0)) := Lib.hid (by rw [← hW7.out, ← zW6.out]; exact RowAt.new W6 _)
      have e7 : Hid (Below W6.heap.size W6 W7) := Lib.hid (by rw [← hW7.out]; exact (Below.refl _ W6).alloc (Nat.le_refl _) _)
      have HB0 : Hid (BothTo ps qs 0 (List.replicate qs.length 0)) := Lib.hid (both_zero ps qs)
      have HRq := Lib.hid hq.out.rows.2
      rw [← hW6.out] at hmk
      go_wp2_with fail
      rw [hW6.out, hW7.out]
      go_loopw [16] (fun i wr => ∃ k : Nat, k ≤ qs.length ∧ i = .int .i64 (k : Int) ∧ Hid (∃ xs, RowAt wr (w6.heap.size + 1) xs ∧ BothTo ps qs k xs) ∧ Hid (Below W6.heap.size W6 wr)) (fun i _ => qs.length - (intOf i).toNat)
      case atStart => exact ⟨0, Nat.zero_le _, rfl, Lib.hid ⟨_, hrow.out, HB0.out⟩, e7⟩
      case round =>
        obtain ⟨k, hk, rfl, hx, hb⟩ := hrel
        obtain ⟨ys, hr, hbk⟩ := hx.out
        by_cases hkl : k < qs.length
        · have hki : (k : Int) < (qs.length : Int) := by omega
          have bw := Lib.hid (b7.out.trans (hb.out.mono b7.out.size))
          obtain ⟨b, o, rfl, hbb, hrd⟩ := HRq.out k hkl
          have hcx := (bw.out.cell (p := ⟨b, o + k, none⟩) hbb).trans (hrd k hkl)
          have hat := hoq.out.at (show k < ds.length by rw [← hql.out]; exact hkl)
          obtain ⟨p, hpx⟩ : ∃ p : Nat, qs.getD k 0 = (p : Int) := ⟨(qs.getD k 0).toNat, by omega⟩
          rw [hpx] at hcx hat
          have hpn : p < ps.length := by rw [HPL.out]; omega
          have hpi : (p : Int) < (ps.length : Int) := by omega
          obtain ⟨bp, op, rfl, hbp, hrp⟩ := HR.out p hpn
          have hcp := (bw.out.cell (p := ⟨bp, op + p, none⟩) hbp).trans (hrp p hpn)
          have hcell := hr.cell (j := k) (by rw [bothTo_len hbk]; exact hkl)
          have hfz := hr.frozen k
          have hst := hbk.step hkl
          rw [hpx, Int.toNat_natCast] at hst
          have HST := Lib.hid hst
          generalize ps.getD p 0 = x at *
          have hset : Hid (RowAt (wr.setCell ⟨w6.heap.size + 1, k, none⟩ (.int .i64 x)) (w6.heap.size + 1) (ys.set k x)) := Lib.hid (hr.set k _)
          have hbs : Hid (Below W6.heap.size W6 (wr.setCell ⟨w6.heap.size + 1, k, none⟩ (.int .i64 x))) := Lib.hid (hb.out.setCell (p := ⟨w6.heap.size + 1, k, none⟩) (by rw [zW6.out]; exact Nat.le_refl _) _)
          clear hx hr hbk hpx hat hst
          go_wp2
          go_roundw
          case rel => exact ⟨k + 1, by omega, by go_num, Lib.hid ⟨_, hset.out, HST.out⟩, hbs⟩
          case measure => simp [intOf]; omega
        · obtain rfl : k = qs.length := by omega
          have hyl := bothTo_len hbk
          have hall := hbk.all
          subst hall
          have iq : Hid (IntsIn wr (.slice (some ⟨w6.heap.size + 1, 0, none⟩) qs.length qs.length) (both ps qs)) := Lib.hid ((Fresh.row (B := 0) hr (by omega) hyl.symm).ints (by omega) (hbo.out.ints hn6))
          have bw := Lib.hid (b7.out.trans (hb.out.mono b7.out.size))
          have xv8 := Lib.hid (xv7.out.below hb.out)
          have xc8 := Lib.hid (xc.out.below hb.out)
          have K3 := Lib.hid (K1.out.below hb.out)
          have K4 := Lib.hid (K2.out.below hb.out)
          obtain ⟨y0, y1, y2⟩ := box3_cells xv8.out
          clear hx hr hbk hkl hrow HB0 e7 hW7 hmk hyl
          go_wp2_with fail
          refine (transpose_any (hd.out.below bw.out) (hs.out.below bw.out) iq.out).mono ?_
          rintro e w9 ⟨B9, h9⟩
          rw [htg.out] at h9
          rcases h9 with ⟨hne, _⟩ | ⟨_, d9, s9, rfl, g1, g2⟩
          · exact absurd rfl hne
          have m1 := Lib.hid (g1.ints k1.out.wf.1 k1.out.wf.2)
          have m2 := Lib.hid (g2.ints k2.out.wf.1 k2.out.wf.2)
          have b9 := Lib.hid (bw.out.trans (B9.mono bw.out.size))
          have xc9 := Lib.hid (xc8.out.below B9)
          have K5 := Lib.hid (K3.out.below B9)
          have K6 := Lib.hid (K4.out.below B9)
          clear B9 g1 g2 y0 y1 y2 iq
          obtain ⟨a9, c9, rfl⟩ := m1.out.form
          obtain ⟨a10, c10, rfl⟩ := m2.out.form
          obtain ⟨W9, hW9⟩ : ∃ W9, Hid (w9.alloc (.cells #[.int .i64 off, .slice a9 ds2.length c9, .slice a10 ss2.length c10] 24) = W9) := ⟨_, Lib.hid rfl⟩
          have e9 : Hid (Below w9.heap.size w9 W9) := Lib.hid (by rw [← hW9.out]; exact (Below.refl _ w9).alloc (Nat.le_refl _) _)
          have xd := Lib.hid (show Box3 W9 w9.heap.size (.int .i64 off) (.slice a9 ds2.length c9) (.slice a10 ss2.length c10) by rw [← hW9.out]; exact Box3.new w9 _ _ _)
          have xc10 := Lib.hid (xc9.out.below e9.out)
          have b10 := Lib.hid (b9.out.trans (e9.out.mono b9.out.size))
          have K7 := Lib.hid (K5.out.below e9.out)
          have K8 := Lib.hid (K6.out.below e9.out)
          have M1 := Lib.hid (m1.out.below e9.out)
          have M2 := Lib.hid (m2.out.below e9.out)
          obtain ⟨y0, y1, y2⟩ := box3_cells xc10.out
          obtain ⟨t0, t1, t2⟩ := box3_cells xd.out
          rw [← hW9.out] at y0 y1 y2 t0 t1 t2
          go_wp2_with fail
          rw [hW9.out]
          clear y0 y1 y2 t0 t1 t2
          refine (same_any K7.out K8.out M1.out M2.out).mono ?_
          rw [sameV_refl]
          rintro e w11 ⟨rfl, B11⟩
          have b11 := Lib.hid (b10.out.trans (B11.mono b10.out.size))
          clear B11
          go_wp2_with fail
          refine (live_from b11).mono ?_
          rintro e w12 ⟨rfl, b12⟩
          go_wp2_with fail
          go_ret
          exact ⟨rfl, b12.out⟩

end Go.Proofs.Ytfdafceolkmkoaa
