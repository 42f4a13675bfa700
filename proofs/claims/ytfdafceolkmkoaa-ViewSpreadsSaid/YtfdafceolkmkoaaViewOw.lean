/- The walk of mandrellaw04.ViewOnce. -/
import Derived.Test.YtfdafceolkmkoaaViewOp
import Derived.Deep.RegionHeld3
import Derived.Laws.OwnMore
set_option linter.unusedVariables false
namespace Go.Proofs.Ytfdafceolkmkoaa
open Go.RowKit Vw

theorem getD_inI {zs : List Int} (h : ∀ z ∈ zs, InI z) (j : Nat) : InI (zs.getD j 0) := by
  by_cases hj : j < zs.length
  · exact h _ (getD_mem hj)
  · rw [List.getD, List.getElem?_eq_none (by omega)]; constructor <;> decide

theorem info_bool : (Try.prog.info? 4).map (fun i => (i.zero, i.size, i.bytes)) = some (some (.bool false), 1, 1) := by kernel_rfl

/-- Of the numbers below n those that are not met yet. -/
def NotMet (l : List Int) (n k : Nat) (xs : List Value) : Prop := xs.length = n ∧ ∀ j, j < n → (∀ i, i < k → l.getD i 0 ≠ (j : Int)) → xs[j]? = some (.bool false)

theorem NotMet.step {l : List Int} {n k p : Nat} {xs : List Value} (h : NotMet l n k xs) (hp : l.getD k 0 = (p : Int)) : NotMet l n (k + 1) (xs.set p (.bool true)) := by
  refine ⟨by rw [List.length_set]; exact h.1, fun j hj hi => ?_⟩
  have hne : p ≠ j := fun e => hi k (by omega) (by rw [hp, e])
  rw [List.getElem?_set_ne hne]
  exact h.2 j hj fun i hik => hi i (by omega)

theorem NotMet.get {l : List Int} {n k p : Nat} {xs : List Value} (h : NotMet l n k xs) (hp : p < n) (hn : ∀ i, i < k → l.getD i 0 ≠ (p : Int)) : xs[p]? = some (.bool false) := h.2 p hp hn

/-- live, behind whatever. -/
theorem live_from {w W : World} (hb : Hid (Below w.heap.size w W)) : Calls Try.prog 20 #[] W fun e w' => e = .returned (.bool true) ∧ Hid (Below w.heap.size w w') := (live_any _).mono fun e w' h => ⟨h.1, Lib.hid (hb.out.trans (h.2.mono hb.out.size))⟩

attribute [local irreducible] mayV cnt strd readL upto wholeO trO pr sortI rng NotMet

set_option maxRecDepth 100000 in
set_option maxHeartbeats 4000000 in
theorem once_walk {w : World} (d : Value) (ds : List Int) (pv : Value) (ps : List Int) (hd : Hid (IntsIn w d ds)) (hp : Hid (IntsIn w pv ps)) :
    Calls Try.prog 7 #[d, pv] w fun e w' => e = .returned (.bool true) ∧ Below w.heap.size w w' := by
  obtain ⟨i0, hi, hz0, hz1, hz2⟩ := info_parts info_bool
  obtain ⟨a1, c1, rfl⟩ := hd.out.form
  obtain ⟨a2, c2, rfl⟩ := hp.out.form
  have HC := Lib.hid (rcount_any hd.out)
  go_enter Try.func7, Try.ntmps7
  go_wp2_with fail
  refine HC.out.mono ?_
  rintro e w1 ⟨rfl, rfl⟩
  have b0 : Hid (Below w.heap.size w w) := Lib.hid (Below.refl _ _)
  by_cases hc : (cnt ds).2 = 0
  rotate_left
  · generalize (cnt ds).2 = ce at *
    have hb : (ce != 0) = true := by simpa using hc
    clear hc
    go_wp2_with fail
    refine (live_from b0).mono ?_
    rintro e w2 ⟨rfl, b2⟩
    go_wp2_with fail
    go_ret
    exact ⟨rfl, b2.out⟩
  have hg := cnt_good hc
  have HPs := Lib.hid (cnt_pos hc)
  have HG := Lib.hid hg
  have HC := Lib.hid hc
  obtain ⟨n, hn⟩ : ∃ n : Nat, Hid (pr ds = (n : Int)) := ⟨(pr ds).toNat, Lib.hid (by have := pr_pos HPs.out; omega)⟩
  have hcn : cnt ds = ((n : Int), 0) := Prod.ext (by rw [hg.2.2.1, hn.out]) hc
  rw [hcn]
  clear hcn hc hg
  by_cases h2000 : 2000 < n
  · have hb : (2000 : Int) < (n : Int) := by omega
    go_wp2_with fail
    refine (live_from b0).mono ?_
    rintro e w2 ⟨rfl, b2⟩
    go_wp2_with fail
    go_ret
    exact ⟨rfl, b2.out⟩
  have hb0 : ¬ (2000 : Int) < (n : Int) := by omega
  have hn6 : n ≤ 65536 := by omega
  go_wp2_with fail
  refine (whole_any hd.out).mono ?_
  rintro e w1 ⟨B1, h1⟩
  have b1 : Hid (Below w.heap.size w w1) := Lib.hid B1
  clear B1
  have hO : wholeO ds = (0, 0, ds, strd ds) := by unfold wholeO; rw [if_pos HC.out]
  rw [hO] at h1
  rcases h1 with ⟨hne, _⟩ | ⟨_, dv, sv, rfl, g1, g2⟩
  · exact absurd rfl hne
  clear hO
  have i1 := Lib.hid (g1.ints hd.out.wf.1 hd.out.wf.2)
  have i2 : Hid (IntsIn w1 sv (strd ds)) := Lib.hid (g2.ints (by rw [strd_length]; exact hd.out.wf.1) fun z hz => by have := strd_mem HPs.out hz; have := HG.out.2.2.2; constructor <;> omega)
  clear g1 g2
  obtain ⟨a3, c3, rfl⟩ := i1.out.form
  obtain ⟨a4, c4, rfl⟩ := i2.out.form
  obtain ⟨W2, hW2⟩ : ∃ W2, Hid (w1.alloc (.cells #[.int .i64 0, .slice a3 ds.length c3, .slice a4 (strd ds).length c4] 24) = W2) := ⟨_, Lib.hid rfl⟩
  have b2 : Hid (Below w1.heap.size w1 W2) := Lib.hid (by rw [← hW2.out]; exact (Below.refl _ w1).alloc (Nat.le_refl _) _)
  have x2 : Hid (Box3 W2 w1.heap.size (.int .i64 0) (.slice a3 ds.length c3) (.slice a4 (strd ds).length c4)) := Lib.hid (by rw [← hW2.out]; exact Box3.new w1 _ _ _)
  have b3 : Hid (Below w.heap.size w W2) := Lib.hid (b1.out.trans (b2.out.mono b1.out.size))
  have I1 := Lib.hid (i1.out.below b2.out)
  have I2 := Lib.hid (i2.out.below b2.out)
  obtain ⟨y0, y1, y2⟩ := box3_cells x2.out
  go_wp2_with fail
  rw [hW2.out]
  go_wp2_with fail
  refine (transpose_any I1.out I2.out (hp.out.below b3.out)).mono ?_
  rintro e w3 ⟨B3, h3⟩
  have b4 : Hid (Below w.heap.size w w3) := Lib.hid (b3.out.trans (B3.mono b3.out.size))
  clear B3 y0 y1 y2 hW2
  have HT : Hid ((trO 0 ds (strd ds) ps).1 ≠ 0 ∨ (trO 0 ds (strd ds) ps = (0, 0, ps.map fun p => ds.getD p.toNat 0, ps.map fun p => (strd ds).getD p.toNat 0) ∧ sortI ps = rng ps.length ∧ ps.length = ds.length)) := Lib.hid (by
    unfold trO
    rw [if_neg (by rw [whole_may HC.out]; decide)]
    by_cases h : sortI ps = rng ps.length ∧ ps.length = ds.length
    · rw [if_pos h]; exact Or.inr ⟨rfl, h⟩
    · rw [if_neg h]; exact Or.inl (by decide))
  rcases h3 with ⟨hne, rfl⟩ | ⟨h0, d', s', rfl, g1, g2⟩
  · generalize (trO 0 ds (strd ds) ps).1 = cc at hne ⊢
    have hb1 : (cc != 0) = true := by simpa using hne
    have b5 : Hid (Below w.heap.size w (w3.alloc (.cells #[.int .i64 0, .slice none 0 0, .slice none 0 0] 24))) := Lib.hid (b4.out.alloc b4.out.size _)
    clear hne HT
    go_wp2_with fail
    refine (live_from b5).mono ?_
    rintro e w4 ⟨rfl, b6⟩
    go_wp2_with fail
    go_ret
    exact ⟨rfl, b6.out⟩
  obtain ⟨hO, hs1, hs2⟩ := HT.out.resolve_left (fun h => h h0)
  rw [hO] at g1 g2 ⊢
  obtain ⟨l, hl, hl2, hl3, hl4⟩ := once_law HC.out hn.out hs1 hs2
  have HL := Lib.hid hl
  have HL3 := Lib.hid hl3
  have HL4 := Lib.hid hl4
  have j1 := Lib.hid (g1.ints (by simp; have := hd.out.wf.1; omega) (fun z hz => by
    obtain ⟨p, _, rfl⟩ := List.mem_map.1 hz
    exact getD_inI hd.out.wf.2 _))
  have j2 := Lib.hid (g2.ints (by simp; have := hd.out.wf.1; omega) (fun z hz => by
    obtain ⟨p, _, rfl⟩ := List.mem_map.1 hz
    exact getD_inI i2.out.wf.2 _))
  clear hl hl3 hl4 hO h0 HT g1 g2
  generalize (ps.map fun p => ds.getD p.toNat 0) = ds' at *
  generalize (ps.map fun p => (strd ds).getD p.toNat 0) = ss' at *
  obtain ⟨a5, c5, rfl⟩ := j1.out.form
  obtain ⟨a6, c6, rfl⟩ := j2.out.form
  obtain ⟨W3, hW3⟩ : ∃ W3, Hid (w3.alloc (.cells #[.int .i64 0, .slice a5 ds'.length c5, .slice a6 ss'.length c6] 24) = W3) := ⟨_, Lib.hid rfl⟩
  have b5 : Hid (Below w3.heap.size w3 W3) := Lib.hid (by rw [← hW3.out]; exact (Below.refl _ w3).alloc (Nat.le_refl _) _)
  have x5 : Hid (Box3 W3 w3.heap.size (.int .i64 0) (.slice a5 ds'.length c5) (.slice a6 ss'.length c6)) := Lib.hid (by rw [← hW3.out]; exact Box3.new w3 _ _ _)
  have b6 : Hid (Below w.heap.size w W3) := Lib.hid (b4.out.trans (b5.out.mono b4.out.size))
  have J1 := Lib.hid (j1.out.below b5.out)
  have J2 := Lib.hid (j2.out.below b5.out)
  go_wp2_with fail
  rw [hW3.out]
  obtain ⟨y0, y1, y2⟩ := box3_cells x5.out
  go_region_held3 (fun w' => w'.cell? ⟨w3.heap.size, 0, none⟩ = some (.int .i64 0) ∧ w'.cell? ⟨w3.heap.size, 1, none⟩ = some (.slice a5 ds'.length c5) ∧ w'.cell? ⟨w3.heap.size, 2, none⟩ = some (.slice a6 ss'.length c6)) (go_keep) (first | (go_at_call 25; refine (numbers_any n hn6 _).mono ?_; rintro e w4 ⟨B4, v, rfl, r4, i4⟩; have X3 := Lib.hid (x5.out.drew.below B4); obtain ⟨t0, t1, t2⟩ := box3_cells X3.out; have BB := Lib.hid ((Below.refl _ W3).drew.trans B4); have J4 := Lib.hid i4; clear B4 r4 i4) | (go_at_call 21; refine (read0_any (J1.out.below BB.out) (J2.out.below BB.out) J4.out).mono ?_; rintro e w5 ⟨B5, k5, l5, av5, n5, rfl, il5, hn5, hrow5, hR5⟩; have X5 := Lib.hid (X3.out.below B5); obtain ⟨u0, u1, u2⟩ := box3_cells X5.out; have BC := Lib.hid (BB.out.trans (B5.mono BB.out.size)); have I5 := Lib.hid il5; have HR5 := Lib.hid hR5; clear B5 il5 hn5 hrow5 hR5) | fail)
  have hkl : k5 = 0 ∧ l5 = l := by
    rcases HR5.out with ⟨h1, h2⟩ | ⟨h1, h2⟩
    · rw [HL.out] at h2; exact ⟨h1, (Option.some.inj h2).symm⟩
    · rw [HL.out] at h2; exact absurd h2 (by simp)
  obtain ⟨rfl, rfl⟩ := hkl
  obtain ⟨a7, c7, rfl⟩ := I5.out.form
  have b7 : Hid (Below w.heap.size w w5) := Lib.hid (b6.out.trans (BC.out.mono b6.out.size))
  have HR := Lib.hid I5.out.rows.2
  clear t0 t1 t2 u0 u1 u2 y0 y1 y2
  rw [hl2] at I5 ⊢
  obtain ⟨W6, hmk, hown, hgr⟩ := run_make_full (P := Try.prog) w5 w5.heap.size 44 4 i0 (.bool false) 1 Try.underlying44 hi hz0 hz1 .i64 .i64 n (by rw [hz2]; omega) (by unfold maxLen; omega) (Nat.le_refl _)
  have b8 : Hid (Below w.heap.size w W6) := Lib.hid (b7.out.grown hgr b7.out.size (fun g hg => by cases hg))
  have b9 : Hid (Below w5.heap.size w5 W6) := Lib.hid ((Below.refl _ w5).grown hgr (Nat.le_refl _) (fun g hg => by cases hg))
  have HOw := Lib.hid hown
  have HN0 : Hid (NotMet l5 n 0 (madeCells #[.bool false] (n * 1)).toList) := Lib.hid (by
    unfold NotMet
    rw [toList_madeCells_one]
    exact ⟨by simp, fun j hj _ => by simp [hj]⟩)
  clear hown hgr
  go_wp2_with fail
  go_loopw [14] (fun i wr => ∃ k : Nat, k ≤ n ∧ i = .int .i64 (k : Int) ∧ Hid (∃ xs : List Value, wr.ownsRow w5.heap.size 4 1 (.slice (some ⟨w5.heap.size, 0, none⟩) n n) n xs ∧ NotMet l5 n k xs) ∧ Hid (Below w5.heap.size w5 wr)) (fun i _ => n - (intOf i).toNat)
  case atStart => exact ⟨0, Nat.zero_le _, rfl, Lib.hid ⟨_, HOw.out, HN0.out⟩, b9⟩
  case round =>
    obtain ⟨k, hk, rfl, hx, hb⟩ := hrel
    by_cases hkl : k < n
    · have hki : (k : Int) < (n : Int) := by omega
      obtain ⟨xs, hxs, hnm⟩ := hx.out
      obtain ⟨b, o, rfl, hbb, hr⟩ := HR.out k (by omega)
      have hcx := (hb.out.cell (p := ⟨b, o + k, none⟩) hbb).trans (hr k (by omega))
      have hrg := HL3.out k hkl
      obtain ⟨p, hpx⟩ : ∃ p : Nat, l5.getD k 0 = (p : Int) := ⟨(l5.getD k 0).toNat, by omega⟩
      rw [hpx] at hcx
      have hpn : p < n := by omega
      have hpi : (p : Int) < (n : Int) := by omega
      have hg := hnm.get hpn (fun i hik e => by have := HL4.out i k (by omega) hkl (by rw [e, hpx]); omega)
      have hcell := (hxs.cellAt p (by omega)).trans hg
      have hfz := hxs.frozenAt p
      have hst : Hid ((wr.setCell ⟨w5.heap.size, p, none⟩ (.bool true)).ownsRow w5.heap.size 4 1 (.slice (some ⟨w5.heap.size, 0, none⟩) n n) n (xs.set p (.bool true))) := Lib.hid (hxs.stored p _).1
      have hbs : Hid (Below w5.heap.size w5 (wr.setCell ⟨w5.heap.size, p, none⟩ (.bool true))) := Lib.hid (hb.out.setCell (p := ⟨w5.heap.size, p, none⟩) (Nat.le_refl _) _)
      have hns := Lib.hid (hnm.step hpx)
      clear hxs hx hg hrg hnm hpx
      go_wp2
      go_roundw
      case rel => exact ⟨k + 1, by omega, by go_num, Lib.hid ⟨_, hst.out, hns.out⟩, hbs⟩
      case measure => simp [intOf]; omega
    · have b10 := Lib.hid (b7.out.trans (hb.out.mono b7.out.size))
      go_wp2_with fail
      refine (live_from b10).mono ?_
      rintro e w7 ⟨rfl, b11⟩
      go_wp2_with fail
      go_ret
      exact ⟨rfl, b11.out⟩

end Go.Proofs.Ytfdafceolkmkoaa
