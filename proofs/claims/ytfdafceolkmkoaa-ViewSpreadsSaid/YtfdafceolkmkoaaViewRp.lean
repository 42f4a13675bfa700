/- The walks of the reference's Whole, plain, Reshape. -/
import Derived.Test.YtfdafceolkmkoaaViewRt
import Derived.Test.YtfdafceolkmkoaaViewCp
import Derived.Test.YtfdafceolkmkoaaViewRg
import Derived.Deep.RegionHeld3
import Derived.BigQuiet
import Derived.Deep.QuietTactic
set_option linter.unusedVariables false
namespace Go.Proofs.Ytfdafceolkmkoaa
open Go.RowKit Vw

attribute [local irreducible] cnt strd

set_option maxHeartbeats 1000000 in
theorem rwhole_any {w : World} {v : Value} {zs : List Int} (h : IntsIn w v zs) : Calls Try.prog 17 #[v] w (ViewOut w (wholeO zs)) := by
  obtain ⟨a1, c1, rfl⟩ := h.form
  have hA : Below w.heap.size w (w.alloc (.cells #[.int .i64 0, .slice none 0 0, .slice none 0 0] 24)) := (Below.refl _ w).alloc (Nat.le_refl _) _
  have HS := Lib.hid (rstrides_any (h.below hA))
  have hbox : Hid ((w.alloc (.cells #[.int .i64 0, .slice none 0 0, .slice none 0 0] 24)).heap[w.heap.size]? = some (.cells #[.int .i64 0, .slice none 0 0, .slice none 0 0] 24 (0, 0))) := Lib.hid (World.alloc_heap_new w _)
  have HA := Lib.hid hA
  have HI := Lib.hid (h.below hA)
  clear hA
  go_enter Try.func17, Try.ntmps17
  go_wp2_with fail
  refine HS.out.mono ?_
  rintro e w1 ⟨hB1, (⟨hne, rfl⟩ | ⟨he, s, rfl, hf⟩)⟩
  · have hb1 : Box3 w1 w.heap.size (.int .i64 0) (.slice none 0 0) (.slice none 0 0) := (Box3.new w _ _ _).below hB1
    have k0 := hb1.c0
    have k1 := hb1.c1
    have k2 := hb1.c2
    have f0 := hb1.frozen 0
    have f1 := hb1.frozen 1
    have f2 := hb1.frozen 2
    generalize hcc : (cnt zs).2 = cc at *
    have hO : Hid (wholeO zs = (cc, 0, [], [])) := Lib.hid (by unfold wholeO; rw [hcc, if_neg hne])
    have hp : Hid (Box3 (put3 w1 w.heap.size (.int .i64 0) (.slice none 0 0) (.slice none 0 0)) w.heap.size (.int .i64 0) (.slice none 0 0) (.slice none 0 0)) := Lib.hid (hb1.put _ _ _)
    have hbl : Hid (Below w.heap.size w (put3 w1 w.heap.size (.int .i64 0) (.slice none 0 0) (.slice none 0 0))) := Lib.hid (below_put (HA.out.trans (hB1.mono (by simp))) (Nat.le_refl _))
    have hNE := Lib.hid hne
    clear hb1 hcc
    have hcb : (cc != 0) = true := by simpa using hne
    go_wp2
    have c0 := hp.out.c0
    have c1' := hp.out.c1
    have c2 := hp.out.c2
    unfold put3 at c0 c1' c2
    exact bodyPost_ret (v := .tuple #[.agg #[.int .i64 0, .slice none 0 0, .slice none 0 0], .int .i64 cc]) (by simp [results, Try.f17, go_sem, c0, c1', c2]) rfl ⟨hbl.out, by rw [hO.out]; exact Or.inl ⟨hNE.out, rfl⟩⟩
  · have hO : Hid (wholeO zs = (0, 0, zs, strd zs)) := Lib.hid (by unfold wholeO; rw [if_pos he])
    have HC := Lib.hid (rcopy_any (HI.out.below hB1))
    have hb1 := Lib.hid ((Box3.new w (.int .i64 0) (.slice none 0 0) (.slice none 0 0)).below hB1)
    have hF := Lib.hid hf
    obtain ⟨av, cs, rfl⟩ := hf.form
    have HB1 := Lib.hid hB1
    clear hf hB1 he
    go_wp2_with fail
    refine HC.out.mono ?_
    rintro e w2 ⟨d, rfl, hfd, hB2⟩
    obtain ⟨ad, cd, rfl⟩ := hfd.form
    have hb2 := hb1.out.below hB2
    have k0 := hb2.c0
    have k1 := hb2.c1
    have k2 := hb2.c2
    have f0 := hb2.frozen 0
    have f1 := hb2.frozen 1
    have f2 := hb2.frozen 2
    have hp : Hid (Box3 (put3 w2 w.heap.size (.int .i64 0) (.slice ad zs.length cd) (.slice av (strd zs).length cs)) w.heap.size (.int .i64 0) (.slice ad zs.length cd) (.slice av (strd zs).length cs)) := Lib.hid (hb2.put _ _ _)
    have hz1 : w.heap.size < w1.heap.size := by have := HB1.out.size; simp at this; omega
    have hz2 : w1.heap.size ≤ w2.heap.size := hB2.size
    have hbl : Hid (Below w.heap.size w (put3 w2 w.heap.size (.int .i64 0) (.slice ad zs.length cd) (.slice av (strd zs).length cs))) := Lib.hid (below_put ((HA.out.trans (HB1.out.mono (by simp))).trans (hB2.mono (by omega))) (Nat.le_refl _))
    have hd2 : Hid (Fresh w.heap.size (put3 w2 w.heap.size (.int .i64 0) (.slice ad zs.length cd) (.slice av (strd zs).length cs)) (.slice ad zs.length cd) zs) := Lib.hid (hfd.put (by omega) (by omega))
    have hs2 : Hid (Fresh w.heap.size (put3 w2 w.heap.size (.int .i64 0) (.slice ad zs.length cd) (.slice av (strd zs).length cs)) (.slice av (strd zs).length cs) (strd zs)) := Lib.hid ((hF.out.below hB2).put (B' := w.heap.size) (by simp) (by simp))
    clear hb2 hfd hB2
    go_wp2
    have c0 := hp.out.c0
    have c1' := hp.out.c1
    have c2 := hp.out.c2
    have hbl2 := hbl.out
    have hd3 := hd2.out
    have hs3 := hs2.out
    unfold put3 at c0 c1' c2 hbl2 hd3 hs3
    exact bodyPost_ret (v := .tuple #[.agg #[.int .i64 0, .slice ad zs.length cd, .slice av (strd zs).length cs], .int .i64 0]) (by simp [results, Try.f17, go_sem, c0, c1', c2]) rfl ⟨hbl2, by rw [hO.out]; exact Or.inr ⟨rfl, _, _, rfl, hd3, hs3⟩⟩


theorem may_cnt {off : Int} {ds ss : List Int} (h : mayV off ds ss = true) : (cnt ds).2 = 0 := by simp [mayV] at h; exact h.1.1.1.1
theorem plTo_zero (ds ss : List Int) : PlTo ds ss 0 := fun j hj => absurd hj (by omega)
theorem plTo_at {ds ss : List Int} {n k : Nat} (h : PlTo ds ss n) (hk : k < n) : ds.getD k 0 = 1 ∨ ss.getD k 0 = (strd ds).getD k 0 := h k hk

attribute [local irreducible] mayV PlTo

set_option maxRecDepth 100000 in
set_option maxHeartbeats 2000000 in
theorem rplain_any {w : World} (off : Int) (d s : Value) (ds ss : List Int) (hd : IntsIn w d ds) (hs : IntsIn w s ss) (hl : Hid (ss.length = ds.length)) (hc : Hid ((cnt ds).2 = 0)) :
    Calls Try.prog 42 #[.agg #[.int .i64 off, d, s]] w fun e w' => e = .returned (.bool (decide (PlTo ds ss ds.length))) ∧ Below w.heap.size w w' := by
  obtain ⟨a1, c1, rfl⟩ := hd.form
  obtain ⟨a2, c2, rfl⟩ := hs.form
  have H1 := Lib.hid hd.rows.2
  have H2 := Lib.hid hs.rows.2
  obtain ⟨W0, hW0⟩ : ∃ W0, Hid (w.alloc (.cells #[.int .i64 off, .slice a1 ds.length c1, .slice a2 ss.length c2] 24) = W0) := ⟨_, Lib.hid rfl⟩
  have b0 : Hid (Below w.heap.size w W0) := Lib.hid (by rw [← hW0.out]; exact (Below.refl _ w).alloc (Nat.le_refl _) _)
  have x0 : Hid (Box3 W0 w.heap.size (.int .i64 off) (.slice a1 ds.length c1) (.slice a2 ss.length c2)) := Lib.hid (by rw [← hW0.out]; exact Box3.new w _ _ _)
  have HS := Lib.hid (rstrides_any (hd.below b0.out))
  have hg := cnt_good hc.out
  have hlen := hg.2.1
  have hsi : Hid (∀ z ∈ strd ds, InI z) := Lib.hid (fun z hz => by have := strd_mem (cnt_pos hc.out) hz; have := hg.2.2.2; constructor <;> omega)
  clear hd hs hg
  obtain ⟨y0, y1, y2⟩ := box3_cells x0.out
  rw [← hW0.out] at y0 y1 y2
  go_enter Try.func42, Try.ntmps42
  go_wp2_with fail
  rw [hW0.out]
  refine HS.out.mono ?_
  rintro e w1 ⟨B1, (⟨hne, _⟩ | ⟨_, v, rfl, hf⟩)⟩
  · exact absurd hc.out hne
  have b1 := Lib.hid (b0.out.trans (B1.mono b0.out.size))
  have x1 := Lib.hid (x0.out.below B1)
  have iv := Lib.hid (hf.ints (by rw [strd_length]; omega) hsi.out)
  clear B1 hf y0 y1 y2
  obtain ⟨a3, c3, rfl⟩ := iv.out.form
  have H3 := Lib.hid iv.out.rows.2
  rw [show (strd ds).length = ds.length from strd_length]
  obtain ⟨y0, y1, y2⟩ := box3_cells x1.out
  go_wp2_with fail
  go_loopw [5] (fun i wr => ∃ k : Nat, k ≤ ds.length ∧ i = .int .i64 (k : Int) ∧ Hid (PlTo ds ss k) ∧ Hid (Below w1.heap.size w1 wr)) (fun i _ => ds.length - (intOf i).toNat)
  case atStart => exact ⟨0, Nat.zero_le _, rfl, Lib.hid (plTo_zero ds ss), Lib.hid (Below.refl _ _)⟩
  case round =>
    obtain ⟨k, hk, rfl, hpl, hb⟩ := hrel
    by_cases hkl : k < ds.length
    · obtain ⟨bd, od, e1, hbd, hrd⟩ := H1.out k hkl
      obtain ⟨bs, os, e2, hbs, hrs⟩ := H2.out k (by rw [hl.out]; exact hkl)
      obtain ⟨bq, oq, e3, hbq, hrq⟩ := H3.out k (by rw [strd_length]; exact hkl)
      subst e1 e2 e3
      have bw := Lib.hid (b1.out.trans (hb.out.mono b1.out.size))
      have x1c := (bw.out.cell (p := ⟨bd, od + k, none⟩) hbd).trans (hrd k hkl)
      have x2c := (bw.out.cell (p := ⟨bs, os + k, none⟩) hbs).trans (hrs k (by rw [hl.out]; exact hkl))
      have x3c := (hb.out.cell (p := ⟨bq, oq + k, none⟩) hbq).trans (hrq k (by rw [strd_length]; exact hkl))
      have xb := Lib.hid (x1.out.below hb.out)
      clear y0 y1 y2
      obtain ⟨y0, y1, y2⟩ := box3_cells xb.out
      have hnx := Lib.hid (fun g => plTo_next (k := k) hpl.out g)
      have hno : Hid (¬ (ds.getD k 0 = 1 ∨ ss.getD k 0 = (strd ds).getD k 0) → ¬ PlTo ds ss ds.length) := Lib.hid (fun g h => g (plTo_at h hkl))
      have hki : (k : Int) < (ds.length : Int) := by omega
      have hki2 : (k : Int) < (ss.length : Int) := by rw [hl.out]; exact hki
      generalize ds.getD k 0 = d1 at *
      generalize ss.getD k 0 = s1 at *
      generalize (strd ds).getD k 0 = q1 at *
      by_cases g1 : d1 = 1
      · have b1' : (d1 != 1) = false := by simp [g1]
        have NX := Lib.hid (hnx.out (Or.inl g1))
        clear g1
        go_wp2
        go_quiet (fail)
        go_wp2
        go_roundw
        case rel => exact ⟨k + 1, by omega, by go_num, NX, Lib.hid (below_drewN hb.out _)⟩
        case measure => simp [intOf]; omega
      · have b1' : (d1 != 1) = true := by simpa using g1
        by_cases g2 : s1 = q1
        · have b2 : (s1 != q1) = false := by simp [g2]
          have NX := Lib.hid (hnx.out (Or.inr g2))
          clear g1 g2
          go_wp2
          go_quiet (fail)
          go_wp2
          go_roundw
          case rel => exact ⟨k + 1, by omega, by go_num, NX, Lib.hid (below_drewN hb.out _)⟩
          case measure => simp [intOf]; omega
        · have b2 : (s1 != q1) = true := by simpa using g2
          have NO := Lib.hid (hno.out (fun h => h.elim g1 g2))
          clear g1 g2
          go_wp2
          go_quiet (fail)
          go_wp2
          go_ret
          exact ⟨ret_val (bool_val (decide_eq_false NO.out).symm), below_drewN bw.out _⟩
    · obtain rfl : k = ds.length := by omega
      have xb := Lib.hid (x1.out.below hb.out)
      clear y0 y1 y2
      obtain ⟨y0, y1, y2⟩ := box3_cells xb.out
      have bw := Lib.hid (b1.out.trans (hb.out.mono b1.out.size))
      go_wp2
      go_ret
      exact ⟨ret_val (bool_val (decide_eq_true hpl.out).symm), bw.out⟩

end Go.Proofs.Ytfdafceolkmkoaa
