/- The walk of mandrellaw04.ViewReads. -/
import Derived.Test.YtfdafceolkmkoaaViewCp
set_option linter.unusedVariables false
namespace Go.Proofs.Ytfdafceolkmkoaa
open Go.RowKit Vw

attribute [local irreducible] mayV cnt readL

set_option maxRecDepth 100000 in
set_option maxHeartbeats 4000000 in
theorem reads_law {w : World} (off : Int) (d s : Value) (ds ss : List Int) (dv : Value) (data : List Int) (hd : Hid (IntsIn w d ds)) (hs : Hid (IntsIn w s ss)) (hdat : Hid (IntsIn w dv data)) :
    Calls Try.prog 4 #[.agg #[.int .i64 off, d, s], dv] w fun e w' => e = .returned (.bool true) ∧ Below w.heap.size w w' := by
  obtain ⟨i0, hi, hz0, hz1, hz2⟩ := info_parts info_int64
  obtain ⟨a1, c1, rfl⟩ := hd.out.form
  obtain ⟨a2, c2, rfl⟩ := hs.out.form
  obtain ⟨a3, c3, rfl⟩ := hdat.out.form
  obtain ⟨W0, hW0⟩ : ∃ W0, Hid (w.alloc (.cells #[.int .i64 off, .slice a1 ds.length c1, .slice a2 ss.length c2] 24) = W0) := ⟨_, Lib.hid rfl⟩
  have b0 : Hid (Below w.heap.size w W0) := Lib.hid (by rw [← hW0.out]; exact (Below.refl _ w).alloc (Nat.le_refl _) _)
  have x0 : Hid (Box3 W0 w.heap.size (.int .i64 off) (.slice a1 ds.length c1) (.slice a2 ss.length c2)) := Lib.hid (by rw [← hW0.out]; exact Box3.new w _ _ _)
  have HT := Lib.hid (hdat.out.below b0.out)
  go_enter Try.func4, Try.ntmps4
  go_wp2_with (at_builtin; rw [hW0.out]; refine wpList_append_copy rfl _ _ 34 rfl 2 i0 (.int .i64 0) Try.underlying34 hi hz0 hz1 hz2 rfl rfl _ data rfl HT.out ?_)
  intro v' w1 h1 h2
  have b1 : Hid (Below w.heap.size w w1) := Lib.hid (b0.out.trans (h2.mono b0.out.size))
  have x1 := Lib.hid (x0.out.below h2)
  have io : Hid (IntsIn w1 v' data) := Lib.hid (IntsIn.of_owns h1 HT.out.wf.1 HT.out.wf.2)
  clear h1 h2
  obtain ⟨a4, c4, rfl⟩ := io.out.form
  obtain ⟨y0, y1, y2⟩ := box3_cells x1.out
  go_wp2_with fail
  refine (read_any (hd.out.below b1.out) (hs.out.below b1.out) io.out).mono ?_
  rintro e w2 ⟨B2, h2⟩
  have b2 : Hid (Below w.heap.size w w2) := Lib.hid (b1.out.trans (B2.mono b1.out.size))
  have x2 := Lib.hid (x1.out.below B2)
  have io2 := Lib.hid (io.out.below B2)
  have BW2 := Lib.hid B2
  clear y0 y1 y2 B2
  obtain ⟨y0, y1, y2⟩ := box3_cells x2.out
  rcases h2 with ⟨l, va, hl, rfl, hrow⟩ | ⟨hl, rfl⟩
  · have HL := Lib.hid hl
    have hm := read_mem hl
    have ia : Hid (IntsIn w2 va l) := Lib.hid (IntsIn.of_owns hrow (by omega) (fun z hz => by rcases hm.2 z hz with h | rfl; exact hdat.out.wf.2 z h; constructor <;> omega))
    have hown := Lib.hid hrow
    have hll : l.length ≤ 65536 := hm.1
    clear hl hrow hm
    obtain ⟨a5, c5, rfl⟩ := ia.out.form
    go_wp2_with fail
    refine (rread_any (hd.out.below b2.out) (hs.out.below b2.out) (hdat.out.below b2.out)).mono ?_
    rintro e w3 ⟨B3, h3⟩
    rw [HL.out] at h3
    rcases h3 with ⟨l2, vb, hl2, rfl, ib'⟩ | ⟨h, _⟩
    rotate_left
    · exact absurd h (by simp)
    obtain rfl : l = l2 := Option.some.inj hl2
    have ib := Lib.hid ib'
    have b3 : Hid (Below w.heap.size w w3) := Lib.hid (b2.out.trans (B3.mono b2.out.size))
    have io3 := Lib.hid (io2.out.below B3)
    have ia3 := Lib.hid (ia.out.below B3)
    have hown3 := Lib.hid (owns_below hown.out B3)
    have BW3 := Lib.hid (BW2.out.trans (B3.mono BW2.out.size))
    clear B3 ib' hl2 y0 y1 y2
    obtain ⟨a6, c6, rfl⟩ := ib.out.form
    go_wp2_with fail
    refine (sameData_any ia3.out ib.out).mono ?_
    rintro e w4 ⟨he, B4⟩
    rw [decide_eq_true rfl] at he
    subst he
    have b4 : Hid (Below w.heap.size w w4) := Lib.hid (b3.out.trans (B4.mono b3.out.size))
    have io4 := Lib.hid (io3.out.below B4)
    have hown4 := Lib.hid (owns_below hown3.out B4)
    have BW4 := Lib.hid (BW3.out.trans (B4.mono BW3.out.size))
    clear B4
    go_wp2_with fail
    go_loopw [10] (fun i wr => ∃ k : Nat, k ≤ l.length ∧ i = .int .i64 (k : Int) ∧ Hid (∃ xs : List Value, wr.ownsRow w1.heap.size 2 1 (.slice a5 l.length c5) l.length xs) ∧ Hid (Below w1.heap.size w1 wr)) (fun i _ => l.length - (intOf i).toNat)
    case atStart => exact ⟨0, Nat.zero_le _, rfl, Lib.hid ⟨_, hown4.out⟩, BW4⟩
    case round =>
      obtain ⟨k, hk, rfl, hx, hb⟩ := hrel
      by_cases hkl : k < l.length
      · have hki : (k : Int) < (l.length : Int) := by omega
        obtain ⟨xs, hxs⟩ := hx.out
        have hxs' := hxs
        obtain ⟨hxl, h | ⟨g, cap, cur, he, hbg, hrest⟩⟩ := hxs'
        · have := h.2; omega
        simp only [Value.slice.injEq, true_and] at he
        obtain ⟨rfl, rfl⟩ := he
        clear hrest
        have hcell := hxs.cellAt k (by omega)
        rw [List.getElem?_eq_getElem (show k < xs.length by omega)] at hcell
        have hfz := hxs.frozenAt k
        obtain ⟨x, hx1⟩ : ∃ x, wr.cell? ⟨g, k, none⟩ = some x := ⟨_, hcell⟩
        have hst : Hid ((wr.setCell ⟨g, k, none⟩ (.int .i64 (-7))).ownsRow w1.heap.size 2 1 (.slice (some ⟨g, 0, none⟩) l.length c5) l.length (xs.set k (.int .i64 (-7)))) := Lib.hid (hxs.stored k _).1
        have hbs : Hid (Below w1.heap.size w1 (wr.setCell ⟨g, k, none⟩ (.int .i64 (-7)))) := Lib.hid (hb.out.setCell (p := ⟨g, k, none⟩) hbg _)
        clear hcell hxs hx hxl hbg
        go_wp2
        go_roundw
        case rel => exact ⟨k + 1, by omega, by go_num, Lib.hid ⟨_, hst.out⟩, hbs⟩
        case measure => simp [intOf]; omega
      · have iq := Lib.hid (io.out.below hb.out)
        have bq := Lib.hid (b1.out.trans (hb.out.mono b1.out.size))
        have it := Lib.hid (hdat.out.below bq.out)
        go_wp2_with fail
        refine (sameData_any iq.out it.out).mono ?_
        rintro e w6 ⟨he, B6⟩
        rw [decide_eq_true rfl] at he
        subst he
        have b6 := Lib.hid (bq.out.trans (B6.mono bq.out.size))
        clear B6
        go_wp2_with fail
        refine (live_any _).mono ?_
        rintro e w7 ⟨rfl, B7⟩
        have b7 := Lib.hid (b6.out.trans (B7.mono b6.out.size))
        clear B7
        go_wp2_with fail
        go_ret
        exact ⟨rfl, b7.out⟩
  · have HL := Lib.hid hl
    clear hl
    go_wp2_with fail
    refine (rread_any (hd.out.below b2.out) (hs.out.below b2.out) (hdat.out.below b2.out)).mono ?_
    rintro e w3 ⟨B3, h3⟩
    rw [HL.out] at h3
    rcases h3 with ⟨l2, vb, hl2, _⟩ | ⟨_, rfl⟩
    · exact absurd hl2 (by simp)
    have b3 : Hid (Below w.heap.size w w3) := Lib.hid (b2.out.trans (B3.mono b2.out.size))
    have io3 := Lib.hid (io2.out.below B3)
    clear B3 y0 y1 y2
    go_wp2_with fail
    refine (sameData_any (IntsIn.empty (w := w3) none 0) (IntsIn.empty (w := w3) none 0)).mono ?_
    rintro e w4 ⟨he, B4⟩
    rw [decide_eq_true rfl] at he
    subst he
    have b4 : Hid (Below w.heap.size w w4) := Lib.hid (b3.out.trans (B4.mono b3.out.size))
    have io4 := Lib.hid (io3.out.below B4)
    clear B4
    go_wp2_with fail
    refine wp_loop_rounds 1 ?_
    rw [rounds_succ]
    go_wp2_with fail
    refine (sameData_any io4.out (hdat.out.below b4.out)).mono ?_
    rintro e w6 ⟨he, B6⟩
    rw [decide_eq_true rfl] at he
    subst he
    have b6 := Lib.hid (b4.out.trans (B6.mono b4.out.size))
    clear B6
    go_wp2_with fail
    refine (live_any _).mono ?_
    rintro e w7 ⟨rfl, B7⟩
    have b7 := Lib.hid (b6.out.trans (B7.mono b6.out.size))
    clear B7
    go_wp2_with fail
    go_ret
    exact ⟨rfl, b7.out⟩

end Go.Proofs.Ytfdafceolkmkoaa
