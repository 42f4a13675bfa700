/- The walk of the law LiveBefore. -/
import Derived.Test.YtlbhepfbogcipaaDoorLvY
set_option linter.unusedVariables false
set_option linter.unusedSimpArgs false
namespace Go.Proofs.YtlbhepfbogcipaaDoor
open Go.RowKit

theorem apart_before {g : Gr} {i j : Nat} (hij : i < j) (h : apartX g (i : Int) (j : Int) = true) : befB (sortedL g) i j = true := by
  unfold apartX at h
  split at h
  · unfold apartB at h
    rw [show min (i : Int).toNat (j : Int).toNat = i by omega, show max (i : Int).toNat (j : Int).toNat = j by omega] at h
    exact doneB_lt h
  · cases h

attribute [local irreducible] orderE orderL work hasS namesG picked sortedL rdsL befB doneB apartB apartE apartX

set_option maxRecDepth 100000 in
set_option maxHeartbeats 4000000 in
theorem lbefore_any {w : World} {v : Value} {g : Gr} (a b : Int) (h : GraphV w v g) (ha : InI a) (hb : InI b) (hG : Glob w) :
    Calls Tryd.prog 4 #[v, .int .i64 a, .int .i64 b] w fun e w' => e = .returned (.bool true) ∧ Below w.heap.size w w' := by
  have HS := Lib.hid (fun (W : World) (v : Value) (h : GraphV W v g) => lsmall_any h)
  have HB := Lib.hid (fun (W : World) (v : Value) (h : GraphV W v g) (hG : Glob W) => before_any h hG)
  have HA := Lib.hid (fun (W : World) (v : Value) (h : GraphV W v g) (hG : Glob W) => apart_any (a := a) (b := b) h hG ha hb)
  have HL := Lib.hid (fun (W : World) (hG : Glob W) => lalive_any hG)
  obtain ⟨vn, vi, vo, vt, rfl, hg⟩ := h
  obtain ⟨an, cn, rfl⟩ := hg.nodes.form
  obtain ⟨ai, ci, rfl⟩ := hg.ins.form
  obtain ⟨ao, co, rfl⟩ := hg.outs.form
  obtain ⟨at', ct, rfl⟩ := hg.inits.form
  have HN := Lib.hid hg
  have HGl := Lib.hid hG
  clear hg hG
  unfold Gr.val
  go_enter Tryd.func4, Tryd.ntmps4
  go_wp2_with fail
  have hB2 : Hid (Below w.heap.size w (w.alloc (Obj.cells #[Value.string g.name, .slice an g.nodes.length cn, .slice ai g.ins.length ci, .slice ao g.outs.length co, .slice at' g.inits.length ct] 26))) := Lib.hid ((Below.refl _ _).alloc (Nat.le_refl _) _)
  have hA2 : Hid (BoxN (w.alloc (Obj.cells #[Value.string g.name, .slice an g.nodes.length cn, .slice ai g.ins.length ci, .slice ao g.outs.length co, .slice at' g.inits.length ct] 26)) w.heap.size #[Value.string g.name, .slice an g.nodes.length cn, .slice ai g.ins.length ci, .slice ao g.outs.length co, .slice at' g.inits.length ct] 26) := Lib.hid (BoxN.new _ _ _)
  generalize w.alloc _ = W2 at hB2 hA2 ⊢
  have HB2 : Hid (Below w.heap.size w W2) := hB2
  have hGV : Hid (∀ W, Below W2.heap.size W2 W → GraphV W (.agg #[Value.string g.name, .slice an g.nodes.length cn, .slice ai g.ins.length ci, .slice ao g.outs.length co, .slice at' g.inits.length ct]) g) := Lib.hid fun W hW => ⟨_, _, _, _, rfl, HN.out.below (HB2.out.trans (hW.mono HB2.out.size))⟩
  refine (HS.out _ _ (hGV.out W2 (Below.refl _ _))).mono ?_
  rintro e w3 ⟨rfl, B3⟩
  have HB3 : Hid (Below W2.heap.size W2 w3) := Lib.hid B3
  have HG3 : Hid (Glob w3) := Lib.hid (HGl.out.below (HB2.out.trans (B3.mono HB2.out.size)))
  clear B3 HS
  generalize (decide (g.nodes.length ≤ 30) && decide (g.ins.length + g.inits.length + g.outs.length ≤ 60)) = sm
  obtain ⟨k0, k1, k2, k3, k4⟩ := (hA2.out.below' HB3.out).fiveG
  cases sm with
  | false =>
    go_wp2_with fail
    refine (HL.out _ HG3.out).mono ?_
    rintro e w6 ⟨rfl, B6⟩
    go_wp2
    go_ret
    exact ⟨rfl, HB2.out.trans ((HB3.out.trans (B6.mono HB3.out.size)).mono HB2.out.size)⟩
  | true =>
    by_cases hba : b ≤ a
    · go_wp2_with fail
      refine (HL.out _ HG3.out).mono ?_
      rintro e w6 ⟨rfl, B6⟩
      go_wp2
      go_ret
      exact ⟨rfl, HB2.out.trans ((HB3.out.trans (B6.mono HB3.out.size)).mono HB2.out.size)⟩
    have hab : ¬ b ≤ a := hba
    go_wp2_with fail
    clear k0 k1 k2 k3 k4
    refine (HA.out _ _ (hGV.out w3 HB3.out) HG3.out).mono ?_
    rintro e w4 ⟨rfl, B4⟩
    have HB4 : Hid (Below W2.heap.size W2 w4) := Lib.hid (HB3.out.trans (B4.mono HB3.out.size))
    have HG4 : Hid (Glob w4) := Lib.hid (HG3.out.below B4)
    clear B4
    have hx := apart_before (g := g) (i := a.toNat) (j := b.toNat)
    generalize hxx : apartX g a b = x
    generalize apartE g a b = ea
    have HXX := Lib.hid hxx
    have HX := Lib.hid hx
    clear hx hxx
    obtain ⟨k0, k1, k2, k3, k4⟩ := (hA2.out.below' HB4.out).fiveG
    go_wp2_with fail
    clear k0 k1 k2 k3 k4
    refine (HB.out _ _ (hGV.out w4 HB4.out) HG4.out).mono ?_
    rintro e w5 ⟨v5, rfl, B5, hc5⟩
    have HB5 : Hid (Below w.heap.size w w5) := Lib.hid (HB2.out.trans ((HB4.out.trans (B5.mono HB4.out.size)).mono HB2.out.size))
    have HG5 : Hid (Glob w5) := Lib.hid (HG4.out.below B5)
    clear B5 HG3 HG4 HB3 HB4 hGV hA2 HB2 hB2 HB HA HGl
    by_cases he : ea = 0
    · subst he
      rcases hc5 with ⟨h0, hT⟩ | ⟨hn, rfl⟩
      · rw [h0]
        have HT := Lib.hid hT
        clear hT h0
        obtain ⟨bt, rfl, hbt, ht⟩ := HT.out.rows
        have hnl := sortedL_le g
        generalize (sortedL g).length = n at *
        generalize befB (sortedL g) = F at *
        by_cases h0 : a < 0
        · go_wp2_with fail
          refine (HL.out _ HG5.out).mono ?_
          rintro e w6 ⟨rfl, B6⟩
          go_wp2
          go_ret
          exact ⟨rfl, HB5.out.trans (B6.mono HB5.out.size)⟩
        by_cases h1 : (n : Int) ≤ b
        · go_wp2_with fail
          refine (HL.out _ HG5.out).mono ?_
          rintro e w6 ⟨rfl, B6⟩
          go_wp2
          go_ret
          exact ⟨rfl, HB5.out.trans (B6.mono HB5.out.size)⟩
        obtain ⟨i, rfl⟩ : ∃ i : Nat, a = (i : Int) := ⟨a.toNat, by omega⟩
        obtain ⟨j, rfl⟩ : ∃ j : Nat, b = (j : Int) := ⟨b.toNat, by omega⟩
        have hi : i < n := by omega
        have hj : j < n := by omega
        have hi1 : (i : Int) < (n : Int) := by omega
        have hj1 : (j : Int) < (n : Int) := by omega
        obtain ⟨ri, c1, _, d1⟩ := ht i hi
        have d1j := d1 j hj
        have hF := HX.out
        rw [Int.toNat_natCast, Int.toNat_natCast, HXX.out] at hF
        have hF := Lib.hid (hF (by omega))
        clear d1 ht HT HXX HX
        cases x with
        | false =>
          go_wp2_with fail
          refine (HL.out _ HG5.out).mono ?_
          rintro e w6 ⟨rfl, B6⟩
          go_wp2
          go_ret
          exact ⟨rfl, HB5.out.trans (B6.mono HB5.out.size)⟩
        | true =>
          rw [hF.out rfl] at d1j
          clear hF
          go_wp2_with fail
          refine (HL.out _ HG5.out).mono ?_
          rintro e w6 ⟨rfl, B6⟩
          go_wp2
          go_ret
          exact ⟨rfl, HB5.out.trans (B6.mono HB5.out.size)⟩
      · have HN0 := Lib.hid hn
        clear hn
        generalize orderE g = ce at HN0 ⊢
        have hzb : (ce != 0) = true := by simpa using HN0.out
        go_wp2_with fail
        refine (HL.out _ HG5.out).mono ?_
        rintro e w6 ⟨rfl, B6⟩
        go_wp2
        go_ret
        exact ⟨rfl, HB5.out.trans (B6.mono HB5.out.size)⟩
    · have hzb : (ea != 0) = true := by simpa using he
      clear he
      obtain ⟨a5, n5, c5, rfl⟩ : ∃ a n c, v5 = .slice a n c := by
        rcases hc5 with ⟨_, hT⟩ | ⟨_, rfl⟩
        · obtain ⟨bt, rfl, _⟩ := hT.rows
          exact ⟨_, _, _, rfl⟩
        · exact ⟨_, _, _, rfl⟩
      clear hc5
      go_wp2_with fail
      refine (HL.out _ HG5.out).mono ?_
      rintro e w6 ⟨rfl, B6⟩
      go_wp2
      go_ret
      exact ⟨rfl, HB5.out.trans (B6.mono HB5.out.size)⟩

end Go.Proofs.YtlbhepfbogcipaaDoor

