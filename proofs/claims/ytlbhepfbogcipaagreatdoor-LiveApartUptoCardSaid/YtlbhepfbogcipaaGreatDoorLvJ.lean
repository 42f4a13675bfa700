/- The walk of the law LiveApart. -/
import Derived.Test.YtlbhepfbogcipaaGreatDoorLvM1
import Derived.Test.YtlbhepfbogcipaaGreatDoorLvM2
set_option linter.unusedVariables false
set_option linter.unusedSimpArgs false
namespace Go.Proofs.YtlbhepfbogcipaaGreatDoor
open Go.RowKit

set_option maxRecDepth 100000
attribute [local irreducible] orderE orderL work hasS namesG picked sortedL rdsL befB befC readsL rowQ doneB apartB apartE apartX widthP

set_option maxHeartbeats 4000000 in
theorem lapart_any {w : World} {v : Value} {g : Gr} (a b : Int) (h : GraphV w v g) (ha : InI a) (hb : InI b) (hG : Glob w) :
    Calls Tryz.prog 4 #[v, .int .i64 a, .int .i64 b] w fun e w' => e = .returned (.bool true) ∧ Below w.heap.size w w' := by
  have HS := Lib.hid (fun (W : World) (v : Value) (h : GraphV W v g) => lsmall_any h)
  have HA := Lib.hid (fun (W : World) (v : Value) (h : GraphV W v g) (hG : Glob W) => apart_any (a := a) (b := b) h hG ha hb)
  have HRA := Lib.hid (fun (W : World) (v : Value) (h : GraphV W v g) => rapart_any (a := a) (b := b) h ha hb)
  have HW1 := Lib.hid (fun (W : World) (nm : ByteArray) (t : Int) (d : List Int) (vd : Value) (h : IntsIn W vd d) => lwidth_any nm t d h)
  have HW2 := Lib.hid (fun (W : World) (nm : ByteArray) (t : Int) (d : List Int) (vd : Value) (h : IntsIn W vd d) => rwidth_any nm t d h)
  have HL := Lib.hid (fun (W : World) (hG : Glob W) => lalive_any hG)
  obtain ⟨vn, vi, vo, vt, rfl, hg⟩ := h
  obtain ⟨an, cn, rfl⟩ := hg.nodes.form
  obtain ⟨ai, ci, rfl⟩ := hg.ins.form
  obtain ⟨ao, co, rfl⟩ := hg.outs.form
  obtain ⟨at', ct, rfl⟩ := hg.inits.form
  have hlo := hg.outs.len
  have HN := Lib.hid hg
  have HGl := Lib.hid hG
  clear hg hG
  unfold Gr.val
  go_enter Tryz.func4, Tryz.ntmps4
  go_wp2_with fail
  have hB2 : Hid (Below w.heap.size w (w.alloc (Obj.cells #[Value.string g.name, .slice an g.nodes.length cn, .slice ai g.ins.length ci, .slice ao g.outs.length co, .slice at' g.inits.length ct] 26))) := Lib.hid ((Below.refl _ _).alloc (Nat.le_refl _) _)
  have hA2 : Hid (BoxN (w.alloc (Obj.cells #[Value.string g.name, .slice an g.nodes.length cn, .slice ai g.ins.length ci, .slice ao g.outs.length co, .slice at' g.inits.length ct] 26)) w.heap.size #[Value.string g.name, .slice an g.nodes.length cn, .slice ai g.ins.length ci, .slice ao g.outs.length co, .slice at' g.inits.length ct] 26) := Lib.hid (BoxN.new _ _ _)
  generalize w.alloc _ = W2 at hB2 hA2 ⊢
  have HB2 : Hid (Below w.heap.size w W2) := hB2
  have hGV : Hid (∀ W, Below W2.heap.size W2 W → GraphV W (.agg #[Value.string g.name, .slice an g.nodes.length cn, .slice ai g.ins.length ci, .slice ao g.outs.length co, .slice at' g.inits.length ct]) g) := Lib.hid fun W hW => ⟨_, _, _, _, rfl, HN.out.below (HB2.out.trans (hW.mono HB2.out.size))⟩
  refine (HS.out _ _ (hGV.out W2 (Below.refl _ _))).mono ?_
  rintro e w3 ⟨rfl, B3⟩
  have HB3 : Hid (Below W2.heap.size W2 w3) := Lib.hid B3
  have HG3 : Hid (Glob w3) := Lib.hid (HGl.out.below (HB2.out.trans (B3.mono HB2.out.size)))
  clear B3 HS
  generalize (decide (g.nodes.length ≤ 30) && decide (g.ins.length + g.inits.length + g.outs.length ≤ 60)) = sm
  obtain ⟨k0, k1, k2, k3, k4⟩ := (hA2.out.below' HB3.out).fiveG
  cases sm with
  | false =>
    go_wp2_with fail
    refine (HL.out _ HG3.out).mono ?_
    rintro e w6 ⟨rfl, B6⟩
    go_wp2
    go_ret
    exact ⟨rfl, HB2.out.trans ((HB3.out.trans (B6.mono HB3.out.size)).mono HB2.out.size)⟩
  | true =>
    go_wp2_with fail
    clear k0 k1 k2 k3 k4
    refine (HA.out _ _ (hGV.out w3 HB3.out) HG3.out).mono ?_
    rintro e w4 ⟨rfl, B4⟩
    have HB4 : Hid (Below W2.heap.size W2 w4) := Lib.hid (HB3.out.trans (B4.mono HB3.out.size))
    have HG4 : Hid (Glob w4) := Lib.hid (HG3.out.below B4)
    clear B4
    obtain ⟨k0, k1, k2, k3, k4⟩ := (hA2.out.below' HB4.out).fiveG
    go_wp2_with fail
    clear k0 k1 k2 k3 k4
    refine (HRA.out _ _ (hGV.out w4 HB4.out)).mono ?_
    rintro e w5 ⟨rfl, B5⟩
    have HB5 : Hid (Below W2.heap.size W2 w5) := Lib.hid (HB4.out.trans (B5.mono HB4.out.size))
    have HG5 : Hid (Glob w5) := Lib.hid (HG4.out.below B5)
    clear B5 HG3 HG4 HB3 HB4 HA HRA hGV
    generalize apartX g a b = x
    generalize apartE g a b = ea
    have hxx : (x == x) = true := by simp
    have hee : (ea == ea) = true := by simp
    go_wp2_with fail
    go_loopw [11] (fun i wr => ∃ k : Nat, k ≤ g.outs.length ∧ i = .int .i64 (k : Int) ∧ Hid (Below w5.heap.size w5 wr)) (fun i _ => g.outs.length - (intOf i).toNat)
    case atStart => exact ⟨0, Nat.zero_le _, rfl, Lib.hid (Below.refl _ _)⟩
    case round =>
      obtain ⟨k, hk, rfl, hW⟩ := hrel
      have hBW : Hid (Below W2.heap.size W2 wr) := Lib.hid (HB5.out.trans (hW.out.mono HB5.out.size))
      obtain ⟨k0, k1, k2, k3, k4⟩ := (hA2.out.below' hBW.out).fiveG
      by_cases hkl : k < g.outs.length
      · have hki : (k : Int) < (g.outs.length : Int) := by omega
        have hk0 : ¬ (k : Int) < 0 := by omega
        obtain ⟨v, hv⟩ : ∃ v, g.outs[k]? = some v := ⟨_, List.getElem?_eq_getElem hkl⟩
        obtain ⟨bo, oo, co', vd, hvo, hbo, co0, co1, co2, h1, h2, h3⟩ := value_at HN.out.outs hv
        obtain ⟨rfl, -, -⟩ := Value.slice.inj hvo
        obtain ⟨ad, cd, rfl⟩ := h3.shape
        have hww : Hid (∀ W, Below wr.heap.size wr W → Below w.heap.size w W) := Lib.hid fun W h => HB2.out.trans ((hBW.out.trans (h.mono hBW.out.size)).mono HB2.out.size)
        have HC0 : Hid (∀ W, Below wr.heap.size wr W → W.cell? ⟨bo, oo + k * 3, none⟩ = some (.string v.name) ∧ W.cell? ⟨bo, oo + k * 3 + 1, none⟩ = some (.int .i64 v.typ) ∧ W.cell? ⟨bo, oo + k * 3 + 2, none⟩ = some (.slice ad v.dims.length cd)) := Lib.hid fun W h => ⟨((hww.out W h).cell (p := ⟨bo, oo + k * 3, none⟩) hbo).trans co0, ((hww.out W h).cell (p := ⟨bo, oo + k * 3 + 1, none⟩) hbo).trans co1, ((hww.out W h).cell (p := ⟨bo, oo + k * 3 + 2, none⟩) hbo).trans co2⟩
        have H3 := Lib.hid h3
        clear hv hvo co0 co1 co2 h3
        obtain ⟨c0, c1, c2⟩ := HC0.out wr (Below.refl _ _)
        go_wp2_with fail
        clear c0 c1 c2 k0 k1 k2 k3 k4
        refine (HW1.out _ v.name v.typ v.dims _ (H3.out.below (hww.out _ (Below.refl _ _)))).mono ?_
        rintro e w7 ⟨rfl, B7⟩
        have HB7 := Lib.hid B7
        obtain ⟨c0, c1, c2⟩ := HC0.out w7 B7
        obtain ⟨k0, k1, k2, k3, k4⟩ := (hA2.out.below' (hBW.out.trans (B7.mono hBW.out.size))).fiveG
        clear B7
        go_wp2_with fail
        clear c0 c1 c2 k0 k1 k2 k3 k4
        refine (HW2.out _ v.name v.typ v.dims _ (H3.out.below (hww.out _ HB7.out))).mono ?_
        rintro e w8 ⟨rfl, B8⟩
        have HW8 : Hid (Below w5.heap.size w5 w8) := Lib.hid (hW.out.trans ((HB7.out.trans (B8.mono HB7.out.size)).mono hW.out.size))
        clear B8 HB7 HC0 H3
        generalize (widthP v.typ v.dims).1 = p1
        generalize (widthP v.typ v.dims).2 = p2
        have hp1 : (p1 != p1) = false := by simp
        have hp2 : (p2 != p2) = false := by simp
        go_wp2_with fail
        go_roundw
        case rel => exact ⟨k + 1, by omega, by go_num, HW8⟩
        case measure => simp [intOf]; omega
      · have hki : ¬ (k : Int) < (g.outs.length : Int) := by omega
        go_wp2_with fail
        refine (HL.out _ (HG5.out.below hW.out)).mono ?_
        rintro e w6 ⟨rfl, B6⟩
        go_wp2
        go_ret
        exact ⟨rfl, HB2.out.trans ((hBW.out.trans (B6.mono hBW.out.size)).mono HB2.out.size)⟩

end Go.Proofs.YtlbhepfbogcipaaGreatDoor

