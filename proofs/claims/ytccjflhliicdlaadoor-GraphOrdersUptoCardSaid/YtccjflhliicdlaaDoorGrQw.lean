/- The walk of the law GraphOrders. -/
import Derived.Test.YtccjflhliicdlaaDoorGrQ
import Derived.BigQuiet
import Derived.Deep.QuietTactic
set_option linter.unusedVariables false
set_option linter.unusedSimpArgs false
namespace Go.Proofs.YtccjflhliicdlaaDoor
open Go.RowKit

attribute [local irreducible] orderE orderL work rdrs atF hasS namesG

theorem bad_len {g : Gr} (h : orderE g ≠ 0) : (orderL g).length = 0 := by rw [orderL_bad rfl h]; rfl

set_option maxRecDepth 100000 in
set_option maxHeartbeats 4000000 in
theorem orderslaw_any {w : World} {v : Value} {g : Gr} (h : GraphV w v g) (hG : Glob w) :
    Calls Tryd.prog 4 #[v] w fun e w' => e = .returned (.bool true) ∧ Below w.heap.size w w' := by
  have hmb := run_make_intsG
  have HO := Lib.hid (fun (W : World) (vi : Value) (h : GraphV W vi g) (hG : Glob W) => order_any h hG)
  have HC := Lib.hid (fun (W : World) (vi : Value) (h : GraphV W vi g) (hG : Glob W) => gcheck_any h hG)
  have HL := Lib.hid (fun (W : World) (hG : Glob W) => glive_any hG)
  obtain ⟨vn, vi, vo, vt, rfl, hg⟩ := h
  obtain ⟨an, cn, rfl⟩ := hg.nodes.form
  have hln := hg.nodes.len
  have HN := Lib.hid hg
  have HGl := Lib.hid hG
  clear hg hG
  unfold Gr.val
  go_enter Tryd.func4, Tryd.ntmps4
  go_wp2_with fail
  have hB1 : Hid (Below w.heap.size w (w.alloc (Obj.cells #[Value.string g.name, .slice an g.nodes.length cn, vi, vo, vt] 26))) := Lib.hid ((Below.refl _ w).alloc (Nat.le_refl _) _)
  have hA1 := Lib.hid (BoxN.new w #[Value.string g.name, .slice an g.nodes.length cn, vi, vo, vt] 26)
  generalize w.alloc _ = W1 at hB1 hA1 ⊢
  have hGV : Hid (∀ W, Below W1.heap.size W1 W → GraphV W (.agg #[Value.string g.name, .slice an g.nodes.length cn, vi, vo, vt]) g) := Lib.hid fun W hW => ⟨_, _, _, _, rfl, HN.out.below (hB1.out.trans (hW.mono hB1.out.size))⟩
  refine (HO.out _ _ (hGV.out W1 (Below.refl _ _)) (HGl.out.below hB1.out)).mono ?_
  rintro e w5 ⟨v', rfl, ho, B5⟩
  have HW5 : Hid (Below W1.heap.size W1 w5) := Lib.hid B5
  have HR := Lib.hid ho
  clear B5 ho
  obtain ⟨al, cl, rfl⟩ := owns_form HR.out
  obtain ⟨k0, k1, k2, k3, k4⟩ := (hA1.out.below' HW5.out).fiveG
  generalize hce : orderE g = ce
  have HCE := Lib.hid hce
  clear hce
  by_cases hz : ce = 0
  · have hzb : (ce != 0) = false := by simpa using hz
    have HF := Lib.hid (fineG_of (HCE.out.trans hz))
    have hll : (orderL g).length = g.nodes.length := by rw [orderL_full (HCE.out.trans hz)]; exact HF.out.full
    have HOL : Hid (orderL g = work g) := Lib.hid (orderL_full (HCE.out.trans hz))
    have g1 := (great_iff.1 HF.out.great).1
    have hmk := hmb w5 g.nodes.length (by omega)
    rw [hll] at HR ⊢
    have hlb : ((g.nodes.length : Int) != (g.nodes.length : Int)) = false := by simp
    clear hll hz
    go_wp2_with fail
    clear hmk hmb k0 k1 k2 k3 k4
    have HI : Hid (IntsIn w5 (.slice al g.nodes.length cl) ((work g).map fun (i : Nat) => (i : Int))) := Lib.hid (by
      have h1 := HR.out
      rw [HOL.out] at h1
      have h2 := HF.out.full
      rw [← h2] at h1 ⊢
      exact nats_ints h1 (by omega) (fun i hi => by have := (work_good g).lt i hi; omega))
    have HB8 : Hid (Below w5.heap.size w5 (w5.alloc (.cells (intCs (List.replicate g.nodes.length 0)) 3))) := Lib.hid ((Below.refl _ _).alloc (Nat.le_refl _) _)
    have HD8 : Hid (RowI (w5.alloc (.cells (intCs (List.replicate g.nodes.length 0)) 3)) w5.heap.size (atF (work g) g.nodes.length 0)) := Lib.hid (by rw [show atF (work g) g.nodes.length 0 = List.replicate g.nodes.length 0 by unfold atF; rfl]; exact RowI.new _ _)
    have HA5 := Lib.hid (hA1.out.below' HW5.out)
    have HW : Hid (Below w.heap.size w w5) := Lib.hid (hB1.out.trans (HW5.out.mono hB1.out.size))
    generalize w5.alloc _ = W8 at HB8 HD8 ⊢
    clear HR hlb hzb HW5 hB1 hA1 hGV
    go_loopw [6] (fun i wr => ∃ (p : Nat), p ≤ g.nodes.length ∧ i = .int .i64 (p : Int) ∧ Hid (RowI wr w5.heap.size (atF (work g) g.nodes.length p)) ∧ Hid (Below w5.heap.size w5 wr)) (fun i _ => g.nodes.length - (intOf i).toNat)
    case atStart => exact ⟨0, Nat.zero_le _, rfl, HD8, HB8⟩
    case round =>
      clear HD8 HB8
      obtain ⟨p, hp, rfl, hD, hW⟩ := hrel
      by_cases hpl : p < g.nodes.length
      · have hpi : (p : Int) < (g.nodes.length : Int) := by omega
        have hpw : p < (work g).length := by rw [HF.out.full]; exact hpl
        obtain ⟨i, hi⟩ : ∃ i, (work g)[p]? = some i := ⟨_, List.getElem?_eq_getElem hpw⟩
        have hil : i < g.nodes.length := (work_good g).lt i (List.mem_of_getElem? hi)
        obtain ⟨b, off, cap, hv, hb, hr, _⟩ := HI.out.rows (k := p) (by rw [List.length_map]; exact hpw)
        obtain ⟨rfl, hle, rfl⟩ := Value.slice.inj hv
        have c0 := (hW.out.cell (p := ⟨b, off + p, none⟩) hb).trans (hr p (by rw [List.length_map]; exact hpw))
        have e0 : ((work g).map fun (i : Nat) => (i : Int)).getD p 0 = (i : Int) := by simp [List.getD, hi]
        rw [e0] at c0
        have d0 := hD.out.cell (j := i) (by rw [atF_len]; exact hil)
        rw [atF_new (work_good g).nodup hi] at d0
        have f0 := hD.out.frozen i
        have hi0 : ¬ (i : Int) < 0 := by omega
        have hi1 : (i : Int) < (g.nodes.length : Int) := by omega
        have HD2 : Hid (RowI (wr.setCell ⟨w5.heap.size, i, none⟩ (.int .i64 ((p : Int) + 1))) w5.heap.size (atF (work g) g.nodes.length (p + 1))) := Lib.hid (by rw [← atF_step hi]; exact hD.out.set i _)
        have HW2 : Hid (Below w5.heap.size w5 (wr.setCell ⟨w5.heap.size, i, none⟩ (.int .i64 ((p : Int) + 1)))) := Lib.hid (hW.out.setCell (p := ⟨w5.heap.size, i, none⟩) (Nat.le_refl _) _)
        clear hv hle hb hr e0 hi hpw
        go_wp2_with fail
        go_roundw
        case rel => exact ⟨p + 1, by omega, by go_num, HD2, HW2⟩
        case measure => simp [intOf]; omega
      · have hpi : ¬ (p : Int) < (g.nodes.length : Int) := by omega
        obtain rfl : p = g.nodes.length := by omega
        have HDn : Hid (RowI wr w5.heap.size (atF (work g) g.nodes.length (work g).length)) := Lib.hid (by rw [HF.out.full]; exact hD.out)
        have HAv := Lib.hid (HA5.out.below' hW.out)
        have HWv : Hid (Below w.heap.size w wr) := Lib.hid (HW.out.trans (hW.out.mono HW.out.size))
        clear hD hW HI
        go_wp2_with fail
        generalize hwq : wr = V at *
        clear hwq
        go_loopw [7] (fun i wr => ∃ (i' : Nat), i' ≤ g.nodes.length ∧ i = .int .i64 (i' : Int) ∧ Hid (Below V.heap.size V wr)) (fun i _ => g.nodes.length - (intOf i).toNat)
        case atStart => exact ⟨0, Nat.zero_le _, rfl, Lib.hid (Below.refl _ _)⟩
        case round =>
          obtain ⟨i, hi, rfl, hW⟩ := hrel
          have k1 := (HAv.out.below' hW.out).fiveG.2.1
          by_cases hil : i < g.nodes.length
          · have hii : (i : Int) < (g.nodes.length : Int) := by omega
            obtain ⟨ni, hni⟩ : ∃ n, g.nodes[i]? = some n := ⟨_, List.getElem?_eq_getElem hil⟩
            obtain ⟨b, off, cap, vd, vx, hv, hb, c0, c1, c2, c3, c4, h3, h4, h5, h6⟩ := node_at HN.out.nodes hni
            obtain ⟨rfl, hle, rfl⟩ := Value.slice.inj hv
            obtain ⟨ad, cd, rfl⟩ := h3.is.form
            have HC2 := Lib.hid c2
            have HI2 := Lib.hid h3.is
            have HNi := Lib.hid hni
            have hins := h3.is.len
            clear hle hv c0 c1 c2 c3 c4 h3 h4 h5 h6 hni
            go_wp2_with fail
            go_loopw [8] (fun i wr => ∃ (k : Nat), k ≤ g.nodes.length ∧ i = .int .i64 (k : Int) ∧ Hid (Below V.heap.size V wr)) (fun i _ => g.nodes.length - (intOf i).toNat)
            case atStart => exact ⟨0, Nat.zero_le _, rfl, hW⟩
            case round =>
              clear hW k1
              obtain ⟨k, hk, rfl, hW⟩ := hrel
              have k1 := (HAv.out.below' hW.out).fiveG.2.1
              by_cases hkl : k < g.nodes.length
              · have hki : (k : Int) < (g.nodes.length : Int) := by omega
                obtain ⟨nk, hnk⟩ : ∃ n, g.nodes[k]? = some n := ⟨_, List.getElem?_eq_getElem hkl⟩
                obtain ⟨b', off', cap', vd, vx, hv, hb', c0, c1, c2, c3, c4, h3, h4, h5, h6⟩ := node_at HN.out.nodes hnk
                obtain ⟨hv1, _, rfl⟩ := Value.slice.inj hv
                obtain ⟨rfl, rfl⟩ : b' = b ∧ off' = off := by simpa using hv1.symm
                have HC3 := Lib.hid c3
                have HNk := Lib.hid hnk
                clear hv hv1 c0 c1 c2 c3 c4 h3 h4 h5 h6 hnk
                go_wp2_with fail
                go_loopw [9] (fun i wr => ∃ (j : Nat), j ≤ ni.ins.length ∧ i = .int .i64 (j : Int) ∧ Hid (Below V.heap.size V wr)) (fun i _ => ni.ins.length - (intOf i).toNat)
                case atStart => exact ⟨0, Nat.zero_le _, rfl, hW⟩
                case round =>
                  clear hW k1
                  obtain ⟨j, hj, rfl, hW⟩ := hrel
                  have k1 := (HAv.out.below' hW.out).fiveG.2.1
                  have hBw := HWv.out.trans (hW.out.mono HWv.out.size)
                  have c2 := (hBw.cell (p := ⟨b', off' + i * 5 + 2, none⟩) hb').trans HC2.out
                  have c3 := (hBw.cell (p := ⟨b', off' + k * 5 + 3, none⟩) hb').trans HC3.out
                  by_cases hjl : j < ni.ins.length
                  · have hji : (j : Int) < (ni.ins.length : Int) := by omega
                    obtain ⟨s, hs⟩ : ∃ s, ni.ins[j]? = some s := ⟨_, List.getElem?_eq_getElem hjl⟩
                    obtain ⟨b2, off2, cap2, hv, hb2, hr2⟩ := HI2.out.rows j s hs
                    obtain ⟨rfl, hle, rfl⟩ := Value.slice.inj hv
                    have c5 := (hBw.cell (p := ⟨b2, off2 + j, none⟩) hb2).trans (hr2 j s hs)
                    have hlen := atF_len (work g) g.nodes.length (work g).length
                    have d1 := (hW.out.cell (p := ⟨w5.heap.size, i, none⟩) HDn.out.lt).trans (HDn.out.cell (j := i) (by rw [hlen]; exact hil))
                    have d2 := (hW.out.cell (p := ⟨w5.heap.size, k, none⟩) HDn.out.lt).trans (HDn.out.cell (j := k) (by rw [hlen]; exact hkl))
                    generalize hx1 : (atF (work g) g.nodes.length (work g).length).getD i 0 = x1 at d1
                    generalize hx2 : (atF (work g) g.nodes.length (work g).length).getD k 0 = x2 at d2
                    have HBF := Lib.hid (fun (h : nk.out ∈ ni.ins) => HF.out.before HNi.out HNk.out h)
                    rw [hx1, hx2] at HBF
                    have HSm := Lib.hid (List.mem_of_getElem? hs)
                    clear hx1 hx2 hle hv hr2 hs hlen hBw
                    by_cases he : s.toList = nk.out.toList
                    · have heb : (s.toList == nk.out.toList) = true := by simpa using he
                      have hlt : x2 < x1 := HBF.out (toList_inj he ▸ HSm.out)
                      have hnl : ¬ x1 ≤ x2 := by omega
                      go_wp2_with fail
                      go_quiet (fail)
                      go_wp2_with fail
                      go_roundw
                      case rel => exact ⟨j + 1, by omega, by go_num, Lib.hid (below_dN hW.out _)⟩
                      case measure => simp [intOf]; omega
                    · have heb : (s.toList == nk.out.toList) = false := by simpa using he
                      go_wp2_with fail
                      go_quiet (fail)
                      go_wp2_with fail
                      go_roundw
                      case rel => exact ⟨j + 1, by omega, by go_num, Lib.hid (below_dN hW.out _)⟩
                      case measure => simp [intOf]; omega
                  · have hji : ¬ (j : Int) < (ni.ins.length : Int) := by omega
                    go_wp2_with fail
                    go_roundw
                    case rel => exact ⟨k + 1, by omega, by go_num, hW⟩
                    case measure => simp [intOf]; omega
              · have hki : ¬ (k : Int) < (g.nodes.length : Int) := by omega
                go_wp2_with fail
                go_roundw
                case rel => exact ⟨i + 1, by omega, by go_num, hW⟩
                case measure => simp [intOf]; omega
          · have hii : ¬ (i : Int) < (g.nodes.length : Int) := by omega
            go_wp2_with fail
            have hBw := HWv.out.trans (hW.out.mono HWv.out.size)
            refine (HL.out _ (HGl.out.below hBw)).mono ?_
            rintro e w7 ⟨rfl, B7⟩
            have HW7 : Hid (Below w.heap.size w w7) := Lib.hid (hBw.trans (B7.mono hBw.size))
            clear B7 hBw
            go_wp2
            go_ret
            exact ⟨rfl, HW7.out⟩
  · have hzb : (ce != 0) = true := by simpa using hz
    have hll := bad_len (g := g) (by rw [HCE.out]; exact hz)
    rw [hll]
    clear hll hz
    go_wp2_with fail
    have hx := HC.out _ _ (hGV.out w5 HW5.out) (HGl.out.below (hB1.out.trans (HW5.out.mono hB1.out.size)))
    refine hx.mono ?_
    rintro e w6 ⟨rfl, B6⟩
    rw [HCE.out]
    have HW6 : Hid (Below w.heap.size w w6) := Lib.hid (hB1.out.trans ((HW5.out.trans (B6.mono HW5.out.size)).mono hB1.out.size))
    clear B6 hx k0 k1 k2 k3 k4
    have hcc : (ce == ce) = true := by simp
    go_wp2_with fail
    refine (HL.out _ (HGl.out.below HW6.out)).mono ?_
    rintro e w7 ⟨rfl, B7⟩
    have HW7 : Hid (Below w.heap.size w w7) := Lib.hid (HW6.out.trans (B7.mono HW6.out.size))
    clear B7
    go_wp2
    go_ret
    exact ⟨rfl, HW7.out⟩

end Go.Proofs.YtccjflhliicdlaaDoor
