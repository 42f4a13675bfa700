/- The walk of the law LiveRows. -/
import Derived.Test.YtlbhepfbogcipaaGreatDoorLvM1
import Derived.Test.YtlbhepfbogcipaaGreatDoorLvM2
import Derived.Test.YtlbhepfbogcipaaGreatDoorGrG
import Derived.BigQuiet
import Derived.Deep.QuietTactic
set_option linter.unusedVariables false
set_option linter.unusedSimpArgs false
namespace Go.Proofs.YtlbhepfbogcipaaGreatDoor
open Go.RowKit

set_option maxRecDepth 100000
attribute [local irreducible] orderE orderL work hasS namesG picked sortedL rdsL befB befC readsL rowQ doneB apartB apartE apartX widthP

set_option maxHeartbeats 4000000 in
theorem lrows_any {w : World} {v : Value} {g : Gr} (h : GraphV w v g) (hG : Glob w) :
    Calls Tryz.prog 3 #[v] w fun e w' => e = .returned (.bool true) ∧ Below w.heap.size w w' := by
  have HS := Lib.hid (fun (W : World) (v : Value) (h : GraphV W v g) => lsmall_any h)
  have HC := Lib.hid (fun (W : World) (vi : Value) (h : GraphV W vi g) => gcopy_any h)
  have HBf := Lib.hid (fun (W : World) (v : Value) (h : GraphV W v g) (hG : Glob W) => before_any h hG)
  have HRB := Lib.hid (fun (W : World) (v : Value) (h : GraphV W v g) => rbefore_any h)
  have HSg := Lib.hid (fun (W : World) (a b : Value) (h1 : GraphV W a g) (h2 : GraphV W b g) => gsame_any h1 h2)
  have HL := Lib.hid (fun (W : World) (hG : Glob W) => lalive_any hG)
  obtain ⟨vn, vi, vo, vt, rfl, hg⟩ := h
  obtain ⟨an, cn, rfl⟩ := hg.nodes.form
  obtain ⟨ai, ci, rfl⟩ := hg.ins.form
  obtain ⟨ao, co, rfl⟩ := hg.outs.form
  obtain ⟨at', ct, rfl⟩ := hg.inits.form
  have hlo := hg.outs.len
  have HN := Lib.hid hg
  have HGl := Lib.hid hG
  clear hg hG
  unfold Gr.val
  go_enter Tryz.func3, Tryz.ntmps3
  go_wp2_with fail
  have hB2 : Hid (Below w.heap.size w (w.alloc (Obj.cells #[Value.string g.name, .slice an g.nodes.length cn, .slice ai g.ins.length ci, .slice ao g.outs.length co, .slice at' g.inits.length ct] 26))) := Lib.hid ((Below.refl _ _).alloc (Nat.le_refl _) _)
  have hA2 : Hid (BoxN (w.alloc (Obj.cells #[Value.string g.name, .slice an g.nodes.length cn, .slice ai g.ins.length ci, .slice ao g.outs.length co, .slice at' g.inits.length ct] 26)) w.heap.size #[Value.string g.name, .slice an g.nodes.length cn, .slice ai g.ins.length ci, .slice ao g.outs.length co, .slice at' g.inits.length ct] 26) := Lib.hid (BoxN.new _ _ _)
  generalize w.alloc _ = W2 at hB2 hA2 ⊢
  have HB2 : Hid (Below w.heap.size w W2) := hB2
  have hGV : Hid (∀ W, Below W2.heap.size W2 W → GraphV W (.agg #[Value.string g.name, .slice an g.nodes.length cn, .slice ai g.ins.length ci, .slice ao g.outs.length co, .slice at' g.inits.length ct]) g) := Lib.hid fun W hW => ⟨_, _, _, _, rfl, HN.out.below (HB2.out.trans (hW.mono HB2.out.size))⟩
  refine (HS.out _ _ (hGV.out W2 (Below.refl _ _))).mono ?_
  rintro e w3 ⟨rfl, B3⟩
  have HB3 : Hid (Below W2.heap.size W2 w3) := Lib.hid B3
  have HG3 : Hid (Glob w3) := Lib.hid (HGl.out.below (HB2.out.trans (B3.mono HB2.out.size)))
  clear B3 HS
  generalize (decide (g.nodes.length ≤ 30) && decide (g.ins.length + g.inits.length + g.outs.length ≤ 60)) = sm
  obtain ⟨k0, k1, k2, k3, k4⟩ := (hA2.out.below' HB3.out).fiveG
  cases sm with
  | false =>
    go_wp2_with fail
    refine (HL.out _ HG3.out).mono ?_
    rintro e w6 ⟨rfl, B6⟩
    go_wp2
    go_ret
    exact ⟨rfl, HB2.out.trans ((HB3.out.trans (B6.mono HB3.out.size)).mono HB2.out.size)⟩
  | true =>
    go_wp2_with fail
    clear k0 k1 k2 k3 k4
    refine (HC.out _ _ (hGV.out _ HB3.out)).mono ?_
    rintro e w4 ⟨wn, wi, wo, wt, rfl, ho, B4⟩
    have HO4 : Hid (GraphN w4 g wn wi wo wt) := Lib.hid (ho.reads (HN.out.below (HB2.out.trans (HB3.out.mono HB2.out.size))))
    have HB4 : Hid (Below W2.heap.size W2 w4) := Lib.hid (HB3.out.trans (B4.mono HB3.out.size))
    have HG4 : Hid (Glob w4) := Lib.hid (HG3.out.below B4)
    clear ho B4 HG3 HB3
    obtain ⟨an2, cn2, rfl⟩ := HO4.out.nodes.form
    obtain ⟨ai2, ci2, rfl⟩ := HO4.out.ins.form
    obtain ⟨ao2, co2, rfl⟩ := HO4.out.outs.form
    obtain ⟨at2, ct2, rfl⟩ := HO4.out.inits.form
    unfold Gr.val
    go_wp2_with fail
    have hA5 := Lib.hid (BoxN.new w4 #[Value.string g.name, .slice an2 g.nodes.length cn2, .slice ai2 g.ins.length ci2, .slice ao2 g.outs.length co2, .slice at2 g.inits.length ct2] 26)
    have hB5 : Hid (Below w4.heap.size w4 (w4.alloc (.cells #[Value.string g.name, .slice an2 g.nodes.length cn2, .slice ai2 g.ins.length ci2, .slice ao2 g.outs.length co2, .slice at2 g.inits.length ct2] 26))) := Lib.hid ((Below.refl _ _).alloc (Nat.le_refl _) _)
    generalize w4.alloc _ = W5 at hA5 hB5 ⊢
    have HB5 : Hid (Below W2.heap.size W2 W5) := Lib.hid (HB4.out.trans (hB5.out.mono HB4.out.size))
    have HG5 : Hid (Glob W5) := Lib.hid (HG4.out.below hB5.out)
    have hOV : Hid (∀ W, Below W5.heap.size W5 W → GraphV W (.agg #[Value.string g.name, .slice an2 g.nodes.length cn2, .slice ai2 g.ins.length ci2, .slice ao2 g.outs.length co2, .slice at2 g.inits.length ct2]) g) := Lib.hid fun W hW => ⟨_, _, _, _, rfl, HO4.out.below (hB5.out.trans (hW.mono hB5.out.size))⟩
    clear hB5 HB4 HO4 HG4
    generalize w4.heap.size = kO at hA5 ⊢
    refine (HBf.out _ _ (hOV.out W5 (Below.refl _ _)) HG5.out).mono ?_
    rintro e w6 ⟨v6, rfl, B6, hc6⟩
    have HB6 : Hid (Below W5.heap.size W5 w6) := Lib.hid B6
    have HC6 := Lib.hid hc6
    clear B6 hc6
    obtain ⟨k0, k1, k2, k3, k4⟩ := (hA2.out.below' (HB5.out.trans (HB6.out.mono HB5.out.size))).fiveG
    obtain ⟨a6, n6, c6, rfl⟩ : ∃ a n c, v6 = .slice a n c := by
      rcases HC6.out with ⟨_, hT⟩ | ⟨_, rfl⟩
      · obtain ⟨bt, rfl, _⟩ := hT.rows
        exact ⟨_, _, _, rfl⟩
      · exact ⟨_, _, _, rfl⟩
    go_wp2_with fail
    clear k0 k1 k2 k3 k4
    refine (HRB.out _ _ (hGV.out w6 (HB5.out.trans (HB6.out.mono HB5.out.size)))).mono ?_
    rintro e w7 ⟨v7, rfl, B7, hc7⟩
    have HB7 : Hid (Below W5.heap.size W5 w7) := Lib.hid (HB6.out.trans (B7.mono HB6.out.size))
    have HBW7 : Hid (Below W2.heap.size W2 w7) := Lib.hid (HB5.out.trans (HB7.out.mono HB5.out.size))
    have HC7 := Lib.hid hc7
    have HB67 := Lib.hid B7
    clear B7 hc7
    obtain ⟨k0, k1, k2, k3, k4⟩ := (hA2.out.below' HBW7.out).fiveG
    obtain ⟨o0, o1, o2, o3, o4⟩ := (hA5.out.below' HB7.out).fiveG
    have HSame : Hid (Calls Tryz.prog 10 #[.agg #[Value.string g.name, .slice an2 g.nodes.length cn2, .slice ai2 g.ins.length ci2, .slice ao2 g.outs.length co2, .slice at2 g.inits.length ct2], .agg #[Value.string g.name, .slice an g.nodes.length cn, .slice ai g.ins.length ci, .slice ao g.outs.length co, .slice at' g.inits.length ct]] w7 fun e w' => e = .returned (.bool true) ∧ Below w7.heap.size w7 w') := Lib.hid (HSg.out _ _ _ (hOV.out w7 HB7.out) (hGV.out w7 HBW7.out))
    clear HSg hOV hGV HC HBf HRB
    generalize hce : orderE g = ce at *
    clear hce
    have hee : (ce != ce) = false := by simp
    by_cases hz : ce = 0
    · subst hz
      obtain ⟨bt, et, hbt, ht⟩ : ∃ B, Value.slice a6 n6 c6 = .slice (some ⟨B, 0, none⟩) (sortedL g).length (sortedL g).length ∧ B < w6.heap.size ∧ ∀ k, k < (sortedL g).length → ∃ b, w6.cell? ⟨B, k, none⟩ = some (.slice (some ⟨b, 0, none⟩) (sortedL g).length (sortedL g).length) ∧ b < w6.heap.size ∧ ∀ j, j < (sortedL g).length → w6.cell? ⟨b, j, none⟩ = some (.bool (befB (sortedL g) k j)) := by
        rcases HC6.out with ⟨_, hT⟩ | ⟨hn, _⟩
        · exact hT.rows
        · exact absurd rfl hn
      obtain ⟨bu, eu, hbu, hu⟩ : ∃ B, v7 = .slice (some ⟨B, 0, none⟩) (sortedL g).length (sortedL g).length ∧ B < w7.heap.size ∧ ∀ k, k < (sortedL g).length → ∃ b, w7.cell? ⟨B, k, none⟩ = some (.slice (some ⟨b, 0, none⟩) (sortedL g).length (sortedL g).length) ∧ b < w7.heap.size ∧ ∀ j, j < (sortedL g).length → w7.cell? ⟨b, j, none⟩ = some (.bool (befB (sortedL g) k j)) := by
        rcases HC7.out with ⟨_, hT⟩ | ⟨hn, _⟩
        · exact hT.rows
        · exact absurd rfl hn
      have HTt := Lib.hid ht
      have HTu := Lib.hid hu
      have hnl := sortedL_le g
      obtain ⟨rfl, rfl, rfl⟩ := Value.slice.inj et
      subst eu
      clear HC6 HC7 ht hu et
      generalize (sortedL g).length = n at *
      generalize befB (sortedL g) = F at *
      go_wp2_with fail
      clear k0 k1 k2 k3 k4 o0 o1 o2 o3 o4
      refine HSame.out.mono ?_
      rintro e w8 ⟨rfl, B8⟩
      have HB8 := Lib.hid B8
      have HG8 : Hid (Glob w8) := Lib.hid (HG5.out.below (HB7.out.trans (B8.mono HB7.out.size)))
      clear B8 HSame
      go_wp2_with fail
      go_loopw [8] (fun i wr => ∃ k : Nat, k ≤ n ∧ i = .int .i64 (k : Int) ∧ Hid (Below w8.heap.size w8 wr)) (fun i _ => n - (intOf i).toNat)
      case atStart => exact ⟨0, Nat.zero_le _, rfl, Lib.hid (Below.refl _ _)⟩
      case round =>
        obtain ⟨k, hk, rfl, hW⟩ := hrel
        by_cases hkl : k < n
        · have hki : (k : Int) < (n : Int) := by omega
          have hk0 : ¬ (k : Int) < 0 := by omega
          obtain ⟨bk, c0, hbk, d0⟩ := HTt.out k hkl
          obtain ⟨bl, c1, hbl, d1⟩ := HTu.out k hkl
          have HX : Hid (∀ W, Below wr.heap.size wr W → W.cell? ⟨bt, k, none⟩ = some (.slice (some ⟨bk, 0, none⟩) n n) ∧ W.cell? ⟨bu, k, none⟩ = some (.slice (some ⟨bl, 0, none⟩) n n) ∧ ∀ j, j < n → W.cell? ⟨bk, j, none⟩ = some (.bool (F k j)) ∧ W.cell? ⟨bl, j, none⟩ = some (.bool (F k j))) := Lib.hid fun W hW' => by
            have h7 := HB8.out.trans ((hW.out.trans (hW'.mono hW.out.size)).mono HB8.out.size)
            have h6 := HB67.out.trans (h7.mono HB67.out.size)
            exact ⟨(h6.cell (p := ⟨bt, k, none⟩) hbt).trans c0, (h7.cell (p := ⟨bu, k, none⟩) hbu).trans c1, fun j hj => ⟨(h6.cell (p := ⟨bk, j, none⟩) hbk).trans (d0 j hj), (h7.cell (p := ⟨bl, j, none⟩) hbl).trans (d1 j hj)⟩⟩
          clear c0 c1 d0 d1
          obtain ⟨q0, q1, -⟩ := HX.out wr (Below.refl _ _)
          go_wp2_with fail
          go_quiet (fail)
          go_wp2_with fail
          clear q0 q1
          go_loopw [9] (fun i wq => ∃ j : Nat, j ≤ n ∧ i = .int .i64 (j : Int) ∧ Hid (Below wr.heap.size wr wq)) (fun i _ => n - (intOf i).toNat)
          case atStart => exact ⟨0, Nat.zero_le _, rfl, Lib.hid (below_dN (Below.refl _ _) _)⟩
          case round =>
            obtain ⟨j, hj, rfl, hQ⟩ := hrel
            obtain ⟨q0, q1, q2⟩ := HX.out _ hQ.out
            by_cases hjl : j < n
            · have hji : (j : Int) < (n : Int) := by omega
              have hj0 : ¬ (j : Int) < 0 := by omega
              obtain ⟨q3, q4⟩ := q2 j hjl
              clear q2
              generalize F k j = f at q3 q4
              have hff : (f != f) = false := by simp
              go_wp2_with fail
              go_quiet (fail)
              go_wp2_with fail
              go_roundw
              case rel => exact ⟨j + 1, by omega, by go_num, Lib.hid (below_dN hQ.out _)⟩
              case measure => simp [intOf]; omega
            · have hji : ¬ (j : Int) < (n : Int) := by omega
              have HWn := Lib.hid (hW.out.trans (hQ.out.mono hW.out.size))
              clear q2
              go_wp2_with fail
              go_roundw
              case rel => exact ⟨k + 1, by omega, by go_num, HWn⟩
              case measure => simp [intOf]; omega
        · have hki : ¬ (k : Int) < (n : Int) := by omega
          go_wp2_with fail
          refine (HL.out _ (HG8.out.below hW.out)).mono ?_
          rintro e w9 ⟨rfl, B9⟩
          go_wp2
          go_ret
          exact ⟨rfl, HB2.out.trans ((HBW7.out.trans ((HB8.out.trans ((hW.out.trans (B9.mono hW.out.size)).mono HB8.out.size)).mono HBW7.out.size)).mono HB2.out.size)⟩
    · obtain ⟨rfl, rfl, rfl⟩ : a6 = none ∧ n6 = 0 ∧ c6 = 0 := by
        rcases HC6.out with ⟨h0, _⟩ | ⟨_, h⟩
        · exact absurd h0 hz
        · exact Value.slice.inj h
      obtain rfl : v7 = .slice none 0 0 := by
        rcases HC7.out with ⟨h0, _⟩ | ⟨_, h⟩
        · exact absurd h0 hz
        · exact h
      clear HC6 HC7 hz
      go_wp2_with fail
      clear k0 k1 k2 k3 k4 o0 o1 o2 o3 o4
      refine HSame.out.mono ?_
      rintro e w8 ⟨rfl, B8⟩
      have HB8 := Lib.hid B8
      have HG8 : Hid (Glob w8) := Lib.hid (HG5.out.below (HB7.out.trans (B8.mono HB7.out.size)))
      clear B8 HSame
      go_wp2_with fail
      refine wp_loop_rounds 1 ?_
      rw [rounds_succ]
      go_wp2_with fail
      refine (HL.out _ HG8.out).mono ?_
      rintro e w9 ⟨rfl, B9⟩
      go_wp2
      go_ret
      exact ⟨rfl, HB2.out.trans ((HBW7.out.trans ((HB8.out.trans (B9.mono HB8.out.size)).mono HBW7.out.size)).mono HB2.out.size)⟩

end Go.Proofs.YtlbhepfbogcipaaGreatDoor

