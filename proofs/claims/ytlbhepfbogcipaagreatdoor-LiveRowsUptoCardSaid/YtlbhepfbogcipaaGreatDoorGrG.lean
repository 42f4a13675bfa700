/- The walks of SameValues and Same (of graphs): of the same content. -/
import Derived.Test.YtlbhepfbogcipaaGreatDoorGrA
import Derived.Test.YtlbhepfbogcipaaGreatDoorGrS
import Derived.Test.YtlbhepfbogcipaaGreatDoorSchSm
set_option linter.unusedVariables false
set_option linter.unusedSimpArgs false
namespace Go.Proofs.YtlbhepfbogcipaaGreatDoor
open Go.RowKit

set_option maxRecDepth 100000 in
set_option maxHeartbeats 4000000 in
theorem svalues_any {w : World} {v1 v2 : Value} {l : List Vl} (h1 : SlIn 3 rdValue w v1 l) (h2 : SlIn 3 rdValue w v2 l) :
    Calls Tryz.prog 23 #[v1, v2] w fun e w' => e = .returned (.bool true) ∧ Below w.heap.size w w' := by
  obtain ⟨a1, c1, rfl⟩ := h1.form
  obtain ⟨a2, c2, rfl⟩ := h2.form
  have hll := h1.len
  have H1 := Lib.hid h1
  have H2 := Lib.hid h2
  have hlb : ((l.length : Int) != (l.length : Int)) = false := by simp
  clear h1 h2
  go_enter Tryz.func23, Tryz.ntmps23
  go_wp2_with fail
  go_loopw [5] (fun i wr => ∃ k : Nat, k ≤ l.length ∧ i = .int .i64 (k : Int) ∧ Hid (Below w.heap.size w wr)) (fun i _ => l.length - (intOf i).toNat)
  case atStart => exact ⟨0, Nat.zero_le _, rfl, Lib.hid (Below.refl _ _)⟩
  case round =>
    obtain ⟨k, hk, rfl, hB⟩ := hrel
    by_cases hkl : k < l.length
    · have hki : (k : Int) < (l.length : Int) := by omega
      obtain ⟨x, hx⟩ : ∃ x, l[k]? = some x := ⟨_, List.getElem?_eq_getElem hkl⟩
      obtain ⟨b, off, cap, vd, hv, hb, c0, c1', c2', g1, g2, g3⟩ := value_at H1.out hx
      obtain ⟨rfl, _, rfl⟩ := Value.slice.inj hv
      obtain ⟨b', off', cap', vd', hv', hb', d0, d1, d2, _, _, g3'⟩ := value_at H2.out hx
      obtain ⟨rfl, _, rfl⟩ := Value.slice.inj hv'
      have HS : Hid (∀ W', Below wr.heap.size wr W' → W'.cell? ⟨b, off + k * 3, none⟩ = some (.string x.name) ∧ W'.cell? ⟨b, off + k * 3 + 1, none⟩ = some (.int .i64 x.typ) ∧ W'.cell? ⟨b, off + k * 3 + 2, none⟩ = some vd ∧ W'.cell? ⟨b', off' + k * 3, none⟩ = some (.string x.name) ∧ W'.cell? ⟨b', off' + k * 3 + 1, none⟩ = some (.int .i64 x.typ) ∧ W'.cell? ⟨b', off' + k * 3 + 2, none⟩ = some vd') := Lib.hid fun W' h => by
        have hq := hB.out.trans (h.mono hB.out.size)
        exact ⟨(hq.cell (p := ⟨b, off + k * 3, none⟩) hb).trans c0, (hq.cell (p := ⟨b, off + k * 3 + 1, none⟩) hb).trans c1', (hq.cell (p := ⟨b, off + k * 3 + 2, none⟩) hb).trans c2', (hq.cell (p := ⟨b', off' + k * 3, none⟩) hb').trans d0, (hq.cell (p := ⟨b', off' + k * 3 + 1, none⟩) hb').trans d1, (hq.cell (p := ⟨b', off' + k * 3 + 2, none⟩) hb').trans d2⟩
      have HC : Hid (∀ W, Below wr.heap.size wr W → Calls Tryz.prog 40 #[vd, vd'] W fun e w' => e = .returned (.bool true) ∧ Below W.heap.size W w') := Lib.hid fun W h => by
        have hq := hB.out.trans (h.mono hB.out.size)
        have := rsame_any (g3.below hq) (g3'.below hq)
        rwa [decide_eq_true rfl] at this
      have HBr := hB
      clear hv hv' c0 c1' c2' d0 d1 d2 g1 g2 g3 g3' hB hx
      go_wp2_with fail
      refine wp_region_plan 36 [0, 1, 2, 3, 4, 5, 6, 7, 8, 9, 10, 11, 12, 13, 14, 15, 16, 17, 18, 19, 20, 21, 22, 23, 24, 25, 26, 27, 28, 29, 30, 31, 32, 33, 34, 35] (fun W' => Below wr.heap.size wr W') (by kernel_rfl) (by kernel_rfl) (fun _ d _ _ _ h => by cases d <;> exact h) (Below.refl _ _).drew ?_
      have B0 : Hid (Below wr.heap.size wr wr.drew) := Lib.hid (Below.refl _ _).drew
      generalize wr.drew = wD at B0 ⊢
      repeat
        refine plan_read (v := ?_) rfl rfl (Or.inl ⟨by rfl, ?_⟩) ?_
        rotate_left
        · intro w' hSw
          obtain ⟨s0, s1, s2, s3, s4, s5⟩ := HS.out w' hSw
          go_simp
          try with_reducible rfl
        try simp only [Act.put, List.getElem_toArray, List.getElem_cons_zero, List.getElem_cons_succ, List.setIfInBounds_toArray, List.set_cons_zero, List.set_cons_succ]
      refine plan_act rfl rfl (fun K' hK => ?_)
      go_simp
      refine (HC.out _ B0.out).mono ?_
      rintro e w6 ⟨rfl, B⟩
      have B1 : Hid (Below wr.heap.size wr w6) := Lib.hid (B0.out.trans (B.mono B0.out.size))
      refine hK.out _ _ B1.out ?_
      clear hK K' B
      refine plan_tail rfl ?_
      simp only [List.toList_toArray, List.drop_succ_cons, List.drop_zero]
      go_wp2_with fail
      go_roundw
      case rel => exact ⟨k + 1, by omega, by go_num, Lib.hid (HBr.out.trans (B1.out.mono HBr.out.size))⟩
      case measure => simp [intOf]; omega
    · have hki : ¬ (k : Int) < (l.length : Int) := by omega
      go_wp2
      go_ret
      exact ⟨rfl, hB.out⟩

set_option maxRecDepth 100000 in
set_option maxHeartbeats 4000000 in
/-- THE REFERENCE's SAME, of two graphs of the same content. -/
theorem gsame_any {w : World} {v1 v2 : Value} {g : Gr} (h1 : GraphV w v1 g) (h2 : GraphV w v2 g) :
    Calls Tryz.prog 10 #[v1, v2] w fun e w' => e = .returned (.bool true) ∧ Below w.heap.size w w' := by
  obtain ⟨vn1, vi1, vo1, vt1, rfl, h1⟩ := h1
  obtain ⟨vn2, vi2, vo2, vt2, rfl, h2⟩ := h2
  obtain ⟨an1, cn1, rfl⟩ := h1.nodes.form
  obtain ⟨at1, ct1, rfl⟩ := h1.inits.form
  obtain ⟨an2, cn2, rfl⟩ := h2.nodes.form
  obtain ⟨at2, ct2, rfl⟩ := h2.inits.form
  have hln := h1.nodes.len
  have hlt := h1.inits.len
  have H1 := Lib.hid h1
  have H2 := Lib.hid h2
  have hlb : ((g.nodes.length : Int) != (g.nodes.length : Int)) = false := by simp
  have hlb2 : ((g.inits.length : Int) != (g.inits.length : Int)) = false := by simp
  clear h1 h2
  unfold Gr.val
  go_enter Tryz.func10, Tryz.ntmps10
  go_wp2_with fail
  generalize hw1 : (w.alloc _).alloc _ = w1
  have HA1 : Hid (BoxN w1 w.heap.size #[.string g.name, .slice an1 g.nodes.length cn1, vi1, vo1, .slice at1 g.inits.length ct1] 26) := Lib.hid (by rw [← hw1]; exact (BoxN.new w _ _).below' ((Below.refl _ _).alloc (Nat.le_refl _) _))
  have HE1 : Hid (BoxN w1 (w.heap.size + 1) #[.string g.name, .slice an2 g.nodes.length cn2, vi2, vo2, .slice at2 g.inits.length ct2] 26) := Lib.hid (by
    have := BoxN.new (w.alloc (Obj.cells #[.string g.name, .slice an1 g.nodes.length cn1, vi1, vo1, .slice at1 g.inits.length ct1] 26)) #[.string g.name, .slice an2 g.nodes.length cn2, vi2, vo2, .slice at2 g.inits.length ct2] 26
    rw [World.size_alloc] at this
    rw [← hw1]; exact this)
  have HB1 : Hid (Below w.heap.size w w1) := Lib.hid (by rw [← hw1]; exact ((Below.refl _ w).alloc (Nat.le_refl _) _).alloc (by simp) _)
  clear hw1
  refine (svalues_any (H1.out.below HB1.out).ins (H2.out.below HB1.out).ins).mono ?_
  rintro e w2 ⟨rfl, B2⟩
  have HA2 := Lib.hid (HA1.out.below' B2)
  have HE2 := Lib.hid (HE1.out.below' B2)
  have HB2 := Lib.hid (HB1.out.trans (B2.mono HB1.out.size))
  clear B2 HA1 HE1 HB1
  have e3 := HA2.out.fiveG.2.2.2.1
  have e4 := HE2.out.fiveG.2.2.2.1
  go_wp2_with fail
  refine (svalues_any (H1.out.below HB2.out).outs (H2.out.below HB2.out).outs).mono ?_
  rintro e w3 ⟨rfl, B3⟩
  have HA3 := Lib.hid (HA2.out.below' B3)
  have HE3 := Lib.hid (HE2.out.below' B3)
  have HB3 := Lib.hid (HB2.out.trans (B3.mono HB2.out.size))
  clear B3 HA2 HE2 HB2 e3 e4
  go_wp2_with fail
  go_loopw [5] (fun i wr => ∃ k : Nat, k ≤ g.nodes.length ∧ i = .int .i64 (k : Int) ∧ Hid (Below w3.heap.size w3 wr)) (fun i _ => g.nodes.length - (intOf i).toNat)
  case atStart => exact ⟨0, Nat.zero_le _, rfl, Lib.hid (Below.refl _ _)⟩
  case round =>
    obtain ⟨k, hk, rfl, hB⟩ := hrel
    have e1 := (HA3.out.below' hB.out).fiveG.2.1
    by_cases hkl : k < g.nodes.length
    · have hki : (k : Int) < (g.nodes.length : Int) := by omega
      obtain ⟨x, hx⟩ : ∃ x, g.nodes[k]? = some x := ⟨_, List.getElem?_eq_getElem hkl⟩
      obtain ⟨b, off, cap, vd, vx, hv, hb, c0, c1, c2, c3, c4, hn, _⟩ := node_at H1.out.nodes hx
      obtain ⟨rfl, _, rfl⟩ := Value.slice.inj hv
      obtain ⟨b', off', cap', vd', vx', hv', hb', d0, d1, d2, d3, d4, hn', _⟩ := node_at H2.out.nodes hx
      obtain ⟨rfl, _, rfl⟩ := Value.slice.inj hv'
      have HS : Hid (∀ W', Below wr.heap.size wr W' → W'.cell? ⟨w.heap.size, 1, none⟩ = some (.slice (some ⟨b, off, none⟩) g.nodes.length cn1) ∧ W'.cell? ⟨w.heap.size + 1, 1, none⟩ = some (.slice (some ⟨b', off', none⟩) g.nodes.length cn2) ∧ W'.cell? ⟨b, off + k * 5, none⟩ = some (.string x.op) ∧ W'.cell? ⟨b, off + k * 5 + 1, none⟩ = some (.string x.name) ∧ W'.cell? ⟨b, off + k * 5 + 2, none⟩ = some vd ∧ W'.cell? ⟨b, off + k * 5 + 3, none⟩ = some (.string x.out) ∧ W'.cell? ⟨b, off + k * 5 + 4, none⟩ = some vx ∧ W'.cell? ⟨b', off' + k * 5, none⟩ = some (.string x.op) ∧ W'.cell? ⟨b', off' + k * 5 + 1, none⟩ = some (.string x.name) ∧ W'.cell? ⟨b', off' + k * 5 + 2, none⟩ = some vd' ∧ W'.cell? ⟨b', off' + k * 5 + 3, none⟩ = some (.string x.out) ∧ W'.cell? ⟨b', off' + k * 5 + 4, none⟩ = some vx') := Lib.hid fun W' h => by
        have hq0 := hB.out.trans (h.mono hB.out.size)
        have hq := HB3.out.trans (hq0.mono HB3.out.size)
        exact ⟨(HA3.out.below' hq0).fiveG.2.1, (HE3.out.below' hq0).fiveG.2.1, (hq.cell (p := ⟨b, off + k * 5, none⟩) hb).trans c0, (hq.cell (p := ⟨b, off + k * 5 + 1, none⟩) hb).trans c1, (hq.cell (p := ⟨b, off + k * 5 + 2, none⟩) hb).trans c2, (hq.cell (p := ⟨b, off + k * 5 + 3, none⟩) hb).trans c3, (hq.cell (p := ⟨b, off + k * 5 + 4, none⟩) hb).trans c4, (hq.cell (p := ⟨b', off' + k * 5, none⟩) hb').trans d0, (hq.cell (p := ⟨b', off' + k * 5 + 1, none⟩) hb').trans d1, (hq.cell (p := ⟨b', off' + k * 5 + 2, none⟩) hb').trans d2, (hq.cell (p := ⟨b', off' + k * 5 + 3, none⟩) hb').trans d3, (hq.cell (p := ⟨b', off' + k * 5 + 4, none⟩) hb').trans d4⟩
      have HC : Hid (∀ W, Below wr.heap.size wr W → Calls Tryz.prog 24 #[.agg #[.string x.op, .string x.name, vd, .string x.out, vx], .agg #[.string x.op, .string x.name, vd', .string x.out, vx']] W fun e w' => e = .returned (.bool true) ∧ Below W.heap.size W w') := Lib.hid fun W h => by
        have hq := HB3.out.trans ((hB.out.trans (h.mono hB.out.size)).mono HB3.out.size)
        exact snode_any x (hn.below hq) (hn'.below hq)
      have HBr := hB
      clear hv hv' c0 c1 c2 c3 c4 d0 d1 d2 d3 d4 hn hn' hB hx
      go_wp2_with fail
      clear e1
      refine wp_region_plan 11 [0, 1, 2, 3, 4, 5, 6, 7, 8, 9, 10] (fun W' => Below wr.heap.size wr W') (by kernel_rfl) (by kernel_rfl) (fun _ d _ _ _ h => by cases d <;> exact h) (Below.refl _ _).drew ?_
      have B0 : Hid (Below wr.heap.size wr wr.drew) := Lib.hid (Below.refl _ _).drew
      generalize wr.drew = wD at B0 ⊢
      repeat
        refine plan_read (v := ?_) rfl rfl (Or.inl ⟨by rfl, ?_⟩) ?_
        rotate_left
        · intro w' hSw
          obtain ⟨s0, s1, s2, s3, s4, s5, s6, s7, s8, s9, s10, s11⟩ := HS.out w' hSw
          go_simp
          try with_reducible rfl
        try simp only [Act.put, List.getElem_toArray, List.getElem_cons_zero, List.getElem_cons_succ, List.setIfInBounds_toArray, List.set_cons_zero, List.set_cons_succ]
      refine plan_act rfl rfl (fun K' hK => ?_)
      go_simp
      refine (HC.out _ B0.out).mono ?_
      rintro e w6 ⟨rfl, B⟩
      have B1 : Hid (Below wr.heap.size wr w6) := Lib.hid (B0.out.trans (B.mono B0.out.size))
      refine hK.out _ _ B1.out ?_
      clear hK K' B
      refine plan_tail rfl ?_
      simp only [List.toList_toArray, List.drop_succ_cons, List.drop_zero]
      go_wp2_with fail
      go_roundw
      case rel => exact ⟨k + 1, by omega, by go_num, Lib.hid (HBr.out.trans (B1.out.mono HBr.out.size))⟩
      case measure => simp [intOf]; omega
    · have hki : ¬ (k : Int) < (g.nodes.length : Int) := by omega
      go_wp2_with fail
      clear e1 hk hki hkl
      generalize hwq : wr = V at *
      clear hwq
      go_loopw [7] (fun i wr => ∃ k : Nat, k ≤ g.inits.length ∧ i = .int .i64 (k : Int) ∧ Hid (Below w3.heap.size w3 wr)) (fun i _ => g.inits.length - (intOf i).toNat)
      case atStart => exact ⟨0, Nat.zero_le _, rfl, hB⟩
      case round =>
        clear hB
        obtain ⟨k, hk, rfl, hB⟩ := hrel
        have e1 := (HA3.out.below' hB.out).fiveG.2.2.2.2
        by_cases hkl : k < g.inits.length
        · have hki : (k : Int) < (g.inits.length : Int) := by omega
          obtain ⟨x, hx⟩ : ∃ x, g.inits[k]? = some x := ⟨_, List.getElem?_eq_getElem hkl⟩
          obtain ⟨b, off, cap, vd, vx, hv, hb, c0, c1, c2, c3, _, _, hd, hxx⟩ := named_at H1.out.inits hx
          obtain ⟨rfl, _, rfl⟩ := Value.slice.inj hv
          obtain ⟨b', off', cap', vd', vx', hv', hb', d0, d1, d2, d3, _, _, hd', hxx'⟩ := named_at H2.out.inits hx
          obtain ⟨rfl, _, rfl⟩ := Value.slice.inj hv'
          have HS : Hid (∀ W', Below wr.heap.size wr W' → W'.cell? ⟨w.heap.size, 4, none⟩ = some (.slice (some ⟨b, off, none⟩) g.inits.length ct1) ∧ W'.cell? ⟨w.heap.size + 1, 4, none⟩ = some (.slice (some ⟨b', off', none⟩) g.inits.length ct2) ∧ W'.cell? ⟨b, off + k * 4, none⟩ = some (.string x.name) ∧ W'.cell? ⟨b, off + k * 4 + 1, none⟩ = some (.int .i64 x.typ) ∧ W'.cell? ⟨b, off + k * 4 + 2, none⟩ = some vd ∧ W'.cell? ⟨b, off + k * 4 + 3, none⟩ = some vx ∧ W'.cell? ⟨b', off' + k * 4, none⟩ = some (.string x.name) ∧ W'.cell? ⟨b', off' + k * 4 + 1, none⟩ = some (.int .i64 x.typ) ∧ W'.cell? ⟨b', off' + k * 4 + 2, none⟩ = some vd' ∧ W'.cell? ⟨b', off' + k * 4 + 3, none⟩ = some vx') := Lib.hid fun W' h => by
            have hq0 := hB.out.trans (h.mono hB.out.size)
            have hq := HB3.out.trans (hq0.mono HB3.out.size)
            exact ⟨(HA3.out.below' hq0).fiveG.2.2.2.2, (HE3.out.below' hq0).fiveG.2.2.2.2, (hq.cell (p := ⟨b, off + k * 4, none⟩) hb).trans c0, (hq.cell (p := ⟨b, off + k * 4 + 1, none⟩) hb).trans c1, (hq.cell (p := ⟨b, off + k * 4 + 2, none⟩) hb).trans c2, (hq.cell (p := ⟨b, off + k * 4 + 3, none⟩) hb).trans c3, (hq.cell (p := ⟨b', off' + k * 4, none⟩) hb').trans d0, (hq.cell (p := ⟨b', off' + k * 4 + 1, none⟩) hb').trans d1, (hq.cell (p := ⟨b', off' + k * 4 + 2, none⟩) hb').trans d2, (hq.cell (p := ⟨b', off' + k * 4 + 3, none⟩) hb').trans d3⟩
          have HC : Hid (∀ W, Below wr.heap.size wr W → Calls Tryz.prog 25 #[.agg #[.int .i64 x.typ, vd, vx], .agg #[.int .i64 x.typ, vd', vx']] W fun e w' => e = .returned (.bool true) ∧ Below W.heap.size W w') := Lib.hid fun W h => by
            have hq := HB3.out.trans ((hB.out.trans (h.mono hB.out.size)).mono HB3.out.size)
            exact stensor_any x.typ x.dims x.data (hd.below hq) (hxx.below hq) (hd'.below hq) (hxx'.below hq)
          have HBr := hB
          clear hv hv' c0 c1 c2 c3 d0 d1 d2 d3 hd hd' hxx hxx' hB hx
          go_wp2_with fail
          clear e1
          refine wp_region_plan 27 [0, 1, 2, 3, 4, 5, 6, 7, 8, 9, 10, 11, 12, 13, 14, 15, 16, 17, 18, 19, 20, 21, 22, 23, 24, 25, 26] (fun W' => Below wr.heap.size wr W') (by kernel_rfl) (by kernel_rfl) (fun _ d _ _ _ h => by cases d <;> exact h) (Below.refl _ _).drew ?_
          have B0 : Hid (Below wr.heap.size wr wr.drew) := Lib.hid (Below.refl _ _).drew
          generalize wr.drew = wD at B0 ⊢
          repeat
            refine plan_read (v := ?_) rfl rfl (Or.inl ⟨by rfl, ?_⟩) ?_
            rotate_left
            · intro w' hSw
              obtain ⟨s0, s1, s2, s3, s4, s5, s6, s7, s8, s9⟩ := HS.out w' hSw
              go_simp
              try with_reducible rfl
            try simp only [Act.put, List.getElem_toArray, List.getElem_cons_zero, List.getElem_cons_succ, List.setIfInBounds_toArray, List.set_cons_zero, List.set_cons_succ]
          refine plan_act rfl rfl (fun K' hK => ?_)
          go_simp
          refine (HC.out _ B0.out).mono ?_
          rintro e w6 ⟨rfl, B⟩
          have B1 : Hid (Below wr.heap.size wr w6) := Lib.hid (B0.out.trans (B.mono B0.out.size))
          refine hK.out _ _ B1.out ?_
          clear hK K' B
          refine plan_tail rfl ?_
          simp only [List.toList_toArray, List.drop_succ_cons, List.drop_zero]
          go_wp2_with fail
          go_roundw
          case rel => exact ⟨k + 1, by omega, by go_num, Lib.hid (HBr.out.trans (B1.out.mono HBr.out.size))⟩
          case measure => simp [intOf]; omega
        · have hki : ¬ (k : Int) < (g.inits.length : Int) := by omega
          go_wp2
          go_ret
          exact ⟨rfl, HB3.out.trans (hB.out.mono HB3.out.size)⟩

end Go.Proofs.YtlbhepfbogcipaaGreatDoor
