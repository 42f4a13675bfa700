/- The walk of the law LiveGoesOn. -/
import Derived.Test.YtlbhepfbogcipaaDoorLvY
set_option linter.unusedVariables false
set_option linter.unusedSimpArgs false
namespace Go.Proofs.YtlbhepfbogcipaaDoor
open Go.RowKit

attribute [local irreducible] orderE orderL work hasS namesG picked sortedL rdsL befB doneB apartB apartE apartX

def rdThree : Rd (Gr × Int × Int × Int) := fun w cs x => ∃ vn vi vo vt, cs = [.string x.1.name, vn, vi, vo, vt, .int .i64 x.2.1, .int .i64 x.2.2.1, .int .i64 x.2.2.2] ∧ GraphN w x.1 vn vi vo vt ∧ InI x.2.1 ∧ InI x.2.2.1 ∧ InI x.2.2.2
theorem take5 {c0 c1 c2 c3 c4 c5 c6 c7 : Value} : (([c0, c1, c2, c3, c4, c5, c6, c7] : List Value).drop 0).take 5 = [c0, c1, c2, c3, c4] := rfl
set_option maxRecDepth 100000 in
theorem fits_three : Fits Tryd.prog 28 8 rdThree := by
  refine ⟨by kernel_rfl, fun {H} enc W fuel cs x h hlt hb => ?_⟩
  obtain ⟨xs, n, _, rfl, hl, hlen, hf⟩ := DataW.trod_struct Tryd.underlying28 h
  rw [show Tryd.prog.cellsOf 28 = 8 by kernel_rfl] at hl
  match cs, hl with
  | [c0, c1, c2, c3, c4, c5, c6, c7], _ =>
    obtain ⟨g, vn, vi, vo, vt, e0, i0⟩ := fits_field hf hlen hlt hb (i := 0) rfl fits_graph
    obtain ⟨a1, e1, i1⟩ := fits_field hf hlen hlt hb (i := 1) rfl fits_i
    obtain ⟨a2, e2, i2⟩ := fits_field hf hlen hlt hb (i := 2) rfl fits_i
    obtain ⟨a3, e3, i3⟩ := fits_field hf hlen hlt hb (i := 3) rfl fits_i
    have e0' : [c0, c1, c2, c3, c4] = [.string g.name, vn, vi, vo, vt] := e0
    obtain ⟨rfl, rfl, rfl, rfl, rfl⟩ : c0 = .string g.name ∧ c1 = vn ∧ c2 = vi ∧ c3 = vo ∧ c4 = vt := by simpa using e0'
    obtain rfl := take1 e1
    obtain rfl := take1 e2
    obtain rfl := take1 e3
    exact ⟨(g, a1, a2, a3), _, _, _, _, rfl, i0, i1, i2, i3⟩

set_option maxRecDepth 100000
def ThreeV (w : World) (v : Value) (g : Gr) (a b c : Int) : Prop := ∃ vn vi vo vt, v = .agg #[.string g.name, vn, vi, vo, vt, .int .i64 a, .int .i64 b, .int .i64 c] ∧ GraphN w g vn vi vo vt ∧ InI a ∧ InI b ∧ InI c

/-- An argument that is three nodes of a graph. -/
theorem open_three {H : Type} {enc : TypeId × Value → H} {W : World} {r : Reach} {b0 : Nat} {v : Value} {d : DataW H} {p : List MemPlace}
    (hv : Value.okWide Tryd.prog W r b0 28 v) (hd : DataW.Trod enc Tryd.prog W 0 (fun _ => true) true 28 v d p) (hlt : ∀ y ∈ p, y.block < W.heap.size) (hb : Rows.uptoBulk d ≤ 1048576) : ∃ g a b c, ThreeV W v g a b c := by
  obtain ⟨cs, x, rfl, vn, vi, vo, vt, e, h1, h2, h3, h4⟩ := open_arg Tryd.underlying28 fits_three hv hd hlt hb
  refine ⟨x.1, x.2.1, x.2.2.1, x.2.2.2, vn, vi, vo, vt, ?_, h1, h2, h3, h4⟩
  congr 1
  rw [← Array.toList_inj, e]

set_option maxRecDepth 100000 in
set_option maxHeartbeats 4000000 in
theorem lgoes_any {w : World} {v : Value} {g : Gr} {a b c : Int} (h : ThreeV w v g a b c) (hG : Glob w) :
    Calls Tryd.prog 3 #[v] w fun e w' => e = .returned (.bool true) ∧ Below w.heap.size w w' := by
  have HS := Lib.hid (fun (W : World) (v : Value) (h : GraphV W v g) => lsmall_any h)
  have HB := Lib.hid (fun (W : World) (v : Value) (h : GraphV W v g) (hG : Glob W) => before_any h hG)
  have HL := Lib.hid (fun (W : World) (hG : Glob W) => lalive_any hG)
  obtain ⟨vn, vi, vo, vt, rfl, hg, ha, hb, hc⟩ := h
  obtain ⟨an, cn, rfl⟩ := hg.nodes.form
  obtain ⟨ai, ci, rfl⟩ := hg.ins.form
  obtain ⟨ao, co, rfl⟩ := hg.outs.form
  obtain ⟨at', ct, rfl⟩ := hg.inits.form
  have HN := Lib.hid hg
  have HGl := Lib.hid hG
  clear hg hG
  go_enter Tryd.func3, Tryd.ntmps3
  go_wp2_with fail
  have hB1 : Hid (Below w.heap.size w (w.alloc (Obj.cells #[Value.string g.name, .slice an g.nodes.length cn, .slice ai g.ins.length ci, .slice ao g.outs.length co, .slice at' g.inits.length ct, .int .i64 a, .int .i64 b, .int .i64 c] 28))) := Lib.hid ((Below.refl _ w).alloc (Nat.le_refl _) _)
  have hA1 := BoxN.new w #[Value.string g.name, .slice an g.nodes.length cn, .slice ai g.ins.length ci, .slice ao g.outs.length co, .slice at' g.inits.length ct, .int .i64 a, .int .i64 b, .int .i64 c] 28
  generalize w.alloc _ = W1 at hB1 hA1 ⊢
  have HF : Hid (∀ W', Below W1.heap.size W1 W' → BoxN W' w.heap.size #[Value.string g.name, .slice an g.nodes.length cn, .slice ai g.ins.length ci, .slice ao g.outs.length co, .slice at' g.inits.length ct, .int .i64 a, .int .i64 b, .int .i64 c] 28) := Lib.hid fun W' h => hA1.below' h
  clear hA1
  refine wp_region_plan 12 [0, 1, 2, 3, 4, 5, 6, 7, 8, 9, 10, 11] (fun W' => Below W1.heap.size W1 W') (by kernel_rfl) (by kernel_rfl) (fun _ d _ _ _ h => by cases d <;> exact h) (Below.refl _ _).drew ?_
  have B0 : Hid (Below W1.heap.size W1 W1.drew) := Lib.hid (Below.refl _ _).drew
  repeat
    refine plan_read (v := ?_) rfl rfl (Or.inl ⟨by rfl, ?_⟩) ?_
    rotate_left
    · intro w' hSw
      have s1 := HF.out w' hSw
      have k0 := s1.cell 0 rfl
      have k1 := s1.cell 1 rfl
      have k2 := s1.cell 2 rfl
      have k3 := s1.cell 3 rfl
      have k4 := s1.cell 4 rfl
      have k5 := s1.cell 5 rfl
      have k6 := s1.cell 6 rfl
      have k7 := s1.cell 7 rfl
      clear s1
      go_simp
      try with_reducible rfl
    try simp only [Act.put, List.getElem_toArray, List.getElem_cons_zero, List.getElem_cons_succ, List.setIfInBounds_toArray, List.set_cons_zero, List.set_cons_succ]
  refine plan_act rfl rfl (fun K' hK => ?_)
  go_simp
  refine hK.out _ _ (B0.out.alloc (Nat.le_refl _) _) ?_
  clear hK K'
  refine plan_act rfl rfl (fun K' hK => ?_)
  go_simp
  refine hK.out _ _ (B0.out.alloc (Nat.le_refl _) _) ?_
  clear hK K'
  repeat
    refine plan_read (v := ?_) rfl rfl (Or.inl ⟨by rfl, ?_⟩) ?_
    rotate_left
    · intro w' hSw
      go_simp
      try with_reducible rfl
    try simp only [Act.put, List.getElem_toArray, List.getElem_cons_zero, List.getElem_cons_succ, List.setIfInBounds_toArray, List.set_cons_zero, List.set_cons_succ]
  refine plan_tail rfl ?_
  simp only [List.toList_toArray, List.drop_succ_cons, List.drop_zero]
  go_wp2_with fail
  have hB2 : Hid (Below W1.heap.size W1 (W1.alloc (Obj.cells #[Value.string g.name, .slice an g.nodes.length cn, .slice ai g.ins.length ci, .slice ao g.outs.length co, .slice at' g.inits.length ct] 26)).drew) := Lib.hid ((Below.refl _ _).alloc (Nat.le_refl _) _).drew
  have hA2 : Hid (BoxN (W1.alloc (Obj.cells #[Value.string g.name, .slice an g.nodes.length cn, .slice ai g.ins.length ci, .slice ao g.outs.length co, .slice at' g.inits.length ct] 26)).drew W1.heap.size #[Value.string g.name, .slice an g.nodes.length cn, .slice ai g.ins.length ci, .slice ao g.outs.length co, .slice at' g.inits.length ct] 26) := Lib.hid ((BoxN.new _ _ _).below' (Below.refl _ _).drew)
  generalize (World.alloc _ _).drew = W2 at hB2 hA2 ⊢
  have HB2 : Hid (Below w.heap.size w W2) := Lib.hid (hB1.out.trans (hB2.out.mono hB1.out.size))
  clear HF B0 hB1
  have hGV : Hid (∀ W, Below W2.heap.size W2 W → GraphV W (.agg #[Value.string g.name, .slice an g.nodes.length cn, .slice ai g.ins.length ci, .slice ao g.outs.length co, .slice at' g.inits.length ct]) g) := Lib.hid fun W hW => ⟨_, _, _, _, rfl, HN.out.below (HB2.out.trans (hW.mono HB2.out.size))⟩
  generalize W1.heap.size = kG at hA2 ⊢
  refine (HS.out _ _ (hGV.out W2 (Below.refl _ _))).mono ?_
  rintro e w3 ⟨rfl, B3⟩
  have HB3 : Hid (Below W2.heap.size W2 w3) := Lib.hid B3
  have HG3 : Hid (Glob w3) := Lib.hid (HGl.out.below (HB2.out.trans (B3.mono HB2.out.size)))
  clear B3 HS
  generalize (decide (g.nodes.length ≤ 30) && decide (g.ins.length + g.inits.length + g.outs.length ≤ 60)) = sm
  obtain ⟨k0, k1, k2, k3, k4⟩ := (hA2.out.below' HB3.out).fiveG
  cases sm with
  | false =>
    go_wp2_with fail
    refine (HL.out _ HG3.out).mono ?_
    rintro e w4 ⟨rfl, B4⟩
    go_wp2
    go_ret
    exact ⟨rfl, HB2.out.trans ((HB3.out.trans (B4.mono HB3.out.size)).mono HB2.out.size)⟩
  | true =>
    go_wp2_with fail
    clear k0 k1 k2 k3 k4
    refine (HB.out _ _ (hGV.out w3 HB3.out) HG3.out).mono ?_
    rintro e w4 ⟨v4, rfl, B4, hc4⟩
    have HB4 : Hid (Below w.heap.size w w4) := Lib.hid (HB2.out.trans ((HB3.out.trans (B4.mono HB3.out.size)).mono HB2.out.size))
    have HG4 : Hid (Glob w4) := Lib.hid (HG3.out.below B4)
    clear B4 HG3 HB3 hGV hA2 hB2 HB HGl
    rcases hc4 with ⟨h0, hT⟩ | ⟨hn, rfl⟩
    · rw [h0]
      have HT := Lib.hid hT
      clear hT h0
      obtain ⟨bt, rfl, hbt, ht⟩ := HT.out.rows
      have hnl := sortedL_le g
      have BT : Hid (∀ i j, befB (sortedL g) i j = true → i < j) := Lib.hid fun i j h => (bef_lt h).1
      have BTr : Hid (∀ i j k, befB (sortedL g) i j = true → befB (sortedL g) j k = true → befB (sortedL g) i k = true) := Lib.hid fun i j k h1 h2 => bef_trans h1 h2
      generalize (sortedL g).length = n at *
      generalize befB (sortedL g) = F at *
      by_cases h0 : a < 0
      · go_wp2_with fail
        refine (HL.out _ HG4.out).mono ?_
        rintro e w5 ⟨rfl, B5⟩
        go_wp2
        go_ret
        exact ⟨rfl, HB4.out.trans (B5.mono HB4.out.size)⟩
      by_cases h1 : b < 0
      · go_wp2_with fail
        refine (HL.out _ HG4.out).mono ?_
        rintro e w5 ⟨rfl, B5⟩
        go_wp2
        go_ret
        exact ⟨rfl, HB4.out.trans (B5.mono HB4.out.size)⟩
      by_cases h2 : c < 0
      · go_wp2_with fail
        refine (HL.out _ HG4.out).mono ?_
        rintro e w5 ⟨rfl, B5⟩
        go_wp2
        go_ret
        exact ⟨rfl, HB4.out.trans (B5.mono HB4.out.size)⟩
      by_cases h3 : (n : Int) ≤ a
      · go_wp2_with fail
        refine (HL.out _ HG4.out).mono ?_
        rintro e w5 ⟨rfl, B5⟩
        go_wp2
        go_ret
        exact ⟨rfl, HB4.out.trans (B5.mono HB4.out.size)⟩
      by_cases h4 : (n : Int) ≤ b
      · go_wp2_with fail
        refine (HL.out _ HG4.out).mono ?_
        rintro e w5 ⟨rfl, B5⟩
        go_wp2
        go_ret
        exact ⟨rfl, HB4.out.trans (B5.mono HB4.out.size)⟩
      by_cases h5 : (n : Int) ≤ c
      · go_wp2_with fail
        refine (HL.out _ HG4.out).mono ?_
        rintro e w5 ⟨rfl, B5⟩
        go_wp2
        go_ret
        exact ⟨rfl, HB4.out.trans (B5.mono HB4.out.size)⟩
      obtain ⟨i, rfl⟩ : ∃ i : Nat, a = (i : Int) := ⟨a.toNat, by omega⟩
      obtain ⟨j, rfl⟩ : ∃ j : Nat, b = (j : Int) := ⟨b.toNat, by omega⟩
      obtain ⟨k, rfl⟩ : ∃ k : Nat, c = (k : Int) := ⟨c.toNat, by omega⟩
      have hi : i < n := by omega
      have hj : j < n := by omega
      have hk : k < n := by omega
      have hi1 : (i : Int) < (n : Int) := by omega
      have hj1 : (j : Int) < (n : Int) := by omega
      have hk1 : (k : Int) < (n : Int) := by omega
      obtain ⟨ri, c1, _, d1⟩ := ht i hi
      obtain ⟨rj, c2, _, d2⟩ := ht j hj
      have d1j := d1 j hj
      have d1k := d1 k hk
      have d2k := d2 k hk
      have f1 := BT.out i j
      have f2 := BTr.out i j k
      clear d1 d2 ht HT BT BTr
      generalize F i j = x at *
      generalize F j k = y at *
      generalize F i k = z at *
      cases x with
      | false =>
        clear f1 f2
        go_wp2_with fail
        refine (HL.out _ HG4.out).mono ?_
        rintro e w5 ⟨rfl, B5⟩
        go_wp2
        go_ret
        exact ⟨rfl, HB4.out.trans (B5.mono HB4.out.size)⟩
      | true =>
        have hij : (i : Int) < (j : Int) := by have := f1 rfl; omega
        cases y with
        | false =>
          clear f1 f2
          go_wp2_with fail
          refine (HL.out _ HG4.out).mono ?_
          rintro e w5 ⟨rfl, B5⟩
          go_wp2
          go_ret
          exact ⟨rfl, HB4.out.trans (B5.mono HB4.out.size)⟩
        | true =>
          obtain rfl : z = true := f2 rfl rfl
          clear f1 f2
          go_wp2_with fail
          refine (HL.out _ HG4.out).mono ?_
          rintro e w5 ⟨rfl, B5⟩
          go_wp2
          go_ret
          exact ⟨rfl, HB4.out.trans (B5.mono HB4.out.size)⟩
    · have HN0 := Lib.hid hn
      clear hn
      generalize orderE g = ce at HN0 ⊢
      have hzb : (ce != 0) = true := by simpa using HN0.out
      go_wp2_with fail
      refine (HL.out _ HG4.out).mono ?_
      rintro e w5 ⟨rfl, B5⟩
      go_wp2
      go_ret
      exact ⟨rfl, HB4.out.trans (B5.mono HB4.out.size)⟩

end Go.Proofs.YtlbhepfbogcipaaDoor

