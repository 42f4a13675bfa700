/- The walk of SchemaChecks. -/
import Derived.Test.YtijeblfhkkfjgaaDoorSchRv
import Derived.Test.YtijeblfhkkfjgaaDoorSchNo
import Derived.Test.YtijeblfhkkfjgaaDoorSchL
import Derived.Test.YtijeblfhkkfjgaaDoorSchSm
import Derived.Test.YtijeblfhkkfjgaaDoorReg
set_option linter.unusedVariables false
set_option linter.unusedSimpArgs false
namespace Go.Proofs.YtijeblfhkkfjgaaDoor
open Go.RowKit

attribute [local irreducible] checkP refP thenE

set_option maxRecDepth 100000 in
set_option maxHeartbeats 4000000 in
theorem checkslaw_any {w : World} {v : Value} {n : Nd} (h : NodeV w v n) (hl : n.attrs.length ≤ 1048575) (hG : Glob w) :
    Calls Tryd.prog 7 #[v] w fun e w' => e = .returned (.bool true) ∧ Below w.heap.size w w' := by
  obtain ⟨vin, vat, rfl, hn⟩ := h
  obtain ⟨a1, c1, rfl⟩ := hn.is.form
  obtain ⟨a2, c2, rfl⟩ := hn.ia.form
  have HN := Lib.hid hn
  have HG := Lib.hid hG
  clear hn hG
  unfold Nd.val
  go_enter Tryd.func7, Tryd.ntmps7
  go_wp2_with fail
  generalize hw1 : w.alloc _ = w1
  have HA1 : Hid (BoxN w1 w.heap.size #[.string n.op, .string n.name, .slice a1 n.ins.length c1, .string n.out, .slice a2 n.attrs.length c2] 25) := Lib.hid (by rw [← hw1]; exact BoxN.new w _ _)
  have HB1 : Hid (Below w.heap.size w w1) := Lib.hid (by rw [← hw1]; exact (Below.refl _ w).alloc (Nat.le_refl _) _)
  clear hw1
  refine (copynode_core (n := n) (HN.out.below HB1.out)).mono ?_
  rintro e w2 ⟨vin', vat', ts, rfl, hno, B2⟩
  obtain ⟨a3, c3, rfl⟩ := owns_form hno.ins
  obtain ⟨a4, c4, rfl⟩ := owns_form hno.row
  have HA2 := Lib.hid (HA1.out.below' B2)
  have HB2 := Lib.hid (HB1.out.trans (B2.mono HB1.out.size))
  have HN2 := Lib.hid hno
  have HM3 := Lib.hid (BoxN.new w2 #[.string n.op, .string n.name, .slice a3 n.ins.length c3, .string n.out, .slice a4 n.attrs.length c4] 25)
  have hb3 : ∀ o, Below w2.heap.size w2 (w2.alloc o) := fun o => (Below.refl _ _).alloc (Nat.le_refl _) _
  have HB3 := Lib.hid (HB2.out.trans ((hb3 (.cells #[.string n.op, .string n.name, .slice a3 n.ins.length c3, .string n.out, .slice a4 n.attrs.length c4] 25)).mono HB2.out.size))
  have HA3 := Lib.hid (HA2.out.below' (hb3 (.cells #[.string n.op, .string n.name, .slice a3 n.ins.length c3, .string n.out, .slice a4 n.attrs.length c4] 25)))
  have HN3 := Lib.hid (HN2.out.below (hb3 (.cells #[.string n.op, .string n.name, .slice a3 n.ins.length c3, .string n.out, .slice a4 n.attrs.length c4] 25)))
  clear B2 hno HA1 HB1 HA2 HN2 HB2 hb3
  unfold Nd.val
  go_wp2_with fail
  generalize w2.alloc _ = w3 at HM3 HB3 HA3 HN3 ⊢
  have HNB := Lib.hid HN.out.bounds
  have hx := then_any ⟨_, _, rfl, HN3.out.reads HNB.out⟩ (HG.out.below HB3.out)
  unfold Nd.val at hx
  refine hx.mono ?_
  rintro e w4 ⟨B4, va, rfl, hva⟩
  have HVA4 := Lib.hid hva
  have HM4 := Lib.hid (HM3.out.below' B4)
  have HA4 := Lib.hid (HA3.out.below' B4)
  have HN4 := Lib.hid (HN3.out.below B4)
  have HB4 := Lib.hid (HB3.out.trans (B4.mono HB3.out.size))
  clear hx hva B4 HM3 HA3 HN3 HB3
  obtain ⟨m0, m1, m2, m3, m4⟩ := HA4.out.five
  go_wp2_with fail
  clear m0 m1 m2 m3 m4
  have hx := rthen_any ⟨_, _, rfl, HN.out.below HB4.out⟩
  unfold Nd.val at hx
  refine hx.mono ?_
  rintro e w6 ⟨B6, vb, rfl, hvb⟩
  have HVB6 := Lib.hid hvb
  have HVA6 := Lib.hid (HVA4.out.below B6)
  have HM6 := Lib.hid (HM4.out.below' B6)
  have HA6 := Lib.hid (HA4.out.below' B6)
  have HN6 := Lib.hid (HN4.out.below B6)
  have HB6 := Lib.hid (HB4.out.trans (B6.mono HB4.out.size))
  clear hx hvb B6 HM4 HA4 HN4 HB4 HVA4
  have HC1 : Hid (∀ W, Below w6.heap.size w6 W → Calls Tryd.prog 11 #[.agg #[.string n.op, .string n.name, .slice a3 n.ins.length c3, .string n.out, .slice a4 n.attrs.length c4]] W fun e w' => e = .returned (.int .i64 (checkP n)) ∧ Below W.heap.size W w') := Lib.hid fun W hW => by
    have := scheck_any ⟨_, _, rfl, (HN6.out.below hW).reads HNB.out⟩ (HG.out.below (HB6.out.trans (hW.mono HB6.out.size)))
    unfold Nd.val at this
    exact this
  have HC2 : Hid (∀ W, Below w6.heap.size w6 W → Calls Tryd.prog 15 #[.agg #[.string n.op, .string n.name, .slice a1 n.ins.length c1, .string n.out, .slice a2 n.attrs.length c2]] W fun e w' => e = .returned (.int .i64 (checkP n)) ∧ Below W.heap.size W w') := Lib.hid fun W hW => by
    have := rcheck_any ⟨_, _, rfl, HN.out.below (HB6.out.trans (hW.mono HB6.out.size))⟩
    rw [refP_checkP] at this
    unfold Nd.val at this
    exact this
  have HC3 : Hid (∀ W, Below w6.heap.size w6 W → Calls Tryd.prog 13 #[va, vb] W fun e w' => e = .returned (.bool true) ∧ Below W.heap.size W w') := Lib.hid fun W hW => same_any (HVA6.out.below hW) (HVB6.out.below hW)
  have HC4 : Hid (∀ W, Below w6.heap.size w6 W → Calls Tryd.prog 16 #[.agg #[.string n.op, .string n.name, .slice a3 n.ins.length c3, .string n.out, .slice a4 n.attrs.length c4], .agg #[.string n.op, .string n.name, .slice a1 n.ins.length c1, .string n.out, .slice a2 n.attrs.length c2]] W fun e w' => e = .returned (.bool true) ∧ Below W.heap.size W w') := Lib.hid fun W hW => by
    have := snode_any n ((HN6.out.below hW).reads HNB.out) (HN.out.below (HB6.out.trans (hW.mono HB6.out.size)))
    unfold Nd.val at this
    exact this
  have HC5 : Hid (∀ W, Below w6.heap.size w6 W → Calls Tryd.prog 10 #[] W fun e w' => e = .returned (.bool true) ∧ Below W.heap.size W w') := Lib.hid fun W hW => live_any (HG.out.below (HB6.out.trans (hW.mono HB6.out.size)))
  have HS : Hid (∀ W', Below w6.heap.size w6 W' → BoxN W' w2.heap.size #[.string n.op, .string n.name, .slice a3 n.ins.length c3, .string n.out, .slice a4 n.attrs.length c4] 25 ∧ BoxN W' w.heap.size #[.string n.op, .string n.name, .slice a1 n.ins.length c1, .string n.out, .slice a2 n.attrs.length c2] 25) := Lib.hid fun W' h => ⟨HM6.out.below' h, HA6.out.below' h⟩
  generalize checkP n = p at HC1 HC2
  generalize (thenE n.attrs).2 = q
  go_wp2_with fail
  refine wp_region_plan 23 [0, 2, 1, 3, 4, 5, 6, 7, 8, 9, 10, 11, 12, 13, 14, 15, 16, 17, 18, 19, 20, 21, 22] (fun W' => Below w6.heap.size w6 W') (by kernel_rfl) (by kernel_rfl) (fun _ d _ _ _ h => by cases d <;> exact h) (Below.refl _ _).drew ?_
  have B0 : Hid (Below w6.heap.size w6 w6.drew) := Lib.hid (Below.refl _ _).drew
  generalize w6.drew = wD at B0 ⊢
  repeat
    refine plan_read (v := ?_) rfl rfl (Or.inl ⟨by rfl, ?_⟩) ?_
    rotate_left
    · intro w' hSw
      obtain ⟨s1, s2⟩ := HS.out w' hSw
      obtain ⟨e0, e1, e2, e3, e4⟩ := s1.five
      obtain ⟨g0, g1, g2, g3, g4⟩ := s2.five
      clear s1 s2
      go_simp
      try with_reducible rfl
    try simp only [Act.put, List.getElem_toArray, List.getElem_cons_zero, List.getElem_cons_succ, List.setIfInBounds_toArray, List.set_cons_zero, List.set_cons_succ]
  refine plan_act rfl rfl (fun K' hK => ?_)
  go_simp
  refine (HC1.out _ B0.out).mono ?_
  rintro e wa1 ⟨rfl, B⟩
  have B1 : Hid (Below w6.heap.size w6 wa1) := Lib.hid (B0.out.trans (B.mono B0.out.size))
  refine hK.out _ _ B1.out ?_
  clear hK K' B
  refine plan_act rfl rfl (fun K' hK => ?_)
  go_simp
  refine (HC2.out _ B1.out).mono ?_
  rintro e wa2 ⟨rfl, B⟩
  have B2 : Hid (Below w6.heap.size w6 wa2) := Lib.hid (B1.out.trans (B.mono B1.out.size))
  refine hK.out _ _ B2.out ?_
  clear hK K' B
  repeat
    refine plan_read (v := ?_) rfl rfl (Or.inl ⟨by rfl, ?_⟩) ?_
    rotate_left
    · intro w' hSw
      obtain ⟨s1, s2⟩ := HS.out w' hSw
      obtain ⟨e0, e1, e2, e3, e4⟩ := s1.five
      obtain ⟨g0, g1, g2, g3, g4⟩ := s2.five
      clear s1 s2
      go_simp
      try with_reducible rfl
    try simp only [Act.put, List.getElem_toArray, List.getElem_cons_zero, List.getElem_cons_succ, List.setIfInBounds_toArray, List.set_cons_zero, List.set_cons_succ]
  refine plan_act rfl rfl (fun K' hK => ?_)
  go_simp
  refine (HC3.out _ B2.out).mono ?_
  rintro e wa3 ⟨rfl, B⟩
  have B3 : Hid (Below w6.heap.size w6 wa3) := Lib.hid (B2.out.trans (B.mono B2.out.size))
  refine hK.out _ _ B3.out ?_
  clear hK K' B
  repeat
    refine plan_read (v := ?_) rfl rfl (Or.inl ⟨by rfl, ?_⟩) ?_
    rotate_left
    · intro w' hSw
      obtain ⟨s1, s2⟩ := HS.out w' hSw
      obtain ⟨e0, e1, e2, e3, e4⟩ := s1.five
      obtain ⟨g0, g1, g2, g3, g4⟩ := s2.five
      clear s1 s2
      go_simp
      try with_reducible rfl
    try simp only [Act.put, List.getElem_toArray, List.getElem_cons_zero, List.getElem_cons_succ, List.setIfInBounds_toArray, List.set_cons_zero, List.set_cons_succ]
  refine plan_act rfl rfl (fun K' hK => ?_)
  go_simp
  refine (HC4.out _ B3.out).mono ?_
  rintro e wa4 ⟨rfl, B⟩
  have B4 : Hid (Below w6.heap.size w6 wa4) := Lib.hid (B3.out.trans (B.mono B3.out.size))
  refine hK.out _ _ B4.out ?_
  clear hK K' B
  repeat
    refine plan_read (v := ?_) rfl rfl (Or.inl ⟨by rfl, ?_⟩) ?_
    rotate_left
    · intro w' hSw
      obtain ⟨s1, s2⟩ := HS.out w' hSw
      obtain ⟨e0, e1, e2, e3, e4⟩ := s1.five
      obtain ⟨g0, g1, g2, g3, g4⟩ := s2.five
      clear s1 s2
      go_simp
      try with_reducible rfl
    try simp only [Act.put, List.getElem_toArray, List.getElem_cons_zero, List.getElem_cons_succ, List.setIfInBounds_toArray, List.set_cons_zero, List.set_cons_succ]
  refine plan_act rfl rfl (fun K' hK => ?_)
  go_simp
  refine (HC5.out _ B4.out).mono ?_
  rintro e wa5 ⟨rfl, B⟩
  have B5 : Hid (Below w6.heap.size w6 wa5) := Lib.hid (B4.out.trans (B.mono B4.out.size))
  refine hK.out _ _ B5.out ?_
  clear hK K' B
  repeat
    refine plan_read (v := ?_) rfl rfl (Or.inl ⟨by rfl, ?_⟩) ?_
    rotate_left
    · intro w' hSw
      obtain ⟨s1, s2⟩ := HS.out w' hSw
      obtain ⟨e0, e1, e2, e3, e4⟩ := s1.five
      obtain ⟨g0, g1, g2, g3, g4⟩ := s2.five
      clear s1 s2
      go_simp
      try with_reducible rfl
    try simp only [Act.put, List.getElem_toArray, List.getElem_cons_zero, List.getElem_cons_succ, List.setIfInBounds_toArray, List.set_cons_zero, List.set_cons_succ]
  refine plan_tail rfl ?_
  simp only [List.toList_toArray, List.drop_succ_cons, List.drop_zero]
  go_wp2
  go_ret
  exact ⟨rfl, HB6.out.trans (B5.out.mono HB6.out.size)⟩

end Go.Proofs.YtijeblfhkkfjgaaDoor
