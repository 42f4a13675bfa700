/- The walk of SchemaTwice. -/
import Derived.Test.YtijeblfhkkfjgaaDoorSchNo
import Derived.Test.YtijeblfhkkfjgaaDoorSchPl
import Derived.Test.YtijeblfhkkfjgaaDoorSchL
import Derived.Test.YtijeblfhkkfjgaaDoorReg
set_option linter.unusedVariables false
set_option linter.unusedSimpArgs false
namespace Go.Proofs.YtijeblfhkkfjgaaDoor
open Go.RowKit

theorem mod_nat {q : Int} {m : Nat} (h : 0 ≤ q) (hm : ¬ m = 0) : ∃ j : Nat, q.tmod (m : Int) = (j : Int) ∧ j < m := by
  rw [Int.tmod_eq_emod_of_nonneg h]
  have h1 := Int.emod_nonneg q (b := (m : Int)) (by omega)
  have h2 := Int.emod_lt_of_pos q (b := (m : Int)) (by omega)
  exact ⟨(q % (m : Int)).toNat, by omega, by omega⟩

attribute [local irreducible] checkP

set_option maxRecDepth 100000 in
set_option maxHeartbeats 4000000 in
theorem twicelaw_any (k : Int) {w : World} {v : Value} {n : Nd} (h : NodeV w v n) (hl : n.attrs.length ≤ 1048575) (hk : InI k) (hG : Glob w) :
    Calls Tryd.prog 5 #[v, .int .i64 k] w fun e w' => e = .returned (.bool true) ∧ Below w.heap.size w w' := by
  obtain ⟨vin, vat, rfl, hn⟩ := h
  obtain ⟨a1, c1, rfl⟩ := hn.is.form
  obtain ⟨a2, c2, rfl⟩ := hn.ia.form
  obtain ⟨i3, hi3, hx0, hx1, hx2⟩ := info_parts info_attr
  have HN := Lib.hid hn
  have HG := Lib.hid hG
  clear hn hG
  unfold Nd.val
  go_enter Tryd.func5, Tryd.ntmps5
  go_wp2_with fail
  generalize hw1 : w.alloc _ = w1
  have HA1 : Hid (BoxN w1 w.heap.size #[.string n.op, .string n.name, .slice a1 n.ins.length c1, .string n.out, .slice a2 n.attrs.length c2] 25) := Lib.hid (by rw [← hw1]; exact BoxN.new w _ _)
  have HB1 : Hid (Below w.heap.size w w1) := Lib.hid (by rw [← hw1]; exact (Below.refl _ w).alloc (Nat.le_refl _) _)
  clear hw1
  refine (scheck_any (n := n) ⟨_, _, rfl, HN.out.below HB1.out⟩ (HG.out.below HB1.out)).mono ?_
  rintro e w2 ⟨rfl, B2⟩
  have HA2 := Lib.hid (HA1.out.below' B2)
  have HB2 := Lib.hid (HB1.out.trans (B2.mono HB1.out.size))
  clear B2 HA1 HB1
  obtain ⟨c, hc⟩ : ∃ c, c = checkP n := ⟨_, rfl⟩
  rw [← hc]
  have HC := Lib.hid hc
  clear hc
  obtain ⟨k0, k1, k2, k3, k4⟩ := HA2.out.five
  by_cases c0 : c = 0
  · subst c0
    by_cases hat : n.attrs.length = 0
    · have hai : ((n.attrs.length : Int) == 0) = true := by simpa using hat
      clear hat
      go_wp2_with (go_at_call 10; refine (live_any (HG.out.below HB2.out)).mono ?_; rintro e w3 ⟨rfl, B3⟩)
      go_ret
      exact ⟨rfl, HB2.out.trans (B3.mono HB2.out.size)⟩
    · have hai : ((n.attrs.length : Int) == 0) = false := by simpa using hat
      obtain ⟨q, hq0, hq1, hqn, hqp⟩ : ∃ q : Int, 0 ≤ q ∧ q ≤ 9223372036854775807 ∧ (k < 0 → -(k + 1) = q) ∧ (¬ k < 0 → k = q) := by
        unfold InI at hk
        by_cases hk0 : k < 0
        · exact ⟨-(k + 1), by omega, by omega, fun _ => rfl, fun h => absurd hk0 h⟩
        · exact ⟨k, by omega, by omega, fun h => absurd h hk0, fun _ => rfl⟩
      go_wp2_with fail
      refine (copynode_core (n := n) (HN.out.below HB2.out)).mono ?_
      rintro e w3 ⟨vin', vat', ts, rfl, ho, B3⟩
      have hB23 := B3.size
      obtain ⟨a3, c3, rfl⟩ := owns_form ho.ins
      obtain ⟨a4, c4, rfl⟩ := owns_form ho.row
      have HA3 := Lib.hid (HA2.out.below' B3)
      have HB3 := Lib.hid (HB2.out.trans (B3.mono HB2.out.size))
      have HO3 := Lib.hid ho
      clear B3 ho HA2 k0 k1 k2 k3 k4
      obtain ⟨hk1, hk2⟩ := hk
      rcases Int.lt_or_le k 0 with hk0 | hk0
      all_goals
        first
          | have hqe := hqn hk0
          | have hqe := hqp (by omega)
        clear hqn hqp
        unfold Nd.val
        go_wp2_with fail
        clear hqe
        generalize hw4 : w3.alloc _ = w4
        have HM4 : Hid (BoxN w4 w3.heap.size #[.string n.op, .string n.name, .slice a3 n.ins.length c3, .string n.out, .slice a4 n.attrs.length c4] 25) := Lib.hid (by rw [← hw4]; exact BoxN.new w3 _ _)
        have B34 : Below w3.heap.size w3 w4 := by rw [← hw4]; exact (Below.refl _ _).alloc (Nat.le_refl _) _
        have hB34 := B34.size
        have HA4 := Lib.hid (HA3.out.below' B34)
        have HB4 := Lib.hid (HB3.out.trans (B34.mono HB3.out.size))
        have HO4 := Lib.hid (HO3.out.below B34)
        clear hw4 B34 HA3 HB3
        obtain ⟨j, hj, hjl⟩ := mod_nat hq0 hat
        have hj0 : (0 : Int) ≤ (j : Int) := by omega
        have hj1 : (j : Int) < (n.attrs.length : Int) := by omega
        obtain ⟨a, ha⟩ : ∃ a, n.attrs[j]? = some a := ⟨_, List.getElem?_eq_getElem hjl⟩
        obtain ⟨g, cap, ad, cd, ax, cx, ai, ci, hv, htj, hc9⟩ := owns_at HO4.out.attrs ha
        obtain ⟨rfl, _, rfl⟩ := Value.slice.inj hv
        have HT := Lib.hid htj
        have HA := Lib.hid ha
        have hgl : g < w4.heap.size := cell_in (x := ⟨g, 0 + j * 9, none⟩) hc9.c0
        have HS : Hid (∀ W', Below w4.heap.size w4 W' → W'.cell? ⟨w3.heap.size, 4, none⟩ = some (.slice (some ⟨g, 0, none⟩) n.attrs.length c4) ∧ W'.cell? ⟨w.heap.size, 4, none⟩ = some (.slice a2 n.attrs.length c2) ∧ Cells9 W' g (0 + j * 9) a (.slice ad a.dims.length cd) (.slice ax a.data.length cx) (.slice ai a.ints.length ci)) := Lib.hid fun W' h => ⟨(HM4.out.below' h).cell 4 rfl, (HA4.out.below' h).cell 4 rfl, hc9.below hgl h⟩
        clear hv htj ha hc9
        refine wp_region_plan 12 [0, 1, 2, 3, 4, 5, 6, 7, 8, 9, 10, 11] (fun W' => Below w4.heap.size w4 W') (by kernel_rfl) (by kernel_rfl) (fun _ d _ _ _ h => by cases d <;> exact h) (Below.refl _ _).drew ?_
        repeat
          refine plan_read (v := ?_) rfl rfl (Or.inl ⟨by rfl, ?_⟩) ?_
          rotate_left
          · intro w' hSw
            obtain ⟨s1, s2, s3⟩ := HS.out w' hSw
            obtain ⟨e0, e1, e2, e3, e4, e5, e6, e7, e8⟩ := s3
            simp only [Nat.zero_add] at e0 e1 e2 e3 e4 e5 e6 e7 e8
            go_simp
            try with_reducible rfl
          try simp only [Act.put, List.getElem_toArray, List.getElem_cons_zero, List.getElem_cons_succ, List.setIfInBounds_toArray, List.set_cons_zero, List.set_cons_succ]
        refine plan_act rfl rfl (fun K' hK => ?_)
        go_simp
        refine hK.out _ _ ?_ ?_
        · exact (Below.refl _ _).drew.alloc (by simp) _
        clear hK K'
        refine plan_tail rfl ?_
        simp only [List.toList_toArray, List.drop_succ_cons, List.drop_zero]
        have hB2 : w2.heap.size ≤ w4.heap.size := by omega
        go_wp2_with (at_builtin; refine wpList_append_own _ rfl _ _ 23 rfl w2.heap.size 37 i3 (.agg #[.string ⟨#[]⟩, .int .i64 0, .int .i64 0, .int .i64 0, .string ⟨#[]⟩, .int .i64 0, .slice none 0 0, .slice none 0 0, .slice none 0 0]) 9 136 Tryd.underlying23 hi3 hx0 hx1 hx2 rfl (by decide) _ _ _ rfl (HO4.out.row.drew.alloc _) ⟨w4.heap.size, 0, none⟩ 1 1 (#[.string a.name, .int .i64 a.kind, .int .i64 a.f, .int .i64 a.i, .string a.s, .int .i64 a.typ, .slice ad a.dims.length cd, .slice ax a.data.length cx, .slice ai a.ints.length ci] : Array Value).toList rfl rfl (World.news_of_block (heap_alloc_new w4.drew _)) (by simp [Value.oneCell']) (by unfold maxLen; omega) (by omega) (by simp; omega) ?_)
        intro v' w5 hown hgrow _
        obtain ⟨a5, c5, rfl⟩ := owns_form hown
        have B4 : Below w4.heap.size w4 (w4.alloc (Obj.cells #[.string a.name, .int .i64 a.kind, .int .i64 a.f, .int .i64 a.i, .string a.s, .int .i64 a.typ, .slice ad a.dims.length cd, .slice ax a.data.length cx, .slice ai a.ints.length ci] 37)).drew := ((Below.refl _ _).alloc (Nat.le_refl _) _).drew
        have hO5 := (HO4.out.below B4).appended hgrow hown (t := (.slice ad a.dims.length cd, .slice ax a.data.length cx, .slice ai a.ints.length ci)) ((HO4.out.att j a _ HA.out HT.out).below B4)
        have hM5 : BoxN w5 w3.heap.size #[.string n.op, .string n.name, .slice a3 n.ins.length c3, .string n.out, .slice (some ⟨g, 0, none⟩) n.attrs.length c4] 25 := box_grown (HM4.out.below' B4) hgrow (fun e => owns_box HO4.out.row HM4.out (by decide) _ e rfl)
        obtain ⟨m0, m1, m2, m3, m4⟩ := hM5.five
        have f4 : w5.frozen? ⟨w3.heap.size, 4, none⟩ = false := hM5.frozen 4
        have HM6 := Lib.hid (hM5.set 4 (.slice a5 (n.attrs.length + 1) c5))
        have HO6 := Lib.hid (hO5.stored hM5 4 (.slice a5 (n.attrs.length + 1) c5))
        have HB6 : Hid (Below w.heap.size w (w5.setCell ⟨w3.heap.size, 4, none⟩ (.slice a5 (n.attrs.length + 1) c5))) := Lib.hid (((HB4.out.trans (B4.mono HB4.out.size)).grown hgrow (by have := HB4.out.size; simp; omega) (fun x hx => by have := (HO4.out.row.lt x hx).1; have := HB2.out.size; omega)).setCell (p := ⟨w3.heap.size, 4, none⟩) (by have := HB2.out.size; simp; omega) _)
        clear hown hgrow hO5 hM5 B4 HS HM4 HO4 HO3 HA4
        go_wp2_with fail
        clear m0 m1 m2 m3 m4 f4
        generalize w5.setCell _ _ = w6 at HM6 HO6 HB6 ⊢
        have hNB := HN.out.bounds
        have h4 : checkP { n with attrs := n.attrs ++ [a] } = 4 := twice_plain HC.out.symm (List.mem_of_getElem? HA.out)
        have hS := scheck_any (n := { n with attrs := n.attrs ++ [a] }) ⟨_, _, rfl, HO6.out.reads ⟨hNB.ins, by simp; omega, fun b hb => by
          rcases List.mem_append.1 hb with h | h
          · exact hNB.att b h
          · obtain rfl := List.mem_singleton.1 h; exact hNB.att b (List.mem_of_getElem? HA.out)⟩⟩ (HG.out.below HB6.out)
        unfold Nd.val at hS
        rw [h4] at hS
        refine hS.mono ?_
        rintro e w7 ⟨rfl, B7⟩
        have HB7 := Lib.hid (HB6.out.trans (B7.mono HB6.out.size))
        clear B7 hS h4 hNB HM6 HO6 HB6
        go_wp2_with (go_at_call 10; refine (live_any (HG.out.below HB7.out)).mono ?_; rintro e w8 ⟨rfl, B8⟩)
        go_ret
        exact ⟨rfl, HB7.out.trans (B8.mono HB7.out.size)⟩
  · have hcb : (c == 0) = false := by simpa using c0
    go_wp2_with (go_at_call 10; refine (live_any (HG.out.below HB2.out)).mono ?_; rintro e w3 ⟨rfl, B3⟩)
    go_ret
    exact ⟨rfl, HB2.out.trans (B3.mono HB2.out.size)⟩

end Go.Proofs.YtijeblfhkkfjgaaDoor
