/- The walk of SchemaNames. -/
import Derived.Test.YtijeblfhkkfjgaaDoorSchNo
import Derived.Test.YtijeblfhkkfjgaaDoorSchPl
import Derived.Test.YtijeblfhkkfjgaaDoorSchL
import Derived.Test.YtijeblfhkkfjgaaDoorReg
set_option linter.unusedVariables false
set_option linter.unusedSimpArgs false
namespace Go.Proofs.YtijeblfhkkfjgaaDoor
open Go.RowKit

theorem owns_put {w : World} {B g cap n k : Nat} {ss : List ByteArray} (h : w.ownsRow B 9 1 (.slice (some ⟨g, 0, none⟩) n cap) n (ss.map Value.string)) (s : ByteArray) : (w.setCell ⟨g, k, none⟩ (.string s)).ownsRow B 9 1 (.slice (some ⟨g, 0, none⟩) n cap) n ((ss.set k s).map Value.string) := by
  rw [List.map_set]
  exact (h.stored k (.string s)).1

theorem owns_frozen {w : World} {base z g m cap n : Nat} {e : TypeId} {xs : List Value} (h : w.ownsRow base e z (.slice (some ⟨g, 0, none⟩) m cap) n xs) (j : Nat) : w.frozen? ⟨g, j, none⟩ = false := by
  obtain ⟨_, _, e⟩ := owns_form h
  obtain ⟨_, rfl, _⟩ := Value.slice.inj e
  exact h.frozenAt j

/-- Behind a store into a row of strings. -/
theorem NodeO.putIn {w : World} {B g cap k m : Nat} {n : Nd} {vat : Value} {ts : List Tri} (h : NodeO w B n (.slice (some ⟨g, 0, none⟩) m cap) vat ts) (s : ByteArray) :
    NodeO (w.setCell ⟨g, k, none⟩ (.string s)) B { n with ins := n.ins.set k s } (.slice (some ⟨g, 0, none⟩) m cap) vat ts := by
  obtain ⟨_, _, e⟩ := owns_form h.ins
  obtain ⟨_, rfl, _⟩ := Value.slice.inj e
  have hne : ∀ {e z m : _} {v : Value} {xs : List Value}, w.ownsRow B e z v m xs → e ≠ 9 → (w.setCell ⟨g, k, none⟩ (.string s)).ownsRow B e z v m xs := fun {e z m v xs} hr hn => owns_heap hr fun x hx => Below.heap_setCell _ _ _ _ (fun e2 => by
    rcases owns_apart hr h.ins hn with h1 | h1
    · rw [h1] at hx; cases hx
    · exact h1 (by rw [hx]; simp only at e2; rw [e2]; rfl))
  exact { ins := by rw [show ({ n with ins := n.ins.set k s } : Nd).ins.length = n.ins.length from List.length_set]; exact owns_put h.ins s, len := h.len, row := hne h.row (by decide), att := fun j a t h1 h2 => ⟨hne (h.att j a t h1 h2).od (by decide), hne (h.att j a t h1 h2).ox (by decide), hne (h.att j a t h1 h2).oi (by decide)⟩ }

/-- The first k inputs renamed. -/
def renamed (nm : ByteArray) (k : Nat) (ins : List ByteArray) : List ByteArray := List.replicate k nm ++ ins.drop k
theorem renamed_len {nm : ByteArray} {k : Nat} {ins : List ByteArray} (h : k ≤ ins.length) : (renamed nm k ins).length = ins.length := by simp [renamed]; omega
theorem renamed_get {nm : ByteArray} {k : Nat} {ins : List ByteArray} : (renamed nm k ins)[k]? = ins[k]? := by
  unfold renamed
  rw [List.getElem?_append_right (by simp)]
  simp
theorem renamed_set {nm : ByteArray} {k : Nat} {ins : List ByteArray} (h : k < ins.length) : (renamed nm k ins).set k nm = renamed nm (k + 1) ins := by
  unfold renamed
  rw [List.set_append_right _ _ (by simp), List.length_replicate, Nat.sub_self, List.drop_eq_getElem_cons h, List.set_cons_zero, List.replicate_succ', List.append_assoc]
  rfl

theorem toList_nil : (⟨#[]⟩ : ByteArray).toList = [] := by rw [ByteArray.toList_eq]
theorem toList_some {s : ByteArray} (h : s.toList.isEmpty = false) : ¬ s = ⟨#[]⟩ := by rintro rfl; rw [toList_nil] at h; cases h
theorem toList_no {s : ByteArray} (h : ¬ s.toList = []) : ¬ s = ⟨#[]⟩ := by rintro rfl; exact h toList_nil

attribute [local irreducible] checkP renamed

set_option maxRecDepth 100000 in
set_option maxHeartbeats 4000000 in
theorem nameslaw_any (nm : ByteArray) {w : World} {v : Value} {n : Nd} (h : NodeV w v n) (hl : n.attrs.length ≤ 1048575) (hnm : nm.size ≤ 1048576) (hG : Glob w) :
    Calls Tryd.prog 3 #[v, .string nm] w fun e w' => e = .returned (.bool true) ∧ Below w.heap.size w w' := by
  obtain ⟨vin, vat, rfl, hn⟩ := h
  obtain ⟨a1, c1, rfl⟩ := hn.is.form
  obtain ⟨a2, c2, rfl⟩ := hn.ia.form
  have hil := hn.is.len
  have HN := Lib.hid hn
  have HG := Lib.hid hG
  clear hn hG
  unfold Nd.val
  go_enter Tryd.func3, Tryd.ntmps3
  go_wp2_with fail
  generalize hw1 : w.alloc _ = w1
  have HA1 : Hid (BoxN w1 w.heap.size #[.string n.op, .string n.name, .slice a1 n.ins.length c1, .string n.out, .slice a2 n.attrs.length c2] 25) := Lib.hid (by rw [← hw1]; exact BoxN.new w _ _)
  have HB1 : Hid (Below w.heap.size w w1) := Lib.hid (by rw [← hw1]; exact (Below.refl _ w).alloc (Nat.le_refl _) _)
  clear hw1
  refine (copynode_core (n := n) (HN.out.below HB1.out)).mono ?_
  rintro e w3 ⟨vin', vat', ts, rfl, ho, B3⟩
  have hB13 := B3.size
  obtain ⟨a3, c3, rfl⟩ := owns_form ho.ins
  obtain ⟨a4, c4, rfl⟩ := owns_form ho.row
  have HA3 := Lib.hid (HA1.out.below' B3)
  have HB3 := Lib.hid (HB1.out.trans (B3.mono HB1.out.size))
  have HO3 := Lib.hid ho
  clear B3 ho HA1
  unfold Nd.val
  have HM5 := Lib.hid (BoxN.new w3 #[.string n.op, .string nm, .slice a3 n.ins.length c3, .string nm, .slice a4 n.attrs.length c4] 25)
  have hb5 : ∀ o, Below w3.heap.size w3 (w3.alloc o) := fun o => (Below.refl _ _).alloc (Nat.le_refl _) _
  have HB5 := Lib.hid fun o => HB3.out.trans ((hb5 o).mono HB3.out.size)
  have HA5 := Lib.hid fun o => HA3.out.below' (hb5 o)
  have HO5 := Lib.hid fun o => HO3.out.below (hb5 o)
  clear hb5 HA3 HO3
  go_wp2_with fail
  iterate 2
    · refine (live_any (HG.out.below (HB5.out _))).mono ?_
      rintro e w8 ⟨rfl, B8⟩
      go_wp2
      go_ret
      exact ⟨rfl, (HB5.out _).trans (B8.mono (HB5.out _).size)⟩
  have hne : n.out.toList.isEmpty = false ∧ nm.toList.isEmpty = false := by assumption
  have hno := toList_some hne.1
  have hnn := toList_some hne.2
  clear hne
  generalize hw5 : w3.alloc _ = w5
  rw [hw5] at HM5
  replace HB5 : Hid (Below w.heap.size w w5) := Lib.hid (by rw [← hw5]; exact HB5.out _)
  replace HA5 := Lib.hid (HA5.out (.cells #[.string n.op, .string nm, .slice a3 n.ins.length c3, .string nm, .slice a4 n.attrs.length c4] 25))
  replace HO5 := Lib.hid (HO5.out (.cells #[.string n.op, .string nm, .slice a3 n.ins.length c3, .string nm, .slice a4 n.attrs.length c4] 25))
  rw [hw5] at HA5 HO5
  clear hw5
  go_loopg [6] n.ins.length (fun gg s6 wr => ∃ k : Nat, k ≤ n.ins.length ∧ n.ins.length - k ≤ gg ∧ s6 = .int .i64 (k : Int) ∧ Hid (BoxN wr w3.heap.size #[.string n.op, .string nm, .slice a3 n.ins.length c3, .string nm, .slice a4 n.attrs.length c4] 25) ∧ Hid (BoxN wr w.heap.size #[.string n.op, .string n.name, .slice a1 n.ins.length c1, .string n.out, .slice a2 n.attrs.length c2] 25) ∧ Hid (Below w.heap.size w wr) ∧ Hid (NodeO wr w1.heap.size { n with ins := renamed nm k n.ins } (.slice a3 n.ins.length c3) (.slice a4 n.attrs.length c4) ts) ∧ Hid (∀ s ∈ n.ins.take k, ¬ s = ⟨#[]⟩))
  case atStart => exact ⟨0, Nat.zero_le _, by omega, rfl, HM5, HA5, HB5, by unfold renamed; exact HO5, Lib.hid (by simp)⟩
  case round =>
    obtain ⟨k, hk, hg, rfl, hM, hA, hB, hO, hT⟩ := hrel
    have m2 : wr.cell? ⟨w3.heap.size, 2, none⟩ = some (.slice a3 n.ins.length c3) := hM.out.cell 2 rfl
    by_cases hkl : k < n.ins.length
    · have hki : (k : Int) < (n.ins.length : Int) := by omega
      obtain ⟨s, hs⟩ : ∃ s, n.ins[k]? = some s := ⟨_, List.getElem?_eq_getElem hkl⟩
      obtain ⟨g, cap, hv, _, _⟩ := hO.out.ins.form (by rw [renamed_len hk]; omega)
      obtain ⟨rfl, hle, rfl⟩ := Value.slice.inj hv
      clear hle
      have hcell : wr.cell? ⟨g, k, none⟩ = some (.string s) := by
        have := hO.out.ins.cells (g := g) rfl k (.string s) (by rw [List.getElem?_map, renamed_get, hs]; rfl)
        rwa [add_off, Nat.zero_add] at this
      have hfree : wr.frozen? ⟨g, k, none⟩ = false := owns_frozen hO.out.ins k
      have HSs := Lib.hid hs
      have hset : Hid ({ n with ins := (renamed nm k n.ins).set k nm } = { n with ins := renamed nm (k + 1) n.ins }) := Lib.hid (by rw [renamed_set hkl])
      have hO' := hO.out.putIn (k := k) nm
      rw [show ({ n with ins := renamed nm k n.ins } : Nd).ins = renamed nm k n.ins from rfl] at hO'
      rw [hset.out] at hO'
      have HO' := Lib.hid hO'
      have hgM : g ≠ w3.heap.size := fun e => by
        have := owns_box hO.out.ins hM.out (by decide) g rfl
        exact this e
      have hgA : g ≠ w.heap.size := fun e => by
        have := owns_box hO.out.ins hA.out (by decide) g rfl
        exact this e
      have hgB := (hO.out.ins.lt g rfl).1
      have HM' : Hid (BoxN (wr.setCell ⟨g, k, none⟩ (.string nm)) w3.heap.size #[.string n.op, .string nm, .slice (some ⟨g, 0, none⟩) n.ins.length c3, .string nm, .slice a4 n.attrs.length c4] 25) := Lib.hid ((Below.heap_setCell _ _ _ _ (fun e => hgM e.symm)).trans hM.out)
      have HA' : Hid (BoxN (wr.setCell ⟨g, k, none⟩ (.string nm)) w.heap.size #[.string n.op, .string n.name, .slice a1 n.ins.length c1, .string n.out, .slice a2 n.attrs.length c2] 25) := Lib.hid ((Below.heap_setCell _ _ _ _ (fun e => hgA e.symm)).trans hA.out)
      have HB' : Hid (Below w.heap.size w (wr.setCell ⟨g, k, none⟩ (.string nm))) := Lib.hid (hB.out.setCell (p := ⟨g, k, none⟩) (by have := HB1.out.size; simp; omega) _)
      clear hO' hv hs hset
      by_cases hse : s = ⟨#[]⟩
      · subst hse
        go_wp2_with (go_at_call 10; refine (live_any (HG.out.below hB.out)).mono ?_; rintro e w8 ⟨rfl, B8⟩)
        go_ret
        exact ⟨rfl, hB.out.trans (B8.mono hB.out.size)⟩
      · have hsl : s.toList.isEmpty = false := by
          cases h : s.toList.isEmpty with
          | false => rfl
          | true => exact absurd (empty_of (by simpa using h)) hse
        have hsl2 : (s.toList = []) = False := by
          rw [eq_iff_iff]
          exact ⟨fun h => (by rw [h] at hsl; cases hsl), False.elim⟩
        have HT' : Hid (∀ x ∈ n.ins.take (k + 1), ¬ x = ⟨#[]⟩) := Lib.hid (by
          intro x hx
          rw [List.take_add_one, HSs.out] at hx
          rcases List.mem_append.1 hx with h | h
          · exact hT.out x h
          · obtain rfl : x = s := by simpa using h
            exact hse)
        clear hse
        go_wp2_with fail
        go_roundg (n.ins.length - (k + 1))
        case measure => omega
        case rel => exact ⟨k + 1, by omega, by omega, by go_num, HM', HA', HB', HO', HT'⟩
    · have hki : ¬ (k : Int) < (n.ins.length : Int) := by omega
      go_wp2_with fail
      obtain rfl : k = n.ins.length := by omega
      have hNB := HN.out.bounds
      have hm : checkP { n with name := nm, out := nm, ins := renamed nm n.ins.length n.ins } = checkP n := names_plain rfl rfl (renamed_len (Nat.le_refl _)) hno hnn (by have := hT.out; rwa [List.take_length] at this) (fun s hs => by
        unfold renamed at hs
        rw [List.drop_length, List.append_nil] at hs
        rw [List.eq_of_mem_replicate hs]; exact hnn)
      obtain ⟨c, hc⟩ : ∃ c, c = checkP n := ⟨_, rfl⟩
      have hcc : (c == c) = true := by simp
      have HM : Hid (∀ W, Below wr.heap.size wr W → Calls Tryd.prog 11 #[.agg #[.string n.op, .string nm, .slice a3 n.ins.length c3, .string nm, .slice a4 n.attrs.length c4]] W fun e w' => e = .returned (.int .i64 c) ∧ Below W.heap.size W w') := Lib.hid fun W hW => by
        have hO2 := (hO.out.below hW).reads ⟨by rw [renamed_len (Nat.le_refl _)]; exact hNB.ins, by show n.attrs.length ≤ _; omega, hNB.att⟩
        have := scheck_any (n := { n with name := nm, out := nm, ins := renamed nm n.ins.length n.ins }) ⟨_, _, rfl, ⟨hO2.is, hO2.ia⟩⟩ (HG.out.below (hB.out.trans (hW.mono hB.out.size)))
        unfold Nd.val at this
        rw [hm, ← hc] at this
        exact this
      have HC : Hid (∀ W, Below wr.heap.size wr W → Calls Tryd.prog 11 #[.agg #[.string n.op, .string n.name, .slice a1 n.ins.length c1, .string n.out, .slice a2 n.attrs.length c2]] W fun e w' => e = .returned (.int .i64 c) ∧ Below W.heap.size W w') := Lib.hid fun W hW => by
        have hB2 := hB.out.trans (hW.mono hB.out.size)
        have := scheck_any (n := n) ⟨_, _, rfl, HN.out.below hB2⟩ (HG.out.below hB2)
        unfold Nd.val at this
        rw [← hc] at this
        exact this
      have HL : Hid (∀ W, Below wr.heap.size wr W → Calls Tryd.prog 10 #[] W fun e w' => e = .returned (.bool true) ∧ Below W.heap.size W w') := Lib.hid fun W hW => live_any (HG.out.below (hB.out.trans (hW.mono hB.out.size)))
      have HS : Hid (∀ W', Below wr.heap.size wr W' → BoxN W' w3.heap.size #[.string n.op, .string nm, .slice a3 n.ins.length c3, .string nm, .slice a4 n.attrs.length c4] 25 ∧ BoxN W' w.heap.size #[.string n.op, .string n.name, .slice a1 n.ins.length c1, .string n.out, .slice a2 n.attrs.length c2] 25) := Lib.hid fun W' h => ⟨hM.out.below' h, hA.out.below' h⟩
      have HBr := Lib.hid hB.out
      clear hc hm hNB hT hno hnn hO hM hA hB m2 hg hk
      refine wp_region_plan 8 [0, 2, 1, 3, 4, 5, 6, 7] (fun W' => Below wr.heap.size wr W') (by kernel_rfl) (by kernel_rfl) (fun _ d _ _ _ h => by cases d <;> exact h) (Below.refl _ _).drew ?_
      have B0 : Hid (Below wr.heap.size wr wr.drew) := Lib.hid (Below.refl _ _).drew
      repeat
        refine plan_read (v := ?_) rfl rfl (Or.inl ⟨by rfl, ?_⟩) ?_
        rotate_left
        · intro w' hSw
          obtain ⟨s1, s2⟩ := HS.out w' hSw
          obtain ⟨e0, e1, e2, e3, e4⟩ := s1.five
          obtain ⟨g0, g1, g2, g3, g4⟩ := s2.five
          clear s1 s2
          go_simp
          try with_reducible rfl
        try simp only [Act.put, List.getElem_toArray, List.getElem_cons_zero, List.getElem_cons_succ, List.setIfInBounds_toArray, List.set_cons_zero, List.set_cons_succ]
      refine plan_act rfl rfl (fun K' hK => ?_)
      go_simp
      refine (HM.out _ B0.out).mono ?_
      rintro e w6 ⟨rfl, B⟩
      have B1 := Lib.hid (B0.out.trans (B.mono B0.out.size))
      refine hK.out _ _ B1.out ?_
      clear hK K' B
      refine plan_act rfl rfl (fun K' hK => ?_)
      go_simp
      refine (HC.out _ B1.out).mono ?_
      rintro e w7 ⟨rfl, B⟩
      have B2 := Lib.hid (B1.out.trans (B.mono B1.out.size))
      refine hK.out _ _ B2.out ?_
      clear hK K' B
      repeat
        refine plan_read (v := ?_) rfl rfl (Or.inl ⟨by rfl, ?_⟩) ?_
        rotate_left
        · intro w' hSw
          go_simp
          try with_reducible rfl
        try simp only [Act.put, List.getElem_toArray, List.getElem_cons_zero, List.getElem_cons_succ, List.setIfInBounds_toArray, List.set_cons_zero, List.set_cons_succ]
      refine plan_act rfl rfl (fun K' hK => ?_)
      go_simp
      refine (HL.out _ B2.out).mono ?_
      rintro e w8 ⟨rfl, B⟩
      have B3 := Lib.hid (B2.out.trans (B.mono B2.out.size))
      refine hK.out _ _ B3.out ?_
      clear hK K' B
      repeat
        refine plan_read (v := ?_) rfl rfl (Or.inl ⟨by rfl, ?_⟩) ?_
        rotate_left
        · intro w' hSw
          go_simp
          try with_reducible rfl
        try simp only [Act.put, List.getElem_toArray, List.getElem_cons_zero, List.getElem_cons_succ, List.setIfInBounds_toArray, List.set_cons_zero, List.set_cons_succ]
      refine plan_tail rfl ?_
      simp only [List.toList_toArray, List.drop_succ_cons, List.drop_zero]
      go_wp2
      go_ret
      exact ⟨rfl, HBr.out.trans (B3.out.mono HBr.out.size)⟩

end Go.Proofs.YtijeblfhkkfjgaaDoor
