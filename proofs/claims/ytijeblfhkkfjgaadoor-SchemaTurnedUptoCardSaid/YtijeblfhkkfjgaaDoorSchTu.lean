/- The walk of SchemaTurned. -/
import Derived.Test.YtijeblfhkkfjgaaDoorSchTi
import Derived.ArgAppend
import Derived.Deep.Upon
set_option linter.unusedVariables false
set_option linter.unusedSimpArgs false
namespace Go.Proofs.YtijeblfhkkfjgaaDoor
open Go.RowKit

theorem rowC_append : ∀ {l1 l2 : List At} {t1 t2 : List Tri}, l1.length = t1.length → rowC (l1 ++ l2) (t1 ++ t2) = rowC l1 t1 ++ rowC l2 t2
  | [], _, [], _, _ => rfl
  | _ :: l1, l2, _ :: t1, t2, h => by
    simp only [List.cons_append, rowC]
    rw [rowC_append (by simpa using h), List.append_assoc]
  | [], _, _ :: _, _, h => by simp at h
  | _ :: _, _, [], _, h => by simp at h
theorem rowC_len : ∀ {l : List At} {ts : List Tri}, l.length = ts.length → (rowC l ts).length = l.length * 9
  | [], [], _ => rfl
  | _ :: l, _ :: ts, h => by
    simp only [rowC, List.length_append, List.length_cons]
    rw [rowC_len (by simpa using h)]
    simp [attrC]; omega
  | [], _ :: _, h => by simp at h
  | _ :: _, [], h => by simp at h
theorem rowC_cut {l : List At} {ts : List Tri} (h : l.length = ts.length) (k : Nat) (hk : k ≤ l.length) : rowC l ts = rowC (l.take k) (ts.take k) ++ rowC (l.drop k) (ts.drop k) ∧ (rowC (l.take k) (ts.take k)).length = k * 9 ∧ (rowC (l.drop k) (ts.drop k)).length = (l.length - k) * 9 := by
  refine ⟨?_, ?_, ?_⟩
  · conv => lhs; rw [← List.take_append_drop k l, ← List.take_append_drop k ts]
    exact rowC_append (by simp; omega)
  · rw [rowC_len (by simp; omega), List.length_take, Nat.min_eq_left hk]
  · rw [rowC_len (by simp; omega), List.length_drop]

theorem setCells_size (b : Nat) : ∀ (vs : List Value) (o : Nat) (w : World), (w.setCells b o vs).heap.size = w.heap.size
  | [], _, _ => rfl
  | v :: vs, o, w => by
    show ((w.setCell ⟨b, o, none⟩ v).setCells b (o + 1) vs).heap.size = _
    rw [setCells_size b vs]
    show (w.heap.modify _ _).size = _
    rw [Array.size_modify]

/-- Attributes at a place of a block. -/
structure AttrsAt (w : World) (B g off cap : Nat) (l : List At) (ts : List Tri) : Prop where
  lt : g < w.heap.size
  len : ts.length = l.length
  cap : l.length ≤ cap
  cells : ∀ (j : Nat) u, (rowC l ts)[j]? = some u → w.cell? ⟨g, off + j, none⟩ = some u
  att : ∀ (j : Nat) a t, l[j]? = some a → ts[j]? = some t → AttrO w B a t.1 t.2.1 t.2.2

theorem AttrsAt.stored {w : World} {B g off cap b : Nat} {l : List At} {ts : List Tri} {cs : Array Value} (h : AttrsAt w B g off cap l ts) (hb : BoxN w b cs 25) (hg : g ≠ b) (i : Nat) (u : Value) : AttrsAt (w.setCell ⟨b, i, none⟩ u) B g off cap l ts where
  lt := by show g < (w.heap.modify _ _).size; rw [Array.size_modify]; exact h.lt
  len := h.len
  cap := h.cap
  cells := fun j v hv => (World.cell?_setCell_far _ _ _ _ (fun e => hg e.symm)).trans (h.cells j v hv)
  att := fun j a t h1 h2 => (h.att j a t h1 h2).stored hb i u

theorem AttrsAt.reads {w : World} {B g off cap : Nat} {l : List At} {ts : List Tri} (h : AttrsAt w B g off cap l ts) (h0 : l ≠ []) (hl : l.length ≤ 1048576) (hb : ∀ a ∈ l, AttrB a) : AttrsIn w (.slice (some ⟨g, off, none⟩) l.length cap) l := by
  refine .row g off cap l h0 h.cap h.lt (fun j a hj => ?_) hl
  have hjl : j < l.length := (List.getElem?_eq_some_iff.1 hj).1
  obtain ⟨t, ht⟩ : ∃ t, ts[j]? = some t := ⟨_, List.getElem?_eq_getElem (by rw [h.len]; exact hjl)⟩
  have hcell : ∀ (i : Nat) u, (attrC a t)[i]? = some u → w.cell? ⟨g, off + j * 9 + i, none⟩ = some u := fun i u hu => by
    have := h.cells _ u (rowC_get hj ht hu)
    rwa [← Nat.add_assoc] at this
  exact ⟨t.1, t.2.1, t.2.2, ⟨hcell 0 _ rfl, hcell 1 _ rfl, hcell 2 _ rfl, hcell 3 _ rfl, hcell 4 _ rfl, hcell 5 _ rfl, hcell 6 _ rfl, hcell 7 _ rfl, hcell 8 _ rfl⟩, (h.att j a t hj ht).reads (hb a (List.mem_of_getElem? hj))⟩

theorem turned_len {l : List At} {k : Nat} (hk : k ≤ l.length) : (l.drop k ++ l.take k).length = l.length := by
  rw [List.length_append, List.length_drop, List.length_take, Nat.min_eq_left hk, Nat.sub_add_cancel hk]

theorem turned_att {w : World} {B : Nat} {l : List At} {ts : List Tri} {k : Nat} (hl : ts.length = l.length) (h : ∀ (j : Nat) a t, l[j]? = some a → ts[j]? = some t → AttrO w B a t.1 t.2.1 t.2.2) :
    ∀ (j : Nat) a t, (l.drop k ++ l.take k)[j]? = some a → (ts.drop k ++ ts.take k)[j]? = some t → AttrO w B a t.1 t.2.1 t.2.2 := by
  intro j a t h1 h2
  by_cases hj : j < l.length - k
  · rw [List.getElem?_append_left (by simpa using hj), List.getElem?_drop] at h1
    rw [List.getElem?_append_left (by simp; omega), List.getElem?_drop] at h2
    exact h _ a t h1 h2
  · rw [List.getElem?_append_right (by simp; omega)] at h1
    rw [List.getElem?_append_right (by simp; omega)] at h2
    simp only [List.length_drop] at h1 h2
    rw [hl] at h2
    have e1 : (j - (l.length - k)) < k := by
      have := (List.getElem?_eq_some_iff.1 h1).1
      simp at this; omega
    rw [List.getElem?_take_of_lt e1] at h1 h2
    exact h _ a t h1 h2

/-- Behind an append of the first ones to the others, with room. -/
theorem turned_room {w : World} {B g cap k : Nat} {l : List At} {ts : List Tri} (h : AttrsO w B l (.slice (some ⟨g, 0, none⟩) l.length cap) ts) (hk : k ≤ l.length) (hr : l.length ≤ cap - k) (hc : l.length ≤ cap) :
    AttrsAt (w.setCells g (k * 9 + (l.length - k) * 9) (rowC (l.take k) (ts.take k))) B g (k * 9) (cap - k) (l.drop k ++ l.take k) (ts.drop k ++ ts.take k) := by
  obtain ⟨e1, e2, e3⟩ := rowC_cut h.len.symm k hk
  obtain ⟨hx, hy⟩ := h.row
  have hlen := turned_len hk
  rcases hy with ⟨hn, _⟩ | ⟨g', cap', cur, hv, hb, hg, hnc, hm, hs, ht⟩
  · cases hn
  · obtain ⟨hv1, _, rfl⟩ := Value.slice.inj hv
    obtain rfl : g = g' := by simpa using hv1
    have hlt : g < w.heap.size := (Array.getElem?_eq_some_iff.1 hg).1
    have hsome : ∀ j, j < cap * 9 → (w.cell? ⟨g, j, none⟩).isSome = true := fun j hj => by
      simp [World.cell?, hg, hs, hj]
    refine ⟨by rw [setCells_size]; exact hlt, by simp [h.len], by rw [hlen]; exact hr, fun j u hu => ?_, turned_att h.len (fun j a t h1 h2 => ?_)⟩
    · rw [rowC_append (by simp [h.len])] at hu
      by_cases hj : j < (l.length - k) * 9
      · rw [List.getElem?_append_left (by rw [e3]; exact hj)] at hu
        rw [World.cell?_setCells_out g _ _ _ _ (fun _ _ => Or.inl (by simp; omega))]
        have := h.row.cells (g := g) rfl (k * 9 + j) u (by rw [e1, List.getElem?_append_right (by rw [e2]; omega), e2, Nat.add_sub_cancel_left]; exact hu)
        rwa [add_off, Nat.zero_add] at this
      · rw [List.getElem?_append_right (by rw [e3]; omega), e3] at hu
        have hjl : j - (l.length - k) * 9 < k * 9 := by
          have := (List.getElem?_eq_some_iff.1 hu).1
          rw [e2] at this; exact this
        have := World.cell?_setCells_in g (rowC (l.take k) (ts.take k)) (k * 9 + (l.length - k) * 9) w (fun i hi => hsome _ (by rw [e2] at hi; omega)) (j - (l.length - k) * 9) (by rw [e2]; exact hjl)
        rw [show k * 9 + (l.length - k) * 9 + (j - (l.length - k) * 9) = k * 9 + j by omega] at this
        obtain ⟨_, e⟩ := List.getElem?_eq_some_iff.1 hu
        rw [this, e]
    · have h0 := h.att j a t h1 h2
      have hne : ∀ {e z m : _} {v : Value} {xs : List Value}, w.ownsRow B e z v m xs → e ≠ 37 → (w.setCells g (k * 9 + (l.length - k) * 9) (rowC (l.take k) (ts.take k))).ownsRow B e z v m xs := fun {e z m v xs} hr hn => owns_heap hr fun x hx => by
        refine World.heap_setCells_other _ _ _ _ (hr.lt x hx).2 (fun e2 => ?_)
        subst e2
        rcases owns_apart hr h.row hn with h1 | h1
        · rw [h1] at hx; cases hx
        · exact h1 (by rw [hx]; rfl)
      exact ⟨hne h0.od (by decide), hne h0.ox (by decide), hne h0.oi (by decide)⟩

/-- ..., in a new row. -/
theorem turned_grow {w w' : World} {B C k : Nat} {l : List At} {ts : List Tri} {v v' : Value} (h : AttrsO w B l v ts) (hk : k ≤ l.length) (h0 : l ≠ []) (hB : B ≤ C) (hown : w'.ownsRow C 37 9 v' (l.length - k + k) (rowC (l.drop k) (ts.drop k) ++ rowC (l.take k) (ts.take k))) (hg : w.grownBy w' none) :
    ∃ g cap', v' = .slice (some ⟨g, 0, none⟩) l.length cap' ∧ C ≤ g ∧ AttrsAt w' B g 0 cap' (l.drop k ++ l.take k) (ts.drop k ++ ts.take k) := by
  have hp : 0 < l.length := List.length_pos_iff.2 h0
  have hlen := turned_len hk
  rw [show l.length - k + k = l.length by omega] at hown
  obtain ⟨g, cap', rfl, h1, h2⟩ := hown.form hp
  refine ⟨g, cap', rfl, h1, h2, by simp [h.len], ?_, fun j u hu => ?_, turned_att h.len (fun j a t h1 h2 => ?_)⟩
  · rw [hlen]
    rcases hown.2 with ⟨hn, _⟩ | ⟨_, _, _, hv, _, _, hc, _⟩
    · cases hn
    · obtain ⟨_, _, rfl⟩ := Value.slice.inj hv; exact hc
  · rw [rowC_append (by simp [h.len])] at hu
    have := hown.cells (g := g) rfl j u hu
    rwa [add_off] at this
  · have hx := h.att j a t h1 h2
    have hk : ∀ {v : Value}, v.ownBlock = none ∨ v.ownBlock ≠ none := fun {v} => by
      cases v.ownBlock with
      | none => exact .inl rfl
      | some x => exact .inr (by simp)
    exact ⟨hx.od.kept hg hk, hx.ox.kept hg hk, hx.oi.kept hg hk⟩

theorem attrC_one {w : World} {B : Nat} {a : At} {t : Tri} (h : AttrO w B a t.1 t.2.1 t.2.2) : ∀ u ∈ attrC a t, u.oneCell' = true := by
  obtain ⟨_, _, e1⟩ := owns_form h.od
  obtain ⟨_, _, e2⟩ := owns_form h.ox
  obtain ⟨_, _, e3⟩ := owns_form h.oi
  unfold attrC
  rw [e1, e2, e3]
  simp [Value.oneCell']
theorem rowC_one : ∀ {l : List At} {ts : List Tri}, (∀ (j : Nat) a t, l[j]? = some a → ts[j]? = some t → ∀ u ∈ attrC a t, u.oneCell' = true) → ∀ u ∈ rowC l ts, u.oneCell' = true
  | [], _, _, u, hu => by simp [rowC] at hu
  | _ :: _, [], _, u, hu => by simp [rowC] at hu
  | a :: l, t :: ts, h, u, hu => by
    simp only [rowC, List.mem_append] at hu
    rcases hu with hu | hu
    · exact h 0 a t rfl rfl u hu
    · exact rowC_one (fun j b s h1 h2 => h (j + 1) b s h1 h2) u hu
theorem turned_one {w : World} {B : Nat} {l : List At} {v : Value} {ts : List Tri} (h : AttrsO w B l v ts) (k : Nat) : ∀ (j : Nat) a t, (l.take k)[j]? = some a → (ts.take k)[j]? = some t → ∀ u ∈ attrC a t, u.oneCell' = true := fun j a t h1 h2 => by
  have hj : j < k := by
    have := (List.getElem?_eq_some_iff.1 h1).1
    simp at this; omega
  rw [List.getElem?_take_of_lt hj] at h1 h2
  exact attrC_one (h.att j a t h1 h2)
theorem turned_spare {w : World} {B g cap j : Nat} {l : List At} {ts : List Tri} (h : AttrsO w B l (.slice (some ⟨g, 0, none⟩) l.length cap) ts) (hj : j < cap * 9) : (w.cell? ⟨g, j, none⟩).isSome = true := by
  rcases h.row.2 with ⟨hn, _⟩ | ⟨g', cap', cur, hv, hb, hg, hnc, hm, hs, ht⟩
  · cases hn
  · obtain ⟨hv1, _, rfl⟩ := Value.slice.inj hv
    obtain rfl : g = g' := by simpa using hv1
    simp [World.cell?, hg, hs, hj]
theorem owns_frozen {w : World} {base z g m cap n : Nat} {e : TypeId} {xs : List Value} (h : w.ownsRow base e z (.slice (some ⟨g, 0, none⟩) m cap) n xs) (j : Nat) : w.frozen? ⟨g, j, none⟩ = false := by
  obtain ⟨_, _, e⟩ := owns_form h
  obtain ⟨_, rfl, _⟩ := Value.slice.inj e
  exact h.frozenAt j
theorem below_setCells {n b : Nat} {a : World} (hb : n ≤ b) : ∀ (vs : List Value) (o : Nat) (w : World), Below n a w → Below n a (w.setCells b o vs)
  | [], _, _, h => h
  | v :: vs, o, w, h => below_setCells hb vs (o + 1) _ (h.setCell (p := ⟨b, o, none⟩) hb v)

attribute [local irreducible] checkP

set_option maxRecDepth 100000 in
set_option maxHeartbeats 4000000 in
theorem turnedlaw_any (k : Int) {w : World} {v : Value} {n : Nd} (h : NodeV w v n) (hl : n.attrs.length ≤ 1048575) (hk : InI k) (hG : Glob w) :
    Calls Tryd.prog 4 #[v, .int .i64 k] w fun e w' => e = .returned (.bool true) ∧ Below w.heap.size w w' := by
  obtain ⟨vin, vat, rfl, hn⟩ := h
  obtain ⟨a1, c1, rfl⟩ := hn.is.form
  obtain ⟨a2, c2, rfl⟩ := hn.ia.form
  obtain ⟨i3, hi3, hx0, hx1, hx2⟩ := info_parts info_attr
  have HN := Lib.hid hn
  have HG := Lib.hid hG
  clear hn hG
  unfold Nd.val
  go_enter Tryd.func4, Tryd.ntmps4
  go_wp2_with fail
  generalize hw1 : w.alloc _ = w1
  have HA1 : Hid (BoxN w1 w.heap.size #[.string n.op, .string n.name, .slice a1 n.ins.length c1, .string n.out, .slice a2 n.attrs.length c2] 25) := Lib.hid (by rw [← hw1]; exact BoxN.new w _ _)
  have HB1 : Hid (Below w.heap.size w w1) := Lib.hid (by rw [← hw1]; exact (Below.refl _ w).alloc (Nat.le_refl _) _)
  clear hw1
  refine (scheck_any (n := n) ⟨_, _, rfl, HN.out.below HB1.out⟩ (HG.out.below HB1.out)).mono ?_
  rintro e w2 ⟨rfl, B2⟩
  have HA2 := Lib.hid (HA1.out.below' B2)
  have HB2 := Lib.hid (HB1.out.trans (B2.mono HB1.out.size))
  clear B2 HA1 HB1
  obtain ⟨c, hc⟩ : ∃ c, c = checkP n := ⟨_, rfl⟩
  rw [← hc]
  have HC := Lib.hid hc
  clear hc
  obtain ⟨k0, k1, k2, k3, k4⟩ := HA2.out.five
  by_cases c0 : c = 0
  · subst c0
    by_cases hat : n.attrs.length = 0
    · have hai : ((n.attrs.length : Int) == 0) = true := by simpa using hat
      clear hat
      go_wp2_with (go_at_call 10; refine (live_any (HG.out.below HB2.out)).mono ?_; rintro e w3 ⟨rfl, B3⟩)
      go_ret
      exact ⟨rfl, HB2.out.trans (B3.mono HB2.out.size)⟩
    · have hai : ((n.attrs.length : Int) == 0) = false := by simpa using hat
      obtain ⟨q, hq0, hq1, hqn, hqp⟩ : ∃ q : Int, 0 ≤ q ∧ q ≤ 9223372036854775807 ∧ (k < 0 → -(k + 1) = q) ∧ (¬ k < 0 → k = q) := by
        unfold InI at hk
        by_cases hk0 : k < 0
        · exact ⟨-(k + 1), by omega, by omega, fun _ => rfl, fun h => absurd hk0 h⟩
        · exact ⟨k, by omega, by omega, fun h => absurd h hk0, fun _ => rfl⟩
      go_wp2_with fail
      refine (copynode_core (n := n) (HN.out.below HB2.out)).mono ?_
      rintro e w3 ⟨vin', vat', ts, rfl, ho, B3⟩
      have hB23 := B3.size
      obtain ⟨a3, c3, rfl⟩ := owns_form ho.ins
      obtain ⟨a4, c4, rfl⟩ := owns_form ho.row
      have HA3 := Lib.hid (HA2.out.below' B3)
      have HB3 := Lib.hid (HB2.out.trans (B3.mono HB2.out.size))
      have HO3 := Lib.hid ho
      clear B3 ho HA2 k0 k1 k2 k3 k4
      obtain ⟨hk1, hk2⟩ := hk
      rcases Int.lt_or_le k 0 with hk0 | hk0
      all_goals
        first
          | have hqe := hqn hk0
          | have hqe := hqp (by omega)
        clear hqn hqp
        unfold Nd.val
        obtain ⟨j, hj, hjl⟩ := mod_nat hq0 hat
        have hj2 : q % (n.attrs.length : Int) = (j : Int) := by rw [← hj, Int.tmod_eq_emod_of_nonneg hq0]
        clear hj
        have k4 : ∀ o, (w3.alloc o).cell? ⟨w.heap.size, 4, none⟩ = some (.slice a2 n.attrs.length c2) := fun o => cell_alloc (HA3.out.cell 4 rfl) o
        go_wp2_with fail
        rw [hj2]
        clear hqe hj2 k4
        generalize hw4 : w3.alloc _ = w4
        have HM4 : Hid (BoxN w4 w3.heap.size #[.string n.op, .string n.name, .slice a3 n.ins.length c3, .string n.out, .slice a4 n.attrs.length c4] 25) := Lib.hid (by rw [← hw4]; exact BoxN.new w3 _ _)
        have B34 : Below w3.heap.size w3 w4 := by rw [← hw4]; exact (Below.refl _ _).alloc (Nat.le_refl _) _
        have hB34 := B34.size
        have HB4 := Lib.hid (HB3.out.trans (B34.mono HB3.out.size))
        have HO4 := Lib.hid (HO3.out.below B34)
        clear hw4 B34 HA3 HB3
        have hj0 : (0 : Int) ≤ (j : Int) := by omega
        have hj1 : (j : Int) ≤ (n.attrs.length : Int) := by omega
        obtain ⟨g, cap, hv, hgB, hgl⟩ := HO4.out.row.form (by omega)
        obtain ⟨rfl, _, rfl⟩ := Value.slice.inj hv
        have hcap : n.attrs.length ≤ c4 := by
          rcases HO4.out.row.2 with ⟨hn, _⟩ | ⟨_, _, _, hv, _, _, hc, _⟩
          · cases hn
          · obtain ⟨_, _, rfl⟩ := Value.slice.inj hv; exact hc
        have hjc : (j : Int) ≤ (c4 : Int) := by omega
        have hnc : (n.attrs.length : Int) ≤ (c4 : Int) := by omega
        have HS : Hid (∀ W', Below w4.heap.size w4 W' → W'.cell? ⟨w3.heap.size, 4, none⟩ = some (.slice (some ⟨g, 0, none⟩) n.attrs.length c4)) := Lib.hid fun W' h => (HM4.out.below' h).cell 4 rfl
        clear hv
        refine wp_region_plan 8 [0, 1, 2, 3, 4, 5, 6, 7] (fun W' => Below w4.heap.size w4 W') (by kernel_rfl) (by kernel_rfl) (fun _ d _ _ _ h => by cases d <;> exact h) (Below.refl _ _).drew ?_
        repeat
          refine plan_read (v := ?_) rfl rfl (Or.inl ⟨by rfl, ?_⟩) ?_
          rotate_left
          · intro w' hSw
            have s1 := HS.out w' hSw
            go_simp
            try with_reducible rfl
          try simp only [Act.put, List.getElem_toArray, List.getElem_cons_zero, List.getElem_cons_succ, List.setIfInBounds_toArray, List.set_cons_zero, List.set_cons_succ]
        refine plan_tail rfl ?_
        simp only [List.toList_toArray, List.drop_succ_cons, List.drop_zero]
        have Bd : Below w4.heap.size w4 w4.drew := (Below.refl _ _).drew
        replace HO4 := Lib.hid (HO4.out.below Bd)
        replace HM4 := Lib.hid (HM4.out.below' Bd)
        replace HB4 := Lib.hid (HB4.out.trans (Bd.mono HB4.out.size))
        have hgB2 := (HO4.out.row.lt g rfl).1
        have hsz : w2.heap.size ≤ w4.drew.heap.size := Nat.le_trans hgB2 (Nat.le_of_lt (HO4.out.row.lt g rfl).2)
        clear Bd HS
        generalize w4.drew = w5 at HO4 HM4 HB4 hsz ⊢
        have hcj : ¬ c4 = j := by omega
        rw [if_neg hcj]
        obtain ⟨e1, e2, e3⟩ := rowC_cut HO4.out.len.symm j (by omega)
        have hcells := HO4.out.row.cells (g := g) rfl
        have E2 := Lib.hid e2
        have E3 := Lib.hid e3
        have HC1 : Hid (∀ (i : Nat) u, (rowC (n.attrs.drop j) (ts.drop j))[i]? = some u → w5.cell? ⟨g, j * 9 + i, none⟩ = some u) := Lib.hid fun i u hu => by
          have := hcells (j * 9 + i) u (by rw [e1, List.getElem?_append_right (by rw [e2]; omega), e2, Nat.add_sub_cancel_left]; exact hu)
          rwa [add_off, Nat.zero_add] at this
        have HC2 : Hid (∀ (i : Nat) u, (rowC (n.attrs.take j) (ts.take j))[i]? = some u → w5.cell? ((⟨g, 0, none⟩ : Addr).add i) = some u) := Lib.hid fun i u hu => by
          exact hcells i u (by rw [e1, List.getElem?_append_left (List.getElem?_eq_some_iff.1 hu).1]; exact hu)
        have HC3 : Hid (∀ u ∈ rowC (n.attrs.take j) (ts.take j), u.oneCell' = true) := Lib.hid (rowC_one (turned_one HO4.out.attrs j))
        have HC4 : Hid (n.attrs.length - j + j ≤ c4 - j → ∀ i, i < (rowC (n.attrs.take j) (ts.take j)).length → (w5.cell? ⟨g, j * 9 + (n.attrs.length - j) * 9 + i, none⟩).isSome = true ∧ w5.frozen? ⟨g, j * 9 + (n.attrs.length - j) * 9 + i, none⟩ = false) := Lib.hid fun h i hi => ⟨turned_spare (w := w5) HO4.out.attrs (by rw [e2] at hi; omega), owns_frozen (w := w5) HO4.out.row _⟩
        clear hcells e1 e2 e3 hcj
        go_wp2_with (at_builtin; refine wpList_append_arg _ rfl _ _ 23 rfl 37 i3 (.agg #[.string ⟨#[]⟩, .int .i64 0, .int .i64 0, .int .i64 0, .string ⟨#[]⟩, .int .i64 0, .slice none 0 0, .slice none 0 0, .slice none 0 0]) 9 136 Tryd.underlying23 hi3 hx0 hx1 hx2 rfl (by decide) g (j * 9) (n.attrs.length - j) (c4 - j) (rowC (n.attrs.drop j) (ts.drop j)) rfl E3.out HC1.out ⟨g, 0, none⟩ j c4 (rowC (n.attrs.take j) (ts.take j)) rfl E2.out HC2.out HC3.out HC4.out (by unfold maxLen; omega) (by omega) ?_ ?_)
        all_goals
          have hjn : n.attrs.length - j + j = n.attrs.length := by omega
          have hgM : g ≠ w3.heap.size := fun e => owns_box HO4.out.row HM4.out (by decide) g rfl e
          have hne0 : n.attrs ≠ [] := fun e => by rw [e] at hjl; simp at hjl
          first
          | intro hr v' w6 hown hgrow
            obtain ⟨g5, c5, rfl, hg5, hAt⟩ := turned_grow HO4.out.attrs (by omega) hne0 hsz hown hgrow
            have hM6 : BoxN w6 w3.heap.size #[.string n.op, .string n.name, .slice a3 n.ins.length c3, .string n.out, .slice (some ⟨g, 0, none⟩) n.attrs.length c4] 25 := box_grown HM4.out hgrow (by simp)
            have hI6 : w6.ownsRow w2.heap.size 9 1 (.slice a3 n.ins.length c3) n.ins.length (n.ins.map Value.string) := HO4.out.ins.kept hgrow (by cases h : (Value.slice a3 n.ins.length c3).ownBlock <;> simp)
            have hB6 : Below w.heap.size w w6 := HB4.out.grown hgrow HB4.out.size (fun x hx => by cases hx)
            have hg5M : g5 ≠ w3.heap.size := by have := HM4.out.lt; omega
            obtain ⟨a5, ha5⟩ : ∃ a5 : Option Addr, a5 = some ⟨g5, 0, none⟩ := ⟨_, rfl⟩
            have HAt : Hid (∃ g5 o5, a5 = some ⟨g5, o5, none⟩ ∧ g5 ≠ w3.heap.size ∧ AttrsAt w6 w2.heap.size g5 o5 c5 (n.attrs.drop j ++ n.attrs.take j) (ts.drop j ++ ts.take j)) := Lib.hid ⟨g5, 0, ha5, hg5M, hAt⟩
            rw [← ha5]
            clear hown hgrow hAt ha5 hg5M hg5
          | intro hr
            rw [hjn]
            have hAt := turned_room HO4.out.attrs (k := j) (by omega) (by omega) hcap
            have hM6 : BoxN (w5.setCells g (j * 9 + (n.attrs.length - j) * 9) (rowC (n.attrs.take j) (ts.take j))) w3.heap.size #[.string n.op, .string n.name, .slice a3 n.ins.length c3, .string n.out, .slice (some ⟨g, 0, none⟩) n.attrs.length c4] 25 := (World.heap_setCells_other _ _ _ _ HM4.out.lt (fun e => hgM e.symm)).trans HM4.out
            have hI6 : (w5.setCells g (j * 9 + (n.attrs.length - j) * 9) (rowC (n.attrs.take j) (ts.take j))).ownsRow w2.heap.size 9 1 (.slice a3 n.ins.length c3) n.ins.length (n.ins.map Value.string) := owns_heap HO4.out.ins fun x hx => World.heap_setCells_other _ _ _ _ (HO4.out.ins.lt x hx).2 (fun e => by
              subst e
              rcases owns_apart HO4.out.ins HO4.out.row (by decide) with h1 | h1
              · rw [h1] at hx; cases hx
              · exact h1 (by rw [hx]; rfl))
            have hB6 : Below w.heap.size w (w5.setCells g (j * 9 + (n.attrs.length - j) * 9) (rowC (n.attrs.take j) (ts.take j))) := below_setCells (by have := HB2.out.size; omega) _ _ _ HB4.out
            obtain ⟨a5, ha5⟩ : ∃ a5 : Option Addr, a5 = some ⟨g, j * 9, none⟩ := ⟨_, rfl⟩
            obtain ⟨c5, hc5⟩ : ∃ c5, c5 = c4 - j := ⟨_, rfl⟩
            rw [← hc5] at hAt
            have HAt : Hid (∃ g5 o5, a5 = some ⟨g5, o5, none⟩ ∧ g5 ≠ w3.heap.size ∧ AttrsAt (w5.setCells g (j * 9 + (n.attrs.length - j) * 9) (rowC (n.attrs.take j) (ts.take j))) w2.heap.size g5 o5 c5 (n.attrs.drop j ++ n.attrs.take j) (ts.drop j ++ ts.take j)) := Lib.hid ⟨g, j * 9, ha5, hgM, hAt⟩
            clear hAt
            generalize w5.setCells g (j * 9 + (n.attrs.length - j) * 9) (rowC (n.attrs.take j) (ts.take j)) = w6 at HAt hM6 hI6 hB6 ⊢
            rw [← ha5, ← hc5]
            clear ha5 hc5
          obtain ⟨m0, m1, m2, m3, m4⟩ := hM6.five
          have f4 : w6.frozen? ⟨w3.heap.size, 4, none⟩ = false := hM6.frozen 4
          have HI7 : Hid ((w6.setCell ⟨w3.heap.size, 4, none⟩ (.slice a5 n.attrs.length c5)).ownsRow w2.heap.size 9 1 (.slice a3 n.ins.length c3) n.ins.length (n.ins.map Value.string)) := Lib.hid (owns_heap hI6 fun x hx => Below.heap_setCell _ _ _ _ (owns_box hI6 hM6 (by decide) x hx))
          have HB7 : Hid (Below w.heap.size w (w6.setCell ⟨w3.heap.size, 4, none⟩ (.slice a5 n.attrs.length c5))) := Lib.hid (hB6.setCell (p := ⟨w3.heap.size, 4, none⟩) (by have := HB2.out.size; simp; omega) _)
          have hNB := HN.out.bounds
          have HV7 : Hid (AttrsIn (w6.setCell ⟨w3.heap.size, 4, none⟩ (.slice a5 n.attrs.length c5)) (.slice a5 n.attrs.length c5) (n.attrs.drop j ++ n.attrs.take j)) := Lib.hid (by
            obtain ⟨g5, o5, rfl, hg5, hAt⟩ := HAt.out
            have := (hAt.stored hM6 hg5 4 (.slice (some ⟨g5, o5, none⟩) n.attrs.length c5)).reads (fun e => hne0 (by
              have h1 := congrArg List.length e
              rw [turned_len (by omega)] at h1
              exact List.length_eq_zero_iff.1 h1)) (by rw [turned_len (by omega)]; omega) (fun b hb => hNB.att b (by
              rcases List.mem_append.1 hb with h | h
              · exact List.mem_of_mem_drop h
              · exact List.mem_of_mem_take h))
            rwa [turned_len (by omega)] at this)
          have h4 : checkP { n with attrs := n.attrs.drop j ++ n.attrs.take j } = 0 := turned_plain HC.out.symm (by
            have h1 := List.perm_append_comm (l₁ := n.attrs.take j) (l₂ := n.attrs.drop j)
            rwa [List.take_append_drop] at h1)
          have HH4 := Lib.hid h4
          clear h4 hI6 hB6 hM6 HAt HC1 HC2 HC3 HC4 E2 E3
          go_wp2_with fail
          clear m0 m1 m2 m3 m4 f4
          generalize w6.setCell _ _ = w7 at HI7 HB7 HV7 ⊢
          have hS := scheck_any (n := { n with attrs := n.attrs.drop j ++ n.attrs.take j }) ⟨_, _, rfl, StrsIn.own HI7.out rfl hNB.ins, HV7.out⟩ (HG.out.below HB7.out)
          unfold Nd.val at hS
          rw [HH4.out] at hS
          refine hS.mono ?_
          rintro e w8 ⟨rfl, B8⟩
          have HB8 := Lib.hid (HB7.out.trans (B8.mono HB7.out.size))
          clear B8 hS hNB HI7 HV7 HB7
          go_wp2_with (go_at_call 10; refine (live_any (HG.out.below HB8.out)).mono ?_; rintro e w9 ⟨rfl, B9⟩)
          go_ret
          exact ⟨rfl, HB8.out.trans (B9.mono HB8.out.size)⟩
  · have hcb : (c == 0) = false := by simpa using c0
    go_wp2_with (go_at_call 10; refine (live_any (HG.out.below HB2.out)).mono ?_; rintro e w3 ⟨rfl, B3⟩)
    go_ret
    exact ⟨rfl, HB2.out.trans (B3.mono HB2.out.size)⟩

end Go.Proofs.YtijeblfhkkfjgaaDoor
