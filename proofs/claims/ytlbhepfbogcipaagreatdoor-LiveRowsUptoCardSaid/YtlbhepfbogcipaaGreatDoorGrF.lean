/- The walk of mandrelref05.Copy (of a graph). -/
import Derived.Test.YtlbhepfbogcipaaGreatDoorGrE
import Derived.Test.YtlbhepfbogcipaaGreatDoorGrD
import Derived.Test.YtlbhepfbogcipaaGreatDoorSchCn
import Derived.Test.YtlbhepfbogcipaaGreatDoorGrOw
set_option linter.unusedVariables false
set_option linter.unusedSimpArgs false
namespace Go.Proofs.YtlbhepfbogcipaaGreatDoor
open Go.RowKit

def put5 (W : World) (b : Nat) (v0 v1 v2 v3 v4 : Value) : World := ((((W.setCell ⟨b, 0, none⟩ v0).setCell ⟨b, 1, none⟩ v1).setCell ⟨b, 2, none⟩ v2).setCell ⟨b, 3, none⟩ v3).setCell ⟨b, 4, none⟩ v4
theorem BoxN.put5 {W : World} {b : Nat} {x0 x1 x2 x3 x4 : Value} {t : TypeId} (h : BoxN W b #[x0, x1, x2, x3, x4] t) (v0 v1 v2 v3 v4 : Value) : BoxN (put5 W b v0 v1 v2 v3 v4) b #[v0, v1, v2, v3, v4] t := ((((h.set 0 v0).set 1 v1).set 2 v2).set 3 v3).set 4 v4
theorem below_put5 {n : Nat} {A W : World} {b : Nat} {v0 v1 v2 v3 v4 : Value} (h : Below n A W) (hb : n ≤ b) : Below n A (put5 W b v0 v1 v2 v3 v4) :=
  ((((h.setCell (p := ⟨b, 0, none⟩) hb _).setCell (p := ⟨b, 1, none⟩) hb _).setCell (p := ⟨b, 2, none⟩) hb _).setCell (p := ⟨b, 3, none⟩) hb _).setCell (p := ⟨b, 4, none⟩) hb _
theorem keep_put5 {ts : List TypeId} {B : Nat} {W : World} {b : Nat} {x0 x1 x2 x3 x4 : Value} {t : TypeId} (h : BoxN W b #[x0, x1, x2, x3, x4] t) (ht : t ∉ ts) (v0 v1 v2 v3 v4 : Value) : KeepT ts B W (put5 W b v0 v1 v2 v3 v4) :=
  (((((keep_set h ht).trans (keep_set (h.set 0 v0) ht)).trans (keep_set ((h.set 0 v0).set 1 v1) ht)).trans (keep_set (((h.set 0 v0).set 1 v1).set 2 v2) ht)).trans (keep_set ((((h.set 0 v0).set 1 v1).set 2 v2).set 3 v3) ht))
theorem BoxN.thaw5 {W : World} {b : Nat} {x0 x1 x2 x3 x4 : Value} {t : TypeId} (h : BoxN W b #[x0, x1, x2, x3, x4] t) : W.frozen? ⟨b, 0, none⟩ = false ∧ W.frozen? ⟨b, 1, none⟩ = false ∧ W.frozen? ⟨b, 2, none⟩ = false ∧ W.frozen? ⟨b, 3, none⟩ = false ∧ W.frozen? ⟨b, 4, none⟩ = false := ⟨h.frozen 0, h.frozen 1, h.frozen 2, h.frozen 3, h.frozen 4⟩
theorem BoxN.keep {ts : List TypeId} {B : Nat} {W W' : World} {b : Nat} {cs : Array Value} {t : TypeId} (h : BoxN W b cs t) (hk : KeepT ts B W W') (hb : B ≤ b) (ht : t ∈ ts) : BoxN W' b cs t := (hk b cs t (0, 0) hb h ht).trans h

/-- Behind the first region: the copies of the values, and the new graph's variable. -/
structure Aft (W2 : World) (B0 : Nat) (g : Gr) (W : World) (B : Nat) (ai : Option Addr) (ci : Nat) (ao : Option Addr) (co : Nat) : Prop where
  below : Below W2.heap.size W2 W
  le : W2.heap.size ≤ B
  box : BoxN W B #[.string g.name, .slice none 0 0, .slice ai g.ins.length ci, .slice ao g.outs.length co, .slice none 0 0] 26
  ins : ∃ ds, ValsO W B0 g.ins (.slice ai g.ins.length ci) ds
  outs : ∃ ds, ValsO W B0 g.outs (.slice ao g.outs.length co) ds
  io : ApartV (.slice ai g.ins.length ci) (.slice ao g.outs.length co)

theorem share6 {G : Prop} {P R : World → Nat → Option Addr → Nat → Option Addr → Nat → Prop} (h : (∀ a b c d e f, P a b c d e f → R a b c d e f) → G) (k : ∀ a b c d e f, P a b c d e f → R a b c d e f) : G := h k

theorem vals_below {w w' : World} {B : Nat} {l : List Vl} {v : Value} {ds : List Value} (h : ValsO w B l v ds) (hB : Below w.heap.size w w') : ValsO w' B l v ds :=
  RowO.keep h (keep_below (ts := [42, 3]) hB) (by decide) (dims_keep (keep_below (ts := [42, 3]) hB) (by decide))
theorem vals_base {w : World} {B B' : Nat} {l : List Vl} {v : Value} {ds : List Value} (h : ValsO w B' l v ds) (hb : B ≤ B') : ValsO w B l v ds :=
  ⟨h.len, owns_base h.row hb, fun j x d h1 h2 => owns_base (h.att j x d h1 h2) hb⟩
/-- All three ways end so. -/
theorem aft_of {W2 Wa Wb Wc : World} {B0 P : Nat} {g : Gr} {ai ao : Option Addr} {ci co : Nat} {ds es : List Value} (h0 : B0 ≤ W2.heap.size) (hi : ValsO Wa W2.heap.size g.ins (.slice ai g.ins.length ci) ds) (hab : Below Wa.heap.size Wa Wb)
    (ho : ValsO Wb Wa.heap.size g.outs (.slice ao g.outs.length co) es) (h2 : W2.heap.size ≤ Wa.heap.size) (hbc : Below Wb.heap.size Wb Wc) (hB : Below W2.heap.size W2 Wc) (hP : BoxN Wc P #[.string ⟨#[]⟩, .slice none 0 0, .slice none 0 0, .slice none 0 0, .slice none 0 0] 26) (hle : W2.heap.size ≤ P) :
    Aft W2 B0 g (put5 Wc P (.string g.name) (.slice none 0 0) (.slice ai g.ins.length ci) (.slice ao g.outs.length co) (.slice none 0 0)) P ai ci ao co := by
  have hk : KeepT [42, 3] B0 Wc (put5 Wc P (.string g.name) (.slice none 0 0) (.slice ai g.ins.length ci) (.slice ao g.outs.length co) (.slice none 0 0)) := keep_put5 hP (by decide) _ _ _ _ _
  refine ⟨below_put5 hB hle, hle, hP.put5 _ _ _ _ _, ⟨ds, ?_⟩, ⟨es, ?_⟩, fun x hx c => ?_⟩
  · exact RowO.keep (vals_base (vals_below (vals_below hi hab) hbc) h0) hk (by decide) (dims_keep hk (by decide))
  · exact RowO.keep (vals_base (vals_below ho hbc) (by omega)) hk (by decide) (dims_keep hk (by decide))
  · have h1 := (hi.row.lt x hx).2
    have h2 := (ho.row.lt x c).1
    omega

def ApartN (ns : List (Value × Value)) : Prop := ∀ (i j : Nat) (s u : Value × Value), i < j → ns[i]? = some s → ns[j]? = some u → ApartV s.1 u.1
theorem apart_push {w : World} {B : Nat} {l : List Nd} {v vin vat : Value} {ns : List (Value × Value)} (h : NodesO w B l v ns) (ha : ApartN ns) (hn : ∀ x, vin.ownBlock = some x → w.heap.size ≤ x) : ApartN (ns ++ [(vin, vat)]) := fun i j s u hij hs hu => by
  by_cases hj : j < ns.length
  · rw [List.getElem?_append_left hj] at hu
    rw [List.getElem?_append_left (by omega)] at hs
    exact ha i j s u hij hs hu
  · rw [List.getElem?_append_right (by omega)] at hu
    have hj0 : j - ns.length = 0 := by
      rcases Nat.eq_zero_or_pos (j - ns.length) with h | h
      · exact h
      · rw [List.getElem?_eq_none (by simp; omega)] at hu; cases hu
    rw [hj0] at hu
    obtain rfl := Option.some.inj hu
    have hi : i < ns.length := by omega
    rw [List.getElem?_append_left hi] at hs
    obtain ⟨us, ho⟩ := h.att i _ s (List.getElem?_eq_getElem (by rw [← h.len]; exact hi)) hs
    intro x hx c
    have h1 := (ho.ins.lt x hx).2
    have h2 := hn x c
    omega
theorem info_node : (Tryz.prog.info? 47).map (fun i => (i.zero, i.size, i.bytes)) = some (some (.agg #[.string ⟨#[]⟩, .string ⟨#[]⟩, .slice none 0 0, .string ⟨#[]⟩, .slice none 0 0]), 5, 96) := by kernel_rfl
theorem info_named : (Tryz.prog.info? 54).map (fun i => (i.zero, i.size, i.bytes)) = some (some (.agg #[.string ⟨#[]⟩, .int .i64 0, .slice none 0 0, .slice none 0 0]), 4, 72) := by kernel_rfl
theorem nodes_keep {ts : List TypeId} {w w' : World} {B : Nat} {l : List Nd} {v : Value} {ns : List (Value × Value)} (h : NodesO w B l v ns) (hk : KeepT ts B w w') (h0 : 47 ∈ ts) (h1 : 3 ∈ ts) (h2 : 2 ∈ ts) (h3 : 9 ∈ ts) (h4 : 77 ∈ ts) : NodesO w' B l v ns := RowO.keep h hk h0 (node_keep hk h1 h2 h3 h4)
theorem vals_keep {ts : List TypeId} {w w' : World} {B : Nat} {l : List Vl} {v : Value} (h : ∃ ds, ValsO w B l v ds) (hk : KeepT ts B w w') (h0 : 42 ∈ ts) (h1 : 3 ∈ ts) : ∃ ds, ValsO w' B l v ds := by
  obtain ⟨ds, h⟩ := h
  exact ⟨ds, RowO.keep h hk h0 (dims_keep hk h1)⟩
theorem nameds_keep {ts : List TypeId} {w w' : World} {B : Nat} {l : List Nm} {v : Value} {ns : List (Value × Value)} (h : NamedsO w B l v ns) (hk : KeepT ts B w w') (h0 : 54 ∈ ts) (h1 : 3 ∈ ts) (h2 : 2 ∈ ts) : NamedsO w' B l v ns := RowO.keep h hk h0 (named_keep hk h1 h2)

theorem GraphO.base {w : World} {B B' : Nat} {g : Gr} {vn vi vo vt : Value} (h : GraphO w B' g vn vi vo vt) (hb : B ≤ B') : GraphO w B g vn vi vo vt := by
  obtain ⟨ns, hn, hp⟩ := h.nodes
  obtain ⟨ds, hi⟩ := h.ins
  obtain ⟨es, ho⟩ := h.outs
  obtain ⟨ts, ht⟩ := h.inits
  exact ⟨⟨ns, ⟨hn.len, owns_base hn.row hb, fun j x s h1 h2 => by
    obtain ⟨us, h⟩ := hn.att j x s h1 h2
    exact ⟨us, h.base hb⟩⟩, hp⟩, ⟨ds, vals_base hi hb⟩, ⟨es, vals_base ho hb⟩, ⟨ts, ht.len, owns_base ht.row hb, fun j x s h1 h2 => ⟨owns_base (ht.att j x s h1 h2).1 hb, owns_base (ht.att j x s h1 h2).2 hb⟩⟩, h.io⟩

set_option maxRecDepth 100000 in
set_option maxHeartbeats 4000000 in
theorem gcopy_any {w : World} {v : Value} {g : Gr} (h : GraphV w v g) :
    Calls Tryz.prog 7 #[v] w fun e w' => ∃ vn vi vo vt, e = .returned (g.val vn vi vo vt) ∧ GraphO w' w.heap.size g vn vi vo vt ∧ Below w.heap.size w w' := by
  obtain ⟨i0, hi, hz0, hz1, hz2⟩ := info_parts info_node
  obtain ⟨i1, hi1, hy0, hy1, hy2⟩ := info_parts info_named
  obtain ⟨vn, vi, vo, vt, rfl, hg⟩ := h
  obtain ⟨an, cn, rfl⟩ := hg.nodes.form
  obtain ⟨ai, ci, rfl⟩ := hg.ins.form
  obtain ⟨ao, co, rfl⟩ := hg.outs.form
  obtain ⟨at', ct, rfl⟩ := hg.inits.form
  have hln := hg.nodes.len
  have hlt := hg.inits.len
  have HN := Lib.hid hg
  clear hg
  unfold Gr.val
  go_enter Tryz.func7, Tryz.ntmps7
  go_wp2_with fail
  have hB2 : Hid (Below w.heap.size w ((w.alloc (.cells #[Value.string g.name, .slice an g.nodes.length cn, .slice ai g.ins.length ci, .slice ao g.outs.length co, .slice at' g.inits.length ct] 26)).alloc (.cells #[.string ⟨#[]⟩, .slice none 0 0, .slice none 0 0, .slice none 0 0, .slice none 0 0] 26))) := Lib.hid (((Below.refl _ w).alloc (Nat.le_refl _) _).alloc (by simp) _)
  have hA2 : Hid (BoxN ((w.alloc (.cells #[Value.string g.name, .slice an g.nodes.length cn, .slice ai g.ins.length ci, .slice ao g.outs.length co, .slice at' g.inits.length ct] 26)).alloc (.cells #[.string ⟨#[]⟩, .slice none 0 0, .slice none 0 0, .slice none 0 0, .slice none 0 0] 26)) w.heap.size #[Value.string g.name, .slice an g.nodes.length cn, .slice ai g.ins.length ci, .slice ao g.outs.length co, .slice at' g.inits.length ct] 26) := Lib.hid ((BoxN.new w _ _).below' ((Below.refl _ _).alloc (Nat.le_refl _) _))
  have hR2 : Hid (BoxN ((w.alloc (.cells #[Value.string g.name, .slice an g.nodes.length cn, .slice ai g.ins.length ci, .slice ao g.outs.length co, .slice at' g.inits.length ct] 26)).alloc (.cells #[.string ⟨#[]⟩, .slice none 0 0, .slice none 0 0, .slice none 0 0, .slice none 0 0] 26)) (w.heap.size + 1) #[.string ⟨#[]⟩, .slice none 0 0, .slice none 0 0, .slice none 0 0, .slice none 0 0] 26) := Lib.hid (by
    have h := BoxN.new (w.alloc (.cells #[Value.string g.name, .slice an g.nodes.length cn, .slice ai g.ins.length ci, .slice ao g.outs.length co, .slice at' g.inits.length ct] 26)) #[.string ⟨#[]⟩, .slice none 0 0, .slice none 0 0, .slice none 0 0, .slice none 0 0] 26
    rw [World.size_alloc] at h
    exact h)
  generalize (w.alloc _).alloc _ = W2 at hB2 hA2 hR2 ⊢
  have HS : Hid (∀ W', Below W2.heap.size W2 W' → BoxN W' w.heap.size #[Value.string g.name, .slice an g.nodes.length cn, .slice ai g.ins.length ci, .slice ao g.outs.length co, .slice at' g.inits.length ct] 26) := Lib.hid fun W' h => hA2.out.below' h
  have HI : Hid (∀ W, Below W2.heap.size W2 W → Calls Tryz.prog 15 #[.slice ai g.ins.length ci] W fun e w' => ∃ vv ds, e = .returned vv ∧ ValuesO w' W.heap.size g.ins vv ds ∧ Below W.heap.size W w') := Lib.hid fun W h => copyvalues_any (HN.out.below (hB2.out.trans (h.mono hB2.out.size))).ins
  have HOu : Hid (∀ W, Below W2.heap.size W2 W → Calls Tryz.prog 15 #[.slice ao g.outs.length co] W fun e w' => ∃ vv ds, e = .returned vv ∧ ValuesO w' W.heap.size g.outs vv ds ∧ Below W.heap.size W w') := Lib.hid fun W h => copyvalues_any (HN.out.below (hB2.out.trans (h.mono hB2.out.size))).outs
  have hs2 := hB2.out.size
  rename_i hK1
  have HK1 := Lib.hid hK1
  clear hK1
  apply share6 (P := fun W B ai ci ao co => Hid (Aft W2 W2.heap.size g W B ai ci ao co))
  · intro hrest
    have HRest := Lib.hid hrest
    clear hrest
    refine wp_region_tree 10 (Pl.reads [0, 1, 2, 3, 5, 6] (.two 4 (.two 7 (.read 8 (.act 9 .tail)) 9 (.act 7 (.read 8 .tail))) 9 (.act 4 (.act 7 (.read 8 .tail))))) (fun W' => Below W2.heap.size W2 W') (by kernel_rfl) (by kernel_rfl) (fun _ d _ _ _ h => by cases d <;> exact h) (Below.refl _ _).drew ?_
    simp only [Pl.reads]
    have B0 : Hid (Below W2.heap.size W2 W2.drew) := Lib.hid (Below.refl _ _).drew
    generalize W2.drew = wD at B0 ⊢
    repeat
      refine tree_read (v := ?_) rfl (Or.inl ⟨by rfl, ?_⟩) ?_
      rotate_left
      · intro w' hSw
        obtain ⟨e0, e1, e2, e3, e4⟩ := (HS.out w' hSw).fiveG
        go_simp
        try with_reducible rfl
      try simp only [Act.put, List.getElem_toArray, List.getElem_cons_zero, List.getElem_cons_succ, List.setIfInBounds_toArray, List.set_cons_zero, List.set_cons_succ]
    refine tree_two rfl rfl (fun K' hK => ?_) (fun K' hK => ?_)
    · skip
      go_simp
      refine (HI.out _ B0.out).mono ?_
      rintro e wa ⟨v, ds, rfl, hv, Bx⟩
      obtain ⟨ai2, ci2, rfl⟩ := owns_form hv.row
      have Hwa := Lib.hid hv
      have Xwa := Lib.hid Bx
      have B1 : Hid (Below W2.heap.size W2 wa) := Lib.hid (B0.out.trans (Bx.mono B0.out.size))
      refine hK.out _ _ B1.out ?_
      clear hK K' Bx hv
      refine tree_two rfl rfl (fun K' hK => ?_) (fun K' hK => ?_)
      · skip
        go_simp
        refine (HOu.out _ B1.out).mono ?_
        rintro e wb ⟨v, es, rfl, hv, Bx⟩
        obtain ⟨ao2, co2, rfl⟩ := owns_form hv.row
        have Hwb := Lib.hid hv
        have Xwb := Lib.hid Bx
        have B2 : Hid (Below W2.heap.size W2 wb) := Lib.hid (B1.out.trans (Bx.mono B1.out.size))
        refine hK.out _ _ B2.out ?_
        clear hK K' Bx hv
        refine tree_read (v := ?_) rfl (Or.inl ⟨by rfl, ?_⟩) ?_
        rotate_left
        · intro w' hSw
          go_simp
          try with_reducible rfl
        try simp only [Act.put, List.getElem_toArray, List.getElem_cons_zero, List.getElem_cons_succ, List.setIfInBounds_toArray, List.set_cons_zero, List.set_cons_succ]
        refine tree_act rfl (fun K' hK => ?_)
        go_simp
        have HP := Lib.hid (BoxN.new wb #[.string ⟨#[]⟩, .slice none 0 0, .slice none 0 0, .slice none 0 0, .slice none 0 0] 26)
        have B3 : Hid (Below W2.heap.size W2 (wb.alloc (.cells #[.string ⟨#[]⟩, .slice none 0 0, .slice none 0 0, .slice none 0 0, .slice none 0 0] 26))) := Lib.hid (B2.out.alloc B2.out.size _)
        have Xwc : Hid (Below wb.heap.size wb (wb.alloc (.cells #[.string ⟨#[]⟩, .slice none 0 0, .slice none 0 0, .slice none 0 0, .slice none 0 0] 26))) := Lib.hid ((Below.refl _ _).alloc (Nat.le_refl _) _)
        have hP : W2.heap.size ≤ wb.heap.size := B2.out.size
        refine hK.out _ _ B3.out ?_
        clear hK K'
        generalize wb.alloc _ = wc at HP B3 Xwc ⊢
        refine tree_tail rfl ?_
        simp only [List.toList_toArray, List.drop_succ_cons, List.drop_zero]
        obtain ⟨f0, f1, f2, f3, f4⟩ := HP.out.thaw5
        obtain ⟨r0, r1, r2, r3, r4⟩ := HP.out.fiveG
        have HA := Lib.hid (aft_of (B0 := W2.heap.size) (Nat.le_refl _) (vals_base Hwa.out.vals B0.out.size) Xwb.out Hwb.out.vals B1.out.size Xwc.out B3.out HP.out hP)
        unfold put5 at HA
        go_wp2_with fail
        generalize World.setCell _ _ _ = W3 at HA ⊢
        clear f0 f1 f2 f3 f4 r0 r1 r2 r3 r4 HP hP
        generalize wb.heap.size = P at HA ⊢
        exact HRest.out _ _ _ _ _ _ HA
      · skip
        go_simp
        have HP := Lib.hid (BoxN.new wa #[.string ⟨#[]⟩, .slice none 0 0, .slice none 0 0, .slice none 0 0, .slice none 0 0] 26)
        have B2 : Hid (Below W2.heap.size W2 (wa.alloc (.cells #[.string ⟨#[]⟩, .slice none 0 0, .slice none 0 0, .slice none 0 0, .slice none 0 0] 26))) := Lib.hid (B1.out.alloc B1.out.size _)
        have Xwc : Hid (Below wa.heap.size wa (wa.alloc (.cells #[.string ⟨#[]⟩, .slice none 0 0, .slice none 0 0, .slice none 0 0, .slice none 0 0] 26))) := Lib.hid ((Below.refl _ _).alloc (Nat.le_refl _) _)
        have hP : W2.heap.size ≤ wa.heap.size := B1.out.size
        refine hK.out _ _ B2.out ?_
        clear hK K'
        generalize wa.alloc _ = wc at HP B2 Xwc ⊢
        refine tree_act rfl (fun K' hK => ?_)
        go_simp
        refine (HOu.out _ B2.out).mono ?_
        rintro e wb ⟨v, es, rfl, hv, Bx⟩
        obtain ⟨ao2, co2, rfl⟩ := owns_form hv.row
        have Hwb := Lib.hid hv
        have Xwb := Lib.hid Bx
        have B3 : Hid (Below W2.heap.size W2 wb) := Lib.hid (B2.out.trans (Bx.mono B2.out.size))
        refine hK.out _ _ B3.out ?_
        clear hK K' Bx hv
        have HP := Lib.hid (HP.out.below' Xwb.out)
        refine tree_read (v := ?_) rfl (Or.inl ⟨by rfl, ?_⟩) ?_
        rotate_left
        · intro w' hSw
          go_simp
          try with_reducible rfl
        try simp only [Act.put, List.getElem_toArray, List.getElem_cons_zero, List.getElem_cons_succ, List.setIfInBounds_toArray, List.set_cons_zero, List.set_cons_succ]
        refine tree_tail rfl ?_
        simp only [List.toList_toArray, List.drop_succ_cons, List.drop_zero]
        obtain ⟨f0, f1, f2, f3, f4⟩ := HP.out.thaw5
        obtain ⟨r0, r1, r2, r3, r4⟩ := HP.out.fiveG
        have HA := Lib.hid (aft_of (B0 := W2.heap.size) (Nat.le_refl _) (vals_base Hwa.out.vals B0.out.size) (Xwc.out.trans (Xwb.out.mono Xwc.out.size)) (vals_base Hwb.out.vals Xwc.out.size) B1.out.size (Below.refl _ _) B3.out HP.out hP)
        unfold put5 at HA
        go_wp2_with fail
        generalize World.setCell _ _ _ = W3 at HA ⊢
        clear f0 f1 f2 f3 f4 r0 r1 r2 r3 r4 HP hP
        generalize wa.heap.size = P at HA ⊢
        exact HRest.out _ _ _ _ _ _ HA
    · skip
      go_simp
      have HP := Lib.hid (BoxN.new wD #[.string ⟨#[]⟩, .slice none 0 0, .slice none 0 0, .slice none 0 0, .slice none 0 0] 26)
      have B1 : Hid (Below W2.heap.size W2 (wD.alloc (.cells #[.string ⟨#[]⟩, .slice none 0 0, .slice none 0 0, .slice none 0 0, .slice none 0 0] 26))) := Lib.hid (B0.out.alloc B0.out.size _)
      have Xwc : Hid (Below wD.heap.size wD (wD.alloc (.cells #[.string ⟨#[]⟩, .slice none 0 0, .slice none 0 0, .slice none 0 0, .slice none 0 0] 26))) := Lib.hid ((Below.refl _ _).alloc (Nat.le_refl _) _)
      have hP : W2.heap.size ≤ wD.heap.size := B0.out.size
      refine hK.out _ _ B1.out ?_
      clear hK K'
      generalize wD.alloc _ = wc at HP B1 Xwc ⊢
      refine tree_act rfl (fun K' hK => ?_)
      go_simp
      refine (HI.out _ B1.out).mono ?_
      rintro e wa ⟨v, ds, rfl, hv, Bx⟩
      obtain ⟨ai2, ci2, rfl⟩ := owns_form hv.row
      have Hwa := Lib.hid hv
      have Xwa := Lib.hid Bx
      have B2 : Hid (Below W2.heap.size W2 wa) := Lib.hid (B1.out.trans (Bx.mono B1.out.size))
      refine hK.out _ _ B2.out ?_
      clear hK K' Bx hv
      have HP := Lib.hid (HP.out.below' Xwa.out)
      refine tree_act rfl (fun K' hK => ?_)
      go_simp
      refine (HOu.out _ B2.out).mono ?_
      rintro e wb ⟨v, es, rfl, hv, Bx⟩
      obtain ⟨ao2, co2, rfl⟩ := owns_form hv.row
      have Hwb := Lib.hid hv
      have Xwb := Lib.hid Bx
      have B3 : Hid (Below W2.heap.size W2 wb) := Lib.hid (B2.out.trans (Bx.mono B2.out.size))
      refine hK.out _ _ B3.out ?_
      clear hK K' Bx hv
      have HP := Lib.hid (HP.out.below' Xwb.out)
      refine tree_read (v := ?_) rfl (Or.inl ⟨by rfl, ?_⟩) ?_
      rotate_left
      · intro w' hSw
        go_simp
        try with_reducible rfl
      try simp only [Act.put, List.getElem_toArray, List.getElem_cons_zero, List.getElem_cons_succ, List.setIfInBounds_toArray, List.set_cons_zero, List.set_cons_succ]
      refine tree_tail rfl ?_
      simp only [List.toList_toArray, List.drop_succ_cons, List.drop_zero]
      obtain ⟨f0, f1, f2, f3, f4⟩ := HP.out.thaw5
      obtain ⟨r0, r1, r2, r3, r4⟩ := HP.out.fiveG
      have HA := Lib.hid (aft_of (B0 := W2.heap.size) (Nat.le_refl _) (vals_base Hwa.out.vals B1.out.size) Xwb.out Hwb.out.vals B2.out.size (Below.refl _ _) B3.out HP.out hP)
      unfold put5 at HA
      go_wp2_with fail
      generalize World.setCell _ _ _ = W3 at HA ⊢
      clear f0 f1 f2 f3 f4 r0 r1 r2 r3 r4 HP hP
      generalize wD.heap.size = P at HA ⊢
      exact HRest.out _ _ _ _ _ _ HA
  · intro W3 B ai2 ci2 ao2 co2 hA
    refine HK1.out _ _ ?_
    go_wp2_with fail
    have hS2 := hR2.out.lt
    have HB3 := Lib.hid hA.out.below
    have hle := hA.out.le
    have HX3 := Lib.hid hA.out.box
    have HI3 := Lib.hid hA.out.ins
    have HO3 := Lib.hid hA.out.outs
    have HIO := Lib.hid hA.out.io
    clear hA HK1 HI HOu HS
    go_loopw [4] (fun i wr => ∃ (k : Nat) (nv : Value) (ns : List (Value × Value)), k ≤ g.nodes.length ∧ i = .int .i64 (k : Int) ∧ Hid ((g.nodes.take k).length = k) ∧ Hid (BoxN wr B #[.string g.name, nv, .slice ai2 g.ins.length ci2, .slice ao2 g.outs.length co2, .slice none 0 0] 26) ∧ Hid (NodesO wr W2.heap.size (g.nodes.take k) nv ns) ∧ Hid (ApartN ns) ∧ Hid (∃ ds, ValsO wr W2.heap.size g.ins (.slice ai2 g.ins.length ci2) ds) ∧ Hid (∃ ds, ValsO wr W2.heap.size g.outs (.slice ao2 g.outs.length co2) ds) ∧ Hid (Below W2.heap.size W2 wr)) (fun i _ => g.nodes.length - (intOf i).toNat)
    case atStart => exact ⟨0, .slice none 0 0, [], Nat.zero_le _, rfl, Lib.hid (by simp), HX3, Lib.hid (by rw [List.take_zero]; exact RowO.nil _ _), Lib.hid (fun i j s u _ h _ => by simp at h), HI3, HO3, HB3⟩
    case round =>
      clear HB3 HX3 HI3 HO3
      obtain ⟨k, nv, ns, hk, rfl, hL, hX, hNo, hAp, hIn, hOu, hW⟩ := hrel
      obtain ⟨anv, cnv, env⟩ := owns_form hNo.out.row
      rw [hL.out] at env
      subst env
      have hBw : Hid (Below w.heap.size w wr) := Lib.hid (hB2.out.trans (hW.out.mono hB2.out.size))
      have k1 := (hA2.out.below' hW.out).fiveG.2.1
      have hsw := hW.out.size
      by_cases hkl : k < g.nodes.length
      · have hki : (k : Int) < (g.nodes.length : Int) := by omega
        obtain ⟨x, hx⟩ : ∃ x, g.nodes[k]? = some x := ⟨_, List.getElem?_eq_getElem hkl⟩
        obtain ⟨b, off, cap, vd, vx, hv, hb, c0, c1, c2, c3, c4, h3, h4, h5, h6⟩ := node_at HN.out.nodes hx
        obtain ⟨rfl, hle2, rfl⟩ := Value.slice.inj hv
        clear hle2 hv h4 h5 h6
        have c0 := (hBw.out.cell (p := ⟨b, off + k * 5, none⟩) hb).trans c0
        have c1 := (hBw.out.cell (p := ⟨b, off + k * 5 + 1, none⟩) hb).trans c1
        have c2 := (hBw.out.cell (p := ⟨b, off + k * 5 + 2, none⟩) hb).trans c2
        have c3 := (hBw.out.cell (p := ⟨b, off + k * 5 + 3, none⟩) hb).trans c3
        have c4 := (hBw.out.cell (p := ⟨b, off + k * 5 + 4, none⟩) hb).trans c4
        have HX := Lib.hid hx
        have hcall := copynode_core (h3.below hBw.out)
        unfold Nd.val at hcall
        have HCall := Lib.hid hcall
        clear hx h3 hcall
        go_wp2_with fail
        refine HCall.out.mono ?_
        rintro e w6 ⟨vin, vat, ts, rfl, hno, B6⟩
        obtain ⟨ain, cin, rfl⟩ := owns_form hno.ins
        obtain ⟨aat, cat, rfl⟩ := owns_form hno.row
        clear c0 c1 c2 c3 c4 HCall k1
        have HB7 : Hid (Below wr.heap.size wr (w6.alloc (.cells #[.string x.op, .string x.name, .slice ain x.ins.length cin, .string x.out, .slice aat x.attrs.length cat] 47))) := Lib.hid (B6.alloc B6.size _)
        have HB8 : Hid (Below wr.heap.size wr ((w6.alloc (.cells #[.string x.op, .string x.name, .slice ain x.ins.length cin, .string x.out, .slice aat x.attrs.length cat] 47)).alloc (.cells #[.string x.op, .string x.name, .slice ain x.ins.length cin, .string x.out, .slice aat x.attrs.length cat] 47))) := Lib.hid (HB7.out.alloc HB7.out.size _)
        have HN8 : Hid (nodeO ((w6.alloc (.cells #[.string x.op, .string x.name, .slice ain x.ins.length cin, .string x.out, .slice aat x.attrs.length cat] 47)).alloc (.cells #[.string x.op, .string x.name, .slice ain x.ins.length cin, .string x.out, .slice aat x.attrs.length cat] 47)) W2.heap.size x (.slice ain x.ins.length cin, .slice aat x.attrs.length cat)) := Lib.hid ⟨ts, ((hno.base hsw).below ((Below.refl _ _).alloc (Nat.le_refl _) _)).below ((Below.refl _ _).alloc (Nat.le_refl _) _)⟩
        have HAp2 : Hid (ApartN (ns ++ [(.slice ain x.ins.length cin, .slice aat x.attrs.length cat)])) := Lib.hid (apart_push hNo.out hAp.out (fun y hy => (hno.ins.lt y hy).1))
        have hs6 := B6.size
        clear B6 hno
        have HNo8 : Hid (NodesO ((w6.alloc (.cells #[.string x.op, .string x.name, .slice ain x.ins.length cin, .string x.out, .slice aat x.attrs.length cat] 47)).alloc (.cells #[.string x.op, .string x.name, .slice ain x.ins.length cin, .string x.out, .slice aat x.attrs.length cat] 47)) W2.heap.size (g.nodes.take k) (.slice anv k cnv) ns) := Lib.hid (nodes_keep hNo.out (keep_below (ts := [3, 2, 9, 77, 47, 42, 54]) HB8.out) (by decide) (by decide) (by decide) (by decide) (by decide))
        have HRow8 : Hid (((w6.alloc (.cells #[.string x.op, .string x.name, .slice ain x.ins.length cin, .string x.out, .slice aat x.attrs.length cat] 47)).alloc (.cells #[.string x.op, .string x.name, .slice ain x.ins.length cin, .string x.out, .slice aat x.attrs.length cat] 47)).ownsRow W2.heap.size 47 5 (.slice anv k cnv) k (rowG nodeC (g.nodes.take k) ns)) := Lib.hid (by have := HNo8.out.row; rwa [hL.out] at this)
        have HX7 : Hid (BoxN (w6.alloc (.cells #[.string x.op, .string x.name, .slice ain x.ins.length cin, .string x.out, .slice aat x.attrs.length cat] 47)) B #[.string g.name, .slice anv k cnv, .slice ai2 g.ins.length ci2, .slice ao2 g.outs.length co2, .slice none 0 0] 26) := Lib.hid (hX.out.below' HB7.out)
        have HX8 : Hid (BoxN ((w6.alloc (.cells #[.string x.op, .string x.name, .slice ain x.ins.length cin, .string x.out, .slice aat x.attrs.length cat] 47)).alloc (.cells #[.string x.op, .string x.name, .slice ain x.ins.length cin, .string x.out, .slice aat x.attrs.length cat] 47)) B #[.string g.name, .slice anv k cnv, .slice ai2 g.ins.length ci2, .slice ao2 g.outs.length co2, .slice none 0 0] 26) := Lib.hid (hX.out.below' HB8.out)
        have z1 := HX7.out.fiveG.2.1
        obtain ⟨n0, n1, n2, n3, n4⟩ := (BoxN.new w6 #[.string x.op, .string x.name, .slice ain x.ins.length cin, .string x.out, .slice aat x.attrs.length cat] 47).fiveG
        go_wp2_with (at_builtin; refine wpList_append_own _ rfl _ _ 22 rfl W2.heap.size 47 i0 (.agg #[.string ⟨#[]⟩, .string ⟨#[]⟩, .slice none 0 0, .string ⟨#[]⟩, .slice none 0 0]) 5 96 Tryz.underlying22 hi hz0 hz1 hz2 rfl (by decide) _ _ _ rfl HRow8.out ⟨w6.heap.size + 1, 0, none⟩ 1 1 (#[.string x.op, .string x.name, .slice ain x.ins.length cin, .string x.out, .slice aat x.attrs.length cat] : Array Value).toList rfl rfl (World.news_of_block (heap_alloc_at (by simp))) ?A2 ?A3 ?A4 ?A5 ?_)
        case A2 => exact ⟨rfl, rfl, rfl, rfl, rfl⟩
        case A3 => unfold maxLen; omega
        case A4 => omega
        case A5 => simp; omega
        intro v' w9 hown' hgrow _
        obtain ⟨a9, c9, rfl⟩ := owns_form hown'
        have KB : KeepT [3, 2, 9, 77, 42, 54] W2.heap.size _ w9 := keep_grown HRow8.out hgrow (by decide)
        have HX9 := Lib.hid (box_grown HX8.out hgrow (fun e => owns_box HRow8.out HX8.out (by decide) _ e rfl))
        have KC : KeepT [3, 2, 9, 77, 47, 42, 54] W2.heap.size w9 (w9.setCell ⟨B, 1, none⟩ (.slice a9 (k + 1) c9)) := keep_set HX9.out (by decide)
        have hT : g.nodes.take (k + 1) = g.nodes.take k ++ [x] := by rw [List.take_add_one, HX.out]; rfl
        have HNo10 : Hid (NodesO (w9.setCell ⟨B, 1, none⟩ (.slice a9 (k + 1) c9)) W2.heap.size (g.nodes.take (k + 1)) (.slice a9 (k + 1) c9) (ns ++ [(.slice ain x.ins.length cin, .slice aat x.attrs.length cat)])) := Lib.hid (by
          rw [hT]
          exact nodes_keep (RowO.push HNo8.out (by rw [hL.out]; exact hown') (node_keep KB (by decide) (by decide) (by decide) (by decide)) HN8.out) KC (by decide) (by decide) (by decide) (by decide) (by decide))
        have HX10 : Hid (BoxN (w9.setCell ⟨B, 1, none⟩ (.slice a9 (k + 1) c9)) B #[.string g.name, .slice a9 (k + 1) c9, .slice ai2 g.ins.length ci2, .slice ao2 g.outs.length co2, .slice none 0 0] 26) := Lib.hid (HX9.out.set 1 (.slice a9 (k + 1) c9))
        have HIn10 : Hid (∃ ds, ValsO (w9.setCell ⟨B, 1, none⟩ (.slice a9 (k + 1) c9)) W2.heap.size g.ins (.slice ai2 g.ins.length ci2) ds) := Lib.hid (vals_keep (vals_keep (vals_keep hIn.out (keep_below (ts := [3, 2, 9, 77, 47, 42, 54]) HB8.out) (by decide) (by decide)) KB (by decide) (by decide)) KC (by decide) (by decide))
        have HOu10 : Hid (∃ ds, ValsO (w9.setCell ⟨B, 1, none⟩ (.slice a9 (k + 1) c9)) W2.heap.size g.outs (.slice ao2 g.outs.length co2) ds) := Lib.hid (vals_keep (vals_keep (vals_keep hOu.out (keep_below (ts := [3, 2, 9, 77, 47, 42, 54]) HB8.out) (by decide) (by decide)) KB (by decide) (by decide)) KC (by decide) (by decide))
        have HW10 : Hid (Below W2.heap.size W2 (w9.setCell ⟨B, 1, none⟩ (.slice a9 (k + 1) c9))) := Lib.hid (((hW.out.trans (HB8.out.mono hsw)).grown hgrow (by simp; omega) (fun y hy => (HRow8.out.lt y hy).1)).setCell (p := ⟨B, 1, none⟩) hle _)
        have z5 := HX9.out.fiveG.2.1
        have z6 := HX9.out.frozen 1
        clear hown' hgrow KB KC hT z1 n0 n1 n2 n3 n4
        go_wp2_with fail
        go_roundw
        case rel => exact ⟨k + 1, _, _, by omega, by go_num, Lib.hid (by rw [List.length_take]; omega), HX10, HNo10, HAp2, HIn10, HOu10, HW10⟩
        case measure => simp [intOf]; omega
      · have hki : ¬ (k : Int) < (g.nodes.length : Int) := by omega
        obtain rfl : k = g.nodes.length := by omega
        go_wp2_with fail
        have HNoF : Hid (NodesO wr W2.heap.size g.nodes (.slice anv g.nodes.length cnv) ns) := Lib.hid (by have := hNo.out; rwa [List.take_length] at this)
        clear hNo k1 hBw hL
        generalize hwq : wr = V at *
        clear hwq
        go_loopw [6] (fun i wr => ∃ (k : Nat) (iv : Value) (ts : List (Value × Value)), k ≤ g.inits.length ∧ i = .int .i64 (k : Int) ∧ Hid ((g.inits.take k).length = k) ∧ Hid (BoxN wr B #[.string g.name, .slice anv g.nodes.length cnv, .slice ai2 g.ins.length ci2, .slice ao2 g.outs.length co2, iv] 26) ∧ Hid (NamedsO wr W2.heap.size (g.inits.take k) iv ts) ∧ Hid (NodesO wr W2.heap.size g.nodes (.slice anv g.nodes.length cnv) ns) ∧ Hid (∃ ds, ValsO wr W2.heap.size g.ins (.slice ai2 g.ins.length ci2) ds) ∧ Hid (∃ ds, ValsO wr W2.heap.size g.outs (.slice ao2 g.outs.length co2) ds) ∧ Hid (Below W2.heap.size W2 wr)) (fun i _ => g.inits.length - (intOf i).toNat)
        case atStart => exact ⟨0, .slice none 0 0, [], Nat.zero_le _, rfl, Lib.hid (by simp), hX, Lib.hid (by rw [List.take_zero]; exact RowO.nil _ _), HNoF, hIn, hOu, hW⟩
        case round =>
          clear HNoF hIn hOu hW hX hsw
          obtain ⟨k, iv, ts, hk, rfl, hL, hX, hTs, hNo, hIn, hOu, hW⟩ := hrel
          obtain ⟨aiv, civ, eiv⟩ := owns_form hTs.out.row
          rw [hL.out] at eiv
          subst eiv
          have hBw : Hid (Below w.heap.size w wr) := Lib.hid (hB2.out.trans (hW.out.mono hB2.out.size))
          obtain ⟨k0, k1, k2, k3, k4⟩ := (hA2.out.below' hW.out).fiveG
          have hsw := hW.out.size
          by_cases hkl : k < g.inits.length
          · have hki : (k : Int) < (g.inits.length : Int) := by omega
            obtain ⟨x, hx⟩ : ∃ x, g.inits[k]? = some x := ⟨_, List.getElem?_eq_getElem hkl⟩
            obtain ⟨b2, off2, cap2, vd, vx, hv, hb, c0, c1, c2, c3, h1, h2, h3, h4⟩ := named_at HN.out.inits hx
            obtain ⟨rfl, hle2, rfl⟩ := Value.slice.inj hv
            clear hle2 hv h1 h2
            obtain ⟨ad, cd, rfl⟩ := h3.shape
            obtain ⟨ax, cx, rfl⟩ := h4.shape
            have HX := Lib.hid hx
            have HS : Hid (∀ W', Below wr.heap.size wr W' → W'.cell? ⟨w.heap.size, 4, none⟩ = some (.slice (some ⟨b2, off2, none⟩) g.inits.length ct) ∧ W'.cell? ⟨B, 4, none⟩ = some (.slice aiv k civ) ∧ W'.cell? ⟨b2, off2 + k * 4, none⟩ = some (.string x.name) ∧ W'.cell? ⟨b2, off2 + k * 4 + 1, none⟩ = some (.int .i64 x.typ) ∧ W'.cell? ⟨b2, off2 + k * 4 + 2, none⟩ = some (.slice ad x.dims.length cd) ∧ W'.cell? ⟨b2, off2 + k * 4 + 3, none⟩ = some (.slice ax x.data.length cx)) := Lib.hid fun W' h => by
              have hB := hBw.out.trans (h.mono hBw.out.size)
              have hB' := hW.out.trans (h.mono hsw)
              exact ⟨(hA2.out.below' hB').fiveG.2.2.2.2, (hX.out.below' h).fiveG.2.2.2.2, (hB.cell (p := ⟨b2, off2 + k * 4, none⟩) hb).trans c0, (hB.cell (p := ⟨b2, off2 + k * 4 + 1, none⟩) hb).trans c1, (hB.cell (p := ⟨b2, off2 + k * 4 + 2, none⟩) hb).trans c2, (hB.cell (p := ⟨b2, off2 + k * 4 + 3, none⟩) hb).trans c3⟩
            have HC : Hid (∀ W, Below wr.heap.size wr W → Calls Tryz.prog 17 #[.agg #[.int .i64 x.typ, .slice ad x.dims.length cd, .slice ax x.data.length cx]] W fun e w' => ∃ vd' vx', e = .returned (.agg #[.int .i64 x.typ, vd', vx']) ∧ w'.ownsRow W.heap.size 3 1 vd' x.dims.length (x.dims.map (Value.int .i64)) ∧ w'.ownsRow W.heap.size 2 1 vx' x.data.length (x.data.map (Value.int .i64)) ∧ Below W.heap.size W w') := Lib.hid fun W h => ctensor_any x.typ x.dims x.data (h3.below (hBw.out.trans (h.mono hBw.out.size))) (h4.below (hBw.out.trans (h.mono hBw.out.size)))
            clear hx h3 h4 c0 c1 c2 c3
            go_wp2_with fail
            clear k0 k1 k2 k3 k4
            refine wp_region_plan 17 [0, 1, 2, 3, 4, 5, 6, 7, 8, 9, 10, 11, 12, 13, 14, 15, 16] (fun W' => Below wr.heap.size wr W') (by kernel_rfl) (by kernel_rfl) (fun _ d _ _ _ h => by cases d <;> exact h) (Below.refl _ _).drew ?_
            have B0 : Hid (Below wr.heap.size wr wr.drew) := Lib.hid (Below.refl _ _).drew
            generalize wr.drew = wD at B0 ⊢
            repeat
              refine plan_read (v := ?_) rfl rfl (Or.inl ⟨by rfl, ?_⟩) ?_
              rotate_left
              · intro w' hSw
                obtain ⟨s0, s1, s2, s3, s4, s5⟩ := HS.out w' hSw
                go_simp
                try with_reducible rfl
              try simp only [Act.put, List.getElem_toArray, List.getElem_cons_zero, List.getElem_cons_succ, List.setIfInBounds_toArray, List.set_cons_zero, List.set_cons_succ]
            refine plan_act rfl rfl (fun K' hK => ?_)
            go_simp
            refine (HC.out _ B0.out).mono ?_
            rintro e w6 ⟨vd', vx', rfl, hod, hox, B6⟩
            obtain ⟨ad2, cd2, rfl⟩ := owns_form hod
            obtain ⟨ax2, cx2, rfl⟩ := owns_form hox
            have hsD := B0.out.size
            have B1 : Hid (Below wr.heap.size wr w6) := Lib.hid (B0.out.trans (B6.mono B0.out.size))
            refine hK.out _ _ B1.out ?_
            clear hK K'
            repeat
              refine plan_read (v := ?_) rfl rfl (Or.inl ⟨by rfl, ?_⟩) ?_
              rotate_left
              · intro w' hSw
                go_simp
                try with_reducible rfl
              try simp only [Act.put, List.getElem_toArray, List.getElem_cons_zero, List.getElem_cons_succ, List.setIfInBounds_toArray, List.set_cons_zero, List.set_cons_succ]
            refine plan_act rfl rfl (fun K' hK => ?_)
            go_simp
            refine hK.out _ _ (B1.out.alloc B1.out.size _) ?_
            clear hK K'
            have HB7 : Hid (Below wr.heap.size wr (w6.alloc (.cells #[.string x.name, .int .i64 x.typ, .slice ad2 x.dims.length cd2, .slice ax2 x.data.length cx2] 54))) := Lib.hid (B1.out.alloc B1.out.size _)
            have HN7 : Hid (namedO (w6.alloc (.cells #[.string x.name, .int .i64 x.typ, .slice ad2 x.dims.length cd2, .slice ax2 x.data.length cx2] 54)) W2.heap.size x (.slice ad2 x.dims.length cd2, .slice ax2 x.data.length cx2)) := Lib.hid ⟨(owns_base hod (by omega : W2.heap.size ≤ _)).alloc _, (owns_base hox (by omega : W2.heap.size ≤ _)).alloc _⟩
            have hs6 := B1.out.size
            clear hod hox B6
            have HTs7 : Hid (NamedsO (w6.alloc (.cells #[.string x.name, .int .i64 x.typ, .slice ad2 x.dims.length cd2, .slice ax2 x.data.length cx2] 54)) W2.heap.size (g.inits.take k) (.slice aiv k civ) ts) := Lib.hid (nameds_keep hTs.out (keep_below (ts := [3, 2, 9, 77, 47, 42, 54]) HB7.out) (by decide) (by decide) (by decide))
            have HRow7 : Hid ((w6.alloc (.cells #[.string x.name, .int .i64 x.typ, .slice ad2 x.dims.length cd2, .slice ax2 x.data.length cx2] 54)).ownsRow W2.heap.size 54 4 (.slice aiv k civ) k (rowG namedC (g.inits.take k) ts)) := Lib.hid (by have := HTs7.out.row; rwa [hL.out] at this)
            have HX7 : Hid (BoxN (w6.alloc (.cells #[.string x.name, .int .i64 x.typ, .slice ad2 x.dims.length cd2, .slice ax2 x.data.length cx2] 54)) B #[.string g.name, .slice anv g.nodes.length cnv, .slice ai2 g.ins.length ci2, .slice ao2 g.outs.length co2, .slice aiv k civ] 26) := Lib.hid (hX.out.below' HB7.out)
            refine plan_tail rfl ?_
            simp only [List.toList_toArray, List.drop_succ_cons, List.drop_zero]
            go_wp2_with (at_builtin; refine wpList_append_own _ rfl _ _ 24 rfl W2.heap.size 54 i1 (.agg #[.string ⟨#[]⟩, .int .i64 0, .slice none 0 0, .slice none 0 0]) 4 72 Tryz.underlying24 hi1 hy0 hy1 hy2 rfl (by decide) _ _ _ rfl HRow7.out ⟨w6.heap.size, 0, none⟩ 1 1 (#[.string x.name, .int .i64 x.typ, .slice ad2 x.dims.length cd2, .slice ax2 x.data.length cx2] : Array Value).toList rfl rfl (World.news_of_block (heap_alloc_new w6 _)) ?A2 ?A3 ?A4 ?A5 ?_)
            case A2 => exact ⟨rfl, rfl, rfl, rfl⟩
            case A3 => unfold maxLen; omega
            case A4 => omega
            case A5 => simp; omega
            intro v' w9 hown' hgrow _
            obtain ⟨a9, c9, rfl⟩ := owns_form hown'
            have KB : KeepT [3, 2, 9, 77, 42, 47] W2.heap.size _ w9 := keep_grown HRow7.out hgrow (by decide)
            have HX9 := Lib.hid (box_grown HX7.out hgrow (fun e => owns_box HRow7.out HX7.out (by decide) _ e rfl))
            have KC : KeepT [3, 2, 9, 77, 47, 42, 54] W2.heap.size w9 (w9.setCell ⟨B, 4, none⟩ (.slice a9 (k + 1) c9)) := keep_set HX9.out (by decide)
            have hT : g.inits.take (k + 1) = g.inits.take k ++ [x] := by rw [List.take_add_one, HX.out]; rfl
            have HTs10 : Hid (NamedsO (w9.setCell ⟨B, 4, none⟩ (.slice a9 (k + 1) c9)) W2.heap.size (g.inits.take (k + 1)) (.slice a9 (k + 1) c9) (ts ++ [(.slice ad2 x.dims.length cd2, .slice ax2 x.data.length cx2)])) := Lib.hid (by
              rw [hT]
              exact nameds_keep (RowO.push HTs7.out (by rw [hL.out]; exact hown') (named_keep KB (by decide) (by decide)) HN7.out) KC (by decide) (by decide) (by decide))
            have HX10 : Hid (BoxN (w9.setCell ⟨B, 4, none⟩ (.slice a9 (k + 1) c9)) B #[.string g.name, .slice anv g.nodes.length cnv, .slice ai2 g.ins.length ci2, .slice ao2 g.outs.length co2, .slice a9 (k + 1) c9] 26) := Lib.hid (HX9.out.set 4 (.slice a9 (k + 1) c9))
            have HNo10 : Hid (NodesO (w9.setCell ⟨B, 4, none⟩ (.slice a9 (k + 1) c9)) W2.heap.size g.nodes (.slice anv g.nodes.length cnv) ns) := Lib.hid (nodes_keep (nodes_keep (nodes_keep hNo.out (keep_below (ts := [3, 2, 9, 77, 47, 42, 54]) HB7.out) (by decide) (by decide) (by decide) (by decide) (by decide)) KB (by decide) (by decide) (by decide) (by decide) (by decide)) KC (by decide) (by decide) (by decide) (by decide) (by decide))
            have HIn10 : Hid (∃ ds, ValsO (w9.setCell ⟨B, 4, none⟩ (.slice a9 (k + 1) c9)) W2.heap.size g.ins (.slice ai2 g.ins.length ci2) ds) := Lib.hid (vals_keep (vals_keep (vals_keep hIn.out (keep_below (ts := [3, 2, 9, 77, 47, 42, 54]) HB7.out) (by decide) (by decide)) KB (by decide) (by decide)) KC (by decide) (by decide))
            have HOu10 : Hid (∃ ds, ValsO (w9.setCell ⟨B, 4, none⟩ (.slice a9 (k + 1) c9)) W2.heap.size g.outs (.slice ao2 g.outs.length co2) ds) := Lib.hid (vals_keep (vals_keep (vals_keep hOu.out (keep_below (ts := [3, 2, 9, 77, 47, 42, 54]) HB7.out) (by decide) (by decide)) KB (by decide) (by decide)) KC (by decide) (by decide))
            have HW10 : Hid (Below W2.heap.size W2 (w9.setCell ⟨B, 4, none⟩ (.slice a9 (k + 1) c9))) := Lib.hid (((hW.out.trans (HB7.out.mono hsw)).grown hgrow (by simp; omega) (fun y hy => (HRow7.out.lt y hy).1)).setCell (p := ⟨B, 4, none⟩) hle _)
            have z5 := HX9.out.fiveG.2.2.2.2
            have z6 := HX9.out.frozen 4
            clear hown' hgrow KB KC hT
            go_wp2_with fail
            go_roundw
            case rel => exact ⟨k + 1, _, _, by omega, by go_num, Lib.hid (by rw [List.length_take]; omega), HX10, HTs10, HNo10, HIn10, HOu10, HW10⟩
            case measure => simp [intOf]; omega
          · have hki : ¬ (k : Int) < (g.inits.length : Int) := by omega
            obtain rfl : k = g.inits.length := by omega
            have HTsF : Hid (NamedsO wr W2.heap.size g.inits (.slice aiv g.inits.length civ) ts) := Lib.hid (by have := hTs.out; rwa [List.take_length] at this)
            obtain ⟨q0, q1, q2, q3, q4⟩ := hX.out.fiveG
            have HRr := Lib.hid (hR2.out.below' hW.out)
            obtain ⟨r0, r1, r2, r3, r4⟩ := HRr.out.fiveG
            obtain ⟨f0, f1, f2, f3, f4⟩ := HRr.out.thaw5
            have hP := HRr.out.put5 (.string g.name) (.slice anv g.nodes.length cnv) (.slice ai2 g.ins.length ci2) (.slice ao2 g.outs.length co2) (.slice aiv g.inits.length civ)
            have KD : KeepT [3, 2, 9, 77, 47, 42, 54] W2.heap.size wr (put5 wr (w.heap.size + 1) (.string g.name) (.slice anv g.nodes.length cnv) (.slice ai2 g.ins.length ci2) (.slice ao2 g.outs.length co2) (.slice aiv g.inits.length civ)) := keep_put5 HRr.out (by decide) _ _ _ _ _
            have HG : Hid (GraphO (put5 wr (w.heap.size + 1) (.string g.name) (.slice anv g.nodes.length cnv) (.slice ai2 g.ins.length ci2) (.slice ao2 g.outs.length co2) (.slice aiv g.inits.length civ)) W2.heap.size g (.slice anv g.nodes.length cnv) (.slice ai2 g.ins.length ci2) (.slice ao2 g.outs.length co2) (.slice aiv g.inits.length civ)) := Lib.hid (GraphO.keep ⟨⟨ns, hNo.out, hAp.out⟩, hIn.out, hOu.out, ⟨ts, HTsF.out⟩, HIO.out⟩ KD)
            have HFB : Hid (Below w.heap.size w (put5 wr (w.heap.size + 1) (.string g.name) (.slice anv g.nodes.length cnv) (.slice ai2 g.ins.length ci2) (.slice ao2 g.outs.length co2) (.slice aiv g.inits.length civ))) := Lib.hid (below_put5 hBw.out (by omega))
            obtain ⟨s0, s1, s2, s3, s4⟩ := hP.fiveG
            unfold put5 at s0 s1 s2 s3 s4 HG HFB
            clear hP KD
            go_wp2_with fail
            refine bodyPost_ret (v := .agg #[.string g.name, .slice anv g.nodes.length cnv, .slice ai2 g.ins.length ci2, .slice ao2 g.outs.length co2, .slice aiv g.inits.length civ]) (by simp [results, Tryz.f7, go_sem, s0, s1, s2, s3, s4]) rfl ?_
            exact ⟨_, _, _, _, rfl, HG.out.base hs2, HFB.out⟩

end Go.Proofs.YtlbhepfbogcipaaGreatDoor
