/- The walk of graph.makers, on. -/
import Derived.Test.YtlbhepfbogcipaaGreatDoorGrM
set_option linter.unusedVariables false
set_option linter.unusedSimpArgs false
namespace Go.Proofs.YtlbhepfbogcipaaGreatDoor
open Go.RowKit Go.WideMaps Go.Maps

theorem add_ok {l : List (ByteArray × Int)} {nm : ByteArray} {i : Int} (h : unlikeB (l.map Prod.fst) = true) (r : (decide (nm ≠ ⟨#[]⟩) && !(l.any fun p => decide (p.1 = nm))) = true) : unlikeB ((l ++ [(nm, i)]).map Prod.fst) = true := by
  rw [List.map_append]
  show unlikeB (l.map Prod.fst ++ [nm]) = true
  rw [unlike_snoc, h, ← any_fst, r]; rfl
theorem add_bad {l : List (ByteArray × Int)} {nm : ByteArray} {i : Int} {g : Gr} (r : (decide (nm ≠ ⟨#[]⟩) && !(l.any fun p => decide (p.1 = nm))) = false) (hp : ∃ rest, namesG g = (l ++ [(nm, i)]).map Prod.fst ++ rest) : unlikeB (namesG g) = false := by
  obtain ⟨rest, e⟩ := hp
  rw [e]
  refine unlike_pre ?_
  rw [List.map_append]
  show unlikeB (l.map Prod.fst ++ [nm]) = false
  rw [unlike_snoc, ← any_fst, r]; simp

def prT (g : Gr) (k : Nat) : List (ByteArray × Int) := (g.ins.map fun v => (v.name, (-1 : Int))) ++ (g.inits.take k).map fun v => (v.name, (-1 : Int))
theorem prT_next {g : Gr} {k : Nat} {x : Nm} (h : g.inits[k]? = some x) : prT g (k + 1) = prT g k ++ [(x.name, -1)] := by
  unfold prT; rw [List.take_add_one, h]; simp
theorem prT_names {g : Gr} {k : Nat} {x : Nm} (h : g.inits[k]? = some x) : ∃ r, namesG g = (prT g (k + 1)).map Prod.fst ++ r := by
  refine ⟨(g.inits.drop (k + 1)).map (·.name) ++ g.nodes.map (·.out), ?_⟩
  unfold namesG prT
  rw [List.map_append, List.map_map, List.map_map, ← List.append_assoc]
  congr 1
  rw [List.append_assoc]
  congr 1
  conv => lhs; rw [← List.take_append_drop (k + 1) g.inits, List.map_append]
  rfl
def prN (g : Gr) (k : Nat) : List (ByteArray × Int) := (g.ins.map fun v => (v.name, (-1 : Int))) ++ (g.inits.map fun v => (v.name, (-1 : Int))) ++ (g.nodes.take k).mapIdx fun i n => (n.out, (i : Int))
theorem prN_next {g : Gr} {k : Nat} {x : Nd} (h : g.nodes[k]? = some x) : prN g (k + 1) = prN g k ++ [(x.out, (k : Int))] := by
  have hk : k < g.nodes.length := (List.getElem?_eq_some_iff.1 h).1
  unfold prN
  rw [List.take_add_one, h, Option.toList_some, List.mapIdx_append]
  simp [Nat.min_eq_left (Nat.le_of_lt hk)]
theorem mapIdx_fst (l : List Nd) : (l.mapIdx fun i n => (n.out, (i : Int))).map Prod.fst = l.map (·.out) := by
  induction l using snoc_ind with
  | h0 => rfl
  | h1 l x ih => rw [List.mapIdx_append, List.map_append, ih, List.map_append]; rfl
theorem prN_names {g : Gr} {k : Nat} {x : Nd} (h : g.nodes[k]? = some x) : ∃ r, namesG g = (prN g (k + 1)).map Prod.fst ++ r := by
  refine ⟨(g.nodes.drop (k + 1)).map (·.out), ?_⟩
  unfold namesG prN
  have e : g.nodes.map (·.out) = (g.nodes.take (k + 1)).map (·.out) ++ (g.nodes.drop (k + 1)).map (·.out) := by rw [← List.map_append, List.take_append_drop]
  rw [List.map_append, List.map_append, List.map_map, List.map_map, mapIdx_fst, List.append_assoc, e]
  simp only [List.append_assoc]
  rfl
theorem prI_end (g : Gr) : prI g g.ins.length = prT g 0 := by unfold prI prT; simp
theorem prT_end (g : Gr) : prT g g.inits.length = prN g 0 := by unfold prT prN; simp
theorem prN_end (g : Gr) : prN g g.nodes.length = pairs g := by unfold prN pairs; simp
theorem pairs_names (g : Gr) : (pairs g).map Prod.fst = namesG g := by
  unfold pairs namesG
  rw [List.map_append, List.map_append, List.map_map, List.map_map, mapIdx_fst]
  rfl

attribute [local irreducible] unlikeB namesG pairs prI prT prN

set_option maxRecDepth 100000 in
set_option maxHeartbeats 4000000 in
theorem makers_any {w : World} {v : Value} {g : Gr} (h : GraphV w v g) (hlen : g.ins.length + g.inits.length + g.nodes.length ≤ 3000) :
    Calls Tryz.prog 47 #[v] w fun e w' => Below w.heap.size w w' ∧ ((unlikeB (namesG g) = true ∧ ∃ Bm n, w.heap.size ≤ Bm ∧ e = .returned (.tuple #[.map (some Bm), .bool true]) ∧ MapS w' Bm n (pairs g)) ∨ (unlikeB (namesG g) = false ∧ e = .returned (.tuple #[.map none, .bool false]))) := by
  have hmm := @run_makeMap Tryz.prog
  obtain ⟨vn, vi, vo, vt, rfl, hg⟩ := h
  obtain ⟨an, cn, rfl⟩ := hg.nodes.form
  obtain ⟨ai, ci, rfl⟩ := hg.ins.form
  obtain ⟨ao, co, rfl⟩ := hg.outs.form
  obtain ⟨at', ct, rfl⟩ := hg.inits.form
  have HN := Lib.hid hg
  clear hg
  unfold Gr.val
  go_enter Tryz.func47, Tryz.ntmps47
  have hb1 : Below w.heap.size w (((w.alloc (.cells #[Value.string g.name, Value.slice an g.nodes.length cn, Value.slice ai g.ins.length ci, Value.slice ao g.outs.length co, Value.slice at' g.inits.length ct] 26)).alloc (.map #[] 0)).alloc (.cells #[.map (some (w.heap.size + 1))] 80)) := (((Below.refl _ w).alloc (Nat.le_refl _) _).alloc (by simp) _).alloc (by simp; omega) _
  have ha1 : BoxN (((w.alloc (.cells #[Value.string g.name, Value.slice an g.nodes.length cn, Value.slice ai g.ins.length ci, Value.slice ao g.outs.length co, Value.slice at' g.inits.length ct] 26)).alloc (.map #[] 0)).alloc (.cells #[.map (some (w.heap.size + 1))] 80)) w.heap.size #[Value.string g.name, Value.slice an g.nodes.length cn, Value.slice ai g.ins.length ci, Value.slice ao g.outs.length co, Value.slice at' g.inits.length ct] 26 := (BoxN.new w #[Value.string g.name, Value.slice an g.nodes.length cn, Value.slice ai g.ins.length ci, Value.slice ao g.outs.length co, Value.slice at' g.inits.length ct] 26).below' (((Below.refl _ _).alloc (Nat.le_refl _) _).alloc (by simp) _)
  have hm1 : MapS (((w.alloc (.cells #[Value.string g.name, Value.slice an g.nodes.length cn, Value.slice ai g.ins.length ci, Value.slice ao g.outs.length co, Value.slice at' g.inits.length ct] 26)).alloc (.map #[] 0)).alloc (.cells #[.map (some (w.heap.size + 1))] 80)) (w.heap.size + 1) 0 [] := by
    have := World.ownsMap_made (w.alloc (.cells #[Value.string g.name, Value.slice an g.nodes.length cn, Value.slice ai g.ins.length ci, Value.slice ao g.outs.length co, Value.slice at' g.inits.length ct] 26)) Tryz.prog 9 (plainElem (H := Unit) Tryz.prog 3)
    rw [World.size_alloc] at this
    exact this.alloc _
  have hc1 : ((((w.alloc (.cells #[Value.string g.name, Value.slice an g.nodes.length cn, Value.slice ai g.ins.length ci, Value.slice ao g.outs.length co, Value.slice at' g.inits.length ct] 26)).alloc (.map #[] 0)).alloc (.cells #[.map (some (w.heap.size + 1))] 80))).heap[w.heap.size + 1 + 1]? = some (.cells #[.map (some (w.heap.size + 1))] 80 (0, 0)) := by
    have := World.alloc_heap_new ((w.alloc (.cells #[Value.string g.name, Value.slice an g.nodes.length cn, Value.slice ai g.ins.length ci, Value.slice ao g.outs.length co, Value.slice at' g.inits.length ct] 26)).alloc (.map #[] 0)) (.cells #[.map (some (w.heap.size + 1))] 80)
    rwa [World.size_alloc, World.size_alloc] at this
  have HB1 := Lib.hid hb1
  have HA1 := Lib.hid ha1
  have HM1 := Lib.hid hm1
  have HC1 := Lib.hid hc1
  have hs1 : w.heap.size + 1 + 1 < ((((w.alloc (.cells #[Value.string g.name, Value.slice an g.nodes.length cn, Value.slice ai g.ins.length ci, Value.slice ao g.outs.length co, Value.slice at' g.inits.length ct] 26)).alloc (.map #[] 0)).alloc (.cells #[.map (some (w.heap.size + 1))] 80))).heap.size := by simp
  clear hb1 ha1 hm1 hc1
  go_wp2_with fail
  generalize World.alloc _ _ = W1 at HB1 HA1 HM1 HC1 hs1 ⊢
  go_loopw [17] (fun i wr => ∃ k : Nat, k ≤ g.ins.length ∧ i = .int .i64 (k : Int) ∧ Hid (unlikeB ((prI g k).map Prod.fst) = true) ∧ Hid (MapS wr (w.heap.size + 1) k (prI g k)) ∧ Hid (wr.heap[w.heap.size + 1 + 1]? = some (.cells #[.map (some (w.heap.size + 1))] 80 (0, 0))) ∧ Hid (Below (w.heap.size + 1) W1 wr)) (fun i _ => g.ins.length - (intOf i).toNat)
  case atStart => exact ⟨0, Nat.zero_le _, rfl, Lib.hid (by unfold prI unlikeB; simp), by unfold prI; exact HM1, HC1, Lib.hid (Below.refl _ _)⟩
  case round =>
    obtain ⟨k, hk, rfl, hU, hM, hC, hW⟩ := hrel
    by_cases hkl : k < g.ins.length
    · have hki : (k : Int) < (g.ins.length : Int) := by omega
      obtain ⟨x, hx⟩ : ∃ x, g.ins[k]? = some x := ⟨_, List.getElem?_eq_getElem hkl⟩
      have hsz := hW.out.size
      have hBw : Below w.heap.size w wr := HB1.out.trans (hW.out.mono (Nat.le_succ _))
      obtain ⟨b, off, cap, vd, hv, hb, c0, c1, c2, h1, h2, h3⟩ := value_at HN.out.ins hx
      obtain ⟨rfl, hle, rfl⟩ := Value.slice.inj hv
      clear hle hv
      obtain ⟨ad, cd, rfl⟩ := h3.shape
      have c0 := (hBw.cell (p := ⟨b, off + k * 3, none⟩) hb).trans c0
      have c1 := (hBw.cell (p := ⟨b, off + k * 3 + 1, none⟩) hb).trans c1
      have c2 := (hBw.cell (p := ⟨b, off + k * 3 + 2, none⟩) hb).trans c2
      have HX := Lib.hid hx
      clear hx h3 h2
      go_wp2_with fail
      have HW2 : Hid (Below (w.heap.size + 1) W1 (wr.alloc (.cells #[.string x.name, .int .i64 x.typ, .slice ad x.dims.length cd] 42))) := Lib.hid (hW.out.alloc (by omega) _)
      have HM2 : Hid (MapS (wr.alloc (.cells #[.string x.name, .int .i64 x.typ, .slice ad x.dims.length cd] 42)) (w.heap.size + 1) k (prI g k)) := Lib.hid (World.ownsMap.alloc hM.out _)
      have HC2 : Hid ((wr.alloc (.cells #[.string x.name, .int .i64 x.typ, .slice ad x.dims.length cd] 42)).heap[w.heap.size + 1 + 1]? = some (.cells #[.map (some (w.heap.size + 1))] 80 (0, 0))) := Lib.hid ((((Below.refl _ wr).alloc (Nat.le_refl _) _).block _ (by omega)).trans hC.out)
      generalize wr.alloc _ = W2 at HW2 HM2 HC2 ⊢
      have hsz2 := HW2.out.size
      refine (add_any h1 (by unfold InI; omega) (by omega) HM2.out HC2.out).mono ?_
      rintro e w5 ⟨rfl, hM5, hg5⟩
      have HM5 : Hid (MapS w5 (w.heap.size + 1) (k + 1) (prI g (k + 1))) := Lib.hid (by rw [prI_next HX.out]; exact hM5)
      have HW5 := Lib.hid (HW2.out.grown hg5 (by omega) (fun k h => by cases h; exact Nat.le_refl _))
      have HC5 : Hid (w5.heap[w.heap.size + 1 + 1]? = some (.cells #[.map (some (w.heap.size + 1))] 80 (0, 0))) := Lib.hid ((hg5.block _ (by omega) (by simp)).trans HC2.out)
      clear hM5 hg5 HM2 HW2 HC2 hM hW hC c0 c1 c2 hBw
      cases hr : (decide (x.name ≠ ⟨#[]⟩) && !((prI g k).any fun p => decide (p.1 = x.name))) with
      | false =>
        have HR := Lib.hid (add_bad (g := g) (i := -1) hr (by rw [← prI_next HX.out]; exact prI_names HX.out))
        clear hr
        go_wp2
        go_ret2
        exact ⟨HB1.out.trans (HW5.out.mono (Nat.le_succ _)), Or.inr ⟨HR.out, rfl⟩⟩
      | true =>
        have HU5 : Hid (unlikeB ((prI g (k + 1)).map Prod.fst) = true) := Lib.hid (by rw [prI_next HX.out]; exact add_ok hU.out hr)
        clear hr
        go_wp2
        go_roundw
        case rel => exact ⟨k + 1, by omega, by go_num, HU5, HM5, HC5, HW5⟩
        case measure => simp [intOf]; omega
    · have hki : ¬ (k : Int) < (g.ins.length : Int) := by omega
      obtain rfl : k = g.ins.length := by omega
      have hA2 := HA1.out.below (n := w.heap.size + 1) (Nat.lt_succ_self _) hW.out
      obtain ⟨k0, k1, k2, k3, k4⟩ := hA2.fiveG
      have HU := Lib.hid (by rw [← prI_end]; exact hU.out : unlikeB ((prT g 0).map Prod.fst) = true)
      have HM0 : Hid (MapS wr (w.heap.size + 1) (g.ins.length + 0) (prT g 0)) := Lib.hid (by rw [← prI_end]; exact hM.out)
      clear hU hM hA2
      go_wp2
      clear k0 k1 k2 k3 k4
      generalize hwq : wr = V30 at *
      clear hwq
      go_loopw [30] (fun i wr => ∃ k : Nat, k ≤ g.inits.length ∧ i = .int .i64 (k : Int) ∧ Hid (unlikeB ((prT g k).map Prod.fst) = true) ∧ Hid (MapS wr (w.heap.size + 1) (g.ins.length + k) (prT g k)) ∧ Hid (wr.heap[w.heap.size + 1 + 1]? = some (.cells #[.map (some (w.heap.size + 1))] 80 (0, 0))) ∧ Hid (Below (w.heap.size + 1) W1 wr)) (fun i _ => g.inits.length - (intOf i).toNat)
      case atStart => exact ⟨0, Nat.zero_le _, rfl, HU, HM0, hC, hW⟩
      case round =>
        clear hC hW HM0 HU
        obtain ⟨k, hk, rfl, hU, hM, hC, hW⟩ := hrel
        by_cases hkl : k < g.inits.length
        · have hki : (k : Int) < (g.inits.length : Int) := by omega
          obtain ⟨x, hx⟩ : ∃ x, g.inits[k]? = some x := ⟨_, List.getElem?_eq_getElem hkl⟩
          have hsz := hW.out.size
          have hBw : Below w.heap.size w wr := HB1.out.trans (hW.out.mono (Nat.le_succ _))
          obtain ⟨b, off, cap, vd, vx, hv, hb, c0, c1, c2, c3, h1, h2, h3, h4⟩ := named_at HN.out.inits hx
          obtain ⟨rfl, hle, rfl⟩ := Value.slice.inj hv
          clear hle hv
          obtain ⟨ad, cd, rfl⟩ := h3.shape
          obtain ⟨ax, cx, rfl⟩ := h4.shape
          have c0 := (hBw.cell (p := ⟨b, off + k * 4, none⟩) hb).trans c0
          have c1 := (hBw.cell (p := ⟨b, off + k * 4 + 1, none⟩) hb).trans c1
          have c2 := (hBw.cell (p := ⟨b, off + k * 4 + 2, none⟩) hb).trans c2
          have c3 := (hBw.cell (p := ⟨b, off + k * 4 + 3, none⟩) hb).trans c3
          clear h2 h3 h4
          have HX := Lib.hid hx
          clear hx
          go_wp2_with fail
          have HW2 : Hid (Below (w.heap.size + 1) W1 (wr.alloc (.cells #[.string x.name, .int .i64 x.typ, .slice ad x.dims.length cd, .slice ax x.data.length cx] 54))) := Lib.hid (hW.out.alloc (by omega) _)
          have HM2 : Hid (MapS (wr.alloc (.cells #[.string x.name, .int .i64 x.typ, .slice ad x.dims.length cd, .slice ax x.data.length cx] 54)) (w.heap.size + 1) (g.ins.length + k) (prT g k)) := Lib.hid (World.ownsMap.alloc hM.out _)
          have HC2 : Hid ((wr.alloc (.cells #[.string x.name, .int .i64 x.typ, .slice ad x.dims.length cd, .slice ax x.data.length cx] 54)).heap[w.heap.size + 1 + 1]? = some (.cells #[.map (some (w.heap.size + 1))] 80 (0, 0))) := Lib.hid ((((Below.refl _ wr).alloc (Nat.le_refl _) _).block _ (by omega)).trans hC.out)
          generalize wr.alloc _ = W2 at HW2 HM2 HC2 ⊢
          have hsz2 := HW2.out.size
          refine (add_any h1 (by unfold InI; omega) (by omega) HM2.out HC2.out).mono ?_
          rintro e w5 ⟨rfl, hM5, hg5⟩
          have HM5 : Hid (MapS w5 (w.heap.size + 1) (g.ins.length + (k + 1)) (prT g (k + 1))) := Lib.hid (by rw [prT_next HX.out]; exact hM5)
          have HW5 := Lib.hid (HW2.out.grown hg5 (by omega) (fun k h => by cases h; exact Nat.le_refl _))
          have HC5 : Hid (w5.heap[w.heap.size + 1 + 1]? = some (.cells #[.map (some (w.heap.size + 1))] 80 (0, 0))) := Lib.hid ((hg5.block _ (by omega) (by simp)).trans HC2.out)
          clear hM5 hg5 HM2 HW2 HC2 hM hW hC c0 c1 c2 c3 hBw
          cases hr : (decide (x.name ≠ ⟨#[]⟩) && !((prT g k).any fun p => decide (p.1 = x.name))) with
          | false =>
            have HR := Lib.hid (add_bad (g := g) (i := -1) hr (by rw [← prT_next HX.out]; exact prT_names HX.out))
            clear hr
            go_wp2
            go_ret2
            exact ⟨HB1.out.trans (HW5.out.mono (Nat.le_succ _)), Or.inr ⟨HR.out, rfl⟩⟩
          | true =>
            have HU5 : Hid (unlikeB ((prT g (k + 1)).map Prod.fst) = true) := Lib.hid (by rw [prT_next HX.out]; exact add_ok hU.out hr)
            clear hr
            go_wp2
            go_roundw
            case rel => exact ⟨k + 1, by omega, by go_num, HU5, HM5, HC5, HW5⟩
            case measure => simp [intOf]; omega
        · have hki : ¬ (k : Int) < (g.inits.length : Int) := by omega
          obtain rfl : k = g.inits.length := by omega
          have hA2 := HA1.out.below (n := w.heap.size + 1) (Nat.lt_succ_self _) hW.out
          obtain ⟨k0, k1, k2, k3, k4⟩ := hA2.fiveG
          have HU := Lib.hid (by rw [← prT_end]; exact hU.out : unlikeB ((prN g 0).map Prod.fst) = true)
          have HM0 : Hid (MapS wr (w.heap.size + 1) (g.ins.length + g.inits.length + 0) (prN g 0)) := Lib.hid (by rw [← prT_end]; exact hM.out)
          clear hU hM hA2
          go_wp2
          clear k0 k1 k2 k3 k4
          generalize hwq : wr = V43 at *
          clear hwq
          go_loopw [43] (fun i wr => ∃ k : Nat, k ≤ g.nodes.length ∧ i = .int .i64 (k : Int) ∧ Hid (unlikeB ((prN g k).map Prod.fst) = true) ∧ Hid (MapS wr (w.heap.size + 1) (g.ins.length + g.inits.length + k) (prN g k)) ∧ Hid (wr.heap[w.heap.size + 1 + 1]? = some (.cells #[.map (some (w.heap.size + 1))] 80 (0, 0))) ∧ Hid (Below (w.heap.size + 1) W1 wr)) (fun i _ => g.nodes.length - (intOf i).toNat)
          case atStart => exact ⟨0, Nat.zero_le _, rfl, HU, HM0, hC, hW⟩
          case round =>
            clear hC hW HM0 HU
            obtain ⟨k, hk, rfl, hU, hM, hC, hW⟩ := hrel
            by_cases hkl : k < g.nodes.length
            · have hki : (k : Int) < (g.nodes.length : Int) := by omega
              obtain ⟨x, hx⟩ : ∃ x, g.nodes[k]? = some x := ⟨_, List.getElem?_eq_getElem hkl⟩
              have hsz := hW.out.size
              have hBw : Below w.heap.size w wr := HB1.out.trans (hW.out.mono (Nat.le_succ _))
              obtain ⟨b, off, cap, vd, vx, hv, hb, c0, c1, c2, c3, c4, h3, h4, h1, h5⟩ := node_at HN.out.nodes hx
              obtain ⟨rfl, hle, rfl⟩ := Value.slice.inj hv
              clear hle hv
              obtain ⟨ad, cd, rfl⟩ := h3.is.form
              obtain ⟨ax, cx, rfl⟩ := h3.ia.form
              have c0 := (hBw.cell (p := ⟨b, off + k * 5, none⟩) hb).trans c0
              have c1 := (hBw.cell (p := ⟨b, off + k * 5 + 1, none⟩) hb).trans c1
              have c2 := (hBw.cell (p := ⟨b, off + k * 5 + 2, none⟩) hb).trans c2
              have c3 := (hBw.cell (p := ⟨b, off + k * 5 + 3, none⟩) hb).trans c3
              have c4 := (hBw.cell (p := ⟨b, off + k * 5 + 4, none⟩) hb).trans c4
              clear h3 h4 h5
              have HX := Lib.hid hx
              clear hx
              go_wp2_with fail
              have HW2 : Hid (Below (w.heap.size + 1) W1 (wr.alloc (.cells #[.string x.op, .string x.name, .slice ad x.ins.length cd, .string x.out, .slice ax x.attrs.length cx] 47))) := Lib.hid (hW.out.alloc (by omega) _)
              have HM2 : Hid (MapS (wr.alloc (.cells #[.string x.op, .string x.name, .slice ad x.ins.length cd, .string x.out, .slice ax x.attrs.length cx] 47)) (w.heap.size + 1) (g.ins.length + g.inits.length + k) (prN g k)) := Lib.hid (World.ownsMap.alloc hM.out _)
              have HC2 : Hid ((wr.alloc (.cells #[.string x.op, .string x.name, .slice ad x.ins.length cd, .string x.out, .slice ax x.attrs.length cx] 47)).heap[w.heap.size + 1 + 1]? = some (.cells #[.map (some (w.heap.size + 1))] 80 (0, 0))) := Lib.hid ((((Below.refl _ wr).alloc (Nat.le_refl _) _).block _ (by omega)).trans hC.out)
              generalize wr.alloc _ = W2 at HW2 HM2 HC2 ⊢
              have hsz2 := HW2.out.size
              refine (add_any h1 (by unfold InI; omega) (by omega) HM2.out HC2.out).mono ?_
              rintro e w5 ⟨rfl, hM5, hg5⟩
              have HM5 : Hid (MapS w5 (w.heap.size + 1) (g.ins.length + g.inits.length + (k + 1)) (prN g (k + 1))) := Lib.hid (by rw [prN_next HX.out]; exact hM5)
              have HW5 := Lib.hid (HW2.out.grown hg5 (by omega) (fun k h => by cases h; exact Nat.le_refl _))
              have HC5 : Hid (w5.heap[w.heap.size + 1 + 1]? = some (.cells #[.map (some (w.heap.size + 1))] 80 (0, 0))) := Lib.hid ((hg5.block _ (by omega) (by simp)).trans HC2.out)
              clear hM5 hg5 HM2 HW2 HC2 hM hW hC c0 c1 c2 c3 c4 hBw
              cases hr : (decide (x.out ≠ ⟨#[]⟩) && !((prN g k).any fun p => decide (p.1 = x.out))) with
              | false =>
                have HR := Lib.hid (add_bad (g := g) (i := (k : Int)) hr (by rw [← prN_next HX.out]; exact prN_names HX.out))
                clear hr
                go_wp2
                go_ret2
                exact ⟨HB1.out.trans (HW5.out.mono (Nat.le_succ _)), Or.inr ⟨HR.out, rfl⟩⟩
              | true =>
                have HU5 : Hid (unlikeB ((prN g (k + 1)).map Prod.fst) = true) := Lib.hid (by rw [prN_next HX.out]; exact add_ok hU.out hr)
                clear hr
                go_wp2
                go_roundw
                case rel => exact ⟨k + 1, by omega, by go_num, HU5, HM5, HC5, HW5⟩
                case measure => simp [intOf]; omega
            · have hki : ¬ (k : Int) < (g.nodes.length : Int) := by omega
              obtain rfl : k = g.nodes.length := by omega
              have HU : Hid (unlikeB (namesG g) = true) := Lib.hid (by rw [← pairs_names, ← prN_end]; exact hU.out)
              have HM9 : Hid (MapS wr (w.heap.size + 1) (g.ins.length + g.inits.length + g.nodes.length) (pairs g)) := Lib.hid (by rw [← prN_end]; exact hM.out)
              have kc := cell_of_one hC.out
              clear hU hM
              go_wp2
              go_ret2
              exact ⟨HB1.out.trans (hW.out.mono (Nat.le_succ _)), Or.inl ⟨HU.out, w.heap.size + 1, Nat.le_succ _, rfl, _, HM9.out⟩⟩

end Go.Proofs.YtlbhepfbogcipaaGreatDoor
