/- The walk of graph.Order: plain facts ahead. -/
import Derived.Test.YtlbhepfbogcipaaGreatDoorGrN
import Derived.Test.YtlbhepfbogcipaaGreatDoorGrW
set_option linter.unusedVariables false
set_option linter.unusedSimpArgs false
namespace Go.Proofs.YtlbhepfbogcipaaGreatDoor
open Go.RowKit Go.WideMaps Go.Maps

/-- What stands at a name in the makers' map. -/
def mkI (g : Gr) (s : ByteArray) : Int := match maker g s with
  | none => -1
  | some k => (k : Int)

theorem unlike_nodup {l : List ByteArray} (h : unlikeB l = true) : l.Nodup := by
  unfold unlikeB at h
  rw [Bool.and_eq_true, decide_eq_true_eq] at h
  exact h.2
theorem maker_none {g : Gr} {s : ByteArray} (h : s ∉ g.nodes.map (·.out)) : maker g s = none := by
  unfold maker
  rw [List.findIdx?_eq_none_iff]
  intro n hn
  simp only [decide_eq_false_iff_not]
  intro e
  exact h (List.mem_map.2 ⟨n, hn, e⟩)
theorem maker_lt {g : Gr} {s : ByteArray} {k : Nat} (h : maker g s = some k) : k < g.nodes.length := by
  unfold maker at h
  rw [List.findIdx?_eq_some_iff_getElem] at h
  exact h.1
theorem pick_at {g : Gr} (hu : unlikeB (namesG g) = true) {s : ByteArray} (hs : hasS (namesG g) s = true) : (((pairs g).reverse.find? fun p => decide (p.1 = s)).map Prod.snd).getD 0 = mkI g s := by
  have hn := unlike_nodup hu
  cases hf : (pairs g).reverse.find? fun p => decide (p.1 = s) with
  | none =>
    exfalso
    rw [List.find?_eq_none] at hf
    rw [hasS_iff, ← pairs_names, List.mem_map] at hs
    obtain ⟨p, hp, e⟩ := hs
    exact hf p (List.mem_reverse.2 hp) (by simpa using e)
  | some q =>
    have h1 := List.find?_some hf
    have h2 := List.mem_reverse.1 (List.mem_of_find?_eq_some hf)
    simp only [decide_eq_true_eq] at h1
    subst h1
    simp only [Option.map_some, Option.getD_some]
    unfold namesG at hn
    unfold pairs at h2
    rw [List.nodup_append] at hn
    unfold mkI
    rcases List.mem_append.1 h2 with h2 | h2
    · have h3 : q.2 = -1 ∧ q.1 ∈ g.ins.map (·.name) ++ g.inits.map (·.name) := by
        rcases List.mem_append.1 h2 with h2 | h2
        · obtain ⟨v, hv, e⟩ := List.mem_map.1 h2
          exact ⟨by rw [← e], List.mem_append_left _ (List.mem_map.2 ⟨v, hv, by rw [← e]⟩)⟩
        · obtain ⟨v, hv, e⟩ := List.mem_map.1 h2
          exact ⟨by rw [← e], List.mem_append_right _ (List.mem_map.2 ⟨v, hv, by rw [← e]⟩)⟩
      rw [maker_none (fun c => hn.2.2 _ h3.2 _ c rfl), h3.1]
    · obtain ⟨i, hi, e⟩ := List.mem_mapIdx.1 h2
      rw [← e]
      show (i : Int) = _
      rw [maker_at hn.2.1 (List.getElem?_eq_getElem hi)]

/-- May an input be read already? -/
def readyS (g : Gr) (out : List Nat) (s : ByteArray) : Bool := match maker g s with
  | none => true
  | some k => out.contains k
theorem ready_done {g : Gr} {out : List Nat} {i : Nat} (h : out.contains i = true) : readyB g out i = false := by
  unfold readyB; rw [h]; rfl
theorem ready_form {g : Gr} {out : List Nat} {i : Nat} {n : Nd} (hn : g.nodes[i]? = some n) : readyB g out i = (!out.contains i && n.ins.all (readyS g out)) := by
  unfold readyB
  rw [hn]
  rfl
theorem ready_not {g : Gr} {out : List Nat} {i : Nat} {n : Nd} {s : ByteArray} (hn : g.nodes[i]? = some n) (hs : s ∈ n.ins) (h : readyS g out s = false) : readyB g out i = false := by
  rw [ready_form hn]
  have : n.ins.all (readyS g out) = false := by
    rw [List.all_eq_false]
    exact ⟨s, hs, by rw [h]; decide⟩
  rw [this, Bool.and_false]
theorem ready_yes {g : Gr} {out : List Nat} {i : Nat} {n : Nd} (hn : g.nodes[i]? = some n) (hd : out.contains i = false) (h : (n.ins.all (readyS g out)) = true) : readyB g out i = true := by
  rw [ready_form hn, hd, h]; rfl
theorem workF_step {g : Gr} {f : Nat} {out : List Nat} {i : Nat} (h : nextW g out = some i) : workF g (f + 1) out = workF g f (out ++ [i]) := by
  conv => lhs; unfold workF
  rw [h]
theorem named_has {g : Gr} (h : namedB g = true) {n : Nd} (hn : n ∈ g.nodes) {s : ByteArray} (hs : s ∈ n.ins) : hasS (namesG g) s = true := by
  unfold namedB at h
  simp only [Bool.and_eq_true] at h
  exact List.all_eq_true.1 (List.all_eq_true.1 h.1.1.1 n hn) s hs

theorem order_great {g : Gr} (h : tooGreat g = true) : orderE g = 6 := by unfold orderE; rw [if_pos h]
theorem order_parts {g : Gr} {x : Int} (h : tooGreat g = false) (h2 : partsE g = x) (hx : x ≠ 0) : orderE g = x := by unfold orderE; rw [if_neg (by rw [h]; decide), if_pos (by rw [h2]; exact hx), h2]
theorem order_like {g : Gr} (h : tooGreat g = false) (h2 : partsE g = 0) (h3 : unlikeB (namesG g) = false) : orderE g = 4 := by unfold orderE; rw [if_neg (by rw [h]; decide), if_neg (fun c => c h2), if_pos h3]
theorem order_named {g : Gr} (h : tooGreat g = false) (h2 : partsE g = 0) (h3 : unlikeB (namesG g) = true) (h4 : namedB g = false) : orderE g = 4 := by unfold orderE; rw [if_neg (by rw [h]; decide), if_neg (fun c => c h2), if_neg (by rw [h3]; decide), if_pos h4]
theorem order_short {g : Gr} (h : tooGreat g = false) (h2 : partsE g = 0) (h3 : unlikeB (namesG g) = true) (h4 : namedB g = true) (h5 : (work g).length ≠ g.nodes.length) : orderE g = 4 := by unfold orderE; rw [if_neg (by rw [h]; decide), if_neg (fun c => c h2), if_neg (by rw [h3]; decide), if_neg (by rw [h4]; decide), if_pos h5]
theorem order_full {g : Gr} (h : tooGreat g = false) (h2 : partsE g = 0) (h3 : unlikeB (namesG g) = true) (h4 : namedB g = true) (h5 : (work g).length = g.nodes.length) : orderE g = 0 := by unfold orderE; rw [if_neg (by rw [h]; decide), if_neg (fun c => c h2), if_neg (by rw [h3]; decide), if_neg (by rw [h4]; decide), if_neg (fun c => c h5)]
theorem orderL_bad {g : Gr} {x : Int} (h : orderE g = x) (hx : x ≠ 0) : orderL g = [] := by unfold orderL; rw [if_neg (by rw [h]; exact hx)]
theorem orderL_full {g : Gr} (h : orderE g = 0) : orderL g = work g := by unfold orderL; rw [if_pos h]
theorem great_iff {g : Gr} : tooGreat g = false ↔ g.nodes.length ≤ 1000 ∧ g.ins.length + g.inits.length + g.nodes.length ≤ 3000 ∧ g.outs.length ≤ 3000 := by
  unfold tooGreat
  simp only [Bool.or_eq_false_iff, decide_eq_false_iff_not]
  omega

/-! ### the row of what is done -/

def doneCells (n : Nat) (out : List Nat) : Array Value := ((List.range n).map fun i => Value.bool (out.contains i)).toArray
def DoneAt (w : World) (B n : Nat) (out : List Nat) : Prop := w.heap[B]? = some (.cells (doneCells n out) 4 (0, 0))
theorem DoneAt.lt {w : World} {B n : Nat} {out : List Nat} (h : DoneAt w B n out) : B < w.heap.size := (Array.getElem?_eq_some_iff.1 h).1
theorem DoneAt.cell {w : World} {B n : Nat} {out : List Nat} (h : DoneAt w B n out) {j : Nat} (hj : j < n) : w.cell? ⟨B, j, none⟩ = some (.bool (out.contains j)) := by
  simp [World.cell?, show w.heap[B]? = _ from h, doneCells, hj]
theorem DoneAt.frozen {w : World} {B n : Nat} {out : List Nat} (h : DoneAt w B n out) (j : Nat) : w.frozen? ⟨B, j, none⟩ = false := by
  simp [World.frozen?, show w.heap[B]? = _ from h]
theorem DoneAt.set {w : World} {B n : Nat} {out : List Nat} (h : DoneAt w B n out) {j : Nat} (hj : j < n) : DoneAt (w.setCell ⟨B, j, none⟩ (.bool true)) B n (out ++ [j]) := by
  obtain ⟨hlt, hk⟩ := Array.getElem?_eq_some_iff.1 h
  show (w.heap.modify B _)[B]? = _
  rw [Array.getElem?_eq_getElem (by rw [Array.size_modify]; exact hlt), Array.getElem_modify_self, hk]
  have e : (doneCells n out).setIfInBounds j (.bool true) = doneCells n (out ++ [j]) := by
    unfold doneCells
    rw [List.setIfInBounds_toArray]
    congr 1
    refine List.ext_getElem? fun i => ?_
    rw [List.getElem?_set]
    by_cases hij : j = i
    · subst hij
      simp [hj]
    · simp only [if_neg hij, List.getElem?_map]
      by_cases hi : i < n
      · rw [List.getElem?_range hi]
        have : ¬ i = j := fun c => hij c.symm
        simp [this]
      · rw [List.getElem?_eq_none (by simp; omega)]; rfl
  rw [← e]
  rfl
theorem DoneAt.keep {w w' : World} {B n : Nat} {out : List Nat} (h : DoneAt w B n out) (g : w'.heap[B]? = w.heap[B]?) : DoneAt w' B n out := g.trans h

theorem info_bool : (Tryz.prog.info? 4).map (fun i => (i.zero, i.size, i.bytes)) = some (some (.bool false), 1, 1) := by kernel_rfl

theorem run_make_bools (w : World) (r : Nat) (hr : r ≤ 100000) : (Instr.makeSlice 35 (.int .i64 (r : Int)) (.int .i64 (r : Int))).run Tryz.prog w = .ok (.slice (some ⟨w.heap.size, 0, none⟩) r r) (w.alloc (.cells (doneCells r []) 4)) := by
  obtain ⟨i0, hi, hz0, hz1, hz2⟩ := info_parts info_bool
  have := run_make (P := Tryz.prog) w 35 4 i0 (.bool false) Tryz.underlying35 hi hz0 .i64 .i64 (r : Int) (r : Int) (by omega) (by omega) (by rw [hz2]; omega) (by omega)
  rw [this]
  have e : madeCells (Value.bool false).cells (((r : Int).toNat) * i0.size) = doneCells r [] := by
    rw [hz1]
    refine Array.toList_inj.1 ?_
    have h2 := toList_madeCells_one (.bool false) r
    have h3 : (doneCells r []).toList = List.replicate r (.bool false) := by
      unfold doneCells
      simp [List.map_const']
    rw [h3, ← h2]
    simp [Value.cells]
  rw [e]
  simp
theorem done_new (w : World) (n : Nat) : DoneAt (w.alloc (.cells (doneCells n []) 4)) w.heap.size n [] := World.alloc_heap_new w _

end Go.Proofs.YtlbhepfbogcipaaGreatDoor
