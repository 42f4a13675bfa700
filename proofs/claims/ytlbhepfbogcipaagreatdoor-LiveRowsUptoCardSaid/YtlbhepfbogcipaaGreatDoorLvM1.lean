/- Of the chapter live: which nodes must be done ahead of which; plain. -/
import Derived.Test.YtlbhepfbogcipaaGreatDoorGrP
import Derived.Test.YtlbhepfbogcipaaGreatDoorGrY
import Derived.Test.YtlbhepfbogcipaaGreatDoorGrOw
import Derived.Test.YtlbhepfbogcipaaGreatDoorGrE
import Derived.Deep.AppendLies
import Derived.BigRegion
import Derived.Test.YtlbhepfbogcipaaGreatDoorGrA
import Derived.Test.YtlbhepfbogcipaaGreatDoorSchC
import Derived.Test.YtlbhepfbogcipaaGreatDoorReg
import Derived.BigQuiet
import Derived.Deep.QuietTactic
set_option linter.unusedVariables false
set_option linter.unusedSimpArgs false
namespace Go.Proofs.YtlbhepfbogcipaaGreatDoor

/-- Does a later node read a node's value? -/
def readsL (l : List Nd) (a b : Nat) : Bool := decide (a < b) && match l[a]?, l[b]? with
  | some x, some y => hasS y.ins x.out
  | _, _ => false
/-- The nodes that read a node's value, in their order. -/
def rdsL (l : List Nd) (a : Nat) : List Nat := (List.range l.length).filter (readsL l a)
def befF (l : List Nd) : Nat → Nat → Nat → Bool
  | 0, _, _ => false
  | f + 1, a, b => (rdsL l a).any fun r => decide (r = b) || befF l f r b
/-- Must a be done ahead of b? -/
def befB (l : List Nd) (a b : Nat) : Bool := befF l l.length a b

theorem readsL_lt {l : List Nd} {a b : Nat} (h : readsL l a b = true) : a < b ∧ b < l.length := by
  unfold readsL at h
  rw [Bool.and_eq_true, decide_eq_true_eq] at h
  refine ⟨h.1, ?_⟩
  cases hb : l[b]? with
  | none =>
    rw [hb] at h
    have h2 := h.2
    cases l[a]? <;> simp at h2
  | some y => exact (List.getElem?_eq_some_iff.1 hb).1
theorem mem_rdsL {l : List Nd} {a r : Nat} : r ∈ rdsL l a ↔ readsL l a r = true := by
  unfold rdsL
  rw [List.mem_filter, List.mem_range]
  exact ⟨fun h => h.2, fun h => ⟨(readsL_lt h).2, h⟩⟩
/-- More steps than there are nodes behind give no more. -/
theorem befF_more {l : List Nd} : ∀ (f a b : Nat), l.length ≤ a + f → befF l (f + 1) a b = befF l f a b
  | 0, a, b, h => by
    show ((rdsL l a).any _) = false
    rw [List.any_eq_false]
    intro r hr
    have := readsL_lt (mem_rdsL.1 hr)
    omega
  | f + 1, a, b, h => by
    show ((rdsL l a).any fun r => decide (r = b) || befF l (f + 1) r b) = ((rdsL l a).any fun r => decide (r = b) || befF l f r b)
    rw [Bool.eq_iff_iff, List.any_eq_true, List.any_eq_true]
    refine ⟨fun ⟨r, hr, e⟩ => ⟨r, hr, ?_⟩, fun ⟨r, hr, e⟩ => ⟨r, hr, ?_⟩⟩
    · rw [befF_more f r b (by have := readsL_lt (mem_rdsL.1 hr); omega)] at e; exact e
    · rw [befF_more f r b (by have := readsL_lt (mem_rdsL.1 hr); omega)]; exact e
/-- As live.rows reckons it: from behind. -/
theorem befB_step {l : List Nd} (a b : Nat) : befB l a b = (rdsL l a).any fun r => decide (r = b) || befB l r b := by
  unfold befB
  rw [← befF_more l.length a b (by omega)]
  rfl
theorem befB_lt {l : List Nd} : ∀ (f a b : Nat), befF l f a b = true → a < b ∧ b < l.length
  | 0, a, b, h => by cases h
  | f + 1, a, b, h => by
    obtain ⟨r, hr, e⟩ := List.any_eq_true.1 (show ((rdsL l a).any _) = true from h)
    have h1 := readsL_lt (mem_rdsL.1 hr)
    rw [Bool.or_eq_true, decide_eq_true_eq] at e
    rcases e with rfl | e
    · exact h1
    · have := befB_lt f r b e
      omega
theorem bef_lt {l : List Nd} {a b : Nat} (h : befB l a b = true) : a < b ∧ b < l.length := befB_lt _ _ _ h
theorem bef_one {l : List Nd} {a b : Nat} (h : readsL l a b = true) : befB l a b = true := by
  rw [befB_step, List.any_eq_true]
  exact ⟨b, mem_rdsL.2 h, by simp⟩
theorem bef_more {l : List Nd} {a r b : Nat} (h : readsL l a r = true) (h2 : befB l r b = true) : befB l a b = true := by
  rw [befB_step, List.any_eq_true]
  exact ⟨r, mem_rdsL.2 h, by rw [h2]; simp⟩
/-- Before goes on. -/
theorem bef_trans {l : List Nd} {a b c : Nat} (h1 : befB l a b = true) (h2 : befB l b c = true) : befB l a c = true := by
  obtain ⟨n, hn⟩ : ∃ n, l.length - a = n := ⟨_, rfl⟩
  induction n using Nat.strongRecOn generalizing a with
  | _ n ih =>
    have h := h1
    rw [befB_step, List.any_eq_true] at h
    obtain ⟨r, hr, e⟩ := h
    have hl := readsL_lt (mem_rdsL.1 hr)
    rw [Bool.or_eq_true, decide_eq_true_eq] at e
    rcases e with rfl | e
    · exact bef_more (mem_rdsL.1 hr) h2
    · exact bef_more (mem_rdsL.1 hr) (ih (l.length - r) (by omega) e rfl)
/-- As the reference reckons it: a step, or two ways behind one another. -/
theorem befB_ref {l : List Nd} {a b : Nat} : befB l a b = (readsL l a b || (List.range l.length).any fun c => decide (a < c) && decide (c < b) && (befB l a c && befB l c b)) := by
  rw [Bool.eq_iff_iff, Bool.or_eq_true, List.any_eq_true]
  constructor
  · intro h
    have h0 := h
    rw [befB_step, List.any_eq_true] at h
    obtain ⟨r, hr, e⟩ := h
    have h1 := mem_rdsL.1 hr
    have hl := readsL_lt h1
    rw [Bool.or_eq_true, decide_eq_true_eq] at e
    rcases e with rfl | e
    · exact Or.inl h1
    · refine Or.inr ⟨r, List.mem_range.2 hl.2, ?_⟩
      have h3 := bef_lt e
      rw [bef_one h1, e]
      simp [hl.1, h3.1]
  · intro h
    rcases h with h | ⟨c, _, e⟩
    · exact bef_one h
    · simp only [Bool.and_eq_true, decide_eq_true_eq] at e
      exact bef_trans e.2.1 e.2.2

end Go.Proofs.YtlbhepfbogcipaaGreatDoor

set_option linter.unusedVariables false
set_option linter.unusedSimpArgs false
namespace Go.Proofs.YtlbhepfbogcipaaGreatDoor

/-- Of nodes in the order of work, who is read stands ahead. -/
theorem picked_before {g : Gr} (h : FineG g) {a b : Nat} {x y : Nd} (ha : (picked g)[a]? = some x) (hb : (picked g)[b]? = some y) (hs : x.out ∈ y.ins) : a < b := by
  obtain ⟨h1, h2⟩ := stands_plain h
  have hf := fineG_of h1
  have hbl : b < g.nodes.length := by
    have := (List.getElem?_eq_some_iff.1 hb).1
    have hl : (picked g).length = g.nodes.length := stood_len h
    omega
  have hg := work_good (stood g)
  have hm : maker (stood g) x.out = some a := maker_at hf.outs (show (stood g).nodes[a]? = some x from ha)
  have := hg.deps b b y (by rw [h2]; simp [hbl]) hb _ hs a hm
  rw [h2] at this
  obtain ⟨q, hq, e⟩ := List.mem_iff_getElem.1 this
  rw [List.getElem_take, List.getElem_range] at e
  simp at hq
  omega
theorem picked_outs {g : Gr} (h : FineG g) : ((picked g).map (·.out)).Nodup := (fineG_of (stands_plain h).1).outs
theorem readsL_picked {g : Gr} (h : FineG g) {a b : Nat} {x y : Nd} (ha : (picked g)[a]? = some x) (hb : (picked g)[b]? = some y) : readsL (picked g) a b = hasS y.ins x.out := by
  unfold readsL
  rw [ha, hb]
  cases e : hasS y.ins x.out with
  | false => simp [e]
  | true => simp [e, picked_before h ha hb (hasS_iff.1 e)]

/-- Is a done with ahead of b? -/
def doneB (l : List Nd) (outs : List Vl) (a b : Nat) : Bool := !(outs.any fun v => decide (v.name = (l.getD a Nd.zero).out)) && (rdsL l a).all (fun r => befB l r b) && befB l a b
theorem doneB_lt {l : List Nd} {outs : List Vl} {a b : Nat} (h : doneB l outs a b = true) : befB l a b = true := by
  unfold doneB at h
  rw [Bool.and_eq_true] at h
  exact h.2
theorem doneB_rev {l : List Nd} {outs : List Vl} {a b : Nat} (h : a ≤ b) : doneB l outs b a = false := by
  cases e : doneB l outs b a with
  | false => rfl
  | true =>
    have := bef_lt (doneB_lt e)
    omega
theorem doneB_out {l : List Nd} {outs : List Vl} {a b : Nat} (h : doneB l outs a b = true) {v : Vl} (hv : v ∈ outs) : v.name ≠ (l.getD a Nd.zero).out := by
  unfold doneB at h
  simp only [Bool.and_eq_true, Bool.not_eq_true'] at h
  have := List.any_eq_false.1 h.1.1 v hv
  simpa using this
/-- Are two nodes' values never both needed? -/
def apartB (l : List Nd) (outs : List Vl) (a b : Nat) : Bool := doneB l outs (min a b) (max a b)
theorem apart_ref {l : List Nd} {outs : List Vl} {a b : Nat} (h : a ≠ b) : apartB l outs a b = (doneB l outs a b || doneB l outs b a) := by
  unfold apartB
  rcases Nat.lt_or_ge a b with hl | hl
  · rw [Nat.min_eq_left (by omega), Nat.max_eq_right (by omega), doneB_rev (l := l) (outs := outs) (a := a) (b := b) (by omega), Bool.or_false]
  · rw [Nat.min_eq_right (by omega), Nat.max_eq_left (by omega), doneB_rev (l := l) (outs := outs) (a := b) (b := a) (by omega), Bool.false_or]

end Go.Proofs.YtlbhepfbogcipaaGreatDoor

set_option linter.unusedVariables false
set_option linter.unusedSimpArgs false
namespace Go.Proofs.YtlbhepfbogcipaaGreatDoor
open Go.RowKit

/-! ### the map of names -/

def prL (l : List Nd) (i : Nat) : List (ByteArray × Int) := (l.take i).mapIdx fun k n => (n.out, (k : Int))
theorem prL_zero (l : List Nd) : prL l 0 = [] := by unfold prL; simp
theorem prL_next {l : List Nd} {i : Nat} {x : Nd} (h : l[i]? = some x) : prL l (i + 1) = prL l i ++ [(x.out, (i : Int))] := by
  have hk : i < l.length := (List.getElem?_eq_some_iff.1 h).1
  unfold prL
  rw [List.take_add_one, h, Option.toList_some, List.mapIdx_append]
  simp [Nat.min_eq_left (Nat.le_of_lt hk)]
theorem prL_of {l : List Nd} {i : Nat} {q : ByteArray × Int} (h : q ∈ prL l i) : ∃ k x, k < i ∧ l[k]? = some x ∧ q = (x.out, (k : Int)) := by
  unfold prL at h
  obtain ⟨k, hk, e⟩ := List.mem_mapIdx.1 h
  rw [List.length_take] at hk
  refine ⟨k, l[k]'(by omega), by omega, List.getElem?_eq_getElem _, ?_⟩
  rw [← e, List.getElem_take]
theorem prL_in {l : List Nd} {i k : Nat} {x : Nd} (hk : k < i) (h : l[k]? = some x) : (x.out, (k : Int)) ∈ prL l i := by
  unfold prL
  have hl := (List.getElem?_eq_some_iff.1 h).1
  refine List.mem_mapIdx.2 ⟨k, by rw [List.length_take]; omega, ?_⟩
  rw [List.getElem_take, (List.getElem?_eq_some_iff.1 h).2]
theorem prL_miss {l : List Nd} {i : Nat} {s : ByteArray} (h : ((prL l i).any fun p => decide (p.1 = s)) = false) {k : Nat} {x : Nd} (hk : k < i) (hx : l[k]? = some x) : x.out ≠ s := fun e => by
  have := List.any_eq_false.1 h _ (prL_in hk hx)
  simp [e] at this
theorem prL_hit {l : List Nd} {i : Nat} {s : ByteArray} (h : ((prL l i).any fun p => decide (p.1 = s)) = true) : ∃ k x, k < i ∧ l[k]? = some x ∧ x.out = s ∧ (((prL l i).reverse.find? fun p => decide (p.1 = s)).map Prod.snd).getD 0 = (k : Int) := by
  cases hf : (prL l i).reverse.find? fun p => decide (p.1 = s) with
  | none =>
    exfalso
    rw [List.find?_eq_none] at hf
    obtain ⟨p, hp, e⟩ := List.any_eq_true.1 h
    exact hf p (List.mem_reverse.2 hp) e
  | some q =>
    have h1 := List.find?_some hf
    have h2 := List.mem_reverse.1 (List.mem_of_find?_eq_some hf)
    obtain ⟨k, x, hk, hx, rfl⟩ := prL_of h2
    exact ⟨k, x, hk, hx, by simpa using h1, rfl⟩

/-! ### the rows, half made -/

def midB (l : List Nd) (i j k : Nat) : Bool := match l[i]?, l[k]? with
  | some y, some x => decide (k < i) && hasS (y.ins.take j) x.out
  | _, _ => false
/-- Who reads k's value among the first i nodes and in the first j inputs of the next one. -/
def midR (l : List Nd) (i j k : Nat) : List Nat := (List.range i).filter (readsL l k) ++ if midB l i j k = true then [i] else []
theorem midB_form {l : List Nd} {i j k : Nat} {x y : Nd} (hi : l[i]? = some y) (hk : l[k]? = some x) : midB l i j k = (decide (k < i) && hasS (y.ins.take j) x.out) := by
  unfold midB; rw [hi, hk]
theorem midB_lt {l : List Nd} {i j k : Nat} (h : midB l i j k = true) : k < i := by
  unfold midB at h
  split at h
  · simp only [Bool.and_eq_true, decide_eq_true_eq] at h; exact h.1
  · cases h
theorem midB_zero (l : List Nd) (i k : Nat) : midB l i 0 k = false := by
  unfold midB
  split
  · simp [hasS]
  · rfl
theorem midR_zero (l : List Nd) (i k : Nat) : midR l i 0 k = (List.range i).filter (readsL l k) := by
  unfold midR; rw [midB_zero]; simp
theorem midR_start (l : List Nd) (k : Nat) : midR l 0 0 k = [] := by rw [midR_zero]; rfl
theorem midR_full (l : List Nd) (k : Nat) : midR l l.length 0 k = rdsL l k := midR_zero _ _ _
theorem midR_end {l : List Nd} {i : Nat} {y : Nd} (hi : l[i]? = some y) (k : Nat) : midR l i y.ins.length k = midR l (i + 1) 0 k := by
  rw [midR_zero]
  unfold midR
  rw [List.range_succ, List.filter_append]
  congr 1
  have e : midB l i y.ins.length k = readsL l k i := by
    unfold midB readsL
    rw [hi]
    cases hk : l[k]? with
    | none => simp
    | some x => simp [List.take_length]
  rw [e]
  cases hr : readsL l k i <;> simp [hr]
theorem midR_contains {l : List Nd} {i j k : Nat} : (midR l i j k).contains i = midB l i j k := by
  unfold midR
  cases h : midB l i j k with
  | true => simp
  | false => simp
theorem midB_step {l : List Nd} {i j k : Nat} {y x : Nd} {s : ByteArray} (hi : l[i]? = some y) (hj : y.ins[j]? = some s) (hk : l[k]? = some x) : midB l i (j + 1) k = (midB l i j k || (decide (k < i) && decide (x.out = s))) := by
  rw [midB_form hi hk, midB_form hi hk, List.take_add_one, hj]
  unfold hasS
  simp [Bool.and_or_distrib_left, eq_comm]
theorem midB_none {l : List Nd} {i j k : Nat} (hk : l[k]? = none) : midB l i j k = false := by
  unfold midB; rw [hk]; split <;> simp_all
theorem midR_same {l : List Nd} {i j k : Nat} {y : Nd} {s : ByteArray} (hi : l[i]? = some y) (hj : y.ins[j]? = some s) (h : ∀ x, k < i → l[k]? = some x → x.out ≠ s) : midR l i (j + 1) k = midR l i j k := by
  have e : midB l i (j + 1) k = midB l i j k := by
    cases hk : l[k]? with
    | none => rw [midB_none hk, midB_none hk]
    | some x =>
      rw [midB_step hi hj hk]
      by_cases hl : k < i
      · simp [h x hl hk]
      · simp [hl]
  unfold midR
  rw [e]
theorem midR_had {l : List Nd} {i j k : Nat} {y x : Nd} {s : ByteArray} (hi : l[i]? = some y) (hj : y.ins[j]? = some s) (hk : l[k]? = some x) (h : (midR l i j k).contains i = true) : midR l i (j + 1) k = midR l i j k := by
  rw [midR_contains] at h
  unfold midR
  rw [midB_step hi hj hk, h]; rfl
theorem midR_new {l : List Nd} {i j k : Nat} {y x : Nd} {s : ByteArray} (hi : l[i]? = some y) (hj : y.ins[j]? = some s) (hk : l[k]? = some x) (hl : k < i) (hs : x.out = s) (h : (midR l i j k).contains i = false) : midR l i (j + 1) k = midR l i j k ++ [i] := by
  rw [midR_contains] at h
  unfold midR
  rw [midB_step hi hj hk, h]
  simp [hl, hs]
theorem midR_lt {l : List Nd} {i j k : Nat} : ∀ r ∈ midR l i j k, r ≤ i := fun r hr => by
  unfold midR at hr
  rcases List.mem_append.1 hr with h | h
  · have := List.mem_range.1 (List.mem_filter.1 h).1; omega
  · split at h
    · have := List.mem_singleton.1 h; omega
    · cases h
theorem midR_len {l : List Nd} {i j k : Nat} : (midR l i j k).length ≤ i + 1 := by
  unfold midR
  have := List.length_filter_le (readsL l k) (List.range i)
  rw [List.length_range] at this
  rw [List.length_append]
  split <;> simp <;> omega
/-- Two nodes do not make one value. -/
theorem outs_one {l : List Nd} (hn : (l.map (·.out)).Nodup) {a b : Nat} {x y : Nd} (ha : l[a]? = some x) (hb : l[b]? = some y) (h : x.out = y.out) : a = b := by
  have h1 : (l.map (·.out))[a]? = some x.out := by rw [List.getElem?_map, ha]; rfl
  have h2 : (l.map (·.out))[b]? = some x.out := by rw [List.getElem?_map, hb, h]; rfl
  have l1 := (List.getElem?_eq_some_iff.1 h1).1
  exact (List.getElem?_inj l1 hn).1 (h1.trans h2.symm)

/-! ### rows of rows of numbers -/

theorem info_ints : (Tryz.prog.info? 40).map (fun i => (i.zero, i.size, i.bytes)) = some (some (.slice none 0 0), 1, 24) := by kernel_rfl

def nilRows (n : Nat) : List Value := List.replicate n (.slice none 0 0)
theorem nilRows_at {n k : Nat} {r : Value} (h : (nilRows n)[k]? = some r) : r = .slice none 0 0 := List.eq_of_mem_replicate (List.mem_of_getElem? h)
theorem run_make_nils (w : World) (r : Nat) (hr : r ≤ 100000) : (Instr.makeSlice 59 (.int .i64 (r : Int)) (.int .i64 (r : Int))).run Tryz.prog w = .ok (.slice (some ⟨w.heap.size, 0, none⟩) r r) (w.alloc (.cells (nilRows r).toArray 40)) := by
  obtain ⟨i0, hi, hz0, hz1, hz2⟩ := info_parts info_ints
  have := run_make (P := Tryz.prog) w 59 40 i0 (.slice none 0 0) Tryz.underlying59 hi hz0 .i64 .i64 (r : Int) (r : Int) (by omega) (by omega) (by rw [hz2]; omega) (by omega)
  rw [this]
  have e : madeCells (Value.slice none 0 0).cells (((r : Int).toNat) * i0.size) = (nilRows r).toArray := by
    rw [hz1]
    refine Array.toList_inj.1 ?_
    have h2 := toList_madeCells_one (.slice none 0 0) r
    show _ = nilRows r
    unfold nilRows
    rw [← h2]
    simp [Value.cells]
  rw [e]
  simp

/-- The rows of a table of numbers of the call's own; F tells what stands in each. -/
structure IntRows (w : World) (B n : Nat) (rs : List Value) (F : Nat → List Nat) : Prop where
  len : rs.length = n
  box : BoxN w B rs.toArray 40
  row : ∀ (k : Nat) r, rs[k]? = some r → w.ownsRow (B + 1) 3 1 r (F k).length (natsV (F k))
  apart : ∀ (i j : Nat) a b, i ≠ j → rs[i]? = some a → rs[j]? = some b → ApartV a b

theorem IntRows.new (w : World) (n : Nat) {F : Nat → List Nat} (hF : ∀ k, F k = []) : IntRows (w.alloc (.cells (nilRows n).toArray 40)) w.heap.size n (nilRows n) F where
  len := by unfold nilRows; simp
  box := BoxN.new w _ _
  row := fun k r hr => by
    obtain rfl := nilRows_at hr
    rw [hF]
    exact World.ownsRow_nil _ _ _ _
  apart := fun i j a b _ ha hb => by
    obtain rfl := nilRows_at ha
    intro x hx
    simp [Value.ownBlock] at hx
theorem IntRows.keep {w w' : World} {B n : Nat} {rs : List Value} {F : Nat → List Nat} (h : IntRows w B n rs F) (hk : ∀ b, B ≤ b → b < w.heap.size → w'.heap[b]? = w.heap[b]?) : IntRows w' B n rs F where
  len := h.len
  box := (hk B (Nat.le_refl _) h.box.lt).trans h.box
  row := fun k r hr => owns_heap (h.row k r hr) fun g hg => hk g (by have := ((h.row k r hr).lt g hg).1; omega) ((h.row k r hr).lt g hg).2
  apart := h.apart
theorem IntRows.below {w w' : World} {B n : Nat} {rs : List Value} {F : Nat → List Nat} (h : IntRows w B n rs F) (hB : Below w.heap.size w w') : IntRows w' B n rs F := h.keep fun b _ hb => hB.block b hb
theorem IntRows.eq {w : World} {B n : Nat} {rs : List Value} {F F' : Nat → List Nat} (h : IntRows w B n rs F) (he : ∀ k, F' k = F k) : IntRows w B n rs F' :=
  ⟨h.len, h.box, fun k r hr => by rw [he]; exact h.row k r hr, h.apart⟩
/-- One more number in one row. -/
theorem IntRows.push {w w' : World} {B n k i g cap : Nat} {rs : List Value} {r : Value} {F F' : Nat → List Nat} (h : IntRows w B n rs F) (hr : rs[k]? = some r)
    (hown : w'.ownsRow (B + 1) 3 1 (.slice (some ⟨g, 0, none⟩) ((F k).length + 1) cap) ((F k).length + 1) (natsV (F k) ++ [.int .i64 (i : Int)])) (hgrow : w.grownBy w' r.ownBlock) (hat : r.ownBlock = some g ∨ g = w.heap.size)
    (hk : F' k = F k ++ [i]) (ho : ∀ j, j ≠ k → F' j = F j) : IntRows (w'.setCell ⟨B, k, none⟩ (.slice (some ⟨g, 0, none⟩) ((F k).length + 1) cap)) B n (rs.set k (.slice (some ⟨g, 0, none⟩) ((F k).length + 1) cap)) F' := by
  have hkl := (List.getElem?_eq_some_iff.1 hr).1
  have hne : r.ownBlock ≠ some B := fun e => by have := ((h.row k r hr).lt B e).1; omega
  have hbox : BoxN w' B rs.toArray 40 := (hgrow.block _ h.box.lt (fun e => hne e.symm)).trans h.box
  have hgB : B < g := by
    rcases hat with e | e
    · have := ((h.row k r hr).lt g e).1; omega
    · have := h.box.lt; omega
  refine ⟨by rw [List.length_set]; exact h.len, ?_, fun j u hu => ?_, fun a b u v hab hu hv => ?_⟩
  · have := hbox.set k (.slice (some ⟨g, 0, none⟩) ((F k).length + 1) cap)
    rwa [List.setIfInBounds_toArray] at this
  · by_cases hj : j = k
    · subst hj
      rw [List.getElem?_set_self hkl] at hu
      obtain rfl := Option.some.inj hu
      rw [hk]
      unfold natsV
      rw [List.map_append, List.length_append]
      refine owns_heap hown fun x hx => Below.heap_setCell _ _ _ _ ?_
      simp [Value.ownBlock] at hx
      simp; omega
    · rw [List.getElem?_set_ne (fun e => hj e.symm)] at hu
      rw [ho j hj]
      refine owns_heap (h.row j u hu) fun x hx => ?_
      have hx2 := (h.row j u hu).lt x hx
      refine (Below.heap_setCell _ _ _ _ (by simp; omega)).trans (hgrow.block x hx2.2 (fun e => ?_))
      exact h.apart k j r u (fun e => hj e.symm) hr hu x e.symm hx
  · have key : ∀ (j : Nat) u, j ≠ k → rs[j]? = some u → u.ownBlock ≠ some g := fun j u hj hu e => by
      rcases hat with c | c
      · exact h.apart k j r u (fun e => hj e.symm) hr hu g c e
      · have := ((h.row j u hu).lt g e).2; omega
    by_cases ha : a = k
    · subst ha
      rw [List.getElem?_set_self hkl] at hu
      obtain rfl := Option.some.inj hu
      rw [List.getElem?_set_ne hab] at hv
      intro x hx
      simp [Value.ownBlock] at hx
      subst hx
      exact key b v (fun e => hab e.symm) hv
    · rw [List.getElem?_set_ne (fun e => ha e.symm)] at hu
      by_cases hb : b = k
      · subst hb
        rw [List.getElem?_set_self hkl] at hv
        obtain rfl := Option.some.inj hv
        intro x hx e
        simp [Value.ownBlock] at e
        subst e
        exact key a u ha hu hx
      · rw [List.getElem?_set_ne (fun e => hb e.symm)] at hv
        exact h.apart a b u v hab hu hv

/-- A table of numbers, as whoever reads it sees it. -/
structure TabN (w : World) (v : Value) (n : Nat) (F : Nat → List Nat) : Prop where
  rows : ∃ B, v = .slice (some ⟨B, 0, none⟩) n n ∧ B < w.heap.size ∧ ∀ k, k < n → ∃ r, w.cell? ⟨B, k, none⟩ = some r ∧ IntsIn w r ((F k).map fun (i : Nat) => (i : Int))
theorem TabN.below {w w' : World} {v : Value} {n : Nat} {F : Nat → List Nat} (h : TabN w v n F) (hB : Below w.heap.size w w') : TabN w' v n F := by
  obtain ⟨B, e, hb, h⟩ := h.rows
  refine ⟨B, e, by have := hB.size; omega, fun k hk => ?_⟩
  obtain ⟨r, h1, h2⟩ := h k hk
  exact ⟨r, (hB.cell (p := ⟨B, k, none⟩) hb).trans h1, h2.below hB⟩
theorem IntRows.tab {w : World} {B n : Nat} {rs : List Value} {F : Nat → List Nat} (h : IntRows w B n rs F) (hF : ∀ k, (F k).length ≤ 2000000 ∧ ∀ i ∈ F k, i < 2000000) : TabN w (.slice (some ⟨B, 0, none⟩) n n) n F := by
  refine ⟨B, rfl, h.box.lt, fun k hk => ?_⟩
  obtain ⟨r, hk'⟩ : ∃ r, rs[k]? = some r := ⟨_, List.getElem?_eq_getElem (by rw [h.len]; exact hk)⟩
  refine ⟨r, h.box.cell k (by rw [List.getElem?_toArray]; exact hk'), ?_⟩
  refine IntsIn.of_owns (B := B + 1) (t := 3) ?_ (by have := (hF k).1; simp; omega) (fun z hz => ?_)
  · rw [List.length_map, List.map_map]; exact h.row k _ hk'
  · obtain ⟨i, hi, rfl⟩ := List.mem_map.1 hz
    have := (hF k).2 i hi
    unfold InI; omega

/-- Is a number in a row? -/
theorem containsN_any {w : World} {v : Value} {l : List Nat} (h : IntsIn w v (l.map fun (i : Nat) => (i : Int))) (x : Nat) :
    Calls Tryz.prog 38 #[v, .int .i64 (x : Int)] w fun e w' => e = .returned (.bool (l.contains x)) ∧ w' = w := by
  have key : ∀ (l : List Nat), (l.map fun (i : Nat) => (i : Int)).contains (x : Int) = l.contains x := fun l => by
    rw [Bool.eq_iff_iff, List.contains_iff_mem, List.contains_iff_mem, List.mem_map]
    exact ⟨fun ⟨a, h1, h2⟩ => by have : a = x := by omega
                                 rwa [← this], fun h => ⟨x, h, rfl⟩⟩
  generalize hz : (l.map fun (i : Nat) => (i : Int)) = zs at h
  rw [← key, hz]
  cases h with
  | empty a0 cap =>
    refine (Tryz.slices_Contains_int_empty a0 cap (x : Int) w).mono ?_
    rintro e w' ⟨rfl, rfl⟩
    exact ⟨rfl, rfl⟩
  | row b off cap _ h0 hc hb hr hlen hw =>
    refine (Tryz.slices_Contains_int b off zs.length cap zs (x : Int) w (Nat.le_refl _) (by omega) (fun j hj => hr j hj)).mono ?_
    rintro e w' ⟨rfl, rfl⟩
    rw [List.take_length]
    exact ⟨rfl, rfl⟩

end Go.Proofs.YtlbhepfbogcipaaGreatDoor

set_option linter.unusedVariables false
set_option linter.unusedSimpArgs false
namespace Go.Proofs.YtlbhepfbogcipaaGreatDoor
open Go.RowKit

def boolCs (n : Nat) (f : Nat → Bool) : Array Value := ((List.range n).map fun i => Value.bool (f i)).toArray
/-- A row of truths of the call's own. -/
def RowB (w : World) (b n : Nat) (f : Nat → Bool) : Prop := BoxN w b (boolCs n f) 4
theorem RowB.lt {w : World} {b n : Nat} {f : Nat → Bool} (h : RowB w b n f) : b < w.heap.size := BoxN.lt h
theorem RowB.keep {w w' : World} {b n : Nat} {f : Nat → Bool} (h : RowB w b n f) (g : w'.heap[b]? = w.heap[b]?) : RowB w' b n f := g.trans h
theorem RowB.cell {w : World} {b n : Nat} {f : Nat → Bool} (h : RowB w b n f) {j : Nat} (hj : j < n) : w.cell? ⟨b, j, none⟩ = some (.bool (f j)) := BoxN.cell h j (by simp [boolCs, hj])
theorem RowB.frozen {w : World} {b n : Nat} {f : Nat → Bool} (h : RowB w b n f) (j : Nat) : w.frozen? ⟨b, j, none⟩ = false := BoxN.frozen h j
theorem RowB.congr {w : World} {b n : Nat} {f g : Nat → Bool} (h : RowB w b n f) (e : ∀ j, j < n → f j = g j) : RowB w b n g := by
  unfold RowB
  have : boolCs n g = boolCs n f := by
    unfold boolCs
    congr 1
    refine List.map_congr_left fun j hj => ?_
    rw [e j (List.mem_range.1 hj)]
  rw [this]; exact h
theorem RowB.set {w : World} {b n : Nat} {f g : Nat → Bool} (h : RowB w b n f) {j : Nat} {x : Bool} (hx : g j = x) (hg : ∀ k, k ≠ j → g k = f k) : RowB (w.setCell ⟨b, j, none⟩ (.bool x)) b n g := by
  have h2 := BoxN.set h j (.bool x)
  unfold RowB
  have : boolCs n g = (boolCs n f).setIfInBounds j (.bool x) := by
    unfold boolCs
    rw [List.setIfInBounds_toArray]
    congr 1
    refine List.ext_getElem? fun i => ?_
    rw [List.getElem?_set]
    by_cases hij : j = i
    · subst hij
      by_cases hj : j < n
      · simp [hj, hx]
      · simp [hj]
    · simp only [if_neg hij, List.getElem?_map]
      by_cases hi : i < n
      · rw [List.getElem?_range hi]
        simp [hg i (fun e => hij e.symm)]
      · rw [List.getElem?_eq_none (by simp; omega)]; rfl
  rw [this]; exact h2
theorem RowB.new (w : World) (n : Nat) : RowB (w.alloc (.cells (doneCells n []) 4)) w.heap.size n (fun _ => false) := BoxN.new w _ _

theorem info_bools : (Tryz.prog.info? 35).map (fun i => (i.zero, i.size, i.bytes)) = some (some (.slice none 0 0), 1, 24) := by kernel_rfl
theorem run_make_nilsB (w : World) (r : Nat) (hr : r ≤ 100000) : (Instr.makeSlice 30 (.int .i64 (r : Int)) (.int .i64 (r : Int))).run Tryz.prog w = .ok (.slice (some ⟨w.heap.size, 0, none⟩) r r) (w.alloc (.cells (nilRows r).toArray 35)) := by
  obtain ⟨i0, hi, hz0, hz1, hz2⟩ := info_parts info_bools
  have := run_make (P := Tryz.prog) w 30 35 i0 (.slice none 0 0) Tryz.underlying30 hi hz0 .i64 .i64 (r : Int) (r : Int) (by omega) (by omega) (by rw [hz2]; omega) (by omega)
  rw [this]
  have e : madeCells (Value.slice none 0 0).cells (((r : Int).toNat) * i0.size) = (nilRows r).toArray := by
    rw [hz1]
    refine Array.toList_inj.1 ?_
    have h2 := toList_madeCells_one (.slice none 0 0) r
    show _ = nilRows r
    unfold nilRows
    rw [← h2]
    simp [Value.cells]
  rw [e]
  simp

/-- The rows from the m-th on are made. -/
structure BoolRows (w : World) (B n : Nat) (rs : List Value) (F : Nat → Nat → Bool) (m : Nat) : Prop where
  len : rs.length = n
  box : BoxN w B rs.toArray 35
  row : ∀ k, m ≤ k → k < n → ∃ b, rs[k]? = some (.slice (some ⟨b, 0, none⟩) n n) ∧ B < b ∧ RowB w b n (F k)
theorem BoolRows.new (w : World) (n : Nat) (F : Nat → Nat → Bool) : BoolRows (w.alloc (.cells (nilRows n).toArray 35)) w.heap.size n (nilRows n) F n :=
  ⟨by unfold nilRows; simp, BoxN.new w _ _, fun k h1 h2 => by omega⟩
/-- A table of truths, as whoever reads it sees it. -/
structure TabB (w : World) (v : Value) (n : Nat) (F : Nat → Nat → Bool) : Prop where
  rows : ∃ B, v = .slice (some ⟨B, 0, none⟩) n n ∧ B < w.heap.size ∧ ∀ k, k < n → ∃ b, w.cell? ⟨B, k, none⟩ = some (.slice (some ⟨b, 0, none⟩) n n) ∧ b < w.heap.size ∧ ∀ j, j < n → w.cell? ⟨b, j, none⟩ = some (.bool (F k j))
theorem TabB.below {w w' : World} {v : Value} {n : Nat} {F : Nat → Nat → Bool} (h : TabB w v n F) (hB : Below w.heap.size w w') : TabB w' v n F := by
  obtain ⟨B, e, hb, h⟩ := h.rows
  refine ⟨B, e, by have := hB.size; omega, fun k hk => ?_⟩
  obtain ⟨b, h1, h2, h3⟩ := h k hk
  exact ⟨b, (hB.cell (p := ⟨B, k, none⟩) hb).trans h1, by have := hB.size; omega, fun j hj => (hB.cell (p := ⟨b, j, none⟩) h2).trans (h3 j hj)⟩
theorem BoolRows.tab {w : World} {B n : Nat} {rs : List Value} {F : Nat → Nat → Bool} (h : BoolRows w B n rs F 0) : TabB w (.slice (some ⟨B, 0, none⟩) n n) n F :=
  ⟨B, rfl, h.box.lt, fun k hk => by
    obtain ⟨b, h1, h2, h3⟩ := h.row k (Nat.zero_le _) hk
    exact ⟨b, h.box.cell k (by rw [List.getElem?_toArray]; exact h1), h3.lt, fun j hj => h3.cell hj⟩⟩
/-- With the next row behind a new block. -/
theorem BoolRows.next {w W : World} {B n i : Nat} {rs : List Value} {F : Nat → Nat → Bool} (h : BoolRows w B n rs F (i + 1)) (hi : i < n)
    (hW : BoxN W B (rs.set i (.slice (some ⟨w.heap.size, 0, none⟩) n n)).toArray 35) (hk : ∀ g, g < w.heap.size → g ≠ B → W.heap[g]? = w.heap[g]?) (hr : RowB W w.heap.size n (F i)) : BoolRows W B n (rs.set i (.slice (some ⟨w.heap.size, 0, none⟩) n n)) F i := by
  refine ⟨by rw [List.length_set]; exact h.len, hW, fun k h1 h2 => ?_⟩
  by_cases e : k = i
  · subst e
    exact ⟨w.heap.size, List.getElem?_set_self (by rw [h.len]; exact h2), h.box.lt, hr⟩
  · obtain ⟨b, e1, e2, e3⟩ := h.row k (by omega) h2
    exact ⟨b, by rw [List.getElem?_set_ne (fun c => e c.symm)]; exact e1, e2, e3.keep (hk b e3.lt (by omega))⟩

/-! ### what a row holds on the way -/

def accF (R : Nat → List Nat) (F : Nat → Nat → Bool) (i p : Nat) (b : Nat) : Bool := ((R i).take p).any fun r => decide (r = b) || F r b
theorem accF_zero (R : Nat → List Nat) (F : Nat → Nat → Bool) (i b : Nat) : accF R F i 0 b = false := by unfold accF; simp
theorem accF_next {R : Nat → List Nat} {F : Nat → Nat → Bool} {i p r : Nat} (h : (R i)[p]? = some r) (b : Nat) : accF R F i (p + 1) b = (accF R F i p b || decide (r = b) || F r b) := by
  unfold accF; rw [List.take_add_one, h]; simp [Bool.or_assoc]
theorem accF_end {R : Nat → List Nat} {F : Nat → Nat → Bool} {i b : Nat} (h : F i b = (R i).any fun r => decide (r = b) || F r b) : accF R F i (R i).length b = F i b := by
  unfold accF; rw [List.take_length, h]
def orF (x : Nat → Bool) (F : Nat → Nat → Bool) (r q : Nat) (b : Nat) : Bool := x b || decide (r = b) || (decide (b < q) && F r b)

end Go.Proofs.YtlbhepfbogcipaaGreatDoor

set_option linter.unusedVariables false
set_option linter.unusedSimpArgs false
namespace Go.Proofs.YtlbhepfbogcipaaGreatDoor
open Go.RowKit Go.WideMaps Go.Maps

theorem MapS.grown {w w' : World} {b n : Nat} {l : List (ByteArray × Int)} {row : Option Nat} (h : MapS w b n l) (hg : w.grownBy w' row) (hne : some b ≠ row) : MapS w' b n l := World.ownsMap.kept h hg hne
theorem MapS.set {w : World} {b n : Nat} {l : List (ByteArray × Int)} (h : MapS w b n l) {a : Addr} (ha : b ≠ a.block) (u : Value) : MapS (w.setCell a u) b n l := World.ownsMap.setCell h ha u
theorem MapS.lt {w : World} {b n : Nat} {l : List (ByteArray × Int)} (h : MapS w b n l) : b < w.heap.size := World.ownsMap.lt h
theorem has_prL {H : Type} (l : List Nd) (i : Nat) (s : ByteArray) : Maps.has (putAll (prL l i) : DataW H) (keyS s) = (prL l i).any fun p => decide (p.1 = s) := has_putAll _ _
theorem IntRows.rd {w : World} {B n : Nat} {rs : List Value} {F : Nat → List Nat} (h : IntRows w B n rs F) {k : Nat} {r : Value} (hr : rs[k]? = some r) (hl : (F k).length ≤ 2000000) (hi : ∀ i ∈ F k, i < 2000000) : IntsIn w r ((F k).map fun (i : Nat) => (i : Int)) := by
  refine IntsIn.of_owns (B := B + 1) (t := 3) ?_ (by simp; omega) (fun z hz => ?_)
  · rw [List.length_map, List.map_map]; exact h.row k _ hr
  · obtain ⟨i, hm, rfl⟩ := List.mem_map.1 hz
    have := hi i hm
    unfold InI; omega

attribute [local irreducible] midR prL rdsL readsL

set_option maxRecDepth 100000 in
set_option maxHeartbeats 4000000 in
theorem lreaders_any {w : World} {v : Value} {l : List Nd} (h : SlIn 5 rdNodeG w v l) (hn : (l.map (·.out)).Nodup) (hlen : l.length ≤ 1000) :
    Calls Tryz.prog 20 #[v] w fun e w' => Below w.heap.size w w' ∧ ∃ v', e = .returned v' ∧ TabN w' v' l.length (rdsL l) := by
  have hmm := @run_makeMap Tryz.prog
  obtain ⟨i0, hi, hz0, hz1, hz2⟩ := info_parts info_int
  have HC := Lib.hid (fun (W : World) (vi : Value) (q : List Nat) (x : Nat) (h : IntsIn W vi (q.map fun (i : Nat) => (i : Int))) => containsN_any h x)
  have hms := run_make_nils
  obtain ⟨an, cn, rfl⟩ := h.form
  have HN := Lib.hid h
  have HU := Lib.hid hn
  clear h hn
  go_enter Tryz.func20, Tryz.ntmps20
  have hmk := hms (w.alloc (.map #[] 0)) l.length (by omega)
  have hM1 : MapS (w.alloc (.map #[] 0)) w.heap.size 0 [] := World.ownsMap_made w Tryz.prog 9 (plainElem (H := Unit) Tryz.prog 3)
  have HM1 := Lib.hid hM1
  have hB1 : Hid (Below w.heap.size w (w.alloc (.map #[] 0))) := Lib.hid ((Below.refl _ w).alloc (Nat.le_refl _) _)
  have hS1 : (w.alloc (.map #[] 0)).heap.size = w.heap.size + 1 := by simp
  go_wp2_with fail
  have HR2 : Hid (IntRows ((w.alloc (.map #[] 0)).alloc (.cells (nilRows l.length).toArray 40)) (w.heap.size + 1) l.length (nilRows l.length) (midR l 0 0)) := Lib.hid (by rw [← hS1]; exact IntRows.new _ _ (midR_start l))
  have HM2 : Hid (MapS ((w.alloc (.map #[] 0)).alloc (.cells (nilRows l.length).toArray 40)) w.heap.size 0 (prL l 0)) := Lib.hid (by rw [prL_zero]; exact HM1.out.below ((Below.refl _ _).alloc (Nat.le_refl _) _))
  have HB2 : Hid (Below w.heap.size w ((w.alloc (.map #[] 0)).alloc (.cells (nilRows l.length).toArray 40))) := Lib.hid (hB1.out.alloc hB1.out.size _)
  generalize (w.alloc (.map #[] 0)).alloc _ = W2 at HR2 HM2 HB2 ⊢
  clear hmk hM1 HM1 hB1 hS1 hmm hms
  go_loopw [17] (fun iv wr => ∃ (i : Nat) (rs : List Value), i ≤ l.length ∧ iv = .int .i64 (i : Int) ∧ Hid (IntRows wr (w.heap.size + 1) l.length rs (midR l i 0)) ∧ Hid (MapS wr w.heap.size i (prL l i)) ∧ Hid (Below w.heap.size w wr)) (fun iv _ => l.length - (intOf iv).toNat)
  case atStart => exact ⟨0, _, Nat.zero_le _, rfl, HR2, HM2, HB2⟩
  case round =>
    clear HR2 HM2 HB2
    obtain ⟨i, rs, hi', rfl, hR, hM, hW⟩ := hrel
    by_cases hil : i < l.length
    · have hii : (i : Int) < (l.length : Int) := by omega
      obtain ⟨x, hx⟩ : ∃ x, l[i]? = some x := ⟨_, List.getElem?_eq_getElem hil⟩
      obtain ⟨b, off, cap, vd, vx, hv, hb, c0, c1, c2, c3, c4, h3, h4, h5, h6⟩ := node_at HN.out hx
      obtain ⟨rfl, _, rfl⟩ := Value.slice.inj hv
      obtain ⟨ad, cd, rfl⟩ := h3.is.form
      obtain ⟨ax, cx, rfl⟩ := h3.ia.form
      have hB := hW.out
      have c0 := (hB.cell (p := ⟨b, off + i * 5, none⟩) hb).trans c0
      have c1 := (hB.cell (p := ⟨b, off + i * 5 + 1, none⟩) hb).trans c1
      have c2 := (hB.cell (p := ⟨b, off + i * 5 + 2, none⟩) hb).trans c2
      have c3 := (hB.cell (p := ⟨b, off + i * 5 + 3, none⟩) hb).trans c3
      have c4 := (hB.cell (p := ⟨b, off + i * 5 + 4, none⟩) hb).trans c4
      have HX := Lib.hid hx
      have HI := Lib.hid h3.is
      have HS5 := Lib.hid h5
      have HS6 := Lib.hid h6
      have hins := h3.is.len
      clear hv hx h3 h4 h5 h6 hB
      have HW3 : Hid (Below w.heap.size w (wr.alloc (.cells #[.string x.op, .string x.name, .slice ad x.ins.length cd, .string x.out, .slice ax x.attrs.length cx] 47))) := Lib.hid (hW.out.alloc hW.out.size _)
      have HA3 : Hid (Below wr.heap.size wr (wr.alloc (.cells #[.string x.op, .string x.name, .slice ad x.ins.length cd, .string x.out, .slice ax x.attrs.length cx] 47))) := Lib.hid ((Below.refl _ _).alloc (Nat.le_refl _) _)
      have HR3 := Lib.hid (hR.out.below HA3.out)
      have HM3 := Lib.hid (hM.out.below HA3.out)
      have HX3 := Lib.hid (BoxN.new wr #[.string x.op, .string x.name, .slice ad x.ins.length cd, .string x.out, .slice ax x.attrs.length cx] 47)
      have hs3 : Hid (w.heap.size + 1 < wr.heap.size) := Lib.hid hR.out.box.lt
      go_wp2_with fail
      generalize hbx : wr.heap.size = Bx at *
      generalize wr.alloc _ = W3 at HW3 HR3 HM3 HX3 HA3 ⊢
      clear hR hM hW HA3 c0 c1 c2 c3 c4
      obtain ⟨k0, k1, k2, k3, k4⟩ := HX3.out.fiveG
      go_wp2_with fail
      clear k0 k1 k2 k3 k4
      go_loopw [25] (fun jv wr => ∃ (j : Nat) (rs : List Value), j ≤ x.ins.length ∧ jv = .int .i64 (j : Int) ∧ Hid (IntRows wr (w.heap.size + 1) l.length rs (midR l i j)) ∧ Hid (MapS wr w.heap.size i (prL l i)) ∧ Hid (Below w.heap.size w wr) ∧ Hid (BoxN wr Bx #[.string x.op, .string x.name, .slice ad x.ins.length cd, .string x.out, .slice ax x.attrs.length cx] 47)) (fun jv _ => x.ins.length - (intOf jv).toNat)
      case atStart => exact ⟨0, _, Nat.zero_le _, rfl, HR3, HM3, HW3, HX3⟩
      case round =>
        obtain ⟨j, rs, hj, rfl, hR, hM, hW, hX⟩ := hrel
        by_cases hjl : j < x.ins.length
        · have hji : (j : Int) < (x.ins.length : Int) := by omega
          obtain ⟨s, hs⟩ : ∃ s, x.ins[j]? = some s := ⟨_, List.getElem?_eq_getElem hjl⟩
          obtain ⟨b2, off2, cap2, hv, hb2, hr2⟩ := HI.out.rows j s hs
          obtain ⟨rfl, _, rfl⟩ := Value.slice.inj hv
          have c5 := (hW.out.cell (p := ⟨b2, off2 + j, none⟩) hb2).trans (hr2 j s hs)
          have hkey := key_str (HS6.out s (List.mem_of_getElem? hs))
          have hm := hM.out
          unfold MapS at hm
          have HSJ := Lib.hid hs
          clear hv hr2 hs
          cases hhas : (prL l i).any (fun p => decide (p.1 = s)) with
          | false =>
            have hh : Maps.has (putAll (prL l i) : DataW Unit) (keyS s) = false := (has_prL _ _ _).trans hhas
            have HR' := Lib.hid (hR.out.eq (F' := midR l i (j + 1)) (fun k => midR_same HX.out HSJ.out (fun y hk hy => prL_miss hhas hk hy)))
            clear hhas
            go_wp2_with (at_lookup; refine wpList_lookup_own_ok_int _ rfl _ _ 80 rfl 9 3 .i64 keyed_str Tryz.underlying80 Tryz.underlying3 (zero_int _) w.heap.size i _ rfl hm _ _ rfl hkey ?_; intro c hat hwc)
            go_roundw
            case rel => exact ⟨j + 1, rs, by omega, by go_num, HR', hM, hW, hX⟩
            case measure => simp [intOf]; omega
          | true =>
            obtain ⟨k, y, hki, hy, hys, hpk⟩ := prL_hit hhas
            have hh : Maps.has (putAll (prL l i) : DataW Unit) (keyS s) = true := (has_prL _ _ _).trans hhas
            have HPK := Lib.hid hpk
            have HY := Lib.hid hy
            have HYS := Lib.hid hys
            have hkl : k < l.length := by omega
            obtain ⟨r, hr⟩ : ∃ r, rs[k]? = some r := ⟨_, List.getElem?_eq_getElem (by rw [hR.out.len]; exact hkl)⟩
            have HRr := Lib.hid hr
            have HI' := Lib.hid (hR.out.rd hr (by have := midR_len (l := l) (i := i) (j := j) (k := k); omega) (fun q hq => by have := midR_lt q hq; omega))
            obtain ⟨ar, cr, er⟩ := owns_form (hR.out.row k r hr)
            have d0 : wr.cell? ⟨w.heap.size + 1, k, none⟩ = some r := hR.out.box.cell k (by rw [List.getElem?_toArray]; exact hr)
            have hml := midR_len (l := l) (i := i) (j := j) (k := k)
            have HO : Hid (∀ a, a ≠ k → midR l i (j + 1) a = midR l i j a) := Lib.hid fun a ha => midR_same HX.out HSJ.out fun z hz hz2 e => ha (outs_one HU.out hz2 HY.out (e.trans HYS.out.symm))
            clear hhas hpk hy hys hr
            subst er
            have hk0 : ¬ (k : Int) < 0 := by omega
            have hk1 : (k : Int) < (l.length : Int) := by omega
            go_wp2_with (at_lookup; refine wpList_lookup_own_ok_int _ rfl _ _ 80 rfl 9 3 .i64 keyed_str Tryz.underlying80 Tryz.underlying3 (zero_int _) w.heap.size i _ rfl hm _ _ rfl hkey ?_; intro c hat hwc; obtain rfl := at_pick hat HPK.out)
            refine (HC.out _ _ (midR l i j k) i HI'.out).mono ?_
            rintro e w5 ⟨rfl, hw5⟩
            obtain rfl := hw5.symm
            obtain ⟨bq, hbq⟩ : ∃ bq, (midR l i j k).contains i = bq := ⟨_, rfl⟩
            have HCq := Lib.hid hbq
            rw [hbq]
            clear hbq
            cases bq with
            | true =>
              have HR' := Lib.hid (hR.out.eq (F' := midR l i (j + 1)) (fun a => by
                by_cases ha : a = k
                · rw [ha]; exact midR_had HX.out HSJ.out HY.out HCq.out
                · exact HO.out a ha))
              go_wp2_with fail
              go_roundw
              case rel => exact ⟨j + 1, rs, by omega, by go_num, HR', hM, hW, hX⟩
              case measure => simp [intOf]; omega
            | false =>
              have HNew := Lib.hid (midR_new HX.out HSJ.out HY.out hki HYS.out HCq.out)
              have HA4 : Hid (Below wr.heap.size wr (wr.alloc (.cells #[.int .i64 (i : Int)] 3))) := Lib.hid ((Below.refl _ _).alloc (Nat.le_refl _) _)
              have HR4 := Lib.hid (hR.out.below HA4.out)
              have HM4 := Lib.hid (hM.out.below HA4.out)
              have HX4 := Lib.hid (hX.out.below' HA4.out)
              have HRow4 := Lib.hid (HR4.out.row k _ HRr.out)
              have HW4 : Hid (Below w.heap.size w (wr.alloc (.cells #[.int .i64 (i : Int)] 3))) := Lib.hid (hW.out.alloc hW.out.size _)
              have hs4 := HW4.out.size
              have hs5 := HR4.out.box.lt
              go_wp2_with (at_builtin; refine wpList_append_lies _ rfl _ _ 40 rfl (w.heap.size + 1 + 1) 3 i0 (.int .i64 0) 1 8 Tryz.underlying40 hi hz0 hz1 hz2 rfl (by decide) _ _ _ rfl HRow4.out ⟨wr.heap.size, 0, none⟩ 1 1 (#[.int .i64 (i : Int)] : Array Value).toList rfl rfl (World.news_of_block (heap_alloc_new wr _)) (by simp [Value.oneCell']) (by decide) ?A3 ?A4 ?A5 _ rfl ?_)
              case A3 => unfold maxLen; omega
              case A4 => omega
              case A5 => omega
              intro gq cq w4 hown hgrow hat hlt
              have hnb : ∀ z, Value.ownBlock (.slice ar (midR l i j k).length cr) = some z → w.heap.size + 1 + 1 ≤ z := fun z hz => (HRow4.out.lt z hz).1
              have HBX := Lib.hid (box_grown HR4.out.box hgrow (fun e => by have := hnb _ e; omega))
              have HX5 := Lib.hid (box_grown HX4.out hgrow (fun e => owns_box HRow4.out HX4.out (by decide) _ e rfl))
              have HM5 := Lib.hid (HM4.out.grown hgrow (fun e => by have := hnb _ e.symm; omega))
              have HW5 : Hid (Below w.heap.size w w4) := Lib.hid (HW4.out.grown hgrow (by omega) (fun z hz => by have := hnb z hz; omega))
              have HR5 := Lib.hid (HR4.out.push (i := i) HRr.out hown hgrow (by rw [World.size_alloc]; exact hat) HNew.out HO.out)
              have f0 := HBX.out.frozen k
              have d1 : w4.cell? ⟨w.heap.size + 1, k, none⟩ = some (.slice ar (midR l i j k).length cr) := HBX.out.cell k (by rw [List.getElem?_toArray]; exact HRr.out)
              clear hown hgrow hat hlt hnb hm
              have hne : Bx ≠ w.heap.size + 1 := fun e => by have := hs3.out; omega
              have HX6 : Hid (BoxN (w4.setCell ⟨w.heap.size + 1, k, none⟩ (.slice (some ⟨gq, 0, none⟩) ((midR l i j k).length + 1) cq)) Bx _ 47) := Lib.hid ((Below.heap_setCell _ _ _ _ hne).trans HX5.out)
              have HM6 := Lib.hid (HM5.out.set (a := ⟨w.heap.size + 1, k, none⟩) (by simp) (.slice (some ⟨gq, 0, none⟩) ((midR l i j k).length + 1) cq))
              have HW6 : Hid (Below w.heap.size w (w4.setCell ⟨w.heap.size + 1, k, none⟩ (.slice (some ⟨gq, 0, none⟩) ((midR l i j k).length + 1) cq))) := Lib.hid (HW5.out.setCell (p := ⟨w.heap.size + 1, k, none⟩) (by simp) _)
              go_wp2_with fail
              go_roundw
              case rel => exact ⟨j + 1, _, by omega, by go_num, HR5, HM6, HW6, HX6⟩
              case measure => simp [intOf]; omega
        · have hji : ¬ (j : Int) < (x.ins.length : Int) := by omega
          obtain rfl : j = x.ins.length := by omega
          have hkey := key_str HS5.out
          have hval := plainElem_int (H := Unit) Tryz.underlying3 (wf_i64 (x := (i : Int)) (by unfold InI; omega))
          have hm := hM.out
          unfold MapS at hm
          obtain ⟨k0, k1, k2, k3, k4⟩ := hX.out.fiveG
          have HR' := Lib.hid (hR.out.eq (F' := midR l (i + 1) 0) (fun k => (midR_end HX.out k).symm))
          go_wp2_with (at_mapUpdate; refine wpList_mapUpdate_own _ rfl _ _ _ 80 rfl 9 3 keyed_str Tryz.underlying80 _ w.heap.size i _ rfl hm (by unfold maxLen; omega) _ _ _ rfl rfl hkey _ [] hval ?_; intro w1 hown1 hgrow1)
          have HM' : Hid (MapS w1 w.heap.size (i + 1) (prL l (i + 1))) := Lib.hid (by rw [prL_next HX.out]; unfold MapS; rw [putAll_snoc]; exact hown1)
          have HR1 := Lib.hid (HR'.out.keep (w' := w1) (fun b hb hl => hgrow1.block b hl (fun e => by have hq : b = w.heap.size := (by simpa using e); omega)))
          have HW1 : Hid (Below w.heap.size w w1) := Lib.hid (hW.out.grown hgrow1 hW.out.size (fun z hz => by have hq : w.heap.size = z := (by simpa using hz); omega))
          clear hown1 hgrow1
          go_wp2_with fail
          go_roundw
          case rel => exact ⟨i + 1, rs, by omega, by go_num, HR1, HM', HW1⟩
          case measure => simp [intOf]; omega
    · have hii : ¬ (i : Int) < (l.length : Int) := by omega
      obtain rfl : i = l.length := by omega
      have HT := Lib.hid ((hR.out.eq (F' := rdsL l) (fun k => (midR_full l k).symm)).tab (fun k => ⟨by rw [← midR_full]; have := midR_len (l := l) (i := l.length) (j := 0) (k := k); omega, fun r hr => by rw [← midR_full] at hr; have := midR_lt r hr; omega⟩))
      go_wp2
      go_ret
      exact ⟨hW.out, _, rfl, HT.out⟩

end Go.Proofs.YtlbhepfbogcipaaGreatDoor

set_option linter.unusedVariables false
set_option linter.unusedSimpArgs false
namespace Go.Proofs.YtlbhepfbogcipaaGreatDoor
open Go.RowKit

attribute [local irreducible] accF orF boolCs

theorem nats_form {w : World} {v : Value} {l : List Nat} (h : IntsIn w v (l.map fun (i : Nat) => (i : Int))) : ∃ a c, v = .slice a l.length c := by
  generalize hz : (l.map fun (i : Nat) => (i : Int)) = zs at h
  have hl : l.length = zs.length := by rw [← hz, List.length_map]
  rw [hl]
  cases h with
  | empty a0 cap => exact ⟨a0, cap, rfl⟩
  | row b off cap => exact ⟨_, _, rfl⟩
theorem nats_atB {w : World} {v : Value} {l : List Nat} (h : IntsIn w v (l.map fun (i : Nat) => (i : Int))) {k i : Nat} (hk : l[k]? = some i) : ∃ b off cap, v = .slice (some ⟨b, off, none⟩) l.length cap ∧ b < w.heap.size ∧ w.cell? ⟨b, off + k, none⟩ = some (.int .i64 (i : Int)) := by
  have hkl := (List.getElem?_eq_some_iff.1 hk).1
  obtain ⟨b, off, cap, hv, hb, hr, _⟩ := h.rows (k := k) (by rw [List.length_map]; exact hkl)
  refine ⟨b, off, cap, by rw [hv, List.length_map], hb, ?_⟩
  have := hr k (by rw [List.length_map]; exact hkl)
  rw [this]
  simp [List.getD, hk]

theorem orF_zero {x : Nat → Bool} {F : Nat → Nat → Bool} {r b : Nat} (h : b ≠ r) : orF x F r 0 b = x b := by
  unfold orF
  simp [show (decide (r = b)) = false from decide_eq_false (fun e => h e.symm)]
theorem orF_one {x : Nat → Bool} {F : Nat → Nat → Bool} {r : Nat} : orF x F r 0 r = true := by unfold orF; simp
theorem orF_other {x : Nat → Bool} {F : Nat → Nat → Bool} {r q b : Nat} (h : b ≠ q) : orF x F r (q + 1) b = orF x F r q b := by
  unfold orF
  have : decide (b < q + 1) = decide (b < q) := by rw [decide_eq_decide]; omega
  rw [this]
theorem orF_at {x : Nat → Bool} {F : Nat → Nat → Bool} {r q : Nat} : orF x F r (q + 1) q = (orF x F r q q || F r q) := by
  unfold orF; simp
theorem orF_end {R : Nat → List Nat} {F : Nat → Nat → Bool} {i p r n : Nat} (h : (R i)[p]? = some r) (b : Nat) (hb : b < n) : orF (accF R F i p) F r n b = accF R F i (p + 1) b := by
  rw [accF_next h]
  unfold orF
  simp [hb]

set_option maxRecDepth 100000 in
set_option maxHeartbeats 4000000 in
theorem rows_any {w : World} {v : Value} {n : Nat} {R : Nat → List Nat} {F : Nat → Nat → Bool} (h : TabN w v n R) (hn : n ≤ 1000) (hlt : ∀ k, k < n → ∀ r ∈ R k, k < r ∧ r < n) (hF : ∀ i b, i < n → F i b = (R i).any fun r => decide (r = b) || F r b) :
    Calls Tryz.prog 19 #[v] w fun e w' => Below w.heap.size w w' ∧ ∃ v', e = .returned v' ∧ TabB w' v' n F := by
  have hms := run_make_nilsB
  have hmb := run_make_bools
  obtain ⟨Br, rfl, hBr, hrow⟩ := h.rows
  have HT := Lib.hid hrow
  have HLt := Lib.hid hlt
  have HF := Lib.hid hF
  clear h hrow hlt hF
  go_enter Tryz.func19, Tryz.ntmps19
  have hmk := hms w n (by omega)
  go_wp2_with fail
  have HR1 : Hid (BoolRows (w.alloc (.cells (nilRows n).toArray 35)) w.heap.size n (nilRows n) F n) := Lib.hid (BoolRows.new _ _ _)
  have HB1 : Hid (Below w.heap.size w (w.alloc (.cells (nilRows n).toArray 35))) := Lib.hid ((Below.refl _ w).alloc (Nat.le_refl _) _)
  generalize w.alloc _ = W1 at HR1 HB1 ⊢
  clear hmk hms
  go_loopw [4] (fun iv wr => ∃ (m : Nat) (rs : List Value), m ≤ n ∧ iv = .int .i64 ((m : Int) - 1) ∧ Hid (BoolRows wr w.heap.size n rs F m) ∧ Hid (Below w.heap.size w wr)) (fun iv _ => (intOf iv + 1).toNat)
  case atStart => exact ⟨n, _, Nat.le_refl _, rfl, HR1, HB1⟩
  case round =>
    clear HR1 HB1
    obtain ⟨m, rs, hm, rfl, hR, hW⟩ := hrel
    rcases Nat.eq_zero_or_pos m with rfl | hpos
    · have HT2 := Lib.hid hR.out.tab
      go_wp2
      go_ret
      exact ⟨hW.out, _, rfl, HT2.out⟩
    · obtain ⟨i, rfl⟩ : ∃ i, m = i + 1 := ⟨m - 1, by omega⟩
      have ei : ((i + 1 : Nat) : Int) - 1 = (i : Int) := by omega
      rw [ei]
      have hii : (i : Int) < (n : Int) := by omega
      have hi0 : ¬ (i : Int) < 0 := by omega
      have hi1 : (0 : Int) ≤ (i : Int) := by omega
      have hmk := hmb wr n (by omega)
      obtain ⟨r0, hr0, hin0⟩ := HT.out i (by omega)
      obtain ⟨ar, cr, rfl⟩ := nats_form hin0
      have HIN := Lib.hid hin0
      have hRl : (R i).length * 8 ≤ 140737488351232 := by have := hin0.wf.1; rwa [List.length_map] at this
      have HB2 : Hid (Below w.heap.size w (wr.alloc (.cells (doneCells n []) 4))) := Lib.hid (hW.out.alloc hW.out.size _)
      have HX2 : Hid (BoxN (wr.alloc (.cells (doneCells n []) 4)) w.heap.size rs.toArray 35) := Lib.hid (hR.out.box.below' ((Below.refl _ _).alloc (Nat.le_refl _) _))
      have HD2 := Lib.hid (RowB.new wr n)
      have hne : wr.heap.size ≠ w.heap.size := by have := hR.out.box.lt; omega
      obtain ⟨u0, hu0⟩ : ∃ u, rs[i]? = some u := ⟨_, List.getElem?_eq_getElem (by rw [hR.out.len]; omega)⟩
      have d0 := HX2.out.cell i (v := u0) (by rw [List.getElem?_toArray]; exact hu0)
      have f0 := HX2.out.frozen i
      have HW3 : Hid (Below w.heap.size w ((wr.alloc (.cells (doneCells n []) 4)).setCell ⟨w.heap.size, i, none⟩ (.slice (some ⟨wr.heap.size, 0, none⟩) n n))) := Lib.hid (HB2.out.setCell (p := ⟨w.heap.size, i, none⟩) (Nat.le_refl _) _)
      have c0 := (HW3.out.cell (p := ⟨Br, i, none⟩) hBr).trans hr0
      have HX3 : Hid (BoxN ((wr.alloc (.cells (doneCells n []) 4)).setCell ⟨w.heap.size, i, none⟩ (.slice (some ⟨wr.heap.size, 0, none⟩) n n)) w.heap.size (rs.set i (.slice (some ⟨wr.heap.size, 0, none⟩) n n)).toArray 35) := Lib.hid (by have := HX2.out.set i (.slice (some ⟨wr.heap.size, 0, none⟩) n n); rwa [List.setIfInBounds_toArray] at this)
      have HD3 : Hid (RowB ((wr.alloc (.cells (doneCells n []) 4)).setCell ⟨w.heap.size, i, none⟩ (.slice (some ⟨wr.heap.size, 0, none⟩) n n)) wr.heap.size n (accF R F i 0)) := Lib.hid ((HD2.out.keep (Below.heap_setCell _ _ _ _ hne)).congr fun j _ => (accF_zero R F i j).symm)
      have HK3 : Hid (∀ g, g < wr.heap.size → g ≠ w.heap.size → ((wr.alloc (.cells (doneCells n []) 4)).setCell ⟨w.heap.size, i, none⟩ (.slice (some ⟨wr.heap.size, 0, none⟩) n n)).heap[g]? = wr.heap[g]?) := Lib.hid fun g h1 h2 => (Below.heap_setCell _ _ _ _ h2).trans (((Below.refl _ wr).alloc (Nat.le_refl _) _).block g h1)
      clear hr0 hin0
      go_wp2_with fail
      generalize hbx : wr.heap.size = b0 at *
      generalize World.setCell _ _ _ = W3 at HW3 HX3 HD3 HK3 c0 ⊢
      have hRR : Hid (∀ r, i + 1 ≤ r → r < n → ∃ br, W3.cell? ⟨w.heap.size, r, none⟩ = some (.slice (some ⟨br, 0, none⟩) n n) ∧ br ≠ b0 ∧ RowB W3 br n (F r)) := Lib.hid fun r h1 h2 => by
        obtain ⟨br, e1, e2, e3⟩ := hR.out.row r h1 h2
        have hlt := e3.lt
        rw [hbx] at hlt
        exact ⟨br, HX3.out.cell r (by rw [List.getElem?_toArray, List.getElem?_set_ne (by omega)]; exact e1), by omega, e3.keep (HK3.out br hlt (by omega))⟩
      have hB0 : Hid (W3.cell? ⟨w.heap.size, i, none⟩ = some (.slice (some ⟨b0, 0, none⟩) n n)) := Lib.hid (HX3.out.cell i (by rw [List.getElem?_toArray, List.getElem?_set_self (by rw [hR.out.len]; omega)]))
      have hsz : Hid (w.heap.size < b0) := Lib.hid (by have := hR.out.box.lt; omega)
      have hneB : Hid (w.heap.size ≠ b0) := Lib.hid (by have := hsz.out; omega)
      clear HB2 HX2 HD2 hmk d0 f0 c0 hu0
      generalize hwo : wr = V at *
      clear hwo
      go_loopw [30] (fun pv wq => ∃ p : Nat, p ≤ (R i).length ∧ pv = .int .i64 (p : Int) ∧ Hid (RowB wq b0 n (accF R F i p)) ∧ Hid (∀ g, g ≠ b0 → wq.heap[g]? = W3.heap[g]?) ∧ Hid (Below w.heap.size w wq)) (fun pv _ => (R i).length - (intOf pv).toNat)
      case atStart => exact ⟨0, Nat.zero_le _, rfl, HD3, Lib.hid (fun _ _ => rfl), HW3⟩
      case round =>
        clear HD3 HW3
        obtain ⟨p, hp, rfl, hD, hK, hQ⟩ := hrel
        by_cases hpl : p < (R i).length
        · have hpi : (p : Int) < ((R i).length : Int) := by omega
          obtain ⟨r, hr⟩ : ∃ r, (R i)[p]? = some r := ⟨_, List.getElem?_eq_getElem hpl⟩
          obtain ⟨hir, hrn⟩ := HLt.out i (by omega) r (List.mem_of_getElem? hr)
          obtain ⟨b2, off2, cap2, hv, hb2, c5⟩ := nats_atB HIN.out hr
          obtain ⟨rfl, _, rfl⟩ := Value.slice.inj hv
          have c5 := (hQ.out.cell (p := ⟨b2, off2 + p, none⟩) hb2).trans c5
          obtain ⟨br, e1, e2, e3⟩ := hRR.out r (by omega) hrn
          have HRp := Lib.hid hr
          clear hv hr
          have hne' : br ≠ b0 := e2
          have e3' := e3.keep (hK.out br e2)
          have HE3 := Lib.hid e3'
          have k0 : wr.cell? ⟨w.heap.size, i, none⟩ = some (.slice (some ⟨b0, 0, none⟩) n n) := (World.cell?_of_block (a := ⟨w.heap.size, i, none⟩) (hK.out _ hneB.out)).trans hB0.out
          have k1 : wr.cell? ⟨w.heap.size, r, none⟩ = some (.slice (some ⟨br, 0, none⟩) n n) := (World.cell?_of_block (a := ⟨w.heap.size, r, none⟩) (hK.out _ hneB.out)).trans e1
          have d0 := hD.out.cell hrn
          have f0 := hD.out.frozen r
          have HD4 : Hid (RowB (wr.setCell ⟨b0, r, none⟩ (.bool true)) b0 n (orF (accF R F i p) F r 0)) := Lib.hid (hD.out.set orF_one (fun k hk => orF_zero hk))
          have HQ4 : Hid (Below w.heap.size w (wr.setCell ⟨b0, r, none⟩ (.bool true))) := Lib.hid (hQ.out.setCell (p := ⟨b0, r, none⟩) (by have := hsz.out; simp; omega) _)
          have HK4 : Hid (∀ g, g ≠ b0 → (wr.setCell ⟨b0, r, none⟩ (.bool true)).heap[g]? = W3.heap[g]?) := Lib.hid fun g hg => (Below.heap_setCell _ _ _ _ hg).trans (hK.out g hg)
          have k1' : (wr.setCell ⟨b0, r, none⟩ (.bool true)).cell? ⟨w.heap.size, r, none⟩ = some (.slice (some ⟨br, 0, none⟩) n n) := (World.cell?_of_block (a := ⟨w.heap.size, r, none⟩) (HK4.out _ hneB.out)).trans e1
          have hr0 : ¬ (r : Int) < 0 := by omega
          have hr1 : (r : Int) < (n : Int) := by omega
          have HE4 := Lib.hid e3
          clear e3 e3'
          go_wp2_with fail
          clear d0 f0 k0 k1 k1' c5
          go_loopw [45] (fun qv wr => ∃ q : Nat, q ≤ n ∧ qv = .int .i64 (q : Int) ∧ Hid (RowB wr b0 n (orF (accF R F i p) F r q)) ∧ Hid (∀ g, g ≠ b0 → wr.heap[g]? = W3.heap[g]?) ∧ Hid (Below w.heap.size w wr)) (fun qv _ => n - (intOf qv).toNat)
          case atStart => exact ⟨0, Nat.zero_le _, rfl, HD4, HK4, HQ4⟩
          case round =>
            clear HD4 HK4 HQ4 HE3 hD hK hQ
            obtain ⟨q, hq, rfl, hD, hK, hQ⟩ := hrel
            by_cases hql : q < n
            · have hqi : (q : Int) < (n : Int) := by omega
              have hq0 : ¬ (q : Int) < 0 := by omega
              have k0 : wr.cell? ⟨w.heap.size, i, none⟩ = some (.slice (some ⟨b0, 0, none⟩) n n) := (World.cell?_of_block (a := ⟨w.heap.size, i, none⟩) (hK.out _ hneB.out)).trans hB0.out
              have d0 := hD.out.cell hql
              have f0 := hD.out.frozen q
              have k2 := (HE4.out.keep (hK.out br e2)).cell hql
              obtain ⟨x0, hx0⟩ : ∃ x0, orF (accF R F i p) F r q q = x0 := ⟨_, rfl⟩
              obtain ⟨y0, hy0⟩ : ∃ y0, F r q = y0 := ⟨_, rfl⟩
              have HZ : Hid (orF (accF R F i p) F r (q + 1) q = (x0 || y0)) := Lib.hid (by rw [orF_at, hx0, hy0])
              rw [hx0] at d0
              rw [hy0] at k2
              clear hx0 hy0
              have HD5 : ∀ z, (x0 || y0) = z → Hid (RowB (wr.setCell ⟨b0, q, none⟩ (.bool z)) b0 n (orF (accF R F i p) F r (q + 1))) := fun z hz => Lib.hid (hD.out.set (HZ.out.trans hz) (fun k hk => orF_other hk))
              have HQ5 : ∀ z, Hid (Below w.heap.size w (wr.setCell ⟨b0, q, none⟩ (.bool z))) := fun z => Lib.hid (hQ.out.setCell (p := ⟨b0, q, none⟩) (by have := hsz.out; simp; omega) _)
              have HK5 : ∀ z, Hid (∀ g, g ≠ b0 → (wr.setCell ⟨b0, q, none⟩ (.bool z)).heap[g]? = W3.heap[g]?) := fun z => Lib.hid fun g hg => (Below.heap_setCell _ _ _ _ hg).trans (hK.out g hg)
              have HD6 := Lib.hid HD5
              have HQ6 := Lib.hid HQ5
              have HK6 := Lib.hid HK5
              clear HD5 HQ5 HK5 HZ
              go_wp2_with fail
              cases x0 <;> cases y0
              all_goals
                go_region
                go_wp2_with fail
                go_roundw
                case rel => exact ⟨q + 1, by omega, by go_num, HD6.out _ rfl, HK6.out _, Lib.hid (HQ6.out _).out.drew⟩
                case measure => simp [intOf]; omega
            · have hqi : ¬ (q : Int) < (n : Int) := by omega
              obtain rfl : q = n := by omega
              have HD7 := Lib.hid (hD.out.congr (g := accF R F i (p + 1)) (fun b hb => orF_end HRp.out b hb))
              go_wp2_with fail
              go_roundw
              case rel => exact ⟨p + 1, by omega, by go_num, HD7, hK, hQ⟩
              case measure => simp [intOf]; omega
        · have hpi : ¬ (p : Int) < ((R i).length : Int) := by omega
          obtain rfl : p = (R i).length := by omega
          have HNext : Hid (BoolRows wr w.heap.size n (rs.set i (.slice (some ⟨b0, 0, none⟩) n n)) F i) := Lib.hid (by
            have := hR.out.next (W := wr) (by omega) (by rw [hbx]; exact (hK.out _ (by have := hsz.out; omega)).trans HX3.out) (fun g h1 h2 => by rw [hbx] at h1; exact (hK.out g (by omega)).trans (HK3.out g h1 h2)) (by rw [hbx]; exact hD.out.congr fun j hj => accF_end (HF.out i j (by omega)))
            rwa [hbx] at this)
          have ei2 : (i : Int) - 1 = (i : Int) - 1 := rfl
          go_wp2_with fail
          go_roundw
          case rel => exact ⟨i, _, by omega, by go_num, HNext, hQ⟩
          case measure => simp [intOf]
end Go.Proofs.YtlbhepfbogcipaaGreatDoor

set_option linter.unusedVariables false
set_option linter.unusedSimpArgs false
namespace Go.Proofs.YtlbhepfbogcipaaGreatDoor
open Go.RowKit

/-- What is asked of a test that a function value makes of values. -/
def TestV (g : Nat) (lb : Array Value) (p : Vl → Bool) (w : World) : Prop :=
  ∀ (W : World) (x : Vl) (vd : Value), Below w.heap.size w W → rdValue W [.string x.name, .int .i64 x.typ, vd] x → Calls Tryz.prog g (#[.agg #[.string x.name, .int .i64 x.typ, vd]] ++ lb) W fun e w' => e = .returned (.bool (p x)) ∧ Below W.heap.size W w'

set_option maxHeartbeats 1000000 in
theorem indexV_row (b off cap : Nat) (l : List Vl) (hlen : l.length ≤ 1048576) (w : World) (hr : Hid (SlIn 3 rdValue w (.slice (some ⟨b, off, none⟩) l.length cap) l)) (g : Nat) (lb : Array Value) (eg : ∀ args w, (callFunc g args).run Tryz.prog w = .ok (.enter g args) w) (p : Vl → Bool) (hp : Hid (TestV g lb p w)) :
    Calls Tryz.prog 42 #[.slice (some ⟨b, off, none⟩) l.length cap, .func (.func g) #[] lb] w fun e w' => e = .returned (.int .i64 (gidx p l)) ∧ Below w.heap.size w w' := by
  go_enter Tryz.func42, Tryz.ntmps42
  go_wp2
  go_loopg [5, 8] l.length (fun gg _ s8 wr => ∃ k : Nat, k ≤ l.length ∧ l.length - k ≤ gg ∧ s8 = .int .i64 (k : Int) ∧ Hid (Below w.heap.size w wr) ∧ Hid ((l.take k).any p = false))
  case atStart => exact ⟨0, Nat.zero_le _, by omega, rfl, Lib.hid (Below.refl _ _), Lib.hid (by simp)⟩
  case round =>
    obtain ⟨k, hk, hg, rfl, hB, hany⟩ := hrel
    by_cases hkl : k < l.length
    · have hki : (k : Int) < (l.length : Int) := by omega
      obtain ⟨x, hx⟩ : ∃ x, l[k]? = some x := ⟨_, List.getElem?_eq_getElem hkl⟩
      obtain ⟨b', off', cap', vd, hv, hb, c0, c1, c2, h1, h2, h3⟩ := value_at hr.out hx
      obtain ⟨hv1, _, rfl⟩ := Value.slice.inj hv
      obtain ⟨rfl, rfl⟩ : b' = b ∧ off' = off := by simpa using hv1.symm
      have c0 := (hB.out.cell (p := ⟨b', off' + k * 3, none⟩) hb).trans c0
      have c1 := (hB.out.cell (p := ⟨b', off' + k * 3 + 1, none⟩) hb).trans c1
      have c2 := (hB.out.cell (p := ⟨b', off' + k * 3 + 2, none⟩) hb).trans c2
      have hcall := Lib.hid (hp.out _ x vd hB.out ⟨vd, rfl, h1, h2, h3.below hB.out⟩)
      have HA := Lib.hid hx
      clear hx h1 h2 h3 hv hv1
      cases hq : p x with
      | true =>
        have e := Lib.hid (gidx_at HA.out hany.out hq)
        rw [hq] at hcall
        clear hq
        go_wp2_with (go_at_fn g; refine hcall.out.mono ?_; rintro e w' ⟨rfl, hB2⟩)
        go_ret
        exact ⟨ret_val (int_val e.out.symm), hB.out.trans (hB2.mono hB.out.size)⟩
      | false =>
        have e := Lib.hid (take_any HA.out hany.out hq)
        rw [hq] at hcall
        clear hq
        go_wp2_with (go_at_fn g; refine hcall.out.mono ?_; rintro e w' ⟨rfl, hB2⟩)
        go_roundg (l.length - (k + 1))
        case measure => omega
        case rel => exact ⟨k + 1, by omega, by omega, by go_num, Lib.hid (hB.out.trans (hB2.mono hB.out.size)), e⟩
    · have hki : ¬ (k : Int) < (l.length : Int) := by omega
      obtain rfl : k = l.length := by omega
      have e : Hid (gidx p l = -1) := Lib.hid (gidx_none (by have := hany.out; rwa [List.take_length] at this))
      go_wp2
      go_ret
      exact ⟨ret_val (int_val e.out.symm), hB.out⟩

theorem indexV_empty (a0 : Option Addr) (cap : Nat) (fn : Value) (p : Vl → Bool) (w : World) :
    Calls Tryz.prog 42 #[.slice a0 0 cap, fn] w fun e w' => e = .returned (.int .i64 (gidx p [])) ∧ Below w.heap.size w w' := by
  have e : gidx p [] = -1 := rfl
  rw [e]
  go_enter Tryz.func42, Tryz.ntmps42
  go_wp2
  go_rounds 1
  go_ret
  exact ⟨rfl, Below.refl _ _⟩

theorem indexV_any {w : World} {v : Value} {l : List Vl} (h : SlIn 3 rdValue w v l) (g : Nat) (lb : Array Value) (eg : ∀ args w, (callFunc g args).run Tryz.prog w = .ok (.enter g args) w) (p : Vl → Bool) (hp : TestV g lb p w) :
    Calls Tryz.prog 42 #[v, .func (.func g) #[] lb] w fun e w' => e = .returned (.int .i64 (gidx p l)) ∧ Below w.heap.size w w' := by
  have h0 := h
  cases h with
  | empty a0 cap => exact indexV_empty a0 cap _ p w
  | row b off cap _ _ _ _ _ hlen => exact indexV_row b off cap l (by omega) w (Lib.hid h0) g lb eg p (Lib.hid hp)

theorem containsV_any {w : World} {v : Value} {l : List Vl} (h : SlIn 3 rdValue w v l) (g : Nat) (lb : Array Value) (eg : ∀ args w, (callFunc g args).run Tryz.prog w = .ok (.enter g args) w) (p : Vl → Bool) (hp : TestV g lb p w) :
    Calls Tryz.prog 26 #[v, .func (.func g) #[] lb] w fun e w' => e = .returned (.bool (l.any p)) ∧ Below w.heap.size w w' := by
  have H := Lib.hid (indexV_any h g lb eg p hp)
  have hg := Lib.hid (gidx_ge p l)
  go_enter Tryz.func26, Tryz.ntmps26
  go_wp2_with (go_at_call 42; refine H.out.mono ?_; rintro e w' ⟨rfl, hB⟩)
  go_ret
  refine ⟨ret_val (bool_val ?_), hB⟩
  have := hg.out
  simpa using this

/-! ### numbers that may be -/

def TestM (zs : List Int) (g : Nat) (lb : Array Value) (p : Int → Bool) (w : World) : Prop :=
  ∀ (W : World) (z : Int), Below w.heap.size w W → z ∈ zs → Calls Tryz.prog g (#[.int .i64 z] ++ lb) W fun e w' => e = .returned (.bool (p z)) ∧ Below W.heap.size W w'

set_option maxHeartbeats 1000000 in
theorem indexM_row (b off cap : Nat) (zs : List Int) (hlen : zs.length * 8 ≤ 140737488351232) (w : World) (hb : b < w.heap.size) (hr : Hid (Reads w b off zs)) (g : Nat) (lb : Array Value) (eg : ∀ args w, (callFunc g args).run Tryz.prog w = .ok (.enter g args) w) (p : Int → Bool) (hp : Hid (TestM zs g lb p w)) :
    Calls Tryz.prog 43 #[.slice (some ⟨b, off, none⟩) zs.length cap, .func (.func g) #[] lb] w fun e w' => e = .returned (.int .i64 (gidx p zs)) ∧ Below w.heap.size w w' := by
  go_enter Tryz.func43, Tryz.ntmps43
  go_wp2
  go_loopg [5, 8] zs.length (fun gg _ s8 wr => ∃ k : Nat, k ≤ zs.length ∧ zs.length - k ≤ gg ∧ s8 = .int .i64 (k : Int) ∧ Hid (Below w.heap.size w wr) ∧ Hid ((zs.take k).any p = false))
  case atStart => exact ⟨0, Nat.zero_le _, by omega, rfl, Lib.hid (Below.refl _ _), Lib.hid (by simp)⟩
  case round =>
    obtain ⟨k, hk, hg, rfl, hB, hany⟩ := hrel
    by_cases hkl : k < zs.length
    · have hki : (k : Int) < (zs.length : Int) := by omega
      have c0 := (hr.out.below hB.out hb) k hkl
      have HI := getD_mem hkl
      have HA := Lib.hid (int_at hkl)
      generalize zs.getD k 0 = z at c0 HI HA
      have hcall := Lib.hid (hp.out _ z hB.out HI)
      clear HI
      cases hq : p z with
      | true =>
        have e := Lib.hid (gidx_at HA.out hany.out hq)
        rw [hq] at hcall
        clear hq
        go_wp2_with (go_at_fn g; refine hcall.out.mono ?_; rintro e w' ⟨rfl, hB2⟩)
        go_ret
        exact ⟨ret_val (int_val e.out.symm), hB.out.trans (hB2.mono hB.out.size)⟩
      | false =>
        have e := Lib.hid (take_any HA.out hany.out hq)
        rw [hq] at hcall
        clear hq
        go_wp2_with (go_at_fn g; refine hcall.out.mono ?_; rintro e w' ⟨rfl, hB2⟩)
        go_roundg (zs.length - (k + 1))
        case measure => omega
        case rel => exact ⟨k + 1, by omega, by omega, by go_num, Lib.hid (hB.out.trans (hB2.mono hB.out.size)), e⟩
    · have hki : ¬ (k : Int) < (zs.length : Int) := by omega
      obtain rfl : k = zs.length := by omega
      have e : Hid (gidx p zs = -1) := Lib.hid (gidx_none (by have := hany.out; rwa [List.take_length] at this))
      go_wp2
      go_ret
      exact ⟨ret_val (int_val e.out.symm), hB.out⟩

theorem indexM_any {w : World} {v : Value} {zs : List Int} (h : IntsIn w v zs) (g : Nat) (lb : Array Value) (eg : ∀ args w, (callFunc g args).run Tryz.prog w = .ok (.enter g args) w) (p : Int → Bool) (hp : TestM zs g lb p w) :
    Calls Tryz.prog 43 #[v, .func (.func g) #[] lb] w fun e w' => e = .returned (.int .i64 (gidx p zs)) ∧ Below w.heap.size w w' := by
  cases h with
  | empty a0 cap => exact indexI_empty a0 cap _ p w
  | row b off cap _ h0 hc hb hr hlen hw => exact indexM_row b off cap zs hlen w hb (Lib.hid hr) g lb eg p (Lib.hid hp)

theorem containsM_any {w : World} {v : Value} {zs : List Int} (h : IntsIn w v zs) (g : Nat) (lb : Array Value) (eg : ∀ args w, (callFunc g args).run Tryz.prog w = .ok (.enter g args) w) (p : Int → Bool) (hp : TestM zs g lb p w) :
    Calls Tryz.prog 29 #[v, .func (.func g) #[] lb] w fun e w' => e = .returned (.bool (zs.any p)) ∧ Below w.heap.size w w' := by
  have H := Lib.hid (indexM_any h g lb eg p hp)
  have hg := Lib.hid (gidx_ge p zs)
  go_enter Tryz.func29, Tryz.ntmps29
  go_wp2_with (go_at_call 43; refine H.out.mono ?_; rintro e w' ⟨rfl, hB⟩)
  go_ret
  refine ⟨ret_val (bool_val ?_), hB⟩
  have := hg.out
  simpa using this

end Go.Proofs.YtlbhepfbogcipaaGreatDoor

set_option linter.unusedVariables false
set_option linter.unusedSimpArgs false
namespace Go.Proofs.YtlbhepfbogcipaaGreatDoor
open Go.RowKit

/-- Nodes that lie as they lay in an earlier world. -/
def nodeR (w0 : World) (_ : World) (_ : Nat) (n : Nd) (s : Value × Value) : Prop := rdNodeG w0 (nodeC n s) n
abbrev NodesR (w0 : World) := RowO 47 5 nodeC (nodeR w0)
theorem NodesR.reads' {w0 w : World} {B : Nat} {l : List Nd} {v : Value} {ns : List (Value × Value)} (h : NodesR w0 w B l v ns) (hB : Below w0.heap.size w0 w) (hl : l.length ≤ 1048575) : SlIn 5 rdNodeG w v l :=
  RowO.reads h (fun _ _ => rfl) hl fun n s _ hn => rdNodeG_below hB _ _ hn
theorem nats_at {w : World} {v : Value} {l : List Nat} {n : Nat} (h : IntsIn w v (l.map fun (i : Nat) => (i : Int))) (hn : l.length = n) {k i : Nat} (hk : l[k]? = some i) : ∃ b off cap, v = .slice (some ⟨b, off, none⟩) n cap ∧ b < w.heap.size ∧ w.cell? ⟨b, off + k, none⟩ = some (.int .i64 (i : Int)) := by
  have hkl := (List.getElem?_eq_some_iff.1 hk).1
  obtain ⟨b, off, cap, hv, hb, hr, _⟩ := h.rows (k := k) (by rw [List.length_map]; exact hkl)
  refine ⟨b, off, cap, by rw [hv, List.length_map, hn], hb, ?_⟩
  have := hr k (by rw [List.length_map]; exact hkl)
  rw [this]
  simp [List.getD, hk]
theorem info_nodeL : (Tryz.prog.info? 47).map (fun i => (i.zero, i.size, i.bytes)) = some (some (.agg #[.string ⟨#[]⟩, .string ⟨#[]⟩, .slice none 0 0, .string ⟨#[]⟩, .slice none 0 0]), 5, 96) := by kernel_rfl

/-- A graph's nodes in the order of work. -/
def sortedL (g : Gr) : List Nd := if orderE g = 0 then picked g else []
theorem sortedL_good {g : Gr} (h : orderE g = 0) : sortedL g = picked g := if_pos h
theorem sortedL_bad {g : Gr} {x : Int} (h : orderE g = x) (hx : x ≠ 0) : sortedL g = [] := if_neg (by rw [h]; exact hx)
theorem sortedL_len {g : Gr} (h : orderE g = 0) : (sortedL g).length = g.nodes.length := by rw [sortedL_good h]; exact stood_len (fineG_of h)
theorem sortedL_le (g : Gr) : (sortedL g).length ≤ 1000 := by
  unfold sortedL
  split
  · rename_i h
    have hf := fineG_of h
    have e : (picked g).length = g.nodes.length := stood_len hf
    rw [e]
    exact (great_iff.1 hf.great).1
  · simp
def SortedV (w0 w : World) (g : Gr) (e : Ending) (w' : World) : Prop := ∃ v' ns, e = .returned (.tuple #[v', .int .i64 (orderE g)]) ∧ NodesR w0 w' w.heap.size (sortedL g) v' ns ∧ Below w.heap.size w w'

theorem SortedV.mk' {w0 w w' : World} {g : Gr} {x : Int} {v : Value} {ns : List (Value × Value)} (h : orderE g = x) (hs : NodesR w0 w' w.heap.size (sortedL g) v ns) (hB : Below w.heap.size w w') : SortedV w0 w g (.returned (.tuple #[v, .int .i64 x])) w' := ⟨v, ns, by rw [h], hs, hB⟩
theorem NodesR.base {w0 w : World} {B B' : Nat} {l : List Nd} {v : Value} {ns : List (Value × Value)} (h : NodesR w0 w B' l v ns) (hb : B ≤ B') : NodesR w0 w B l v ns := ⟨h.len, owns_base h.row hb, h.att⟩
theorem nats_intsL {w : World} {B : Nat} {v : Value} {l : List Nat} (h : w.ownsRow B 3 1 v l.length (natsV l)) (hl : l.length ≤ 2000000) (hb : ∀ i ∈ l, i < 2000000) : IntsIn w v (l.map fun (i : Nat) => (i : Int)) := by
  refine IntsIn.of_owns (B := B) (t := 3) ?_ (by simp; omega) (fun z hz => ?_)
  · rw [List.length_map, List.map_map]; exact h
  · obtain ⟨i, hi, rfl⟩ := List.mem_map.1 hz
    have := hb i hi
    unfold InI; omega

attribute [local irreducible] orderE orderL work hasS namesG picked sortedL

set_option maxRecDepth 100000 in
set_option maxHeartbeats 4000000 in
theorem sorted_any {w0 w : World} {v : Value} {g : Gr} (h : GraphV w0 v g) (hB0 : Below w0.heap.size w0 w) (hG : Glob w) :
    Calls Tryz.prog 18 #[v] w fun e w' => SortedV w0 w g e w' := by
  obtain ⟨i0, hi, hz0, hz1, hz2⟩ := info_parts info_nodeL
  have HO := Lib.hid (fun (W : World) (vi : Value) (h : GraphV W vi g) (hG : Glob W) => order_any h hG)
  obtain ⟨vn, vi, vo, vt, rfl, hg⟩ := h
  obtain ⟨an, cn, rfl⟩ := hg.nodes.form
  have hln := hg.nodes.len
  have HN := Lib.hid hg
  have HGl := Lib.hid hG
  have H0 := Lib.hid hB0
  clear hg hG hB0
  unfold Gr.val
  go_enter Tryz.func18, Tryz.ntmps18
  go_wp2_with fail
  have hB1 : Hid (Below w.heap.size w (w.alloc (Obj.cells #[Value.string g.name, .slice an g.nodes.length cn, vi, vo, vt] 26))) := Lib.hid ((Below.refl _ w).alloc (Nat.le_refl _) _)
  have hA1 := Lib.hid (BoxN.new w #[Value.string g.name, .slice an g.nodes.length cn, vi, vo, vt] 26)
  generalize w.alloc _ = W1 at hB1 hA1 ⊢
  have hGV : Hid (∀ W, Below W1.heap.size W1 W → GraphV W (.agg #[Value.string g.name, .slice an g.nodes.length cn, vi, vo, vt]) g) := Lib.hid fun W hW => ⟨_, _, _, _, rfl, HN.out.below (H0.out.trans ((hB1.out.trans (hW.mono hB1.out.size)).mono H0.out.size))⟩
  refine (HO.out _ _ (hGV.out W1 (Below.refl _ _)) (HGl.out.below hB1.out)).mono ?_
  rintro e w5 ⟨v', rfl, ho, B5⟩
  have HW5 : Hid (Below W1.heap.size W1 w5) := Lib.hid B5
  have HR := Lib.hid ho
  clear B5 ho
  obtain ⟨al, cl, rfl⟩ := owns_form HR.out
  obtain ⟨k0, k1, k2, k3, k4⟩ := (hA1.out.below' HW5.out).fiveG
  generalize hce : orderE g = ce
  have HCE := Lib.hid hce
  clear hce
  have hb5 := Lib.hid (hB1.out.trans (HW5.out.mono hB1.out.size))
  by_cases hz : ce = 0
  · have hzb : (ce != 0) = false := by simpa using hz
    have hE0 := Lib.hid (HCE.out.trans hz)
    have HF := Lib.hid (fineG_of (HCE.out.trans hz))
    have hll : (orderL g).length = g.nodes.length := by rw [orderL_full (HCE.out.trans hz)]; exact HF.out.full
    have HOL : Hid (orderL g = work g) := Lib.hid (orderL_full (HCE.out.trans hz))
    have g1 := (great_iff.1 HF.out.great).1
    rw [hll] at HR ⊢
    clear hll hz
    have HI : Hid (IntsIn w5 (.slice al g.nodes.length cl) ((work g).map fun (i : Nat) => (i : Int))) := Lib.hid (by
      have h1 := HR.out
      rw [HOL.out] at h1
      have h2 := HF.out.full
      rw [← h2] at h1 ⊢
      exact nats_intsL h1 (by omega) (fun i hi => by have := (work_good g).lt i hi; omega))
    clear HR
    go_wp2_with fail
    clear k0 k1 k2 k3 k4
    have hPL : (picked g).length = g.nodes.length := stood_len HF.out
    go_loopw [6, 19] (fun ov i wr => ∃ (k : Nat) (ns : List (Value × Value)), k ≤ g.nodes.length ∧ i = .int .i64 (k : Int) ∧ Hid (((picked g).take k).length = k) ∧ Hid (NodesR w0 wr w5.heap.size ((picked g).take k) ov ns) ∧ Hid (Below w5.heap.size w5 wr)) (fun _ i _ => g.nodes.length - (intOf i).toNat)
    case atStart => exact ⟨0, [], Nat.zero_le _, rfl, Lib.hid (by simp), Lib.hid (by rw [List.take_zero]; exact RowO.nil _ _), Lib.hid (Below.refl _ _)⟩
    case round =>
      obtain ⟨k, ns, hk, rfl, hL, hNo, hW⟩ := hrel
      obtain ⟨anv, cnv, env⟩ := owns_form hNo.out.row
      rw [hL.out] at env
      subst env
      have hW1 : Hid (Below W1.heap.size W1 wr) := Lib.hid (HW5.out.trans (hW.out.mono HW5.out.size))
      have hBw : Hid (Below w.heap.size w wr) := Lib.hid (hB1.out.trans (hW1.out.mono hB1.out.size))
      have hsw := hW.out.size
      by_cases hkl : k < g.nodes.length
      · have hki : (k : Int) < (g.nodes.length : Int) := by omega
        obtain ⟨i, hi'⟩ : ∃ i, (work g)[k]? = some i := ⟨_, List.getElem?_eq_getElem (by rw [HF.out.full]; exact hkl)⟩
        have hil : i < g.nodes.length := (work_good g).lt i (List.mem_of_getElem? hi')
        obtain ⟨bl, ol, cl', hvl, hbl, cl0⟩ := nats_at HI.out HF.out.full hi'
        obtain ⟨rfl, _, rfl⟩ := Value.slice.inj hvl
        obtain ⟨x, hx⟩ : ∃ x, g.nodes[i]? = some x := ⟨_, List.getElem?_eq_getElem hil⟩
        obtain ⟨b, off, cap, vd, vx, hv, hb, c0, c1, c2, c3, c4, h3, h4, h5, h6⟩ := node_at HN.out.nodes hx
        obtain ⟨rfl, _, rfl⟩ := Value.slice.inj hv
        have hrd : nodeR w0 w 0 x (vd, vx) := ⟨vd, vx, rfl, h3, h4, h5, h6⟩
        obtain ⟨ad, cd, rfl⟩ := h3.is.form
        obtain ⟨ax, cx, rfl⟩ := h3.ia.form
        have HRD := Lib.hid hrd
        have HPk : Hid ((picked g).take (k + 1) = (picked g).take k ++ [x]) := Lib.hid (by rw [List.take_add_one, picked_at hi' hx]; rfl)
        have hB := H0.out.trans (hBw.out.mono H0.out.size)
        have s0 := (hA1.out.below' hW1.out).fiveG.2.1
        have cl0 := (hW.out.cell (p := ⟨bl, ol + k, none⟩) hbl).trans cl0
        have c0 := (hB.cell (p := ⟨b, off + i * 5, none⟩) hb).trans c0
        have c1 := (hB.cell (p := ⟨b, off + i * 5 + 1, none⟩) hb).trans c1
        have c2 := (hB.cell (p := ⟨b, off + i * 5 + 2, none⟩) hb).trans c2
        have c3 := (hB.cell (p := ⟨b, off + i * 5 + 3, none⟩) hb).trans c3
        have c4 := (hB.cell (p := ⟨b, off + i * 5 + 4, none⟩) hb).trans c4
        have hi0 : ¬ (i : Int) < 0 := by omega
        have hi1 : (i : Int) < (g.nodes.length : Int) := by omega
        have HB7 : Hid (Below wr.heap.size wr (wr.alloc (.cells #[.string x.op, .string x.name, .slice ad x.ins.length cd, .string x.out, .slice ax x.attrs.length cx] 47))) := Lib.hid ((Below.refl _ _).alloc (Nat.le_refl _) _)
        have HNo7 : Hid (NodesR w0 (wr.alloc (.cells #[.string x.op, .string x.name, .slice ad x.ins.length cd, .string x.out, .slice ax x.attrs.length cx] 47)) w5.heap.size ((picked g).take k) (.slice anv k cnv) ns) := Lib.hid (RowO.keep hNo.out (keep_below (ts := [47]) HB7.out) (by decide) (fun _ _ h => h))
        have HRow7 : Hid ((wr.alloc (.cells #[.string x.op, .string x.name, .slice ad x.ins.length cd, .string x.out, .slice ax x.attrs.length cx] 47)).ownsRow w5.heap.size 47 5 (.slice anv k cnv) k (rowG nodeC ((picked g).take k) ns)) := Lib.hid (by have := HNo7.out.row; rwa [hL.out] at this)
        clear hv hvl hi' hx h3 h4 h5 h6 hrd hB
        go_wp2_with (at_builtin; refine wpList_append_own _ rfl _ _ 22 rfl w5.heap.size 47 i0 (.agg #[.string ⟨#[]⟩, .string ⟨#[]⟩, .slice none 0 0, .string ⟨#[]⟩, .slice none 0 0]) 5 96 Tryz.underlying22 hi hz0 hz1 hz2 rfl (by decide) _ _ _ rfl HRow7.out ⟨wr.heap.size, 0, none⟩ 1 1 (#[.string x.op, .string x.name, .slice ad x.ins.length cd, .string x.out, .slice ax x.attrs.length cx] : Array Value).toList rfl rfl (World.news_of_block (heap_alloc_new wr _)) ?A2 ?A3 ?A4 ?A5 ?_)
        case A2 => exact ⟨rfl, rfl, rfl, rfl, rfl⟩
        case A3 => unfold maxLen; omega
        case A4 => omega
        case A5 => have := HB7.out.size; omega
        intro v' w9 hown' hgrow _
        obtain ⟨a9, c9, rfl⟩ := owns_form hown'
        have HNo10 : Hid (NodesR w0 w9 w5.heap.size ((picked g).take (k + 1)) (.slice a9 (k + 1) c9) (ns ++ [(.slice ad x.ins.length cd, .slice ax x.attrs.length cx)])) := Lib.hid (by
          rw [HPk.out]
          exact RowO.push HNo7.out (by rw [hL.out]; exact hown') (fun _ _ h => h) HRD.out)
        have HW10 : Hid (Below w5.heap.size w5 w9) := Lib.hid ((hW.out.trans (HB7.out.mono (by omega))).grown hgrow (by simp; omega) (fun y hy => by have := (HRow7.out.lt y hy).1; omega))
        clear hown' hgrow c0 c1 c2 c3 c4 cl0 s0
        go_wp2_with fail
        go_roundw
        case rel => exact ⟨k + 1, _, by omega, by go_num, Lib.hid (by rw [List.length_take]; omega), HNo10, HW10⟩
        case measure => simp [intOf]; omega
      · have hki : ¬ (k : Int) < (g.nodes.length : Int) := by omega
        obtain rfl : k = g.nodes.length := by omega
        have HNoF : Hid (NodesR w0 wr w.heap.size (sortedL g) (.slice anv g.nodes.length cnv) ns) := Lib.hid (by
          have := hNo.out
          rw [← hPL, List.take_length] at this
          rw [← hPL, sortedL_good hE0.out]
          exact this.base (by have := hb5.out.size; omega))
        go_wp2
        go_ret2
        exact SortedV.mk' hE0.out HNoF.out hBw.out
  · have hzb : (ce != 0) = true := by simpa using hz
    have HS0 := Lib.hid (sortedL_bad HCE.out hz)
    clear hz
    go_wp2
    go_ret2
    exact SortedV.mk' HCE.out (by rw [HS0.out]; exact RowO.nil _ _) hb5.out

end Go.Proofs.YtlbhepfbogcipaaGreatDoor

set_option linter.unusedVariables false
set_option linter.unusedSimpArgs false
namespace Go.Proofs.YtlbhepfbogcipaaGreatDoor
open Go.RowKit

theorem rds_lt (l : List Nd) : ∀ k, k < l.length → ∀ r ∈ rdsL l k, k < r ∧ r < l.length := fun k _ r hr => readsL_lt (mem_rdsL.1 hr)
theorem sorted_outs {g : Gr} (h : orderE g = 0) : ((sortedL g).map (·.out)).Nodup := by rw [sortedL_good h]; exact picked_outs (fineG_of h)

def BeforeV (w : World) (g : Gr) (e : Ending) (w' : World) : Prop := ∃ v', e = .returned (.tuple #[v', .int .i64 (orderE g)]) ∧ Below w.heap.size w w' ∧ ((orderE g = 0 ∧ TabB w' v' (sortedL g).length (befB (sortedL g))) ∨ (orderE g ≠ 0 ∧ v' = .slice none 0 0))
theorem BeforeV.good {w w' : World} {g : Gr} {v : Value} (h : orderE g = 0) (hB : Below w.heap.size w w') (hT : TabB w' v (sortedL g).length (befB (sortedL g))) : BeforeV w g (.returned (.tuple #[v, .int .i64 0])) w' := ⟨v, by rw [h], hB, Or.inl ⟨h, hT⟩⟩
theorem BeforeV.bad {w w' : World} {g : Gr} {x : Int} (h : orderE g = x) (hx : x ≠ 0) (hB : Below w.heap.size w w') : BeforeV w g (.returned (.tuple #[.slice none 0 0, .int .i64 x])) w' := ⟨_, by rw [h], hB, Or.inr ⟨by rw [h]; exact hx, rfl⟩⟩

attribute [local irreducible] orderE orderL work hasS namesG picked sortedL rdsL befB doneB apartB

set_option maxRecDepth 100000 in
set_option maxHeartbeats 4000000 in
theorem before_any {w : World} {v : Value} {g : Gr} (h : GraphV w v g) (hG : Glob w) :
    Calls Tryz.prog 8 #[v] w fun e w' => BeforeV w g e w' := by
  have HS := Lib.hid (fun (W : World) (vi : Value) (h : GraphV W vi g) (hG : Glob W) => sorted_any h (Below.refl _ _) hG)
  have HR := Lib.hid (fun (W : World) (vi : Value) (h : SlIn 5 rdNodeG W vi (sortedL g)) (hE : orderE g = 0) => lreaders_any h (sorted_outs hE) (sortedL_le g))
  have HT := Lib.hid (fun (W : World) (vi : Value) (h : TabN W vi (sortedL g).length (rdsL (sortedL g))) => rows_any h (sortedL_le g) (rds_lt _) (fun i b _ => befB_step i b))
  obtain ⟨vn, vi, vo, vt, rfl, hg⟩ := h
  have HN := Lib.hid hg
  have HGl := Lib.hid hG
  clear hg hG
  unfold Gr.val
  go_enter Tryz.func8, Tryz.ntmps8
  go_wp2_with fail
  have hB1 : Hid (Below w.heap.size w (w.alloc (Obj.cells #[Value.string g.name, vn, vi, vo, vt] 26))) := Lib.hid ((Below.refl _ w).alloc (Nat.le_refl _) _)
  generalize w.alloc _ = W1 at hB1 ⊢
  have hGV : Hid (GraphV W1 (.agg #[Value.string g.name, vn, vi, vo, vt]) g) := Lib.hid ⟨_, _, _, _, rfl, HN.out.below hB1.out⟩
  refine (HS.out _ _ hGV.out (HGl.out.below hB1.out)).mono ?_
  rintro e w5 ⟨v5, ns, rfl, hs5', B5⟩
  have hs5 := NodesR.reads' hs5' B5 (by have := sortedL_le g; omega)
  have HB5 : Hid (Below w.heap.size w w5) := Lib.hid (hB1.out.trans (B5.mono hB1.out.size))
  have HS5 := Lib.hid hs5
  clear B5 hs5 hs5'
  obtain ⟨a5, c5, rfl⟩ := HS5.out.form
  generalize hce : orderE g = ce
  have HCE := Lib.hid hce
  clear hce
  by_cases hz : ce = 0
  · have hzb : (ce != 0) = false := by simpa using hz
    have HE0 := Lib.hid (HCE.out.trans hz)
    clear hz
    go_wp2_with fail
    refine (HR.out _ _ HS5.out HE0.out).mono ?_
    rintro e w6 ⟨B6, v6, rfl, ht6⟩
    have HB6 : Hid (Below w.heap.size w w6) := Lib.hid (HB5.out.trans (B6.mono HB5.out.size))
    have HT6 := Lib.hid ht6
    clear B6 ht6
    go_wp2_with fail
    refine (HT.out _ _ HT6.out).mono ?_
    rintro e w7 ⟨B7, v7, rfl, ht7⟩
    have HB7 : Hid (Below w.heap.size w w7) := Lib.hid (HB6.out.trans (B7.mono HB6.out.size))
    have HT7 := Lib.hid ht7
    clear B7 ht7
    go_wp2
    go_ret2
    exact BeforeV.good HE0.out HB7.out HT7.out
  · have hzb : (ce != 0) = true := by simpa using hz
    have HZ := Lib.hid hz
    clear hz
    go_wp2
    go_ret2
    exact BeforeV.bad HCE.out HZ.out HB5.out

end Go.Proofs.YtlbhepfbogcipaaGreatDoor

set_option linter.unusedVariables false
set_option linter.unusedSimpArgs false
namespace Go.Proofs.YtlbhepfbogcipaaGreatDoor
open Go.RowKit

theorem eg_apart1 : ∀ args w, (callFunc 27 args).run Tryz.prog w = .ok (.enter 27 args) w := enters_of Tryz.func27 (by kernel_rfl) rfl
theorem eg_apart2 : ∀ args w, (callFunc 28 args).run Tryz.prog w = .ok (.enter 28 args) w := enters_of Tryz.func28 (by kernel_rfl) rfl

set_option maxHeartbeats 1000000 in
theorem apart1_any {w : World} (x : Vl) (vd : Value) {A8 A4 : Addr} {b off len cap p : Nat} {s : ByteArray} (h8 : w.cell? A8 = some (.slice (some ⟨b, off, none⟩) len cap)) (h4 : w.cell? A4 = some (.int .i64 (p : Int))) (hp : p < len) (hc : w.cell? ⟨b, off + p * 5 + 3, none⟩ = some (.string s)) :
    Calls Tryz.prog 27 #[.agg #[.string x.name, .int .i64 x.typ, vd], .pointer (some A8), .pointer (some A4)] w fun e w' => e = .returned (.bool (decide (x.name = s))) ∧ Below w.heap.size w w' := by
  have g8 := cell_alloc h8 (.cells #[Value.string x.name, Value.int IntKind.i64 x.typ, vd] 42)
  have g4 := cell_alloc h4 (.cells #[Value.string x.name, Value.int IntKind.i64 x.typ, vd] 42)
  have gc := cell_alloc hc (.cells #[Value.string x.name, Value.int IntKind.i64 x.typ, vd] 42)
  have hp0 : ¬ (p : Int) < 0 := by omega
  have hp1 : (p : Int) < (len : Int) := by omega
  have HX := Lib.hid (BoxN.new w #[Value.string x.name, Value.int IntKind.i64 x.typ, vd] 42)
  go_enter Tryz.func27, Tryz.ntmps27
  go_wp2_with fail
  go_quiet (fail)
  go_wp2_with fail
  go_ret
  refine ⟨ret_val (bool_val ?_), below_dN ((Below.refl _ _).alloc (Nat.le_refl _) _) _⟩
  by_cases e : x.name = s
  · simp [e]
  · have : ¬ x.name.toList = s.toList := fun c => e (toList_inj c)
    simp [e, this]

set_option maxHeartbeats 1000000 in
theorem apart2_any {w : World} {Ab Aq : Addr} {B n r q br : Nat} {t : Bool} (h1 : w.cell? Ab = some (.slice (some ⟨B, 0, none⟩) n n)) (hq : w.cell? Aq = some (.int .i64 (q : Int))) (hr : r < n) (hqn : q < n) (h2 : w.cell? ⟨B, r, none⟩ = some (.slice (some ⟨br, 0, none⟩) n n)) (h3 : w.cell? ⟨br, q, none⟩ = some (.bool t)) :
    Calls Tryz.prog 28 #[.int .i64 (r : Int), .pointer (some Ab), .pointer (some Aq)] w fun e w' => e = .returned (.bool (!t)) ∧ Below w.heap.size w w' := by
  have hr0 : ¬ (r : Int) < 0 := by omega
  have hr1 : (r : Int) < (n : Int) := by omega
  have hq0 : ¬ (q : Int) < 0 := by omega
  have hq1 : (q : Int) < (n : Int) := by omega
  go_enter Tryz.func28, Tryz.ntmps28
  go_wp2_with fail
  go_quiet (fail)
  go_wp2_with fail
  go_ret
  exact ⟨ret_val (bool_val rfl), below_dN (Below.refl _ _) _⟩

/-- What Apart answers. -/
def apartE (g : Gr) (a b : Int) : Int := if orderE g ≠ 0 then orderE g else if a = b ∨ min a b < 0 ∨ ((sortedL g).length : Int) ≤ max a b then 1 else 0
def apartX (g : Gr) (a b : Int) : Bool := if apartE g a b = 0 then apartB (sortedL g) g.outs a.toNat b.toNat else false
def ApartR (w : World) (g : Gr) (a b : Int) (e : Ending) (w' : World) : Prop := e = .returned (.tuple #[.bool (apartX g a b), .int .i64 (apartE g a b)]) ∧ Below w.heap.size w w'
theorem apartE_bad {g : Gr} {a b x : Int} (h : orderE g = x) (hx : x ≠ 0) : apartE g a b = x := by unfold apartE; rw [if_pos (by rw [h]; exact hx), h]
theorem apartE_arg {g : Gr} {a b : Int} (h : orderE g = 0) (hb : a = b ∨ min a b < 0 ∨ ((sortedL g).length : Int) ≤ max a b) : apartE g a b = 1 := by unfold apartE; rw [if_neg (by rw [h]; decide), if_pos hb]
theorem apartE_good {g : Gr} {a b : Int} (h : orderE g = 0) (hb : ¬ (a = b ∨ min a b < 0 ∨ ((sortedL g).length : Int) ≤ max a b)) : apartE g a b = 0 := by unfold apartE; rw [if_neg (by rw [h]; decide), if_neg hb]
theorem ApartR.bad {w w' : World} {g : Gr} {a b x : Int} (h : apartE g a b = x) (hx : x ≠ 0) (hB : Below w.heap.size w w') : ApartR w g a b (.returned (.tuple #[.bool false, .int .i64 x])) w' := by
  refine ⟨?_, hB⟩
  unfold apartX
  rw [h, if_neg hx]
theorem ApartR.good {w w' : World} {g : Gr} {a b : Int} {p q : Nat} {x : Bool} (h : apartE g a b = 0) (hp : min a b = (p : Int)) (hq : max a b = (q : Int)) (hx : doneB (sortedL g) g.outs p q = x) (hB : Below w.heap.size w w') : ApartR w g a b (.returned (.tuple #[.bool x, .int .i64 0])) w' := by
  refine ⟨?_, hB⟩
  unfold apartX apartB
  rw [h, if_pos rfl, show min a.toNat b.toNat = p by omega, show max a.toNat b.toNat = q by omega, hx]
theorem min_zero {a b : Int} : ¬ min a b < 0 ↔ 0 ≤ a ∧ 0 ≤ b := by omega
theorem BoxN.keepS {w : World} {b : Nat} {cs : Array Value} {t : TypeId} (h : BoxN w b cs t) {p : Addr} (x : Value) (hn : b ≠ p.block) : BoxN (w.setCell p x) b cs t := (Below.heap_setCell _ _ _ _ hn).trans h
theorem boxN_new {W : World} {b : Nat} {cs : Array Value} {t : TypeId} (h : b = W.heap.size) : BoxN (W.alloc (.cells cs t)) b cs t := by subst h; exact BoxN.new _ _ _
theorem min_if (a b : Int) : (if b < a then b else a) = min a b := by
  rw [Int.min_def]
  split <;> split <;> omega
theorem max_if (a b : Int) : (if a < b then b else a) = max a b := by
  rw [Int.max_def]
  split <;> split <;> omega

attribute [local irreducible] orderE orderL work hasS namesG picked sortedL rdsL befB doneB apartB apartE apartX

set_option maxRecDepth 100000 in
set_option maxHeartbeats 4000000 in
theorem apart_any {w : World} {v : Value} {g : Gr} {a b : Int} (h : GraphV w v g) (hG : Glob w) (ha : InI a) (hb : InI b) :
    Calls Tryz.prog 11 #[v, .int .i64 a, .int .i64 b] w fun e w' => ApartR w g a b e w' := by
  have HS := Lib.hid (fun (W : World) (vi : Value) (h : GraphV w vi g) (hB : Below w.heap.size w W) (hG : Glob W) => sorted_any h hB hG)
  have HR := Lib.hid (fun (W : World) (vi : Value) (h : SlIn 5 rdNodeG W vi (sortedL g)) (hE : orderE g = 0) => lreaders_any h (sorted_outs hE) (sortedL_le g))
  have HT := Lib.hid (fun (W : World) (vi : Value) (h : TabN W vi (sortedL g).length (rdsL (sortedL g))) => rows_any h (sortedL_le g) (rds_lt _) (fun i b _ => befB_step i b))
  obtain ⟨vn, vi, vo, vt, rfl, hg⟩ := h
  obtain ⟨ao, co, rfl⟩ := hg.outs.form
  have HN := Lib.hid hg
  have HGl := Lib.hid hG
  clear hg hG
  unfold Gr.val
  go_enter Tryz.func11, Tryz.ntmps11
  go_wp2_with fail
  have hB1 : Hid (Below w.heap.size w (((w.alloc (Obj.cells #[Value.string g.name, vn, vi, .slice ao g.outs.length co, vt] 26)).alloc (.cells #[.int .i64 a] 3)).alloc (.cells #[.int .i64 b] 3))) := Lib.hid ((((Below.refl _ w).alloc (Nat.le_refl _) _).alloc (by simp) _).alloc (by simp; omega) _)
  have hA3 : Hid (BoxN (((w.alloc (Obj.cells #[Value.string g.name, vn, vi, .slice ao g.outs.length co, vt] 26)).alloc (.cells #[.int .i64 a] 3)).alloc (.cells #[.int .i64 b] 3)) w.heap.size #[Value.string g.name, vn, vi, .slice ao g.outs.length co, vt] 26) := Lib.hid (((BoxN.new w _ _).below' ((Below.refl _ _).alloc (Nat.le_refl _) _)).below' ((Below.refl _ _).alloc (Nat.le_refl _) _))
  have hA4 : Hid (BoxN (((w.alloc (Obj.cells #[Value.string g.name, vn, vi, .slice ao g.outs.length co, vt] 26)).alloc (.cells #[.int .i64 a] 3)).alloc (.cells #[.int .i64 b] 3)) (w.heap.size + 1) #[.int .i64 a] 3) := Lib.hid ((boxN_new (by simp)).below' ((Below.refl _ _).alloc (Nat.le_refl _) _))
  have hA5 : Hid (BoxN (((w.alloc (Obj.cells #[Value.string g.name, vn, vi, .slice ao g.outs.length co, vt] 26)).alloc (.cells #[.int .i64 a] 3)).alloc (.cells #[.int .i64 b] 3)) (w.heap.size + 1 + 1) #[.int .i64 b] 3) := Lib.hid (boxN_new (by simp))
  have hS1 : Hid ((((w.alloc (Obj.cells #[Value.string g.name, vn, vi, .slice ao g.outs.length co, vt] 26)).alloc (.cells #[.int .i64 a] 3)).alloc (.cells #[.int .i64 b] 3)).heap.size = w.heap.size + 3) := Lib.hid (by simp)
  generalize World.alloc (World.alloc (w.alloc _) _) _ = W1 at hB1 hA3 hA4 hA5 hS1 ⊢
  refine (HS.out W1 _ ⟨_, _, _, _, rfl, HN.out⟩ hB1.out (HGl.out.below hB1.out)).mono ?_
  rintro e w5 ⟨v5, ns, rfl, hs5, B5⟩
  have HB5 : Hid (Below W1.heap.size W1 w5) := Lib.hid B5
  have HS5 := Lib.hid hs5
  clear B5 hs5
  obtain ⟨a5, c5, hv5⟩ := owns_form HS5.out.row
  subst hv5
  generalize hce : orderE g = ce
  have HCE := Lib.hid hce
  clear hce
  have HB6 : Hid (Below W1.heap.size W1 (w5.alloc (.cells #[.slice a5 (sortedL g).length c5] 22))) := Lib.hid (HB5.out.alloc HB5.out.size _)
  have HA8 : Hid (BoxN (w5.alloc (.cells #[.slice a5 (sortedL g).length c5] 22)) w5.heap.size #[.slice a5 (sortedL g).length c5] 22) := Lib.hid (BoxN.new _ _ _)
  have HS6 : Hid (NodesR w (w5.alloc (.cells #[.slice a5 (sortedL g).length c5] 22)) W1.heap.size (sortedL g) (.slice a5 (sortedL g).length c5) ns) := Lib.hid (RowO.keep HS5.out (keep_below (ts := [47]) ((Below.refl _ w5).alloc (Nat.le_refl _) _)) (by decide) (fun _ _ h => h))
  have h58 : Hid (w.heap.size + 3 ≤ w5.heap.size) := Lib.hid (by have := hS1.out; have := HB5.out.size; omega)
  have HB : Hid (Below w.heap.size w (w5.alloc (.cells #[.slice a5 (sortedL g).length c5] 22))) := Lib.hid (hB1.out.trans (HB6.out.mono hB1.out.size))
  have HA3 := Lib.hid (hA3.out.below' HB6.out)
  have HA4 := Lib.hid (hA4.out.below' HB6.out)
  have HA5 := Lib.hid (hA5.out.below' HB6.out)
  clear HS5 HB5 hA3 hA4 hA5
  by_cases hz : ce = 0
  · have hzb : (ce != 0) = false := by simpa using hz
    have HE0 := Lib.hid (HCE.out.trans hz)
    clear hz
    obtain ⟨m, hm⟩ : ∃ m, min a b = m := ⟨_, rfl⟩
    obtain ⟨M, hM⟩ : ∃ M, max a b = M := ⟨_, rfl⟩
    have HM1 : Hid (min a b = m) := Lib.hid hm
    have HM2 : Hid (max a b = M) := Lib.hid hM
    have x4 := HA4.out.cell 0 rfl
    have x5 := HA5.out.cell 0 rfl
    have x8 := HA8.out.cell 0 rfl
    have hln := sortedL_le g
    by_cases hab : a = b
    · have HE := Lib.hid (apartE_arg (g := g) (a := a) (b := b) HE0.out (Or.inl hab))
      have hbb : (a == b) = true := by simpa using hab
      clear hab hm hM
      go_wp2_with fail
      go_ret2
      exact ApartR.bad HE.out (by decide) HB.out
    · have hbb : (a == b) = false := by simpa using hab
      by_cases hm0 : m < 0
      · have HE := Lib.hid (apartE_arg (g := g) (a := a) (b := b) HE0.out (Or.inr (Or.inl (by rw [HM1.out]; exact hm0))))
        clear hab
        go_wp2_with fail
        go_ret2
        exact ApartR.bad HE.out (by decide) HB.out
      · by_cases hMl : ((sortedL g).length : Int) ≤ M
        · have HE := Lib.hid (apartE_arg (g := g) (a := a) (b := b) HE0.out (Or.inr (Or.inr (by rw [HM2.out]; exact hMl))))
          clear hab
          go_wp2_with fail
          go_ret2
          exact ApartR.bad HE.out (by decide) HB.out
        · have HE := Lib.hid (apartE_good (g := g) (a := a) (b := b) HE0.out (by rw [HM1.out, HM2.out]; exact fun c => c.elim hab (fun c => c.elim hm0 hMl)))
          have hpq : Hid (0 ≤ m ∧ m < M) := Lib.hid ⟨by omega, by have h1 := HM1.out; have h2 := HM2.out; omega⟩
          obtain ⟨p, rfl⟩ : ∃ p : Nat, m = (p : Int) := ⟨m.toNat, by omega⟩
          obtain ⟨q, rfl⟩ : ∃ q : Nat, M = (q : Int) := ⟨M.toNat, by have := hpq.out; omega⟩
          have hql : q < (sortedL g).length := by omega
          have hpq' : p < q := by have := hpq.out.2; omega
          have hpl : p < (sortedL g).length := by omega
          have hp0 : decide ((p : Int) < 0) = false := by simp
          have hq0 : ¬ (sortedL g).length ≤ q := by omega
          clear hab hMl hm0
          have f4 := HA4.out.frozen 0
          have f5 := HA5.out.frozen 0
          go_wp2_with fail
          go_region
          generalize hW : World.setCell _ _ _ = W2
          have HB7 : Hid (Below w.heap.size w W2) := Lib.hid (by rw [← hW]; exact (HB.out.setCell (by simp) _).setCell (by simp; omega) _)
          have HA4' : Hid (BoxN W2 (w.heap.size + 1) #[.int .i64 (p : Int)] 3) := Lib.hid (by rw [← hW]; exact (HA4.out.set 0 _).keepS _ (by simp))
          have HA5' : Hid (BoxN W2 (w.heap.size + 1 + 1) #[.int .i64 (q : Int)] 3) := Lib.hid (by rw [← hW]; exact (HA5.out.keepS _ (by simp)).set 0 _)
          have HA8' : Hid (BoxN W2 w5.heap.size #[.slice a5 (sortedL g).length c5] 22) := Lib.hid (by rw [← hW]; have := h58.out; exact (HA8.out.keepS _ (by simp; omega)).keepS _ (by simp; omega))
          have HA3' : Hid (BoxN W2 w.heap.size #[Value.string g.name, vn, vi, .slice ao g.outs.length co, vt] 26) := Lib.hid (by rw [← hW]; exact (HA3.out.keepS _ (by simp)).keepS _ (by simp; omega))
          have HS7 : Hid (NodesR w W2 W1.heap.size (sortedL g) (.slice a5 (sortedL g).length c5) ns) := Lib.hid (by rw [← hW]; exact RowO.keep (RowO.keep HS6.out (keep_set (ts := [47]) HA4.out (by decide)) (by decide) (fun _ _ h => h)) (keep_set (ts := [47]) (HA5.out.keepS _ (by simp)) (by decide)) (by decide) (fun _ _ h => h))
          clear hW HB6 HS6 HB HA3 HA4 HA5 HA8 x4 x5 x8 f4 f5
          have HD := Lib.hid (Below.refl W2.heap.size W2).drew
          have HSn := Lib.hid (NodesR.reads' HS7.out HB7.out (by omega))
          generalize W2.drew = W3 at HD ⊢
          have HS8 : Hid (SlIn 5 rdNodeG W3 (.slice a5 (sortedL g).length c5) (sortedL g)) := Lib.hid (HSn.out.below (rdNodeG_below HD.out) HD.out)
          have HB8 : Hid (Below w.heap.size w W3) := Lib.hid (HB7.out.trans (HD.out.mono HB7.out.size))
          have HA3 := Lib.hid (HA3'.out.below' HD.out)
          have HA4 := Lib.hid (HA4'.out.below' HD.out)
          have HA5 := Lib.hid (HA5'.out.below' HD.out)
          have HA8 := Lib.hid (HA8'.out.below' HD.out)
          clear HS7 HSn HA3' HA4' HA5' HA8' HD HB7
          obtain ⟨x, hx⟩ : ∃ x, (sortedL g)[p]? = some x := ⟨_, List.getElem?_eq_getElem hpl⟩
          have HX0 : Hid ((sortedL g).getD p Nd.zero = x) := Lib.hid (by simp [List.getD, hx])
          obtain ⟨b8, o8, c8, _, _, hv8, hb8, _, _, _, cx3, _⟩ := node_at HS8.out hx
          obtain ⟨rfl, _, rfl⟩ := Value.slice.inj hv8
          have x3 := HA3.out.cell 3 rfl
          have x4 := HA4.out.cell 0 rfl
          have x5 := HA5.out.cell 0 rfl
          have x8 := HA8.out.cell 0 rfl
          have HC : Hid (Calls Tryz.prog 26 #[.slice ao g.outs.length co, .func (.func 27) #[] #[.pointer (some ⟨w5.heap.size, 0, none⟩), .pointer (some ⟨w.heap.size + 1, 0, none⟩)]] W3 fun e w' => e = .returned (.bool (g.outs.any fun v => decide (v.name = x.out))) ∧ Below W3.heap.size W3 w') :=
            Lib.hid (containsV_any (HN.out.below HB8.out).outs _ _ eg_apart1 _ (fun W y vd hB hy => apart1_any y vd (HA8.out.below' hB |>.cell 0 rfl) (HA4.out.below' hB |>.cell 0 rfl) hpl ((hB.cell (p := ⟨b8, o8 + p * 5 + 3, none⟩) hb8).trans cx3)))
          clear hx hv8 cx3 hb8
          have hmf : ∀ (fn : Fn) (first cap : Array Value) (w : World), (Instr.makeFunc fn first cap).run Tryz.prog w = .ok (.func fn first cap) w := fun _ _ _ _ => rfl
          generalize hany : (g.outs.any fun v => decide (v.name = x.out)) = t at HC
          cases t with
          | true =>
            have HD0 : Hid (doneB (sortedL g) g.outs p q = false) := Lib.hid (by unfold doneB; rw [HX0.out, hany]; simp)
            clear hany
            go_wp2_with (go_at_call 26; refine HC.out.mono ?_; rintro e w9 ⟨rfl, B9⟩; have HB9 := Lib.hid (HB8.out.trans (B9.mono HB8.out.size)); clear B9)
            go_ret2
            exact ApartR.good HE.out HM1.out HM2.out HD0.out HB9.out
          | false =>
            have HAny := Lib.hid hany
            clear hany
            go_wp2_with (first | (go_at_call 26; refine HC.out.mono ?_; rintro e w9 ⟨rfl, B9⟩; have HB9 := Lib.hid B9; have y8 := (HA8.out.below' B9).cell 0 rfl; clear B9) | fail)
            refine (HR.out _ _ (HS8.out.below (rdNodeG_below HB9.out) HB9.out) HE0.out).mono ?_
            rintro e w10 ⟨B10, v10, rfl, ht10⟩
            have HB10 : Hid (Below W3.heap.size W3 w10) := Lib.hid (HB9.out.trans (B10.mono HB9.out.size))
            have HT10 := Lib.hid ht10
            clear B10 ht10
            go_wp2_with fail
            refine (HT.out _ _ HT10.out).mono ?_
            rintro e w11 ⟨B11, v11, rfl, ht11⟩
            have HB11 : Hid (Below W3.heap.size W3 w11) := Lib.hid (HB10.out.trans (B11.mono HB10.out.size))
            have HT11 := Lib.hid ht11
            have HT11' := Lib.hid (HT10.out.below B11)
            clear B11 ht11 HT10 HB10 HB9 y8
            obtain ⟨Bt, hvt, hbt, ht⟩ := HT11.out.rows
            subst hvt
            obtain ⟨Br, hvr, hbr, hr⟩ := HT11'.out.rows
            subst hvr
            go_wp2_with fail
            have hB12 : Hid (Below w11.heap.size w11 (w11.alloc (Obj.cells #[Value.slice (some { block := Bt, off := 0 }) (sortedL g).length (sortedL g).length] 30))) := Lib.hid ((Below.refl _ _).alloc (Nat.le_refl _) _)
            have hA12 : Hid (BoxN (w11.alloc (Obj.cells #[Value.slice (some { block := Bt, off := 0 }) (sortedL g).length (sortedL g).length] 30)) w11.heap.size #[Value.slice (some { block := Bt, off := 0 }) (sortedL g).length (sortedL g).length] 30) := Lib.hid (BoxN.new _ _ _)
            generalize w11.alloc _ = W12 at hB12 hA12 ⊢
            obtain ⟨r, hr1, hr2⟩ := hr p hpl
            obtain ⟨br, ht1, ht2, ht3⟩ := ht p hpl
            have HB13 : Hid (Below W3.heap.size W3 W12) := Lib.hid (HB11.out.trans (hB12.out.mono HB11.out.size))
            have HR2 := Lib.hid (hr2.below hB12.out)
            have HF : Hid (∀ W', Below W12.heap.size W12 W' → W'.cell? ⟨w11.heap.size, 0, none⟩ = some (.slice (some { block := Bt, off := 0 }) (sortedL g).length (sortedL g).length) ∧ W'.cell? ⟨w.heap.size + 1, 0, none⟩ = some (.int .i64 (p : Int)) ∧ W'.cell? ⟨w.heap.size + 1 + 1, 0, none⟩ = some (.int .i64 (q : Int)) ∧ W'.cell? ⟨Bt, p, none⟩ = some (.slice (some ⟨br, 0, none⟩) (sortedL g).length (sortedL g).length) ∧ W'.cell? ⟨br, q, none⟩ = some (.bool (befB (sortedL g) p q)) ∧ W'.cell? ⟨Br, p, none⟩ = some r) := Lib.hid fun W' hW => by
              have hs := hB12.out.size
              refine ⟨(hA12.out.below' hW).cell 0 rfl, ((HA4.out.below' HB13.out).below' hW).cell 0 rfl, ((HA5.out.below' HB13.out).below' hW).cell 0 rfl, ?_, ?_, ?_⟩
              · exact (hW.cell (p := ⟨Bt, p, none⟩) (by show Bt < _; omega)).trans ((hB12.out.cell (p := ⟨Bt, p, none⟩) hbt).trans ht1)
              · exact (hW.cell (p := ⟨br, q, none⟩) (by show br < _; omega)).trans ((hB12.out.cell (p := ⟨br, q, none⟩) ht2).trans (ht3 q hql))
              · exact (hW.cell (p := ⟨Br, p, none⟩) (by show Br < _; omega)).trans ((hB12.out.cell (p := ⟨Br, p, none⟩) hbr).trans hr1)
            have HC2 : Hid (∀ W, Below W12.heap.size W12 W → Calls Tryz.prog 29 #[r, .func (.func 28) #[] #[.pointer (some ⟨w11.heap.size, 0, none⟩), .pointer (some ⟨w.heap.size + 1 + 1, 0, none⟩)]] W fun e w' => e = .returned (.bool (((rdsL (sortedL g) p).map fun (i : Nat) => (i : Int)).any fun z => !befB (sortedL g) z.toNat q)) ∧ Below W.heap.size W w') := Lib.hid fun W hW => by
              refine containsM_any (HR2.out.below hW) _ _ eg_apart2 _ (fun W' z hW' hz => ?_)
              obtain ⟨i, hi, rfl⟩ := List.mem_map.1 hz
              have hil := (rds_lt _ p hpl i hi).2
              obtain ⟨bi, hi1, hi2, hi3⟩ := ht i hil
              have hs := hB12.out.size
              have hW2 := hW.trans (hW'.mono hW.size)
              refine apart2_any (B := Bt) (n := (sortedL g).length) (r := i) (q := q) (br := bi) ((hA12.out.below' hW2).cell 0 rfl) (((HA5.out.below' HB13.out).below' hW2).cell 0 rfl) hil hql ?_ ?_
              · exact (hW2.cell (p := ⟨Bt, i, none⟩) (by show Bt < _; omega)).trans ((hB12.out.cell (p := ⟨Bt, i, none⟩) hbt).trans hi1)
              · exact (hW2.cell (p := ⟨bi, q, none⟩) (by show bi < _; omega)).trans ((hB12.out.cell (p := ⟨bi, q, none⟩) hi2).trans (hi3 q hql))
            have HBl : Hid (Below w.heap.size w W12) := Lib.hid (HB8.out.trans (HB13.out.mono HB8.out.size))
            have hp0' : ¬ (p : Int) < 0 := by omega
            have hp1' : (p : Int) < ((sortedL g).length : Int) := by omega
            have hq0' : ¬ (q : Int) < 0 := by omega
            have hq1' : (q : Int) < ((sortedL g).length : Int) := by omega
            clear hr ht hr1 hr2 ht1 ht2 ht3 HT11 HT11' HC HA8 HA3 HS8 x3 x4 x5 x8
            generalize hbf : befB (sortedL g) p q = t at HF
            have HBF := Lib.hid hbf
            clear hbf
            cases t with
            | false =>
              have HD0 : Hid (doneB (sortedL g) g.outs p q = false) := Lib.hid (by unfold doneB; rw [HBF.out]; simp)
              obtain ⟨y1, y2, y3, y4, y5, y6⟩ := HF.out W12 (Below.refl _ _)
              go_quiet (fail)
              go_wp2_with fail
              go_ret2
              exact ApartR.good HE.out HM1.out HM2.out HD0.out (below_dN HBl.out _)
            | true =>
              have HD0 : Hid (doneB (sortedL g) g.outs p q = !(((rdsL (sortedL g) p).map fun (i : Nat) => (i : Int)).any fun z => !befB (sortedL g) z.toNat q)) := Lib.hid (by
                unfold doneB
                rw [HX0.out, HAny.out, HBF.out]
                simp [List.any_map, List.all_eq_not_any_not, Function.comp_def])
              generalize (((rdsL (sortedL g) p).map fun (i : Nat) => (i : Int)).any fun z => !befB (sortedL g) z.toNat q) = y at HC2 HD0
              refine wp_region_plan 14 [0, 1, 2, 3, 4, 5, 6, 7, 8, 9, 10, 11, 12, 13] (fun W' => Below W12.heap.size W12 W') (by kernel_rfl) (by kernel_rfl) (fun _ d _ _ _ h => by cases d <;> exact h) (Below.refl _ _).drew ?_
              have B0 : Hid (Below W12.heap.size W12 W12.drew) := Lib.hid (Below.refl _ _).drew
              repeat
                refine plan_read (v := ?_) rfl rfl (Or.inl ⟨by rfl, ?_⟩) ?_
                rotate_left
                · intro w' hSw
                  obtain ⟨y1, y2, y3, y4, y5, y6⟩ := HF.out w' hSw
                  go_simp
                  try with_reducible rfl
                try simp only [Act.put, List.getElem_toArray, List.getElem_cons_zero, List.getElem_cons_succ, List.setIfInBounds_toArray, List.set_cons_zero, List.set_cons_succ]
              refine plan_act rfl rfl (fun K' hK => ?_)
              go_simp
              refine (HC2.out _ B0.out).mono ?_
              rintro e w13 ⟨rfl, B⟩
              have B1 := Lib.hid (B0.out.trans (B.mono B0.out.size))
              refine hK.out _ _ B1.out ?_
              clear hK K' B
              refine plan_tail rfl ?_
              simp only [List.toList_toArray, List.drop_succ_cons, List.drop_zero]
              have HBz := Lib.hid (HBl.out.trans (B1.out.mono HBl.out.size))
              clear HC2 HF B0 B1
              go_wp2_with fail
              go_ret2
              exact ApartR.good HE.out HM1.out HM2.out HD0.out HBz.out
  · have hzb : (ce != 0) = true := by simpa using hz
    have HZ := Lib.hid hz
    clear hz
    go_wp2
    go_ret2
    exact ApartR.bad (apartE_bad HCE.out HZ.out) HZ.out HB.out

end Go.Proofs.YtlbhepfbogcipaaGreatDoor

set_option linter.unusedVariables false
set_option linter.unusedSimpArgs false
namespace Go.Proofs.YtlbhepfbogcipaaGreatDoor
open Go.RowKit

def lx : ByteArray := ⟨#[120]⟩
def la : ByteArray := ⟨#[97]⟩
def lb : ByteArray := ⟨#[98]⟩
def lc : ByteArray := ⟨#[99]⟩
def lNeg : ByteArray := ⟨#[78, 101, 103]⟩
/-- Three nodes one behind the other. -/
def gAl : Gr := ⟨⟨#[]⟩, [⟨lNeg, ⟨#[]⟩, [lx], la, []⟩, ⟨lNeg, ⟨#[]⟩, [la], lb, []⟩, ⟨lNeg, ⟨#[]⟩, [lb], lc, []⟩], [⟨lx, 1, []⟩], [⟨lc, 1, []⟩], []⟩

theorem al_order : orderE gAl = 0 := by decide +kernel
theorem al_len : (sortedL gAl).length = 3 := by decide +kernel
theorem al_02 : befB (sortedL gAl) 0 2 = true := by decide +kernel
theorem al_20 : befB (sortedL gAl) 2 0 = false := by decide +kernel
theorem al_apE2 : apartE gAl 0 2 = 0 := by decide +kernel
theorem al_apE1 : apartE gAl 0 1 = 0 := by decide +kernel
theorem al_ap2 : apartX gAl 0 2 = true := by decide +kernel
theorem al_ap1 : apartX gAl 0 1 = false := by decide +kernel

/-- Rows whose cells lie in a block of their own. -/
theorem slin_boxL {α : Type} {sz : Nat} {R : Rd α} {w : World} {b : Nat} {cs : Array Value} {t : TypeId} (h : BoxN w b cs t) (xs : List α) (n : Nat) (hn : xs.length = n) (h0 : xs ≠ [])
    (hr : ∀ (j : Nat) x, xs[j]? = some x → ∃ c : List Value, c.length = sz ∧ R w c x ∧ ∀ (i : Nat) u, c[i]? = some u → cs[j * sz + i]? = some u) (hl : xs.length ≤ 1000) : SlIn sz R w (.slice (some ⟨b, 0, none⟩) n n) xs := by
  subst hn
  refine .row b 0 _ xs h0 (Nat.le_refl _) h.lt (fun j x hj => ?_) (by omega)
  obtain ⟨c, h1, h2, h3⟩ := hr j x hj
  refine ⟨c, h1, h2, fun i u hu => ?_⟩
  rw [Nat.zero_add]
  exact h.cell _ (h3 i u hu)
theorem value_boxL {w : World} {b : Nat} {nm : ByteArray} (h : BoxN w b #[.string nm, .int .i64 1, .slice none 0 0] 42) (hs : nm.size ≤ 1000) : SlIn 3 rdValue w (.slice (some ⟨b, 0, none⟩) 1 1) [⟨nm, 1, []⟩] :=
  slin_boxL h _ 1 rfl (by simp) (fun j x hj => by
    cases j with
    | zero =>
      obtain rfl := Option.some.inj hj
      exact ⟨_, rfl, ⟨_, rfl, by show nm.size ≤ _; omega, by show InI 1; unfold InI; decide, .empty _ _⟩, fun i u hu => by simpa using hu⟩
    | succ j => simp at hj) (by simp)
theorem mem_oneL {s i : ByteArray} (hs : s ∈ [i]) (h : i.size ≤ 1000) : s.size ≤ 1048576 := by
  obtain rfl : s = i := by simpa using hs
  omega
theorem nodes_boxL {w : World} {b : Nat} {o n1 n2 n3 i1 i2 i3 : ByteArray} {v1 v2 v3 : Value} (h : BoxN w b #[.string o, .string ⟨#[]⟩, v1, .string n1, .slice none 0 0, .string o, .string ⟨#[]⟩, v2, .string n2, .slice none 0 0, .string o, .string ⟨#[]⟩, v3, .string n3, .slice none 0 0] 47)
    (h1 : StrsIn w v1 [i1]) (h2 : StrsIn w v2 [i2]) (h3 : StrsIn w v3 [i3]) (s1 : n1.size ≤ 1000) (s2 : n2.size ≤ 1000) (s3 : n3.size ≤ 1000) (s4 : i1.size ≤ 1000) (s5 : i2.size ≤ 1000) (s6 : i3.size ≤ 1000) :
    SlIn 5 rdNodeG w (.slice (some ⟨b, 0, none⟩) 3 3) [⟨o, ⟨#[]⟩, [i1], n1, []⟩, ⟨o, ⟨#[]⟩, [i2], n2, []⟩, ⟨o, ⟨#[]⟩, [i3], n3, []⟩] :=
  slin_boxL h _ 3 rfl (by simp) (fun j x hj => by
    match j with
    | 0 =>
      obtain rfl := Option.some.inj hj
      exact ⟨[.string o, .string ⟨#[]⟩, v1, .string n1, .slice none 0 0], rfl, ⟨_, _, rfl, ⟨h1, .empty _ _⟩, by simp, by show n1.size ≤ _; omega, fun s hs => mem_oneL hs s4⟩, fun i u hu => by
        match i, hu with
        | 0, hu => simpa using hu
        | 1, hu => simpa using hu
        | 2, hu => simpa using hu
        | 3, hu => simpa using hu
        | 4, hu => simpa using hu
        | i + 5, hu => simp at hu⟩
    | 1 =>
      obtain rfl := Option.some.inj hj
      exact ⟨[.string o, .string ⟨#[]⟩, v2, .string n2, .slice none 0 0], rfl, ⟨_, _, rfl, ⟨h2, .empty _ _⟩, by simp, by show n2.size ≤ _; omega, fun s hs => mem_oneL hs s5⟩, fun i u hu => by
        match i, hu with
        | 0, hu => simpa using hu
        | 1, hu => simpa using hu
        | 2, hu => simpa using hu
        | 3, hu => simpa using hu
        | 4, hu => simpa using hu
        | i + 5, hu => simp at hu⟩
    | 2 =>
      obtain rfl := Option.some.inj hj
      exact ⟨[.string o, .string ⟨#[]⟩, v3, .string n3, .slice none 0 0], rfl, ⟨_, _, rfl, ⟨h3, .empty _ _⟩, by simp, by show n3.size ≤ _; omega, fun s hs => mem_oneL hs s6⟩, fun i u hu => by
        match i, hu with
        | 0, hu => simpa using hu
        | 1, hu => simpa using hu
        | 2, hu => simpa using hu
        | 3, hu => simpa using hu
        | 4, hu => simpa using hu
        | i + 5, hu => simp at hu⟩
    | j + 3 => simp at hj) (by simp)
theorem boxN_newL {W : World} {b : Nat} {cs : Array Value} {t : TypeId} (h : b = W.heap.size) : BoxN (W.alloc (.cells cs t)) b cs t := by
  subst h
  exact BoxN.new W cs t
theorem stepBL {W : World} {b : Nat} {cs : Array Value} {t : TypeId} (o : Obj) (h : BoxN W b cs t) : BoxN (W.alloc o) b cs t := h.below' ((Below.refl _ _).alloc (Nat.le_refl _) _)
def aliveW (w : World) : World := (((((((w.alloc (.cells #[.string lx, .int .i64 1, .slice none 0 0] 42)).alloc (.cells #[.string lc, .int .i64 1, .slice none 0 0] 42)).alloc (.cells #[.string lx] 9)).alloc (.cells #[.string la] 9)).alloc (.cells #[.string lb] 9)).alloc (.cells #[.string lNeg, .string ⟨#[]⟩, .slice (some ⟨w.heap.size + 1 + 1, 0, none⟩) 1 1, .string la, .slice none 0 0, .string lNeg, .string ⟨#[]⟩, .slice (some ⟨w.heap.size + 1 + 1 + 1, 0, none⟩) 1 1, .string lb, .slice none 0 0, .string lNeg, .string ⟨#[]⟩, .slice (some ⟨w.heap.size + 1 + 1 + 1 + 1, 0, none⟩) 1 1, .string lc, .slice none 0 0] 47)).alloc (.cells #[.string ⟨#[]⟩, .slice (some ⟨w.heap.size + 1 + 1 + 1 + 1 + 1, 0, none⟩) 3 3, .slice (some ⟨w.heap.size, 0, none⟩) 1 1, .slice (some ⟨w.heap.size + 1, 0, none⟩) 1 1, .slice none 0 0] 26))

theorem alive_graph (w : World) : GraphV (aliveW w) (.agg #[.string ⟨#[]⟩, .slice (some ⟨w.heap.size + 1 + 1 + 1 + 1 + 1, 0, none⟩) 3 3, .slice (some ⟨w.heap.size, 0, none⟩) 1 1, .slice (some ⟨w.heap.size + 1, 0, none⟩) 1 1, .slice none 0 0]) gAl ∧ Below w.heap.size w (aliveW w) ∧ BoxN (aliveW w) (w.heap.size + 1 + 1 + 1 + 1 + 1 + 1) #[.string ⟨#[]⟩, .slice (some ⟨w.heap.size + 1 + 1 + 1 + 1 + 1, 0, none⟩) 3 3, .slice (some ⟨w.heap.size, 0, none⟩) 1 1, .slice (some ⟨w.heap.size + 1, 0, none⟩) 1 1, .slice none 0 0] 26 := by
  have b0 : BoxN (aliveW w) (w.heap.size) #[.string lx, .int .i64 1, .slice none 0 0] 42 := by
    unfold aliveW
    exact stepBL _ (stepBL _ (stepBL _ (stepBL _ (stepBL _ (stepBL _ (boxN_newL (by simp)))))))
  have b1 : BoxN (aliveW w) (w.heap.size + 1) #[.string lc, .int .i64 1, .slice none 0 0] 42 := by
    unfold aliveW
    exact stepBL _ (stepBL _ (stepBL _ (stepBL _ (stepBL _ (boxN_newL (by simp))))))
  have b2 : BoxN (aliveW w) (w.heap.size + 1 + 1) #[.string lx] 9 := by
    unfold aliveW
    exact stepBL _ (stepBL _ (stepBL _ (stepBL _ (boxN_newL (by simp)))))
  have b3 : BoxN (aliveW w) (w.heap.size + 1 + 1 + 1) #[.string la] 9 := by
    unfold aliveW
    exact stepBL _ (stepBL _ (stepBL _ (boxN_newL (by simp))))
  have b4 : BoxN (aliveW w) (w.heap.size + 1 + 1 + 1 + 1) #[.string lb] 9 := by
    unfold aliveW
    exact stepBL _ (stepBL _ (boxN_newL (by simp)))
  have b5 : BoxN (aliveW w) (w.heap.size + 1 + 1 + 1 + 1 + 1) #[.string lNeg, .string ⟨#[]⟩, .slice (some ⟨w.heap.size + 1 + 1, 0, none⟩) 1 1, .string la, .slice none 0 0, .string lNeg, .string ⟨#[]⟩, .slice (some ⟨w.heap.size + 1 + 1 + 1, 0, none⟩) 1 1, .string lb, .slice none 0 0, .string lNeg, .string ⟨#[]⟩, .slice (some ⟨w.heap.size + 1 + 1 + 1 + 1, 0, none⟩) 1 1, .string lc, .slice none 0 0] 47 := by
    unfold aliveW
    exact stepBL _ (boxN_newL (by simp))
  have b6 : BoxN (aliveW w) (w.heap.size + 1 + 1 + 1 + 1 + 1 + 1) #[.string ⟨#[]⟩, .slice (some ⟨w.heap.size + 1 + 1 + 1 + 1 + 1, 0, none⟩) 3 3, .slice (some ⟨w.heap.size, 0, none⟩) 1 1, .slice (some ⟨w.heap.size + 1, 0, none⟩) 1 1, .slice none 0 0] 26 := by
    unfold aliveW
    exact boxN_newL (by simp)
  have one : ∀ (b : Nat) (s : ByteArray), BoxN (aliveW w) b #[.string s] 9 → StrsIn (aliveW w) (.slice (some ⟨b, 0, none⟩) 1 1) [s] := fun b s h =>
    .row b 0 1 [s] (by simp) (by simp) h.lt (fun j t hj => by
      cases j with
      | zero => obtain rfl := Option.some.inj hj; exact h.cell 0 rfl
      | succ j => simp at hj) (by simp)
  refine ⟨⟨_, _, _, _, rfl, ?_, ?_, ?_, .empty _ _⟩, ?_, b6⟩
  · exact nodes_boxL b5 (one _ _ b2) (one _ _ b3) (one _ _ b4) (by decide) (by decide) (by decide) (by decide) (by decide) (by decide)
  · exact value_boxL b0 (by decide)
  · exact value_boxL b1 (by decide)
  · exact (((((((Below.refl _ w).alloc (Nat.le_refl _) _).alloc (by simp) _).alloc (by simp; omega) _).alloc (by simp; omega) _).alloc (by simp; omega) _).alloc (by simp; omega) _).alloc (by simp; omega) _

theorem BeforeV.ok {w w' : World} {g : Gr} {e : Ending} (h : BeforeV w g e w') (h0 : orderE g = 0) : ∃ v', e = .returned (.tuple #[v', .int .i64 0]) ∧ Below w.heap.size w w' ∧ TabB w' v' (sortedL g).length (befB (sortedL g)) := by
  obtain ⟨v', rfl, hB, ⟨_, hT⟩ | ⟨hn, _⟩⟩ := h
  · exact ⟨v', by rw [h0], hB, hT⟩
  · exact absurd h0 hn

attribute [local irreducible] orderE orderL work hasS namesG picked sortedL rdsL befB doneB apartB apartE apartX

theorem alive_before {w : World} {v : Value} (h : GraphV w v gAl) (hG : Glob w) :
    Calls Tryz.prog 8 #[v] w fun e w' => ∃ v', e = .returned (.tuple #[v', .int .i64 0]) ∧ Below w.heap.size w w' ∧ TabB w' v' 3 (befB (sortedL gAl)) := by
  refine (before_any h hG).mono ?_
  intro e w' h
  have := h.ok al_order
  rwa [al_len] at this
theorem alive_apart {w : World} {v : Value} (h : GraphV w v gAl) (hG : Glob w) :
    Calls Tryz.prog 11 #[v, .int .i64 0, .int .i64 2] w fun e w' => e = .returned (.tuple #[.bool true, .int .i64 0]) ∧ Below w.heap.size w w' := by
  refine (apart_any h hG (by unfold InI; decide) (by unfold InI; decide)).mono ?_
  rintro e w' ⟨rfl, hB⟩
  rw [al_ap2, al_apE2]
  exact ⟨rfl, hB⟩
theorem alive_not {w : World} {v : Value} (h : GraphV w v gAl) (hG : Glob w) :
    Calls Tryz.prog 11 #[v, .int .i64 0, .int .i64 1] w fun e w' => e = .returned (.tuple #[.bool false, .int .i64 0]) ∧ Below w.heap.size w w' := by
  refine (apart_any h hG (by unfold InI; decide) (by unfold InI; decide)).mono ?_
  rintro e w' ⟨rfl, hB⟩
  rw [al_ap1, al_apE1]
  exact ⟨rfl, hB⟩

set_option maxRecDepth 100000 in
set_option maxHeartbeats 2000000 in
theorem lalive_any {w : World} (hG : Glob w) :
    Calls Tryz.prog 6 #[] w fun e w' => e = .returned (.bool true) ∧ Below w.heap.size w w' := by
  have H := alive_graph w
  unfold aliveW lx la lb lc lNeg at H
  have HH := Lib.hid H
  have HGl := Lib.hid hG
  have HBf := Lib.hid (fun (W : World) (v : Value) (h : GraphV W v gAl) (hG : Glob W) => alive_before h hG)
  have HA2 := Lib.hid (fun (W : World) (v : Value) (h : GraphV W v gAl) (hG : Glob W) => alive_apart h hG)
  have HA1 := Lib.hid (fun (W : World) (v : Value) (h : GraphV W v gAl) (hG : Glob W) => alive_not h hG)
  clear H hG
  go_enter Tryz.func6, Tryz.ntmps6
  go_wp2_with fail
  have HG1 := Lib.hid HH.out.1
  have HB1 := Lib.hid HH.out.2.1
  have HX1 := Lib.hid HH.out.2.2
  clear HH
  generalize hW : World.alloc _ _ = W1 at HG1 HB1 HX1 ⊢
  clear hW
  refine (HBf.out _ _ HG1.out (HGl.out.below HB1.out)).mono ?_
  rintro e w2 ⟨v2, rfl, B2, hT2⟩
  obtain ⟨b2, rfl, hb2, ht2⟩ := hT2.rows
  have HB2 : Hid (Below W1.heap.size W1 w2) := Lib.hid B2
  have HT2 := Lib.hid hT2
  obtain ⟨k0, k1, k2, k3, k4⟩ := (HX1.out.below' HB2.out).fiveG
  clear B2 hT2 hb2 ht2
  go_wp2_with fail
  clear k0 k1 k2 k3 k4
  refine (HA2.out _ _ (HG1.out.below HB2.out) (HGl.out.below (HB1.out.trans (HB2.out.mono HB1.out.size)))).mono ?_
  rintro e w3 ⟨rfl, B3⟩
  have HB3 : Hid (Below W1.heap.size W1 w3) := Lib.hid (HB2.out.trans (B3.mono HB2.out.size))
  have HT3 := Lib.hid (HT2.out.below B3)
  clear B3 HT2 HB2
  obtain ⟨k0, k1, k2, k3, k4⟩ := (HX1.out.below' HB3.out).fiveG
  go_wp2_with fail
  clear k0 k1 k2 k3 k4
  refine (HA1.out _ _ (HG1.out.below HB3.out) (HGl.out.below (HB1.out.trans (HB3.out.mono HB1.out.size)))).mono ?_
  rintro e w4 ⟨rfl, B4⟩
  have HB4 : Hid (Below W1.heap.size W1 w4) := Lib.hid (HB3.out.trans (B4.mono HB3.out.size))
  obtain ⟨bb, hv, _, ht⟩ := (HT3.out.below B4).rows
  obtain ⟨rfl⟩ : b2 = bb := by simpa using (Value.slice.inj hv).1
  obtain ⟨r0, c0, _, d0⟩ := ht 0 (by decide)
  obtain ⟨r2, c2, _, d2⟩ := ht 2 (by decide)
  have d02 := d0 2 (by decide)
  have d20 := d2 0 (by decide)
  rw [al_02] at d02
  rw [al_20] at d20
  clear d0 d2 ht hv B4 HT3 HB3
  go_wp2
  go_ret
  exact ⟨rfl, HB1.out.trans (HB4.out.mono HB1.out.size)⟩

set_option maxHeartbeats 2000000 in
theorem lsmall_any {w : World} {v : Value} {g : Gr} (h : GraphV w v g) :
    Calls Tryz.prog 5 #[v] w fun e w' => e = .returned (.bool (decide (g.nodes.length ≤ 30) && decide (g.ins.length + g.inits.length + g.outs.length ≤ 60))) ∧ Below w.heap.size w w' := by
  obtain ⟨vn, vi, vo, vt, rfl, hg⟩ := h
  obtain ⟨an, cn, rfl⟩ := hg.nodes.form
  obtain ⟨ai, ci, rfl⟩ := hg.ins.form
  obtain ⟨ao, co, rfl⟩ := hg.outs.form
  obtain ⟨at', ct, rfl⟩ := hg.inits.form
  have l1 := hg.nodes.len
  have l2 := hg.ins.len
  have l3 := hg.outs.len
  have l4 := hg.inits.len
  clear hg
  unfold Gr.val
  have hB := Lib.hid ((Below.refl w.heap.size w).alloc (Nat.le_refl _) (.cells #[Value.string g.name, .slice an g.nodes.length cn, .slice ai g.ins.length ci, .slice ao g.outs.length co, .slice at' g.inits.length ct] 26))
  go_enter Tryz.func5, Tryz.ntmps5
  by_cases h1 : g.nodes.length ≤ 30
  · have h1' : decide (g.nodes.length ≤ 30) = true := decide_eq_true h1
    go_wp2
    go_ret
    refine ⟨ret_val (bool_val ?_), hB.out⟩
    go_light
    simp only [h1', Bool.true_and]
    rw [Bool.eq_iff_iff]
    simp
    omega
  · have h1' : decide (g.nodes.length ≤ 30) = false := decide_eq_false h1
    go_wp2
    go_ret
    exact ⟨ret_val (bool_val (by first | rfl | simp [h1'])), hB.out⟩

end Go.Proofs.YtlbhepfbogcipaaGreatDoor
