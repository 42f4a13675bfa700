/- Of live.readers: plain facts; rows of rows of numbers. -/
import Derived.Test.YtlbhepfbogcipaaDoorLvQ
import Derived.Test.YtlbhepfbogcipaaDoorGrOw
import Derived.Test.YtlbhepfbogcipaaDoorGrE
set_option linter.unusedVariables false
set_option linter.unusedSimpArgs false
namespace Go.Proofs.YtlbhepfbogcipaaDoor
open Go.RowKit

/-! ### the map of names -/

def prL (l : List Nd) (i : Nat) : List (ByteArray × Int) := (l.take i).mapIdx fun k n => (n.out, (k : Int))
theorem prL_zero (l : List Nd) : prL l 0 = [] := by unfold prL; simp
theorem prL_next {l : List Nd} {i : Nat} {x : Nd} (h : l[i]? = some x) : prL l (i + 1) = prL l i ++ [(x.out, (i : Int))] := by
  have hk : i < l.length := (List.getElem?_eq_some_iff.1 h).1
  unfold prL
  rw [List.take_add_one, h, Option.toList_some, List.mapIdx_append]
  simp [Nat.min_eq_left (Nat.le_of_lt hk)]
theorem prL_of {l : List Nd} {i : Nat} {q : ByteArray × Int} (h : q ∈ prL l i) : ∃ k x, k < i ∧ l[k]? = some x ∧ q = (x.out, (k : Int)) := by
  unfold prL at h
  obtain ⟨k, hk, e⟩ := List.mem_mapIdx.1 h
  rw [List.length_take] at hk
  refine ⟨k, l[k]'(by omega), by omega, List.getElem?_eq_getElem _, ?_⟩
  rw [← e, List.getElem_take]
theorem prL_in {l : List Nd} {i k : Nat} {x : Nd} (hk : k < i) (h : l[k]? = some x) : (x.out, (k : Int)) ∈ prL l i := by
  unfold prL
  have hl := (List.getElem?_eq_some_iff.1 h).1
  refine List.mem_mapIdx.2 ⟨k, by rw [List.length_take]; omega, ?_⟩
  rw [List.getElem_take, (List.getElem?_eq_some_iff.1 h).2]
theorem prL_miss {l : List Nd} {i : Nat} {s : ByteArray} (h : ((prL l i).any fun p => decide (p.1 = s)) = false) {k : Nat} {x : Nd} (hk : k < i) (hx : l[k]? = some x) : x.out ≠ s := fun e => by
  have := List.any_eq_false.1 h _ (prL_in hk hx)
  simp [e] at this
theorem prL_hit {l : List Nd} {i : Nat} {s : ByteArray} (h : ((prL l i).any fun p => decide (p.1 = s)) = true) : ∃ k x, k < i ∧ l[k]? = some x ∧ x.out = s ∧ (((prL l i).reverse.find? fun p => decide (p.1 = s)).map Prod.snd).getD 0 = (k : Int) := by
  cases hf : (prL l i).reverse.find? fun p => decide (p.1 = s) with
  | none =>
    exfalso
    rw [List.find?_eq_none] at hf
    obtain ⟨p, hp, e⟩ := List.any_eq_true.1 h
    exact hf p (List.mem_reverse.2 hp) e
  | some q =>
    have h1 := List.find?_some hf
    have h2 := List.mem_reverse.1 (List.mem_of_find?_eq_some hf)
    obtain ⟨k, x, hk, hx, rfl⟩ := prL_of h2
    exact ⟨k, x, hk, hx, by simpa using h1, rfl⟩

/-! ### the rows, half made -/

def midB (l : List Nd) (i j k : Nat) : Bool := match l[i]?, l[k]? with
  | some y, some x => decide (k < i) && hasS (y.ins.take j) x.out
  | _, _ => false
/-- Who reads k's value among the first i nodes and in the first j inputs of the next one. -/
def midR (l : List Nd) (i j k : Nat) : List Nat := (List.range i).filter (readsL l k) ++ if midB l i j k = true then [i] else []
theorem midB_form {l : List Nd} {i j k : Nat} {x y : Nd} (hi : l[i]? = some y) (hk : l[k]? = some x) : midB l i j k = (decide (k < i) && hasS (y.ins.take j) x.out) := by
  unfold midB; rw [hi, hk]
theorem midB_lt {l : List Nd} {i j k : Nat} (h : midB l i j k = true) : k < i := by
  unfold midB at h
  split at h
  · simp only [Bool.and_eq_true, decide_eq_true_eq] at h; exact h.1
  · cases h
theorem midB_zero (l : List Nd) (i k : Nat) : midB l i 0 k = false := by
  unfold midB
  split
  · simp [hasS]
  · rfl
theorem midR_zero (l : List Nd) (i k : Nat) : midR l i 0 k = (List.range i).filter (readsL l k) := by
  unfold midR; rw [midB_zero]; simp
theorem midR_start (l : List Nd) (k : Nat) : midR l 0 0 k = [] := by rw [midR_zero]; rfl
theorem midR_full (l : List Nd) (k : Nat) : midR l l.length 0 k = rdsL l k := midR_zero _ _ _
theorem midR_end {l : List Nd} {i : Nat} {y : Nd} (hi : l[i]? = some y) (k : Nat) : midR l i y.ins.length k = midR l (i + 1) 0 k := by
  rw [midR_zero]
  unfold midR
  rw [List.range_succ, List.filter_append]
  congr 1
  have e : midB l i y.ins.length k = readsL l k i := by
    unfold midB readsL
    rw [hi]
    cases hk : l[k]? with
    | none => simp
    | some x => simp [List.take_length]
  rw [e]
  cases hr : readsL l k i <;> simp [hr]
theorem midR_contains {l : List Nd} {i j k : Nat} : (midR l i j k).contains i = midB l i j k := by
  unfold midR
  cases h : midB l i j k with
  | true => simp
  | false => simp
theorem midB_step {l : List Nd} {i j k : Nat} {y x : Nd} {s : ByteArray} (hi : l[i]? = some y) (hj : y.ins[j]? = some s) (hk : l[k]? = some x) : midB l i (j + 1) k = (midB l i j k || (decide (k < i) && decide (x.out = s))) := by
  rw [midB_form hi hk, midB_form hi hk, List.take_add_one, hj]
  unfold hasS
  simp [Bool.and_or_distrib_left, eq_comm]
theorem midB_none {l : List Nd} {i j k : Nat} (hk : l[k]? = none) : midB l i j k = false := by
  unfold midB; rw [hk]; split <;> simp_all
theorem midR_same {l : List Nd} {i j k : Nat} {y : Nd} {s : ByteArray} (hi : l[i]? = some y) (hj : y.ins[j]? = some s) (h : ∀ x, k < i → l[k]? = some x → x.out ≠ s) : midR l i (j + 1) k = midR l i j k := by
  have e : midB l i (j + 1) k = midB l i j k := by
    cases hk : l[k]? with
    | none => rw [midB_none hk, midB_none hk]
    | some x =>
      rw [midB_step hi hj hk]
      by_cases hl : k < i
      · simp [h x hl hk]
      · simp [hl]
  unfold midR
  rw [e]
theorem midR_had {l : List Nd} {i j k : Nat} {y x : Nd} {s : ByteArray} (hi : l[i]? = some y) (hj : y.ins[j]? = some s) (hk : l[k]? = some x) (h : (midR l i j k).contains i = true) : midR l i (j + 1) k = midR l i j k := by
  rw [midR_contains] at h
  unfold midR
  rw [midB_step hi hj hk, h]; rfl
theorem midR_new {l : List Nd} {i j k : Nat} {y x : Nd} {s : ByteArray} (hi : l[i]? = some y) (hj : y.ins[j]? = some s) (hk : l[k]? = some x) (hl : k < i) (hs : x.out = s) (h : (midR l i j k).contains i = false) : midR l i (j + 1) k = midR l i j k ++ [i] := by
  rw [midR_contains] at h
  unfold midR
  rw [midB_step hi hj hk, h]
  simp [hl, hs]
theorem midR_lt {l : List Nd} {i j k : Nat} : ∀ r ∈ midR l i j k, r ≤ i := fun r hr => by
  unfold midR at hr
  rcases List.mem_append.1 hr with h | h
  · have := List.mem_range.1 (List.mem_filter.1 h).1; omega
  · split at h
    · have := List.mem_singleton.1 h; omega
    · cases h
theorem midR_len {l : List Nd} {i j k : Nat} : (midR l i j k).length ≤ i + 1 := by
  unfold midR
  have := List.length_filter_le (readsL l k) (List.range i)
  rw [List.length_range] at this
  rw [List.length_append]
  split <;> simp <;> omega
/-- Two nodes do not make one value. -/
theorem outs_one {l : List Nd} (hn : (l.map (·.out)).Nodup) {a b : Nat} {x y : Nd} (ha : l[a]? = some x) (hb : l[b]? = some y) (h : x.out = y.out) : a = b := by
  have h1 : (l.map (·.out))[a]? = some x.out := by rw [List.getElem?_map, ha]; rfl
  have h2 : (l.map (·.out))[b]? = some x.out := by rw [List.getElem?_map, hb, h]; rfl
  have l1 := (List.getElem?_eq_some_iff.1 h1).1
  exact (List.getElem?_inj l1 hn).1 (h1.trans h2.symm)

/-! ### rows of rows of numbers -/

theorem info_ints : (Tryd.prog.info? 40).map (fun i => (i.zero, i.size, i.bytes)) = some (some (.slice none 0 0), 1, 24) := by kernel_rfl

def nilRows (n : Nat) : List Value := List.replicate n (.slice none 0 0)
theorem nilRows_at {n k : Nat} {r : Value} (h : (nilRows n)[k]? = some r) : r = .slice none 0 0 := List.eq_of_mem_replicate (List.mem_of_getElem? h)
theorem run_make_nils (w : World) (r : Nat) (hr : r ≤ 100000) : (Instr.makeSlice 52 (.int .i64 (r : Int)) (.int .i64 (r : Int))).run Tryd.prog w = .ok (.slice (some ⟨w.heap.size, 0, none⟩) r r) (w.alloc (.cells (nilRows r).toArray 40)) := by
  obtain ⟨i0, hi, hz0, hz1, hz2⟩ := info_parts info_ints
  have := run_make (P := Tryd.prog) w 52 40 i0 (.slice none 0 0) Tryd.underlying52 hi hz0 .i64 .i64 (r : Int) (r : Int) (by omega) (by omega) (by rw [hz2]; omega) (by omega)
  rw [this]
  have e : madeCells (Value.slice none 0 0).cells (((r : Int).toNat) * i0.size) = (nilRows r).toArray := by
    rw [hz1]
    refine Array.toList_inj.1 ?_
    have h2 := toList_madeCells_one (.slice none 0 0) r
    show _ = nilRows r
    unfold nilRows
    rw [← h2]
    simp [Value.cells]
  rw [e]
  simp

/-- The rows of a table of numbers of the call's own; F tells what stands in each. -/
structure IntRows (w : World) (B n : Nat) (rs : List Value) (F : Nat → List Nat) : Prop where
  len : rs.length = n
  box : BoxN w B rs.toArray 40
  row : ∀ (k : Nat) r, rs[k]? = some r → w.ownsRow (B + 1) 3 1 r (F k).length (natsV (F k))
  apart : ∀ (i j : Nat) a b, i ≠ j → rs[i]? = some a → rs[j]? = some b → ApartV a b

theorem IntRows.new (w : World) (n : Nat) {F : Nat → List Nat} (hF : ∀ k, F k = []) : IntRows (w.alloc (.cells (nilRows n).toArray 40)) w.heap.size n (nilRows n) F where
  len := by unfold nilRows; simp
  box := BoxN.new w _ _
  row := fun k r hr => by
    obtain rfl := nilRows_at hr
    rw [hF]
    exact World.ownsRow_nil _ _ _ _
  apart := fun i j a b _ ha hb => by
    obtain rfl := nilRows_at ha
    intro x hx
    simp [Value.ownBlock] at hx
theorem IntRows.keep {w w' : World} {B n : Nat} {rs : List Value} {F : Nat → List Nat} (h : IntRows w B n rs F) (hk : ∀ b, B ≤ b → b < w.heap.size → w'.heap[b]? = w.heap[b]?) : IntRows w' B n rs F where
  len := h.len
  box := (hk B (Nat.le_refl _) h.box.lt).trans h.box
  row := fun k r hr => owns_heap (h.row k r hr) fun g hg => hk g (by have := ((h.row k r hr).lt g hg).1; omega) ((h.row k r hr).lt g hg).2
  apart := h.apart
theorem IntRows.below {w w' : World} {B n : Nat} {rs : List Value} {F : Nat → List Nat} (h : IntRows w B n rs F) (hB : Below w.heap.size w w') : IntRows w' B n rs F := h.keep fun b _ hb => hB.block b hb
theorem IntRows.eq {w : World} {B n : Nat} {rs : List Value} {F F' : Nat → List Nat} (h : IntRows w B n rs F) (he : ∀ k, F' k = F k) : IntRows w B n rs F' :=
  ⟨h.len, h.box, fun k r hr => by rw [he]; exact h.row k r hr, h.apart⟩
/-- One more number in one row. -/
theorem IntRows.push {w w' : World} {B n k i g cap : Nat} {rs : List Value} {r : Value} {F F' : Nat → List Nat} (h : IntRows w B n rs F) (hr : rs[k]? = some r)
    (hown : w'.ownsRow (B + 1) 3 1 (.slice (some ⟨g, 0, none⟩) ((F k).length + 1) cap) ((F k).length + 1) (natsV (F k) ++ [.int .i64 (i : Int)])) (hgrow : w.grownBy w' r.ownBlock) (hat : r.ownBlock = some g ∨ g = w.heap.size)
    (hk : F' k = F k ++ [i]) (ho : ∀ j, j ≠ k → F' j = F j) : IntRows (w'.setCell ⟨B, k, none⟩ (.slice (some ⟨g, 0, none⟩) ((F k).length + 1) cap)) B n (rs.set k (.slice (some ⟨g, 0, none⟩) ((F k).length + 1) cap)) F' := by
  have hkl := (List.getElem?_eq_some_iff.1 hr).1
  have hne : r.ownBlock ≠ some B := fun e => by have := ((h.row k r hr).lt B e).1; omega
  have hbox : BoxN w' B rs.toArray 40 := (hgrow.block _ h.box.lt (fun e => hne e.symm)).trans h.box
  have hgB : B < g := by
    rcases hat with e | e
    · have := ((h.row k r hr).lt g e).1; omega
    · have := h.box.lt; omega
  refine ⟨by rw [List.length_set]; exact h.len, ?_, fun j u hu => ?_, fun a b u v hab hu hv => ?_⟩
  · have := hbox.set k (.slice (some ⟨g, 0, none⟩) ((F k).length + 1) cap)
    rwa [List.setIfInBounds_toArray] at this
  · by_cases hj : j = k
    · subst hj
      rw [List.getElem?_set_self hkl] at hu
      obtain rfl := Option.some.inj hu
      rw [hk]
      unfold natsV
      rw [List.map_append, List.length_append]
      refine owns_heap hown fun x hx => Below.heap_setCell _ _ _ _ ?_
      simp [Value.ownBlock] at hx
      simp; omega
    · rw [List.getElem?_set_ne (fun e => hj e.symm)] at hu
      rw [ho j hj]
      refine owns_heap (h.row j u hu) fun x hx => ?_
      have hx2 := (h.row j u hu).lt x hx
      refine (Below.heap_setCell _ _ _ _ (by simp; omega)).trans (hgrow.block x hx2.2 (fun e => ?_))
      exact h.apart k j r u (fun e => hj e.symm) hr hu x e.symm hx
  · have key : ∀ (j : Nat) u, j ≠ k → rs[j]? = some u → u.ownBlock ≠ some g := fun j u hj hu e => by
      rcases hat with c | c
      · exact h.apart k j r u (fun e => hj e.symm) hr hu g c e
      · have := ((h.row j u hu).lt g e).2; omega
    by_cases ha : a = k
    · subst ha
      rw [List.getElem?_set_self hkl] at hu
      obtain rfl := Option.some.inj hu
      rw [List.getElem?_set_ne hab] at hv
      intro x hx
      simp [Value.ownBlock] at hx
      subst hx
      exact key b v (fun e => hab e.symm) hv
    · rw [List.getElem?_set_ne (fun e => ha e.symm)] at hu
      by_cases hb : b = k
      · subst hb
        rw [List.getElem?_set_self hkl] at hv
        obtain rfl := Option.some.inj hv
        intro x hx e
        simp [Value.ownBlock] at e
        subst e
        exact key a u ha hu hx
      · rw [List.getElem?_set_ne (fun e => hb e.symm)] at hv
        exact h.apart a b u v hab hu hv

/-- A table of numbers, as whoever reads it sees it. -/
structure TabN (w : World) (v : Value) (n : Nat) (F : Nat → List Nat) : Prop where
  rows : ∃ B, v = .slice (some ⟨B, 0, none⟩) n n ∧ B < w.heap.size ∧ ∀ k, k < n → ∃ r, w.cell? ⟨B, k, none⟩ = some r ∧ IntsIn w r ((F k).map fun (i : Nat) => (i : Int))
theorem TabN.below {w w' : World} {v : Value} {n : Nat} {F : Nat → List Nat} (h : TabN w v n F) (hB : Below w.heap.size w w') : TabN w' v n F := by
  obtain ⟨B, e, hb, h⟩ := h.rows
  refine ⟨B, e, by have := hB.size; omega, fun k hk => ?_⟩
  obtain ⟨r, h1, h2⟩ := h k hk
  exact ⟨r, (hB.cell (p := ⟨B, k, none⟩) hb).trans h1, h2.below hB⟩
theorem IntRows.tab {w : World} {B n : Nat} {rs : List Value} {F : Nat → List Nat} (h : IntRows w B n rs F) (hF : ∀ k, (F k).length ≤ 2000000 ∧ ∀ i ∈ F k, i < 2000000) : TabN w (.slice (some ⟨B, 0, none⟩) n n) n F := by
  refine ⟨B, rfl, h.box.lt, fun k hk => ?_⟩
  obtain ⟨r, hk'⟩ : ∃ r, rs[k]? = some r := ⟨_, List.getElem?_eq_getElem (by rw [h.len]; exact hk)⟩
  refine ⟨r, h.box.cell k (by rw [List.getElem?_toArray]; exact hk'), ?_⟩
  refine IntsIn.of_owns (B := B + 1) (t := 3) ?_ (by have := (hF k).1; simp; omega) (fun z hz => ?_)
  · rw [List.length_map, List.map_map]; exact h.row k _ hk'
  · obtain ⟨i, hi, rfl⟩ := List.mem_map.1 hz
    have := (hF k).2 i hi
    unfold InI; omega

/-- Is a number in a row? -/
theorem containsN_any {w : World} {v : Value} {l : List Nat} (h : IntsIn w v (l.map fun (i : Nat) => (i : Int))) (x : Nat) :
    Calls Tryd.prog 21 #[v, .int .i64 (x : Int)] w fun e w' => e = .returned (.bool (l.contains x)) ∧ w' = w := by
  have key : ∀ (l : List Nat), (l.map fun (i : Nat) => (i : Int)).contains (x : Int) = l.contains x := fun l => by
    rw [Bool.eq_iff_iff, List.contains_iff_mem, List.contains_iff_mem, List.mem_map]
    exact ⟨fun ⟨a, h1, h2⟩ => by have : a = x := by omega
                                 rwa [← this], fun h => ⟨x, h, rfl⟩⟩
  generalize hz : (l.map fun (i : Nat) => (i : Int)) = zs at h
  rw [← key, hz]
  cases h with
  | empty a0 cap =>
    refine (Tryd.slices_Contains_int_empty a0 cap (x : Int) w).mono ?_
    rintro e w' ⟨rfl, rfl⟩
    exact ⟨rfl, rfl⟩
  | row b off cap _ h0 hc hb hr hlen hw =>
    refine (Tryd.slices_Contains_int b off zs.length cap zs (x : Int) w (Nat.le_refl _) (by omega) (fun j hj => hr j hj)).mono ?_
    rintro e w' ⟨rfl, rfl⟩
    rw [List.take_length]
    exact ⟨rfl, rfl⟩

end Go.Proofs.YtlbhepfbogcipaaDoor
