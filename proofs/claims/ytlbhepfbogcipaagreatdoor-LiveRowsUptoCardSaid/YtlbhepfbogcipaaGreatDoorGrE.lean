/- Graphs of the call's own: plain facts. -/
import Derived.Test.YtlbhepfbogcipaaGreatDoorGrC
import Derived.Test.YtlbhepfbogcipaaGreatDoorSchNo
set_option linter.unusedVariables false
set_option linter.unusedSimpArgs false
namespace Go.Proofs.YtlbhepfbogcipaaGreatDoor
open Go.RowKit

/-! ### what stays -/

/-- From a number on, the blocks of these types are as they were. -/
def KeepT (ts : List TypeId) (B : Nat) (w w' : World) : Prop := ∀ (g : Nat) cs t tm, B ≤ g → w.heap[g]? = some (.cells cs t tm) → t ∈ ts → w'.heap[g]? = w.heap[g]?
theorem KeepT.trans {ts : List TypeId} {B : Nat} {w w' w'' : World} (h : KeepT ts B w w') (h2 : KeepT ts B w' w'') : KeepT ts B w w'' := fun g cs t tm hb hg ht => by
  have h1 := h g cs t tm hb hg ht
  rw [← h1] at hg
  exact (h2 g cs t tm hb hg ht).trans h1
theorem KeepT.sub {ts ts' : List TypeId} {B : Nat} {w w' : World} (h : KeepT ts B w w') (hs : ∀ t ∈ ts', t ∈ ts) : KeepT ts' B w w' := fun g cs t tm hb hg ht => h g cs t tm hb hg (hs t ht)
theorem keep_below {ts : List TypeId} {B : Nat} {w w' : World} (h : Below w.heap.size w w') : KeepT ts B w w' := fun g cs t tm hb hg ht => h.block g (Array.getElem?_eq_some_iff.1 hg).1
theorem keep_set {ts : List TypeId} {B : Nat} {w : World} {b i : Nat} {u : Value} {cs : Array Value} {t : TypeId} (h : BoxN w b cs t) (ht : t ∉ ts) : KeepT ts B w (w.setCell ⟨b, i, none⟩ u) := fun g cs' t' tm hb hg ht' => by
  refine Below.heap_setCell _ _ _ _ (fun e => ?_)
  have e' : g = b := e
  subst e'
  rw [show w.heap[g]? = _ from h] at hg
  simp only [Option.some.injEq, Obj.cells.injEq] at hg
  exact ht (hg.2.1 ▸ ht')
theorem keep_grown {ts : List TypeId} {B b z n : Nat} {w w' : World} {e : TypeId} {v : Value} {xs : List Value} (h : w.ownsRow b e z v n xs) (hg : w.grownBy w' v.ownBlock) (he : e ∉ ts) : KeepT ts B w w' := fun g cs t tm hb hc ht => by
  refine hg.block g (Array.getElem?_eq_some_iff.1 hc).1 (fun e' => ?_)
  rcases h.2 with ⟨rfl, _⟩ | ⟨g', cap', cur', rfl, _, hg', _⟩
  · simp [Value.ownBlock] at e'
  · simp [Value.ownBlock] at e'
    subst e'
    rw [hc] at hg'
    simp only [Option.some.injEq, Obj.cells.injEq] at hg'
    exact he (hg'.2.1 ▸ ht)
theorem owns_keep {ts : List TypeId} {b B z n : Nat} {w w' : World} {e : TypeId} {v : Value} {xs : List Value} (h : w.ownsRow b e z v n xs) (hk : KeepT ts B w w') (hb : B ≤ b) (he : e ∈ ts) : w'.ownsRow b e z v n xs :=
  owns_heap h fun g hg => by
    rcases h.2 with ⟨rfl, _⟩ | ⟨g', cap', cur', rfl, hb', hg', _⟩
    · simp [Value.ownBlock] at hg
    · simp [Value.ownBlock] at hg
      subst hg
      exact hk _ _ _ _ (by omega) hg' he

/-! ### rows of records -/

variable {α τ : Type}

def rowG (C : α → τ → List Value) : List α → List τ → List Value
  | x :: l, s :: ts => C x s ++ rowG C l ts
  | _, _ => []
theorem rowG_snoc {C : α → τ → List Value} : ∀ {l : List α} {ts : List τ} (x : α) (s : τ), l.length = ts.length → rowG C (l ++ [x]) (ts ++ [s]) = rowG C l ts ++ C x s
  | [], [], x, s, _ => by simp [rowG]
  | [], _ :: _, _, _, h => by simp at h
  | _ :: _, [], _, _, h => by simp at h
  | b :: l, u :: ts, x, s, h => by
    simp only [List.cons_append, rowG]
    rw [rowG_snoc x s (by simpa using h), List.append_assoc]
theorem rowG_get {C : α → τ → List Value} {sz : Nat} (hC : ∀ x s, (C x s).length = sz) : ∀ {l : List α} {ts : List τ} {j : Nat} {x : α} {s : τ} {i : Nat} {u : Value}, l[j]? = some x → ts[j]? = some s → (C x s)[i]? = some u → (rowG C l ts)[j * sz + i]? = some u
  | [], _, j, x, s, i, u, h, _, _ => by simp at h
  | _ :: _, [], j, x, s, i, u, _, h, _ => by simp at h
  | b :: l, c :: ts, 0, x, s, i, u, h1, h2, h3 => by
    obtain rfl := Option.some.inj h1
    obtain rfl := Option.some.inj h2
    have hi := (List.getElem?_eq_some_iff.1 h3).1
    rw [rowG, Nat.zero_mul, Nat.zero_add, List.getElem?_append_left hi]
    exact h3
  | b :: l, c :: ts, j + 1, x, s, i, u, h1, h2, h3 => by
    rw [rowG, List.getElem?_append_right (by rw [hC, Nat.succ_mul]; omega)]
    have e : (j + 1) * sz + i - (C b c).length = j * sz + i := by rw [hC, Nat.succ_mul]; omega
    rw [e]
    exact rowG_get hC (by simpa using h1) (by simpa using h2) h3

/-- A row of records of the call's own; what hangs on each. -/
structure RowO (t : TypeId) (sz : Nat) (C : α → τ → List Value) (A : World → Nat → α → τ → Prop) (w : World) (B : Nat) (l : List α) (v : Value) (ts : List τ) : Prop where
  len : ts.length = l.length
  row : w.ownsRow B t sz v l.length (rowG C l ts)
  att : ∀ (j : Nat) x s, l[j]? = some x → ts[j]? = some s → A w B x s

variable {t : TypeId} {sz : Nat} {C : α → τ → List Value} {A : World → Nat → α → τ → Prop}

theorem RowO.nil (w : World) (B : Nat) : RowO t sz C A w B [] (.slice none 0 0) [] := ⟨rfl, World.ownsRow_nil _ _ _ _, by simp⟩
theorem RowO.keep {ts : List TypeId} {w w' : World} {B : Nat} {l : List α} {v : Value} {ss : List τ} (h : RowO t sz C A w B l v ss) (hk : KeepT ts B w w') (ht : t ∈ ts) (hA : ∀ x s, A w B x s → A w' B x s) : RowO t sz C A w' B l v ss :=
  ⟨h.len, owns_keep h.row hk (Nat.le_refl _) ht, fun j x s h1 h2 => hA x s (h.att j x s h1 h2)⟩
/-- Behind an append of one. -/
theorem RowO.push {w w' : World} {B : Nat} {l : List α} {v v' : Value} {ss : List τ} {x : α} {s : τ} (h : RowO t sz C A w B l v ss) (hr : w'.ownsRow B t sz v' (l.length + 1) (rowG C l ss ++ C x s)) (hA : ∀ x s, A w B x s → A w' B x s) (hx : A w B x s) : RowO t sz C A w' B (l ++ [x]) v' (ss ++ [s]) where
  len := by rw [List.length_append, List.length_append, h.len]; rfl
  row := by rw [rowG_snoc _ _ h.len.symm, List.length_append]; exact hr
  att := fun j y u h1 h2 => by
    by_cases hj : j < l.length
    · rw [List.getElem?_append_left hj] at h1
      rw [List.getElem?_append_left (by rw [h.len]; exact hj)] at h2
      exact hA _ _ (h.att j y u h1 h2)
    · rw [List.getElem?_append_right (by omega)] at h1
      rw [List.getElem?_append_right (by rw [h.len]; omega), h.len] at h2
      have hj0 : j - l.length = 0 := by
        rcases Nat.eq_zero_or_pos (j - l.length) with h | h
        · exact h
        · rw [List.getElem?_eq_none (by simp; omega)] at h1; cases h1
      rw [hj0] at h1 h2
      obtain rfl := Option.some.inj h1
      obtain rfl := Option.some.inj h2
      exact hA _ _ hx
theorem RowO.at' {w : World} {B : Nat} {l : List α} {v : Value} {ss : List τ} (h : RowO t sz C A w B l v ss) (hC : ∀ x s, (C x s).length = sz) {j : Nat} {x : α} (hj : l[j]? = some x) : ∃ g cap s, v = .slice (some ⟨g, 0, none⟩) l.length cap ∧ ss[j]? = some s ∧ A w B x s ∧ ∀ (i : Nat) u, (C x s)[i]? = some u → w.cell? ⟨g, j * sz + i, none⟩ = some u := by
  obtain ⟨g, cap, rfl, _, _⟩ := h.row.form (by have := (List.getElem?_eq_some_iff.1 hj).1; omega)
  obtain ⟨s, hs⟩ : ∃ s, ss[j]? = some s := ⟨_, List.getElem?_eq_getElem (by rw [h.len]; exact (List.getElem?_eq_some_iff.1 hj).1)⟩
  refine ⟨g, cap, s, rfl, hs, h.att j x s hj hs, fun i u hu => ?_⟩
  have := h.row.cells (g := g) rfl _ u (rowG_get hC hj hs hu)
  rw [add_off] at this
  rw [show j * sz + i = 0 + (j * sz + i) by omega]
  exact this
theorem RowO.reads {R : Rd α} {w : World} {B : Nat} {l : List α} {v : Value} {ss : List τ} (h : RowO t sz C A w B l v ss) (hC : ∀ x s, (C x s).length = sz) (hl : l.length ≤ 1048575) (hr : ∀ x s, x ∈ l → A w B x s → R w (C x s) x) : SlIn sz R w v l := by
  have hat := fun (j : Nat) (x : α) (hj : l[j]? = some x) => h.at' hC hj
  obtain ⟨h1, h2⟩ := h.row
  rcases h2 with ⟨rfl, h0⟩ | ⟨g, cap, cur, rfl, hbb, hg, hc, hm, hs, ht⟩
  · rw [List.length_eq_zero_iff.1 h0]
    exact .empty none 0
  · by_cases h0 : l = []
    · subst h0
      exact .empty _ cap
    · refine .row g 0 cap l h0 hc (Array.getElem?_eq_some_iff.1 hg).1 (fun j x hj => ?_) hl
      obtain ⟨g', cap', s, e, hs', ha, hcell⟩ := hat j x hj
      obtain ⟨e1, _, _⟩ := Value.slice.inj e
      obtain rfl : g = g' := by simpa using e1
      exact ⟨C x s, hC x s, hr x s (List.mem_of_getElem? hj) ha, fun i u hu => by rw [Nat.zero_add]; exact hcell i u hu⟩

/-! ### a graph's rows -/

def dimsO (w : World) (B : Nat) (x : Vl) (d : Value) : Prop := w.ownsRow B 3 1 d x.dims.length (x.dims.map (Value.int .i64))
theorem rowV_eq : ∀ (l : List Vl) (ds : List Value), rowV l ds = rowG valC l ds
  | [], _ => by simp [rowV, rowG]
  | _ :: _, [] => by simp [rowV, rowG]
  | b :: l, d :: ds => by rw [rowV, rowG, rowV_eq l ds]
/-- A row of values. -/
abbrev ValsO := RowO 42 3 valC dimsO
theorem ValuesO.vals {w : World} {B : Nat} {l : List Vl} {v : Value} {ds : List Value} (h : ValuesO w B l v ds) : ValsO w B l v ds := ⟨h.len, by rw [← rowV_eq]; exact h.row, h.att⟩

def nodeC (n : Nd) (s : Value × Value) : List Value := [.string n.op, .string n.name, s.1, .string n.out, s.2]
def nodeO (w : World) (B : Nat) (n : Nd) (s : Value × Value) : Prop := ∃ ts, NodeO w B n s.1 s.2 ts
abbrev NodesO := RowO 47 5 nodeC nodeO

def namedC (x : Nm) (s : Value × Value) : List Value := [.string x.name, .int .i64 x.typ, s.1, s.2]
def namedO (w : World) (B : Nat) (x : Nm) (s : Value × Value) : Prop := w.ownsRow B 3 1 s.1 x.dims.length (x.dims.map (Value.int .i64)) ∧ w.ownsRow B 2 1 s.2 x.data.length (x.data.map (Value.int .i64))
abbrev NamedsO := RowO 54 4 namedC namedO

theorem dims_keep {ts : List TypeId} {w w' : World} {B : Nat} (hk : KeepT ts B w w') (h1 : 3 ∈ ts) : ∀ x d, dimsO w B x d → dimsO w' B x d := fun x d h => owns_keep h hk (Nat.le_refl _) h1
theorem named_keep {ts : List TypeId} {w w' : World} {B : Nat} (hk : KeepT ts B w w') (h1 : 3 ∈ ts) (h2 : 2 ∈ ts) : ∀ x s, namedO w B x s → namedO w' B x s := fun x s h => ⟨owns_keep h.1 hk (Nat.le_refl _) h1, owns_keep h.2 hk (Nat.le_refl _) h2⟩
theorem node_keep {ts : List TypeId} {w w' : World} {B : Nat} (hk : KeepT ts B w w') (h1 : 3 ∈ ts) (h2 : 2 ∈ ts) (h3 : 9 ∈ ts) (h4 : 77 ∈ ts) : ∀ n s, nodeO w B n s → nodeO w' B n s := fun n s ⟨us, h⟩ =>
  ⟨us, owns_keep h.ins hk (Nat.le_refl _) h3, h.len, owns_keep h.row hk (Nat.le_refl _) h4, fun j a u e1 e2 => ⟨owns_keep (h.att j a u e1 e2).od hk (Nat.le_refl _) h1, owns_keep (h.att j a u e1 e2).ox hk (Nat.le_refl _) h2, owns_keep (h.att j a u e1 e2).oi hk (Nat.le_refl _) h2⟩⟩

/-- Blocks that are not the same. -/
def ApartV (a b : Value) : Prop := ∀ x, a.ownBlock = some x → b.ownBlock ≠ some x

/-- A graph of the call's own. -/
structure GraphO (w : World) (B : Nat) (g : Gr) (vn vi vo vt : Value) : Prop where
  nodes : ∃ ns, NodesO w B g.nodes vn ns ∧ ∀ (i j : Nat) s u, i < j → ns[i]? = some s → ns[j]? = some u → ApartV s.1 u.1
  ins : ∃ ds, ValsO w B g.ins vi ds
  outs : ∃ ds, ValsO w B g.outs vo ds
  inits : ∃ ts, NamedsO w B g.inits vt ts
  io : ApartV vi vo

/-- What is read is small, in whatever world it lies. -/
theorem value_bounds {w : World} {v : Value} {l : List Vl} (h : SlIn 3 rdValue w v l) : ∀ x ∈ l, x.name.size ≤ 1048576 ∧ InI x.typ ∧ x.dims.length * 8 ≤ 140737488351232 ∧ ∀ z ∈ x.dims, InI z := fun x hx => by
  obtain ⟨j, hj⟩ := List.getElem?_of_mem hx
  obtain ⟨_, _, _, _, _, _, _, _, _, h1, h2, h3⟩ := value_at h hj
  exact ⟨h1, h2, h3.wf⟩
theorem named_bounds {w : World} {v : Value} {l : List Nm} (h : SlIn 4 rdNamed w v l) : ∀ x ∈ l, x.name.size ≤ 1048576 ∧ InI x.typ ∧ (x.dims.length * 8 ≤ 140737488351232 ∧ ∀ z ∈ x.dims, InI z) ∧ (x.data.length * 8 ≤ 140737488351232 ∧ ∀ z ∈ x.data, InI z) := fun x hx => by
  obtain ⟨j, hj⟩ := List.getElem?_of_mem hx
  obtain ⟨_, _, _, _, _, _, _, _, _, _, _, h1, h2, h3, h4⟩ := named_at h hj
  exact ⟨h1, h2, h3.wf, h4.wf⟩
theorem node_bounds {w : World} {v : Value} {l : List Nd} (h : SlIn 5 rdNodeG w v l) : ∀ n ∈ l, NodeB n ∧ n.attrs.length ≤ 1048575 ∧ n.out.size ≤ 1048576 ∧ ∀ s ∈ n.ins, s.size ≤ 1048576 := fun n hn => by
  obtain ⟨j, hj⟩ := List.getElem?_of_mem hn
  obtain ⟨_, _, _, _, _, _, _, _, _, _, _, _, h1, h2, h3, h4⟩ := node_at h hj
  exact ⟨h1.bounds, h2, h3, h4⟩

theorem ValsO.reads' {w w0 : World} {B : Nat} {l : List Vl} {v v0 : Value} {ds : List Value} (h : ValsO w B l v ds) (h0 : SlIn 3 rdValue w0 v0 l) : SlIn 3 rdValue w v l :=
  RowO.reads h (fun _ _ => rfl) h0.len fun x d hx hd => by
    obtain ⟨b1, b2, b3⟩ := value_bounds h0 x hx
    exact ⟨d, rfl, b1, b2, IntsIn.of_owns hd b3.1 b3.2⟩
theorem NamedsO.reads' {w w0 : World} {B : Nat} {l : List Nm} {v v0 : Value} {ts : List (Value × Value)} (h : NamedsO w B l v ts) (h0 : SlIn 4 rdNamed w0 v0 l) : SlIn 4 rdNamed w v l :=
  RowO.reads h (fun _ _ => rfl) h0.len fun x s hx hd => by
    obtain ⟨b1, b2, b3, b4⟩ := named_bounds h0 x hx
    exact ⟨s.1, s.2, rfl, b1, b2, IntsIn.of_owns hd.1 b3.1 b3.2, IntsIn.of_owns hd.2 b4.1 b4.2⟩
theorem NodesO.reads' {w w0 : World} {B : Nat} {l : List Nd} {v v0 : Value} {ns : List (Value × Value)} (h : NodesO w B l v ns) (h0 : SlIn 5 rdNodeG w0 v0 l) : SlIn 5 rdNodeG w v l :=
  RowO.reads h (fun _ _ => rfl) h0.len fun n s hn hd => by
    obtain ⟨b1, b2, b3, b4⟩ := node_bounds h0 n hn
    obtain ⟨ts, hd⟩ := hd
    exact ⟨s.1, s.2, rfl, hd.reads b1, b2, b3, b4⟩
theorem GraphO.reads {w w0 : World} {B : Nat} {g : Gr} {vn vi vo vt vn0 vi0 vo0 vt0 : Value} (h : GraphO w B g vn vi vo vt) (h0 : GraphN w0 g vn0 vi0 vo0 vt0) : GraphN w g vn vi vo vt := by
  obtain ⟨ns, hn, _⟩ := h.nodes
  obtain ⟨ds, hi⟩ := h.ins
  obtain ⟨es, ho⟩ := h.outs
  obtain ⟨ts, ht⟩ := h.inits
  exact ⟨NodesO.reads' hn h0.nodes, ValsO.reads' hi h0.ins, ValsO.reads' ho h0.outs, NamedsO.reads' ht h0.inits⟩
/-- Behind what leaves the rows' types alone. -/
theorem GraphO.keep {w w' : World} {B : Nat} {g : Gr} {vn vi vo vt : Value} (h : GraphO w B g vn vi vo vt) (hk : KeepT [3, 2, 9, 77, 47, 42, 54] B w w') : GraphO w' B g vn vi vo vt := by
  obtain ⟨ns, hn, hp⟩ := h.nodes
  obtain ⟨ds, hi⟩ := h.ins
  obtain ⟨es, ho⟩ := h.outs
  obtain ⟨ts, ht⟩ := h.inits
  exact ⟨⟨ns, hn.keep hk (by decide) (node_keep hk (by decide) (by decide) (by decide) (by decide)), hp⟩, ⟨ds, hi.keep hk (by decide) (dims_keep hk (by decide))⟩, ⟨es, ho.keep hk (by decide) (dims_keep hk (by decide))⟩, ⟨ts, ht.keep hk (by decide) (named_keep hk (by decide) (by decide))⟩, h.io⟩

end Go.Proofs.YtlbhepfbogcipaaGreatDoor
