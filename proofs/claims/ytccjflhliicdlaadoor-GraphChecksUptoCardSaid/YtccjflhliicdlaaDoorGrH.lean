/- Opening a graph: how many names it has. -/
import Derived.Test.YtccjflhliicdlaaDoorGrA
import Derived.Test.YtccjflhliicdlaaDoorGrOw
set_option linter.unusedVariables false
set_option maxRecDepth 100000
namespace Go.Proofs.YtccjflhliicdlaaDoor
open Go.RowKit Go.ChangeShapes Go.WideShapes Go.Deep

/-- A type's cells read; what is read is no greater than its datum. -/
def FitsM {α : Type} (P : Program) (t : TypeId) (sz : Nat) (R : Rd α) (m : α → Nat) : Prop :=
  P.cellsOf t = sz ∧ ∀ {H : Type} (enc : TypeId × Value → H) (W : World) (fuel : Nat) (cs : List Value) (x : DataW H × List MemPlace),
    DataW.trod enc P W 0 (fun _ => true) true fuel t cs = some x → (∀ y ∈ x.2, y.block < W.heap.size) → Rows.uptoBulk x.1 ≤ 1048576 → ∃ a, R W cs a ∧ m a ≤ Rows.uptoBulk x.1
theorem Fits.toM {α : Type} {P : Program} {t : TypeId} {sz : Nat} {R : Rd α} (h : Fits P t sz R) : FitsM P t sz R (fun _ => 1) :=
  ⟨h.1, fun enc W fuel cs x h1 h2 h3 => by
    obtain ⟨a, ha⟩ := h.2 enc W fuel cs x h1 h2 h3
    exact ⟨a, ha, bulk_pos _⟩⟩
theorem sum_le {H : Type} (f : Nat → Nat) (D : Nat → DataW H) : ∀ l : List Nat, (∀ i ∈ l, f i ≤ Rows.uptoBulk (D i)) → (l.map f).sum ≤ Rows.uptoBulkAll (l.map D)
  | [], _ => Nat.zero_le _
  | i :: l, h => by
    rw [List.map_cons, List.map_cons, List.sum_cons, Rows.uptoBulkAll]
    have h1 := h i (by simp)
    have h2 := sum_le f D l (fun j hj => h j (List.mem_cons_of_mem _ hj))
    omega
theorem sum_ones {α : Type} : ∀ l : List α, (l.map fun _ => 1).sum = l.length
  | [] => rfl
  | a :: l => by rw [List.map_cons, List.sum_cons, sum_ones l, List.length_cons]; omega

theorem fitsM_slice {α : Type} {P : Program} {t e : TypeId} {sz : Nat} {R : Rd α} {m : α → Nat} (ht : P.underlying t = some (.slice e)) (hc : P.cellsOf t = 1) (hsz : 0 < sz) (he : FitsM P e sz R m) : FitsM P t 1 (rdSl sz R) (fun l => (l.map m).sum) := by
  refine ⟨hc, fun {H} enc W fuel cs x h hlt hb => ?_⟩
  rcases open_slice ht h with ⟨rfl, _⟩ | ⟨a, len, cap, mm, n, D, Pl, rfl, h0, hl, hm, hmm, rfl, hx⟩
  · exact ⟨[], ⟨_, rfl, .empty none 0⟩, Nat.zero_le _⟩
  · simp only [if_true] at hmm
    subst hmm
    simp only [Rows.uptoBulk] at hb ⊢
    have hlen : len ≤ 1048575 := by
      have := bulk_len ((List.range len).map D)
      rw [List.length_map, List.length_range] at this
      omega
    rw [he.1] at hx hlt
    by_cases hz : len = 0
    · subst hz; exact ⟨[], ⟨_, rfl, .empty _ _⟩, Nat.zero_le _⟩
    have each : ∀ i, i < len → ∃ y : α × List Value, y.2.length = sz ∧ R W y.2 y.1 ∧ m y.1 ≤ Rows.uptoBulk (D i) ∧ ∀ (k : Nat) u, y.2[k]? = some u → W.cell? ((a.add (i * sz)).add k) = some u := fun i hi => by
      obtain ⟨cs', h1, h2⟩ := hx i (by omega)
      obtain ⟨_, hl', hcell⟩ := World.cells?_some h1
      obtain ⟨y, hy, hym⟩ := he.2 enc W n cs' (D i, Pl i) h2 (fun y hy => hlt y (by
        simp only [List.mem_append, List.mem_flatMap, List.mem_range]
        exact Or.inr ⟨i, by omega, hy⟩)) (by
        have := bulk_all ((List.range len).map D) (D i) (List.mem_map.2 ⟨i, List.mem_range.2 hi, rfl⟩)
        show Rows.uptoBulk (D i) ≤ _
        omega)
      refine ⟨(y, cs'), hl', hy, hym, fun k u hu => ?_⟩
      have hk : k < sz := by rw [← hl']; exact (List.getElem?_eq_some_iff.1 hu).1
      rw [hcell k hk]
      exact hu
    haveI : Inhabited (α × List Value) := ⟨(each 0 (by omega)).choose⟩
    obtain ⟨X, hX⟩ := choose_lt each
    have hspot : a.spot = none := by
      obtain ⟨h1, h2, _, h3⟩ := hX 0 (by omega)
      obtain ⟨u, hu⟩ : ∃ u, (X 0).2[0]? = some u := ⟨_, List.getElem?_eq_getElem (by omega)⟩
      have := World.cell?_spot (h3 0 u hu)
      simpa [Addr.add] using this
    obtain ⟨b, off, spot⟩ := a
    simp only at hspot
    subst hspot
    have hb' : b < W.heap.size := hlt (.cell b off) (List.mem_append_left _ (MemPlace.mem_row.2 ⟨0, Nat.mul_pos (by omega) hsz, by simp⟩))
    refine ⟨(List.range len).map fun i => (X i).1, ⟨_, rfl, ?_⟩, ?_⟩
    · have hll : ((List.range len).map fun i => (X i).1).length = len := by simp
      have := SlIn.row (sz := sz) (R := R) (w := W) b off mm ((List.range len).map fun i => (X i).1) (by intro e; rw [e] at hll; simp at hll; omega) (by rw [hll]; exact hl) hb' (fun j x hj => by
        rw [List.getElem?_map] at hj
        obtain ⟨i, hi, rfl⟩ := Option.map_eq_some_iff.1 hj
        obtain ⟨hi1, hi2⟩ := List.getElem?_eq_some_iff.1 hi
        simp at hi1 hi2
        subst hi2
        obtain ⟨h1, h2, _, h3⟩ := hX j hi1
        exact ⟨(X j).2, h1, h2, fun k u hu => by
          have := h3 k u hu
          rw [add_some, add_some] at this
          exact this⟩) (by rw [hll]; exact hlen)
      rw [hll] at this
      exact this
    · rw [List.map_map]
      have := sum_le (fun i => m (X i).1) D (List.range len) (fun i hi => (hX i (List.mem_range.1 hi)).2.2.1)
      show ((List.range len).map fun i => m (X i).1).sum ≤ _
      omega

theorem fitsM_field {α : Type} {P : Program} {fs : Array Field} {H : Type} {enc : TypeId × Value → H} {W : World} {n : Nat} {cs : List Value} {xs : List (DataW H × List MemPlace)}
    (hf : ∀ (i : Nat) (f : Field), fs[i]? = some f → DataW.trod enc P W 0 (fun _ => true) true n f.type ((cs.drop f.offset).take (P.cellsOf f.type)) = xs[i]?) (hl : xs.length = fs.size)
    (hlt : ∀ y ∈ xs.flatMap (·.2), y.block < W.heap.size) (hb : Rows.uptoBulk (.agg (xs.map (·.1)) : DataW H) ≤ 1048576) {i : Nat} {f : Field} (hi : fs[i]? = some f) {sz : Nat} {R : Rd α} {m : α → Nat} (h : FitsM P f.type sz R m) :
    ∃ a, R W ((cs.drop f.offset).take sz) a ∧ ∀ y, xs[i]? = some y → m a ≤ Rows.uptoBulk y.1 := by
  have hil : i < xs.length := by rw [hl]; exact (Array.getElem?_eq_some_iff.1 hi).1
  have h1 := hf i f hi
  rw [List.getElem?_eq_getElem hil, h.1] at h1
  obtain ⟨a, ha, hm⟩ := h.2 enc W n _ _ h1 (fun y hy => hlt y (List.mem_flatMap.2 ⟨_, List.getElem_mem hil, hy⟩)) (by
    simp only [Rows.uptoBulk] at hb
    have := bulk_all (xs.map (·.1)) xs[i].1 (List.mem_map.2 ⟨_, List.getElem_mem hil, rfl⟩)
    omega)
  refine ⟨a, ha, fun y hy => ?_⟩
  rw [List.getElem?_eq_getElem hil] at hy
  obtain rfl := Option.some.inj hy
  exact hm

def nodeM (n : Nd) : Nat := n.ins.length + 1
theorem fitsM_strs : FitsM Tryd.prog 38 1 (rdSl 1 rdStr) (fun l => (l.map fun _ => 1).sum) := fitsM_slice Tryd.underlying38 (by kernel_rfl) (by decide) fits_string.toM
theorem fitsM_nodeG : FitsM Tryd.prog 41 5 rdNodeG nodeM := by
  refine ⟨by kernel_rfl, fun {H} enc W fuel cs x h hlt hb => ?_⟩
  obtain ⟨xs, n, _, rfl, hl, hlen, hf⟩ := DataW.trod_struct Tryd.underlying41 h
  rw [show Tryd.prog.cellsOf 41 = 5 by kernel_rfl] at hl
  match cs, hl with
  | [c0, c1, c2, c3, c4], _ =>
    obtain ⟨a0, e0, i0⟩ := fits_field hf hlen hlt hb (i := 0) rfl fits_string
    obtain ⟨a1, e1, i1⟩ := fits_field hf hlen hlt hb (i := 1) rfl fits_string
    obtain ⟨a2, ⟨v2, e2, i2⟩, m2⟩ := fitsM_field hf hlen hlt hb (i := 2) rfl fitsM_strs
    obtain ⟨a3, e3, i3⟩ := fits_field hf hlen hlt hb (i := 3) rfl fits_string
    obtain ⟨a4, v4, e4, i4⟩ := fits_field hf hlen hlt hb (i := 4) rfl fits_attrs
    obtain rfl := take1 e0
    obtain rfl := take1 e1
    obtain rfl := take1 e2
    obtain rfl := take1 e3
    obtain rfl := take1 e4
    refine ⟨⟨a0, a1, a2, a3, a4⟩, ⟨_, _, rfl, ⟨StrsIn.of_sl i2, AttrsIn.of_sl i4⟩, i4.len, i3, fun s hs => ?_⟩, ?_⟩
    · obtain ⟨j, hj⟩ := List.getElem?_of_mem hs
      obtain ⟨_, _, _, _, _, _, _, _, ⟨_, h2⟩, _⟩ := i2.rows j s hj
      exact h2
    · rw [sum_ones] at m2
      show a2.length + 1 ≤ _
      have hlen5 : xs.length = 5 := hlen
      match xs, hlen5, m2 with
      | [x0, x1, x2, x3, x4], _, m2 =>
        have := m2 x2 rfl
        simp only [List.map_cons, List.map_nil, Rows.uptoBulk, Rows.uptoBulkAll]
        omega

def allLen (g : Gr) : Nat := g.ins.length + g.outs.length + g.inits.length + (g.nodes.map nodeM).sum
theorem fitsM_values : FitsM Tryd.prog 23 1 (rdSl 3 rdValue) (fun l => (l.map fun _ => 1).sum) := fitsM_slice Tryd.underlying23 (by kernel_rfl) (by decide) fits_value.toM
theorem fitsM_nameds : FitsM Tryd.prog 24 1 (rdSl 4 rdNamed) (fun l => (l.map fun _ => 1).sum) := fitsM_slice Tryd.underlying24 (by kernel_rfl) (by decide) fits_named.toM
theorem fitsM_nodes : FitsM Tryd.prog 22 1 (rdSl 5 rdNodeG) (fun l => (l.map nodeM).sum) := fitsM_slice Tryd.underlying22 (by kernel_rfl) (by decide) fitsM_nodeG

theorem fitsM_graph : FitsM Tryd.prog 26 5 rdGraph (fun g => allLen g + 2) := by
  refine ⟨by kernel_rfl, fun {H} enc W fuel cs x h hlt hb => ?_⟩
  obtain ⟨xs, n, _, rfl, hl, hlen, hf⟩ := DataW.trod_struct Tryd.underlying26 h
  rw [show Tryd.prog.cellsOf 26 = 5 by kernel_rfl] at hl
  match cs, hl with
  | [c0, c1, c2, c3, c4], _ =>
    obtain ⟨a0, e0, i0⟩ := fits_field hf hlen hlt hb (i := 0) rfl fits_string
    obtain ⟨a1, ⟨v1, e1, i1⟩, m1⟩ := fitsM_field hf hlen hlt hb (i := 1) rfl fitsM_nodes
    obtain ⟨a2, ⟨v2, e2, i2⟩, m2⟩ := fitsM_field hf hlen hlt hb (i := 2) rfl fitsM_values
    obtain ⟨a3, ⟨v3, e3, i3⟩, m3⟩ := fitsM_field hf hlen hlt hb (i := 3) rfl fitsM_values
    obtain ⟨a4, ⟨v4, e4, i4⟩, m4⟩ := fitsM_field hf hlen hlt hb (i := 4) rfl fitsM_nameds
    obtain rfl := take1 e0
    obtain rfl := take1 e1
    obtain rfl := take1 e2
    obtain rfl := take1 e3
    obtain rfl := take1 e4
    refine ⟨⟨a0, a1, a2, a3, a4⟩, ⟨_, _, _, _, rfl, ⟨i1, i2, i3, i4⟩⟩, ?_⟩
    rw [sum_ones] at m2 m3 m4
    show a2.length + a3.length + a4.length + (a1.map nodeM).sum + 2 ≤ _
    have hlen5 : xs.length = 5 := hlen
    match xs, hlen5, m1, m2, m3, m4 with
    | [x0, x1, x2, x3, x4], _, m1, m2, m3, m4 =>
      have h1 := m1 x1 rfl
      have h2 := m2 x2 rfl
      have h3 := m3 x3 rfl
      have h4 := m4 x4 rfl
      have h0 := bulk_pos x0.1
      simp only [List.map_cons, List.map_nil, Rows.uptoBulk, Rows.uptoBulkAll]
      omega

/-- An argument that is a graph, and how many names it has. -/
theorem open_graphM {H : Type} {enc : TypeId × Value → H} {W : World} {r : Reach} {b0 : Nat} {v : Value} {d : DataW H} {p : List MemPlace}
    (hv : Value.okWide Tryd.prog W r b0 26 v) (hd : DataW.Trod enc Tryd.prog W 0 (fun _ => true) true 26 v d p) (hlt : ∀ y ∈ p, y.block < W.heap.size) (hb : Rows.uptoBulk d ≤ 1048576) : ∃ g, GraphV W v g ∧ allLen g + 2 ≤ Rows.uptoBulk d := by
  obtain ⟨cs, rfl, _⟩ := okWide_struct Tryd.underlying26 hv
  obtain ⟨fuel, hf⟩ := hd
  obtain ⟨g, ⟨vn, vi, vo, vt, e, h⟩, hm⟩ := fitsM_graph.2 enc W fuel _ _ hf hlt hb
  refine ⟨g, ⟨vn, vi, vo, vt, ?_, h⟩, hm⟩
  unfold Gr.val
  congr 1
  rw [← Array.toList_inj]
  exact e

end Go.Proofs.YtccjflhliicdlaaDoor

set_option linter.unusedVariables false
set_option linter.unusedSimpArgs false
namespace Go.Proofs.YtccjflhliicdlaaDoor
open Go.RowKit

/-! ### append(l, x...) of a row that another call may hold -/

theorem run_append_news {P : Program} {w : World} {t ty e : TypeId} {i : TypeInfo} {z : Value} {size bytes : Nat} (ht : P.underlying t = some (.slice e)) (hi : P.info? e = some i) (hz : i.zero = some z)
    (hsize : i.size = size) (hby : i.bytes = bytes) (hzs : z.cells.size = size) (hsz : 0 < size) {base n : Nat} {v : Value} {xs : List Value} (hown : w.ownsRow base e size v n xs) {xv : Value} {m : Nat} {news : List Value} (hx : NewsIn w xv m size bytes news)
    (h63 : n + m ≤ maxLen) (hbytes : (n + m) * bytes ≤ 140737488355328) (hbase : base ≤ w.heap.size) :
    ∃ v' w', (Builtin.append_ #[t, t] ty #[v, xv]).run P w = .ok v' w' ∧ w'.ownsRow base e size v' (n + m) (xs ++ news) ∧ w.grownBy w' v.ownBlock := by
  rcases hx with ⟨a0, cap, rfl, rfl, rfl⟩ | ⟨b, off, cap, rfl, hl, hn, h1, _, _⟩
  · cases a0 with
    | none =>
      refine ⟨v, w, ?_, by simpa using hown, ⟨rfl, rfl, rfl, Nat.le_refl _, fun _ _ _ => rfl⟩⟩
      rcases hown.2 with ⟨rfl, rfl⟩ | ⟨g, cp, cur, rfl, _, _, hnc, _⟩
      · simp [Builtin.append_, run_underlying ht, sizeOf, typeInfo, hi, Builtin.lenOf, Builtin.firstCells]
      · simp [Builtin.append_, run_underlying ht, sizeOf, typeInfo, hi, Builtin.lenOf, Builtin.firstCells, hnc, storeCells]
    | some ad =>
      obtain ⟨v', w', hr, h2, h3, _, h5⟩ := run_append_own_at (P := P) w base t ty e i z size bytes ht hi hz hsize hby hzs hsz v n xs hown ad 0 cap [] (by simp) (fun j u hu => by simp at hu) (fun u hu => by simp at hu) h63 hbytes hbase
      exact ⟨v', w', hr, h2, h3⟩
  · obtain ⟨v', w', hr, h2, h3, _, h5⟩ := run_append_own_at (P := P) w base t ty e i z size bytes ht hi hz hsize hby hzs hsz v n xs hown ⟨b, off, none⟩ m cap news hl hn h1 h63 hbytes hbase
    exact ⟨v', w', hr, h2, h3⟩

theorem wpList_append_news {P : Program} {w : World} {ops : Array Oper} {rest : List Oper} {o : Oper} {a : Act} {Q : Exit → Act → World → Prop} (hgd : o.guard = none) (s x : Operand) (t : TypeId)
    (ho : o.op = .call { callee := .builtin .append, args := #[s, x], argTypes := #[t, t] })
    {e : TypeId} {i : TypeInfo} {z : Value} {size bytes : Nat} (ht : P.underlying t = some (.slice e)) (hi : P.info? e = some i) (hz : i.zero = some z)
    (hsize : i.size = size) (hby : i.bytes = bytes) (hzs : z.cells.size = size) (hsz : 0 < size) {base n : Nat} {v : Value} {xs : List Value} {xv : Value} {m : Nat} {news : List Value} (hs : a.eval s = v) (hx : a.eval x = xv) (hown : w.ownsRow base e size v n xs) (hn : NewsIn w xv m size bytes news)
    (h63 : n + m ≤ maxLen) (hbytes : (n + m) * bytes ≤ 140737488355328) (hbase : base ≤ w.heap.size)
    (h : ∀ v' w', w'.ownsRow base e size v' (n + m) (xs ++ news) → w.grownBy w' v.ownBlock → wpList P ops Q rest (a.put o.dst v') w') : wpList P ops Q (o :: rest) a w := by
  refine wpList_plain hgd fun K hK => ?_
  obtain ⟨v', w', hr, h2, h3⟩ := run_append_news (P := P) (ty := o.type) ht hi hz hsize hby hzs hsz hown hn h63 hbytes hbase
  unfold Oper.wp execOp
  simp only [ho, resolve, invoke, builtin, Sem.run_bind, Sem.run_pure, Result.andThen_ok, List.map_toArray, List.map_cons, List.map_nil, hs, hx, hr]
  exact hK _ _ (h v' w' h2 h3)

/-! ### all names -/

def nmV (g : Gr) : List ByteArray := [] ++ g.ins.map Vl.name
def nmO (g : Gr) : List ByteArray := nmV g ++ g.outs.map Vl.name
def nmT (g : Gr) : List ByteArray := nmO g ++ g.inits.map Nm.name
def nodeN (n : Nd) : List ByteArray := n.out :: n.ins
def allN (g : Gr) : List ByteArray := nmT g ++ g.nodes.flatMap nodeN

theorem snoc_map {α : Type} {f : α → ByteArray} {l : List α} {k : Nat} {x : α} (b : List ByteArray) (h : l[k]? = some x) : b ++ (l.take (k + 1)).map f = (b ++ (l.take k).map f) ++ [f x] := by
  rw [List.take_add_one, h, List.map_append, List.append_assoc]; rfl
theorem snoc_flat {l : List Nd} {k : Nat} {x : Nd} (b : List ByteArray) (h : l[k]? = some x) : b ++ (l.take (k + 1)).flatMap nodeN = ((b ++ (l.take k).flatMap nodeN) ++ [x.out]) ++ x.ins := by
  rw [List.take_add_one, h, List.flatMap_append]
  simp [nodeN]
theorem sum_take {l : List Nd} {k : Nat} {x : Nd} (h : l[k]? = some x) : ((l.take (k + 1)).map nodeM).sum = ((l.take k).map nodeM).sum + (x.ins.length + 1) := by
  rw [List.take_add_one, h, List.map_append, List.sum_append]
  simp [nodeM]
theorem sum_take_le (l : List Nd) (k : Nat) : ((l.take k).map nodeM).sum ≤ (l.map nodeM).sum := by
  conv => rhs; rw [← List.take_append_drop k l, List.map_append, List.sum_append]
  omega

/-- A row of strings of the call's own. -/
def StrR (w0 w : World) (v : Value) (p : Nat) (l : List ByteArray) : Prop := w.ownsRow w0.heap.size 9 1 v p (l.map Value.string) ∧ Below w0.heap.size w0 w
theorem StrR.push {w0 w w' : World} {v v' : Value} {p : Nat} {l : List ByteArray} {s : ByteArray} {o : Obj} (h : StrR w0 w v p l) (hr : w'.ownsRow w0.heap.size 9 1 v' (p + 1) (l.map Value.string ++ [.string s])) (hg : (w.alloc o).grownBy w' v.ownBlock) : StrR w0 w' v' (p + 1) (l ++ [s]) := by
  have hs := h.2.size
  exact ⟨by rw [List.map_append]; exact hr, (h.2.alloc hs _).grown hg (by simp; omega) fun y hy => (h.1.lt y hy).1⟩
theorem StrR.more {w0 w w' : World} {v v' : Value} {p m : Nat} {l ss : List ByteArray} (h : StrR w0 w v p l) (hr : w'.ownsRow w0.heap.size 9 1 v' (p + m) (l.map Value.string ++ ss.map Value.string)) (hg : w.grownBy w' v.ownBlock) : StrR w0 w' v' (p + m) (l ++ ss) :=
  ⟨by rw [List.map_append]; exact hr, h.2.grown hg h.2.size fun y hy => (h.1.lt y hy).1⟩

attribute [local irreducible] nmV nmO nmT allN StrR nodeM

set_option maxRecDepth 100000 in
set_option maxHeartbeats 4000000 in
theorem gall_any {w : World} {v : Value} {g : Gr} (h : GraphV w v g) (hM : allLen g ≤ 1048576) :
    Calls Tryd.prog 17 #[v] w fun e w' => ∃ v', e = .returned v' ∧ w'.ownsRow w.heap.size 9 1 v' (allLen g) ((allN g).map Value.string) ∧ Below w.heap.size w w' := by
  obtain ⟨i0, hi, hz0, hz1, hz2⟩ := info_parts info_string
  obtain ⟨vn, vi, vo, vt, rfl, hg⟩ := h
  obtain ⟨an, cn, rfl⟩ := hg.nodes.form
  obtain ⟨ai, ci, rfl⟩ := hg.ins.form
  obtain ⟨ao, co, rfl⟩ := hg.outs.form
  obtain ⟨at', ct, rfl⟩ := hg.inits.form
  have hM2 : g.ins.length + g.outs.length + g.inits.length + (g.nodes.map nodeM).sum ≤ 1048576 := hM
  have HST := Lib.hid (fun k => sum_take_le g.nodes k)
  obtain ⟨M, hMe⟩ : ∃ M, (g.nodes.map nodeM).sum = M := ⟨_, rfl⟩
  have HME := Lib.hid hMe
  rw [hMe] at hM2
  clear hM hMe
  have hln := hg.nodes.len
  have HN := Lib.hid hg
  clear hg
  unfold Gr.val
  go_enter Tryd.func17, Tryd.ntmps17
  go_wp2_with fail
  have hB1 : Hid (Below w.heap.size w (w.alloc (Obj.cells #[Value.string g.name, Value.slice an g.nodes.length cn, Value.slice ai g.ins.length ci, Value.slice ao g.outs.length co, Value.slice at' g.inits.length ct] 26))) := Lib.hid ((Below.refl _ w).alloc (Nat.le_refl _) _)
  have hA1 := Lib.hid (BoxN.new w #[Value.string g.name, Value.slice an g.nodes.length cn, Value.slice ai g.ins.length ci, Value.slice ao g.outs.length co, Value.slice at' g.inits.length ct] 26)
  generalize w.alloc _ = W1 at hB1 hA1 ⊢
  go_loopw [3, 4] (fun ov i wr => ∃ k : Nat, k ≤ g.ins.length ∧ i = .int .i64 (k : Int) ∧ Hid (StrR W1 wr ov k (([] : List ByteArray) ++ (g.ins.take k).map Vl.name))) (fun _ i _ => g.ins.length - (intOf i).toNat)
  case atStart => exact ⟨0, Nat.zero_le _, rfl, Lib.hid (by unfold StrR; exact ⟨by simpa using World.ownsRow_nil _ _ _ _, Below.refl _ _⟩)⟩
  case round =>
    obtain ⟨k, hk, rfl, hR⟩ := hrel
    have hRB := Lib.hid (show Below W1.heap.size W1 wr from by have := hR.out; unfold StrR at this; exact this.2)
    have HRow := Lib.hid (show wr.ownsRow W1.heap.size 9 1 u3 _ ((([] : List ByteArray) ++ (g.ins.take k).map Vl.name).map Value.string) from by have := hR.out; unfold StrR at this; exact this.1)
    obtain ⟨av, cv, rfl⟩ := owns_form HRow.out
    obtain ⟨xs, hxs⟩ : ∃ xs, (([] : List ByteArray) ++ (g.ins.take k).map Vl.name).map Value.string = xs := ⟨_, rfl⟩
    rw [hxs] at HRow
    have HXS := Lib.hid hxs
    clear hxs
    obtain ⟨k0, k1, k2, k3, k4⟩ := (hA1.out.below' hRB.out).fiveG
    have hsz := hRB.out.size
    by_cases hkl : k < g.ins.length
    · have hki : (k : Int) < (g.ins.length : Int) := by omega
      obtain ⟨x, hx⟩ : ∃ x, g.ins[k]? = some x := ⟨_, List.getElem?_eq_getElem hkl⟩
      have hBw := hB1.out.trans (hRB.out.mono hB1.out.size)
      obtain ⟨b, off, cap, vd, hv, hb, c0, _⟩ := value_at HN.out.ins hx
      obtain ⟨rfl, _, rfl⟩ := Value.slice.inj hv
      have c0 := (hBw.cell (p := ⟨b, off + k * 3, none⟩) hb).trans c0
      have HS := Lib.hid (snoc_map (f := Vl.name) (([] : List ByteArray)) hx)
      clear hv hx hBw
      go_wp2_with (at_builtin; refine wpList_append_own _ rfl _ _ 38 rfl W1.heap.size 9 i0 (.string ⟨#[]⟩) 1 16 Tryd.underlying38 hi hz0 hz1 hz2 rfl (by decide) _ _ _ rfl (HRow.out.alloc _) ⟨wr.heap.size, 0, none⟩ 1 1 (#[.string x.name] : Array Value).toList rfl rfl (World.news_of_block (heap_alloc_new wr _)) (by simp [Value.oneCell']) ?A3 ?A4 ?A5 ?_)
      case A3 => unfold maxLen; omega
      case A4 => omega
      case A5 => first | omega | (simp; omega)
      intro v' w4 hown' hgrow _
      have HR4 : Hid (StrR W1 w4 v' (k + 1) (([] : List ByteArray) ++ (g.ins.take (k + 1)).map Vl.name)) := Lib.hid (by rw [HS.out]; rw [← HXS.out] at hown'; exact StrR.push hR.out hown' hgrow)
      clear hown' hgrow c0 k0 k1 k2 k3 k4
      go_wp2_with fail
      go_roundw
      case rel => exact ⟨k + 1, by omega, by go_num, HR4⟩
      case measure => simp [intOf]; omega
    · have hki : ¬ (k : Int) < (g.ins.length : Int) := by omega
      obtain rfl : k = g.ins.length := by omega
      have HE : Hid (StrR W1 wr _ g.ins.length (nmV g)) := Lib.hid (by have := hR.out; rw [List.take_length] at this; unfold nmV; exact this)
      go_wp2_with fail
      clear k0 k1 k2 k3 k4 hR hRB HRow hsz hki hkl hk
      generalize hwq : wr = V at *
      clear hwq
      go_loopw [3, 5] (fun ov i wr => ∃ k : Nat, k ≤ g.outs.length ∧ i = .int .i64 (k : Int) ∧ Hid (StrR W1 wr ov (g.ins.length + k) (nmV g ++ (g.outs.take k).map Vl.name))) (fun _ i _ => g.outs.length - (intOf i).toNat)
      case atStart => exact ⟨0, Nat.zero_le _, rfl, Lib.hid (by rw [List.take_zero, List.map_nil, List.append_nil, Nat.add_zero]; exact HE.out)⟩
      case round =>
        clear HE
        obtain ⟨k, hk, rfl, hR⟩ := hrel
        have hRB := Lib.hid (show Below W1.heap.size W1 wr from by have := hR.out; unfold StrR at this; exact this.2)
        have HRow := Lib.hid (show wr.ownsRow W1.heap.size 9 1 u3 _ ((nmV g ++ (g.outs.take k).map Vl.name).map Value.string) from by have := hR.out; unfold StrR at this; exact this.1)
        obtain ⟨av, cv, rfl⟩ := owns_form HRow.out
        obtain ⟨xs, hxs⟩ : ∃ xs, (nmV g ++ (g.outs.take k).map Vl.name).map Value.string = xs := ⟨_, rfl⟩
        rw [hxs] at HRow
        have HXS := Lib.hid hxs
        clear hxs
        obtain ⟨k0, k1, k2, k3, k4⟩ := (hA1.out.below' hRB.out).fiveG
        have hsz := hRB.out.size
        by_cases hkl : k < g.outs.length
        · have hki : (k : Int) < (g.outs.length : Int) := by omega
          obtain ⟨x, hx⟩ : ∃ x, g.outs[k]? = some x := ⟨_, List.getElem?_eq_getElem hkl⟩
          have hBw := hB1.out.trans (hRB.out.mono hB1.out.size)
          obtain ⟨b, off, cap, vd, hv, hb, c0, _⟩ := value_at HN.out.outs hx
          obtain ⟨rfl, _, rfl⟩ := Value.slice.inj hv
          have c0 := (hBw.cell (p := ⟨b, off + k * 3, none⟩) hb).trans c0
          have HS := Lib.hid (snoc_map (f := Vl.name) (nmV g) hx)
          clear hv hx hBw
          go_wp2_with (at_builtin; refine wpList_append_own _ rfl _ _ 38 rfl W1.heap.size 9 i0 (.string ⟨#[]⟩) 1 16 Tryd.underlying38 hi hz0 hz1 hz2 rfl (by decide) _ _ _ rfl (HRow.out.alloc _) ⟨wr.heap.size, 0, none⟩ 1 1 (#[.string x.name] : Array Value).toList rfl rfl (World.news_of_block (heap_alloc_new wr _)) (by simp [Value.oneCell']) ?A3 ?A4 ?A5 ?_)
          case A3 => unfold maxLen; omega
          case A4 => omega
          case A5 => first | omega | (simp; omega)
          intro v' w4 hown' hgrow _
          have HR4 : Hid (StrR W1 w4 v' (g.ins.length + (k + 1)) (nmV g ++ (g.outs.take (k + 1)).map Vl.name)) := Lib.hid (by rw [HS.out]; rw [← HXS.out] at hown'; exact StrR.push hR.out hown' hgrow)
          clear hown' hgrow c0 k0 k1 k2 k3 k4
          go_wp2_with fail
          go_roundw
          case rel => exact ⟨k + 1, by omega, by go_num, HR4⟩
          case measure => simp [intOf]; omega
        · have hki : ¬ (k : Int) < (g.outs.length : Int) := by omega
          obtain rfl : k = g.outs.length := by omega
          have HE : Hid (StrR W1 wr _ (g.ins.length + g.outs.length) (nmO g)) := Lib.hid (by have := hR.out; rw [List.take_length] at this; unfold nmO; exact this)
          go_wp2_with fail
          clear k0 k1 k2 k3 k4 hR hRB HRow hsz hki hkl hk
          generalize hwq : wr = V at *
          clear hwq
          go_loopw [3, 6] (fun ov i wr => ∃ k : Nat, k ≤ g.inits.length ∧ i = .int .i64 (k : Int) ∧ Hid (StrR W1 wr ov ((g.ins.length + g.outs.length) + k) (nmO g ++ (g.inits.take k).map Nm.name))) (fun _ i _ => g.inits.length - (intOf i).toNat)
          case atStart => exact ⟨0, Nat.zero_le _, rfl, Lib.hid (by rw [List.take_zero, List.map_nil, List.append_nil, Nat.add_zero]; exact HE.out)⟩
          case round =>
            clear HE
            obtain ⟨k, hk, rfl, hR⟩ := hrel
            have hRB := Lib.hid (show Below W1.heap.size W1 wr from by have := hR.out; unfold StrR at this; exact this.2)
            have HRow := Lib.hid (show wr.ownsRow W1.heap.size 9 1 u3 _ ((nmO g ++ (g.inits.take k).map Nm.name).map Value.string) from by have := hR.out; unfold StrR at this; exact this.1)
            obtain ⟨av, cv, rfl⟩ := owns_form HRow.out
            obtain ⟨xs, hxs⟩ : ∃ xs, (nmO g ++ (g.inits.take k).map Nm.name).map Value.string = xs := ⟨_, rfl⟩
            rw [hxs] at HRow
            have HXS := Lib.hid hxs
            clear hxs
            obtain ⟨k0, k1, k2, k3, k4⟩ := (hA1.out.below' hRB.out).fiveG
            have hsz := hRB.out.size
            by_cases hkl : k < g.inits.length
            · have hki : (k : Int) < (g.inits.length : Int) := by omega
              obtain ⟨x, hx⟩ : ∃ x, g.inits[k]? = some x := ⟨_, List.getElem?_eq_getElem hkl⟩
              have hBw := hB1.out.trans (hRB.out.mono hB1.out.size)
              obtain ⟨b, off, cap, vd, vx, hv, hb, c0, _⟩ := named_at HN.out.inits hx
              obtain ⟨rfl, _, rfl⟩ := Value.slice.inj hv
              have c0 := (hBw.cell (p := ⟨b, off + k * 4, none⟩) hb).trans c0
              have HS := Lib.hid (snoc_map (f := Nm.name) (nmO g) hx)
              clear hv hx hBw
              go_wp2_with (at_builtin; refine wpList_append_own _ rfl _ _ 38 rfl W1.heap.size 9 i0 (.string ⟨#[]⟩) 1 16 Tryd.underlying38 hi hz0 hz1 hz2 rfl (by decide) _ _ _ rfl (HRow.out.alloc _) ⟨wr.heap.size, 0, none⟩ 1 1 (#[.string x.name] : Array Value).toList rfl rfl (World.news_of_block (heap_alloc_new wr _)) (by simp [Value.oneCell']) ?A3 ?A4 ?A5 ?_)
              case A3 => unfold maxLen; omega
              case A4 => omega
              case A5 => first | omega | (simp; omega)
              intro v' w4 hown' hgrow _
              have HR4 : Hid (StrR W1 w4 v' ((g.ins.length + g.outs.length) + (k + 1)) (nmO g ++ (g.inits.take (k + 1)).map Nm.name)) := Lib.hid (by rw [HS.out]; rw [← HXS.out] at hown'; exact StrR.push hR.out hown' hgrow)
              clear hown' hgrow c0 k0 k1 k2 k3 k4
              go_wp2_with fail
              go_roundw
              case rel => exact ⟨k + 1, by omega, by go_num, HR4⟩
              case measure => simp [intOf]; omega
            · have hki : ¬ (k : Int) < (g.inits.length : Int) := by omega
              obtain rfl : k = g.inits.length := by omega
              have HE : Hid (StrR W1 wr _ ((g.ins.length + g.outs.length) + g.inits.length) (nmT g)) := Lib.hid (by have := hR.out; rw [List.take_length] at this; unfold nmT; exact this)
              go_wp2_with fail
              clear k0 k1 k2 k3 k4 hR hRB HRow hsz hki hkl hk
              generalize hwq : wr = V at *
              clear hwq
              go_loopw [3, 7] (fun ov i wr => ∃ k q : Nat, k ≤ g.nodes.length ∧ q ≤ M ∧ i = .int .i64 (k : Int) ∧ Hid (((g.nodes.take k).map nodeM).sum = q) ∧ Hid (StrR W1 wr ov (g.ins.length + g.outs.length + g.inits.length + q) (nmT g ++ (g.nodes.take k).flatMap nodeN))) (fun _ i _ => g.nodes.length - (intOf i).toNat)
              case atStart => exact ⟨0, 0, Nat.zero_le _, Nat.zero_le _, rfl, Lib.hid (by simp), Lib.hid (by rw [List.take_zero, List.flatMap_nil, List.append_nil, Nat.add_zero]; exact HE.out)⟩
              case round =>
                clear HE
                obtain ⟨k, q, hk, hq, rfl, hSum, hR⟩ := hrel
                have hRB := Lib.hid (show Below W1.heap.size W1 wr from by have := hR.out; unfold StrR at this; exact this.2)
                have HRow := Lib.hid (show wr.ownsRow W1.heap.size 9 1 u3 _ ((nmT g ++ (g.nodes.take k).flatMap nodeN).map Value.string) from by have := hR.out; unfold StrR at this; exact this.1)
                obtain ⟨av, cv, rfl⟩ := owns_form HRow.out
                obtain ⟨xs, hxs⟩ : ∃ xs, (nmT g ++ (g.nodes.take k).flatMap nodeN).map Value.string = xs := ⟨_, rfl⟩
                rw [hxs] at HRow
                have HXS := Lib.hid hxs
                clear hxs
                obtain ⟨k0, k1, k2, k3, k4⟩ := (hA1.out.below' hRB.out).fiveG
                have hsz := hRB.out.size
                by_cases hkl : k < g.nodes.length
                · have hki : (k : Int) < (g.nodes.length : Int) := by omega
                  obtain ⟨x, hx⟩ : ∃ x, g.nodes[k]? = some x := ⟨_, List.getElem?_eq_getElem hkl⟩
                  have hBw := hB1.out.trans (hRB.out.mono hB1.out.size)
                  obtain ⟨b, off, cap, vd, vx, hv, hb, c0, c1, c2, c3, c4, h3, _⟩ := node_at HN.out.nodes hx
                  obtain ⟨rfl, _, rfl⟩ := Value.slice.inj hv
                  have HC2 := Lib.hid c2
                  have c3 := (hBw.cell (p := ⟨b, off + k * 5 + 3, none⟩) hb).trans c3
                  have HI := Lib.hid h3.is
                  have HS := Lib.hid (snoc_flat (nmT g) hx)
                  have hq1 := HST.out (k + 1)
                  rw [sum_take hx, HME.out, hSum.out] at hq1
                  have HQ : Hid (((g.nodes.take (k + 1)).map nodeM).sum = q + (x.ins.length + 1)) := Lib.hid (by rw [sum_take hx, hSum.out])
                  obtain ⟨ad, cd, rfl⟩ := h3.is.form
                  clear hv hx c0 c1 c2 c4 h3
                  go_wp2_with (at_builtin; refine wpList_append_own _ rfl _ _ 38 rfl W1.heap.size 9 i0 (.string ⟨#[]⟩) 1 16 Tryd.underlying38 hi hz0 hz1 hz2 rfl (by decide) _ _ _ rfl (HRow.out.alloc _) ⟨wr.heap.size, 0, none⟩ 1 1 (#[.string x.out] : Array Value).toList rfl rfl (World.news_of_block (heap_alloc_new wr _)) (by simp [Value.oneCell']) ?A3 ?A4 ?A5 ?_)
                  case A3 => unfold maxLen; omega
                  case A4 => omega
                  case A5 => first | omega | (simp; omega)
                  intro v' w4 hown' hgrow _
                  have HR4 : Hid (StrR W1 w4 v' ((g.ins.length + g.outs.length + g.inits.length + q) + 1) ((nmT g ++ (g.nodes.take k).flatMap nodeN) ++ [x.out])) := Lib.hid (by rw [← HXS.out] at hown'; exact StrR.push hR.out hown' hgrow)
                  have hRB4 := Lib.hid (show Below W1.heap.size W1 w4 from by have := HR4.out; unfold StrR at this; exact this.2)
                  have HRow4 := Lib.hid (show w4.ownsRow W1.heap.size 9 1 v' _ (((nmT g ++ (g.nodes.take k).flatMap nodeN) ++ [x.out]).map Value.string) from by have := HR4.out; unfold StrR at this; exact this.1)
                  obtain ⟨av4, cv4, rfl⟩ := owns_form HRow4.out
                  obtain ⟨ys, hys⟩ : ∃ ys, ((nmT g ++ (g.nodes.take k).flatMap nodeN) ++ [x.out]).map Value.string = ys := ⟨_, rfl⟩
                  rw [hys] at HRow4
                  have HYS := Lib.hid hys
                  clear hys hown' hgrow k0 k1 k2 k3 k4 c3
                  have hBw4 := hB1.out.trans (hRB4.out.mono hB1.out.size)
                  have c2 := (hBw4.cell (p := ⟨b, off + k * 5 + 2, none⟩) hb).trans HC2.out
                  obtain ⟨k0, k1, k2, k3, k4⟩ := (hA1.out.below' hRB4.out).fiveG
                  obtain ⟨zs, hzs⟩ : ∃ zs, x.ins.map Value.string = zs := ⟨_, rfl⟩
                  have HNews := Lib.hid (HI.out.below hBw4).news
                  rw [hzs] at HNews
                  have HZS := Lib.hid hzs
                  have hsz4 := hRB4.out.size
                  clear hzs hBw4
                  go_wp2_with (at_builtin; refine wpList_append_news rfl _ _ 38 rfl Tryd.underlying38 hi hz0 hz1 hz2 rfl (by decide) rfl rfl HRow4.out HNews.out ?A3 ?A4 ?A5 ?_)
                  case A3 => unfold maxLen; omega
                  case A4 => omega
                  case A5 => omega
                  intro v' w5 hown' hgrow
                  have HR5 : Hid (StrR W1 w5 v' (g.ins.length + g.outs.length + g.inits.length + (q + (x.ins.length + 1))) (nmT g ++ (g.nodes.take (k + 1)).flatMap nodeN)) := Lib.hid (by
                    rw [HS.out]
                    rw [← HYS.out, ← HZS.out] at hown'
                    have := StrR.more HR4.out hown' hgrow
                    have e : (g.ins.length + g.outs.length + g.inits.length + q) + 1 + x.ins.length = g.ins.length + g.outs.length + g.inits.length + (q + (x.ins.length + 1)) := by omega
                    rwa [e] at this)
                  clear hown' hgrow c2 k0 k1 k2 k3 k4
                  go_wp2_with fail
                  go_roundw
                  case rel => exact ⟨k + 1, q + (x.ins.length + 1), by omega, by omega, by go_num, HQ, HR5⟩
                  case measure => simp [intOf]; omega
                · have hki : ¬ (k : Int) < (g.nodes.length : Int) := by omega
                  obtain rfl : k = g.nodes.length := by omega
                  have hqM : q = M := by rw [← hSum.out, List.take_length, HME.out]
                  subst hqM
                  have HE : Hid (StrR W1 wr (.slice av (g.ins.length + g.outs.length + g.inits.length + q) cv) (g.ins.length + g.outs.length + g.inits.length + q) (allN g)) := Lib.hid (by have := hR.out; rw [List.take_length] at this; unfold allN; exact this)
                  go_wp2
                  go_ret
                  have h9 := HE.out
                  unfold StrR at h9
                  refine ⟨_, rfl, ?_, hB1.out.trans (h9.2.mono hB1.out.size)⟩
                  have e : allLen g = (g.ins.length + g.outs.length + g.inits.length + q) := by unfold allLen; rw [HME.out]
                  rw [e]
                  exact owns_base h9.1 hB1.out.size

end Go.Proofs.YtccjflhliicdlaaDoor
