/- Graphs: how they lie in memory, as plain facts; opening a graph. -/
import Derived.Test.YtagiipecfdmceaaGreatDoorSchXns
set_option linter.unusedVariables false
set_option maxRecDepth 100000
namespace Go.Proofs.YtagiipecfdmceaaGreatDoor
open Go.RowKit Go.ChangeShapes Go.WideShapes Go.Deep

structure Vl where
  name : ByteArray
  typ : Int
  dims : List Int
structure Nm where
  name : ByteArray
  typ : Int
  dims : List Int
  data : List Int
structure Gr where
  name : ByteArray
  nodes : List Nd
  ins : List Vl
  outs : List Vl
  inits : List Nm

def rdValue : Rd Vl := fun w cs v => ∃ vd, cs = [.string v.name, .int .i64 v.typ, vd] ∧ v.name.size ≤ 1048576 ∧ InI v.typ ∧ IntsIn w vd v.dims
def rdNamed : Rd Nm := fun w cs t => ∃ vd vx, cs = [.string t.name, .int .i64 t.typ, vd, vx] ∧ t.name.size ≤ 1048576 ∧ InI t.typ ∧ IntsIn w vd t.dims ∧ IntsIn w vx t.data
/-- A node of a graph: its names are small. -/
def rdNodeG : Rd Nd := fun w cs n => ∃ vin vat, cs = [.string n.op, .string n.name, vin, .string n.out, vat] ∧ NodeN w n vin vat ∧ n.attrs.length ≤ 1048575 ∧ n.out.size ≤ 1048576 ∧ ∀ s ∈ n.ins, s.size ≤ 1048576

theorem rdValue_below {w w' : World} (hB : Below w.heap.size w w') : ∀ cs x, rdValue w cs x → rdValue w' cs x := fun cs x ⟨vd, h1, h2, h3, h4⟩ => ⟨vd, h1, h2, h3, h4.below hB⟩
theorem rdNamed_below {w w' : World} (hB : Below w.heap.size w w') : ∀ cs x, rdNamed w cs x → rdNamed w' cs x := fun cs x ⟨vd, vx, h1, h2, h3, h4, h5⟩ => ⟨vd, vx, h1, h2, h3, h4.below hB, h5.below hB⟩
theorem rdNodeG_below {w w' : World} (hB : Below w.heap.size w w') : ∀ cs x, rdNodeG w cs x → rdNodeG w' cs x := fun cs x ⟨vd, vx, h1, h2, h3, h4, h5⟩ => ⟨vd, vx, h1, h2.below hB, h3, h4, h5⟩

/-- Five values are a graph's. -/
structure GraphN (w : World) (g : Gr) (vn vi vo vt : Value) : Prop where
  nodes : SlIn 5 rdNodeG w vn g.nodes
  ins : SlIn 3 rdValue w vi g.ins
  outs : SlIn 3 rdValue w vo g.outs
  inits : SlIn 4 rdNamed w vt g.inits

def Gr.val (g : Gr) (vn vi vo vt : Value) : Value := .agg #[.string g.name, vn, vi, vo, vt]
def GraphV (w : World) (v : Value) (g : Gr) : Prop := ∃ vn vi vo vt, v = g.val vn vi vo vt ∧ GraphN w g vn vi vo vt

theorem GraphN.below {w w' : World} {g : Gr} {vn vi vo vt : Value} (h : GraphN w g vn vi vo vt) (hB : Below w.heap.size w w') : GraphN w' g vn vi vo vt :=
  ⟨h.nodes.below (rdNodeG_below hB) hB, h.ins.below (rdValue_below hB) hB, h.outs.below (rdValue_below hB) hB, h.inits.below (rdNamed_below hB) hB⟩
theorem GraphV.below {w w' : World} {v : Value} {g : Gr} (h : GraphV w v g) (hB : Below w.heap.size w w') : GraphV w' v g := by
  obtain ⟨a, b, c, d, e, h⟩ := h
  exact ⟨a, b, c, d, e, h.below hB⟩

/-! ### a part of a graph's -/

theorem value_at {w : World} {v : Value} {l : List Vl} (h : SlIn 3 rdValue w v l) {j : Nat} {x : Vl} (hj : l[j]? = some x) : ∃ b off cap vd, v = .slice (some ⟨b, off, none⟩) l.length cap ∧ b < w.heap.size ∧ w.cell? ⟨b, off + j * 3, none⟩ = some (.string x.name) ∧ w.cell? ⟨b, off + j * 3 + 1, none⟩ = some (.int .i64 x.typ) ∧ w.cell? ⟨b, off + j * 3 + 2, none⟩ = some vd ∧ x.name.size ≤ 1048576 ∧ InI x.typ ∧ IntsIn w vd x.dims := by
  obtain ⟨b, off, cap, cs, rfl, hb, _, _, ⟨vd, rfl, h1, h2, h3⟩, hc⟩ := h.rows j x hj
  exact ⟨b, off, cap, vd, rfl, hb, hc 0 _ rfl, hc 1 _ rfl, hc 2 _ rfl, h1, h2, h3⟩
theorem named_at {w : World} {v : Value} {l : List Nm} (h : SlIn 4 rdNamed w v l) {j : Nat} {x : Nm} (hj : l[j]? = some x) : ∃ b off cap vd vx, v = .slice (some ⟨b, off, none⟩) l.length cap ∧ b < w.heap.size ∧ w.cell? ⟨b, off + j * 4, none⟩ = some (.string x.name) ∧ w.cell? ⟨b, off + j * 4 + 1, none⟩ = some (.int .i64 x.typ) ∧ w.cell? ⟨b, off + j * 4 + 2, none⟩ = some vd ∧ w.cell? ⟨b, off + j * 4 + 3, none⟩ = some vx ∧ x.name.size ≤ 1048576 ∧ InI x.typ ∧ IntsIn w vd x.dims ∧ IntsIn w vx x.data := by
  obtain ⟨b, off, cap, cs, rfl, hb, _, _, ⟨vd, vx, rfl, h1, h2, h3, h4⟩, hc⟩ := h.rows j x hj
  exact ⟨b, off, cap, vd, vx, rfl, hb, hc 0 _ rfl, hc 1 _ rfl, hc 2 _ rfl, hc 3 _ rfl, h1, h2, h3, h4⟩
theorem node_at {w : World} {v : Value} {l : List Nd} (h : SlIn 5 rdNodeG w v l) {j : Nat} {x : Nd} (hj : l[j]? = some x) : ∃ b off cap vin vat, v = .slice (some ⟨b, off, none⟩) l.length cap ∧ b < w.heap.size ∧ w.cell? ⟨b, off + j * 5, none⟩ = some (.string x.op) ∧ w.cell? ⟨b, off + j * 5 + 1, none⟩ = some (.string x.name) ∧ w.cell? ⟨b, off + j * 5 + 2, none⟩ = some vin ∧ w.cell? ⟨b, off + j * 5 + 3, none⟩ = some (.string x.out) ∧ w.cell? ⟨b, off + j * 5 + 4, none⟩ = some vat ∧ NodeN w x vin vat ∧ x.attrs.length ≤ 1048575 ∧ x.out.size ≤ 1048576 ∧ ∀ s ∈ x.ins, s.size ≤ 1048576 := by
  obtain ⟨b, off, cap, cs, rfl, hb, _, _, ⟨vin, vat, rfl, h1, h2, h3, h4⟩, hc⟩ := h.rows j x hj
  exact ⟨b, off, cap, vin, vat, rfl, hb, hc 0 _ rfl, hc 1 _ rfl, hc 2 _ rfl, hc 3 _ rfl, hc 4 _ rfl, h1, h2, h3, h4⟩

/-! ### opening -/

end Go.Proofs.YtagiipecfdmceaaGreatDoor
