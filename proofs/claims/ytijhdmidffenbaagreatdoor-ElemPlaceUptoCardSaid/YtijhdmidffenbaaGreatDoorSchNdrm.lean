import Derived.Test.YtijhdmidffenbaaGreatDoorSchCorm
set_option linter.unusedVariables false
set_option linter.unusedSimpArgs false
namespace Go.Proofs.YtijhdmidffenbaaGreatDoor
open Go.RowKit
structure AttrO (w:World) (B:Nat) (a:At) (vd vx vi:Value):Prop where
 od:w.ownsRow B 3 1 vd a.dims.length (a.dims.map (Value.int .i64))
 ox:w.ownsRow B 2 1 vx a.data.length (a.data.map (Value.int .i64))
 oi:w.ownsRow B 2 1 vi a.ints.length (a.ints.map (Value.int .i64))
theorem AttrO.setCell {w:World} {B:Nat} {a:At} {vd vx vi:Value} (h:AttrO w B a vd vx vi) {p:Addr} (hp:p.block < B) (u:Value):AttrO (w.setCell p u) B a vd vx vi :=
 ⟨owns_heap h.od fun g hg=>Below.heap_setCell _ _ _ _ (by have:=(h.od.lt g hg).1;omega),owns_heap h.ox fun g hg=>Below.heap_setCell _ _ _ _ (by have:=(h.ox.lt g hg).1;omega),owns_heap h.oi fun g hg=>Below.heap_setCell _ _ _ _ (by have:=(h.oi.lt g hg).1;omega)⟩
abbrev Tri:=Value × Value × Value
def attrC (a:At) (t:Tri):List Value:=[.string a.name,.int .i64 a.kind,.int .i64 a.f,.int .i64 a.i,.string a.s,.int .i64 a.typ,t.1,t.2.1,t.2.2]
def rowC:List At→List Tri→List Value
 | a :: l,t :: ts=>attrC a t++rowC l ts
 | _,_=>[]
structure NodeO (w:World) (B:Nat) (n:Nd) (vin vat:Value) (ts:List Tri):Prop where
 ins:w.ownsRow B 9 1 vin n.ins.length (n.ins.map Value.string)
 len:ts.length=n.attrs.length
 row:w.ownsRow B 69 9 vat n.attrs.length (rowC n.attrs ts)
 att:∀ (j:Nat) a t,n.attrs[j]?=some a→ts[j]?=some t→AttrO w B a t.1 t.2.1 t.2.2
theorem box_grown {w w':World} {b:Nat} {cs:Array Value} {t:TypeId} {row:Option Nat} (h:BoxN w b cs t) (hg:w.grownBy w' row) (hne:row≠some b):BoxN w' b cs t :=
 (hg.block b h.lt (fun e=>hne e.symm)).trans h
end Go.Proofs.YtijhdmidffenbaaGreatDoor
