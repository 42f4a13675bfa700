import Derived.Test.YtijhdmidffenbaaGreatDoorSchCoim
set_option linter.unusedVariables false
set_option linter.unusedSimpArgs false
namespace Go.Proofs.YtijhdmidffenbaaGreatDoor
open Go.RowKit
structure AttrO (w:World) (B:Nat) (a:At) (vd vx vi:Value):Prop where
 od:w.ownsRow B 3 1 vd a.dims.length (a.dims.map (Value.int .i64))
 ox:w.ownsRow B 2 1 vx a.data.length (a.data.map (Value.int .i64))
 oi:w.ownsRow B 2 1 vi a.ints.length (a.ints.map (Value.int .i64))
theorem AttrO.below {w w':World} {B:Nat} {a:At} {vd vx vi:Value} (h:AttrO w B a vd vx vi) (hB:Below w.heap.size w w'):AttrO w' B a vd vx vi:=⟨owns_below h.od hB,owns_below h.ox hB,owns_below h.oi hB⟩
theorem AttrO.base {w:World} {B B':Nat} {a:At} {vd vx vi:Value} (h:AttrO w B' a vd vx vi) (hB:B≤B'):AttrO w B a vd vx vi:=⟨owns_base h.od hB,owns_base h.ox hB,owns_base h.oi hB⟩
theorem AttrO.grown {w w':World} {B b z n:Nat} {a:At} {vd vx vi v:Value} {xs:List Value} (h:AttrO w B a vd vx vi) (hr:w.ownsRow b 69 z v n xs) (hg:w.grownBy w' v.ownBlock):AttrO w' B a vd vx vi :=
 ⟨h.od.kept hg (owns_apart h.od hr (by decide)),h.ox.kept hg (owns_apart h.ox hr (by decide)),h.oi.kept hg (owns_apart h.oi hr (by decide))⟩
theorem AttrO.setCell {w:World} {B:Nat} {a:At} {vd vx vi:Value} (h:AttrO w B a vd vx vi) {p:Addr} (hp:p.block < B) (u:Value):AttrO (w.setCell p u) B a vd vx vi :=
 ⟨owns_heap h.od fun g hg=>Below.heap_setCell _ _ _ _ (by have:=(h.od.lt g hg).1;omega),owns_heap h.ox fun g hg=>Below.heap_setCell _ _ _ _ (by have:=(h.ox.lt g hg).1;omega),owns_heap h.oi fun g hg=>Below.heap_setCell _ _ _ _ (by have:=(h.oi.lt g hg).1;omega)⟩
abbrev Tri:=Value × Value × Value
def attrC (a:At) (t:Tri):List Value:=[.string a.name,.int .i64 a.kind,.int .i64 a.f,.int .i64 a.i,.string a.s,.int .i64 a.typ,t.1,t.2.1,t.2.2]
def rowC:List At→List Tri→List Value
 | a :: l,t :: ts=>attrC a t++rowC l ts
 | _,_=>[]
theorem rowC_snoc:∀ {l:List At} {ts:List Tri} (a:At) (t:Tri),l.length=ts.length→rowC (l++[a]) (ts++[t])=rowC l ts++attrC a t
 | [],[],a,t,_=>by simp [rowC]
 | [],_ :: _,_,_,h=>by simp at h
 | _ :: _,[],_,_,h=>by simp at h
 | b :: l,u :: ts,a,t,h=>by
  simp only [List.cons_append,rowC]
  rw [rowC_snoc a t (by simpa using h),List.append_assoc]
structure NodeO (w:World) (B:Nat) (n:Nd) (vin vat:Value) (ts:List Tri):Prop where
 ins:w.ownsRow B 9 1 vin n.ins.length (n.ins.map Value.string)
 len:ts.length=n.attrs.length
 row:w.ownsRow B 69 9 vat n.attrs.length (rowC n.attrs ts)
 att:∀ (j:Nat) a t,n.attrs[j]?=some a→ts[j]?=some t→AttrO w B a t.1 t.2.1 t.2.2
theorem NodeO.base {w:World} {B B':Nat} {n:Nd} {vin vat:Value} {ts:List Tri} (h:NodeO w B' n vin vat ts) (hB:B≤B'):NodeO w B n vin vat ts :=
 ⟨owns_base h.ins hB,h.len,owns_base h.row hB,fun j a t h1 h2=>(h.att j a t h1 h2).base hB⟩
theorem box_grown {w w':World} {b:Nat} {cs:Array Value} {t:TypeId} {row:Option Nat} (h:BoxN w b cs t) (hg:w.grownBy w' row) (hne:row≠some b):BoxN w' b cs t :=
 (hg.block b h.lt (fun e=>hne e.symm)).trans h
end Go.Proofs.YtijhdmidffenbaaGreatDoor
