import Derived.Test.YtijhdmidffenbaaGreatDoorSchNdrm
set_option linter.unusedVariables false
set_option linter.unusedSimpArgs false
namespace Go.Proofs.YtijhdmidffenbaaGreatDoor
open Go.RowKit
structure AttrB (a:At):Prop where
 d:a.dims.length * 8≤140737488351232∧∀ z ∈ a.dims,InI z
 x:a.data.length * 8≤140737488351232∧∀ z ∈ a.data,InI z
 i:a.ints.length * 8≤140737488351232∧∀ z ∈ a.ints,InI z
 wk:InI a.kind
 wf:InI a.f
 wi:InI a.i
 wt:InI a.typ
 zn:a.name.size≤1048576
 zs:a.s.size≤1048576
theorem AttrO.reads {w:World} {B:Nat} {a:At} {vd vx vi:Value} (h:AttrO w B a vd vx vi) (hb:AttrB a):AttrN w a vd vx vi :=
 ⟨IntsIn.of_owns h.od hb.d.1 hb.d.2,IntsIn.of_owns h.ox hb.x.1 hb.x.2,IntsIn.of_owns h.oi hb.i.1 hb.i.2,hb.wk,hb.wf,hb.wi,hb.wt,hb.zn,hb.zs⟩
theorem add_off (b o i:Nat):(⟨b,o,none⟩:Addr).add i=⟨b,o+i,none⟩:=by
 unfold Addr.add;split
 ·rename_i h;subst h;rfl
 ·rfl
theorem rowC_get:∀ {l:List At} {ts:List Tri} {j:Nat} {a:At} {t:Tri} {i:Nat} {u:Value},l[j]?=some a→ts[j]?=some t→(attrC a t)[i]?=some u→(rowC l ts)[j * 9+i]?=some u
 | [],_,j,a,t,i,u,h,_,_=>by simp at h
 | _ :: _,[],j,a,t,i,u,_,h,_=>by simp at h
 | b :: l,s :: ts,0,a,t,i,u,h1,h2,h3=>by
  simp only [List.getElem?_cons_zero,Option.some.injEq] at h1 h2;subst h1 h2;have hi:i < (attrC b s).length:=(List.getElem?_eq_some_iff.1 h3).1;show (attrC b s++rowC l ts)[0 * 9+i]?=some u;rw [Nat.zero_mul,Nat.zero_add,List.getElem?_append_left hi];exact h3
 | b :: l,s :: ts,j+1,a,t,i,u,h1,h2,h3=>by
  show (attrC b s++rowC l ts)[(j+1) * 9+i]?=some u;rw [List.getElem?_append_right (by simp [attrC];omega)];have e:(j+1) * 9+i - (attrC b s).length=j * 9+i:=by simp [attrC];omega
  rw [e];exact rowC_get (by simpa using h1) (by simpa using h2) h3
theorem BoxN.five {W:World} {b:Nat} {x0 x1 x2 x3 x4:Value} {t:TypeId} (h:BoxN W b #[x0,x1,x2,x3,x4] t):W.cell? ⟨b,0,none⟩=some x0∧W.cell? ⟨b,1,none⟩=some x1∧W.cell? ⟨b,2,none⟩=some x2∧W.cell? ⟨b,3,none⟩=some x3∧W.cell? ⟨b,4,none⟩=some x4:=⟨h.cell 0 rfl,h.cell 1 rfl,h.cell 2 rfl,h.cell 3 rfl,h.cell 4 rfl⟩
structure AttrsO (w:World) (B:Nat) (l:List At) (vat:Value) (ts:List Tri):Prop where
 len:ts.length=l.length
 row:w.ownsRow B 69 9 vat l.length (rowC l ts)
 att:∀ (j:Nat) a t,l[j]?=some a→ts[j]?=some t→AttrO w B a t.1 t.2.1 t.2.2
theorem AttrsO.reads {w:World} {B:Nat} {l:List At} {vat:Value} {ts:List Tri} (h:AttrsO w B l vat ts) (hl:l.length≤1048576) (hb:∀ a ∈ l,AttrB a):AttrsIn w vat l:=by
 obtain ⟨h1,h2⟩:=h.row;rcases h2 with ⟨rfl,h0⟩ | ⟨g,cap,cur,rfl,hbb,hg,hc,hm,hs,ht⟩
 ·rw [List.length_eq_zero_iff.1 h0];exact .empty none 0
 ·by_cases h0:l=[]
  ·subst h0;exact .empty _ cap
  ·refine .row g 0 cap l h0 hc (Array.getElem?_eq_some_iff.1 hg).1 (fun j a hj=>?_) hl;have hjl:j < l.length:=(List.getElem?_eq_some_iff.1 hj).1;obtain ⟨t,ht⟩:∃ t,ts[j]?=some t:=⟨_,List.getElem?_eq_getElem (by rw [h.len];exact hjl)⟩;have hcell:∀ (i:Nat) u,(attrC a t)[i]?=some u→w.cell? ⟨g,0+j * 9+i,none⟩=some u:=fun i u hu=>by
    have:=h.row.cells (g:=g) rfl _ u (rowC_get hj ht hu);rw [add_off] at this;rw [show 0+j * 9+i=0+(j * 9+i) by omega];exact this
   exact ⟨t.1,t.2.1,t.2.2,⟨hcell 0 _ rfl,hcell 1 _ rfl,hcell 2 _ rfl,hcell 3 _ rfl,hcell 4 _ rfl,hcell 5 _ rfl,hcell 6 _ rfl,hcell 7 _ rfl,hcell 8 _ rfl⟩,(h.att j a t hj ht).reads (hb a (List.mem_of_getElem? hj))⟩
theorem NodeO.attrs {w:World} {B:Nat} {n:Nd} {vin vat:Value} {ts:List Tri} (h:NodeO w B n vin vat ts):AttrsO w B n.attrs vat ts:=⟨h.len,h.row,h.att⟩
theorem AttrO.stored {w:World} {B b:Nat} {a:At} {vd vx vi:Value} {cs:Array Value} (h:AttrO w B a vd vx vi) (hb:BoxN w b cs 25) (i:Nat) (u:Value):AttrO (w.setCell ⟨b,i,none⟩ u) B a vd vx vi :=
 ⟨owns_heap h.od fun g hg=>Below.heap_setCell _ _ _ _ (owns_box h.od hb (by decide) g hg),owns_heap h.ox fun g hg=>Below.heap_setCell _ _ _ _ (owns_box h.ox hb (by decide) g hg),owns_heap h.oi fun g hg=>Below.heap_setCell _ _ _ _ (owns_box h.oi hb (by decide) g hg)⟩
theorem NodeO.stored {w:World} {B b:Nat} {n:Nd} {vin vat:Value} {ts:List Tri} {cs:Array Value} (h:NodeO w B n vin vat ts) (hb:BoxN w b cs 25) (i:Nat) (u:Value):NodeO (w.setCell ⟨b,i,none⟩ u) B n vin vat ts where
 ins:=owns_heap h.ins fun g hg=>Below.heap_setCell _ _ _ _ (owns_box h.ins hb (by decide) g hg)
 len:=h.len
 row:=owns_heap h.row fun g hg=>Below.heap_setCell _ _ _ _ (owns_box h.row hb (by decide) g hg)
 att:=fun j a t h1 h2=>(h.att j a t h1 h2).stored hb i u
end Go.Proofs.YtijhdmidffenbaaGreatDoor
