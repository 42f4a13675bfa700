import Derived.Test.YtijhdmidffenbaaGreatDoorIbM2im
import Derived.Test.YtijhdmidffenbaaGreatDoorGrDim
import Derived.Test.YtijhdmidffenbaaGreatDoorSchCnim
import Derived.Test.YtijhdmidffenbaaGreatDoorSchNoim
import Derived.Test.YtijhdmidffenbaaGreatDoorSchCim
open Go.Lib (hid)
set_option linter.unusedVariables false
set_option linter.unusedSimpArgs false
namespace Go.Proofs.YtijhdmidffenbaaGreatDoor
open Go.RowKit
set_option maxRecDepth 100000
theorem owns_putN {w:World} {B g cap n k:Nat} {ss:List ByteArray} (h:w.ownsRow B 9 1 (.slice (some ⟨g,0,none⟩) n cap) n (ss.map Value.string)) (s:ByteArray):(w.setCell ⟨g,k,none⟩ (.string s)).ownsRow B 9 1 (.slice (some ⟨g,0,none⟩) n cap) n ((ss.set k s).map Value.string):=by
 rw [List.map_set]
 exact (h.stored k (.string s)).1
theorem owns_frozenN {w:World} {base z g m cap n:Nat} {e:TypeId} {xs:List Value} (h:w.ownsRow base e z (.slice (some ⟨g,0,none⟩) m cap) n xs) (j:Nat):w.frozen? ⟨g,j,none⟩=false:=by
 obtain ⟨_,_,e⟩:=owns_form h
 obtain ⟨_,rfl,_⟩:=Value.slice.inj e
 exact h.frozenAt j
theorem owns_setN {w:World} {B:Nat} {e:TypeId} {sz g n cap j:Nat} {xs:List Value} (u:Value) (h:w.ownsRow B e sz (.slice (some ⟨g,0,none⟩) n cap) n xs):(w.setCell ⟨g,j,none⟩ u).ownsRow B e sz (.slice (some ⟨g,0,none⟩) n cap) n (xs.set j u):=by
 refine ⟨by rw [List.length_set];exact h.1,?_⟩
 rcases h.2 with ⟨c,_⟩ | ⟨g',cap',cur,e',hb,hg,hn,hc,hs,ht⟩
 ·cases c
 ·obtain ⟨e1,_,rfl⟩:=Value.slice.inj e'
  obtain rfl:g=g':=by simpa using e1
  refine .inr ⟨g,cap,cur.setIfInBounds j u,rfl,hb,?_,hn,hc,by simpa using hs,?_⟩
  ·exact BoxN.set (show BoxN w g cur e from hg) j u
  ·rw [Array.toList_setIfInBounds,List.take_set,ht]
theorem owns_boxM {w:World} {B:Nat} {e:TypeId} {sz g n cap:Nat} {xs:List Value} (h:w.ownsRow B e sz (.slice (some ⟨g,0,none⟩) n cap) n xs):∃ cur,BoxN w g cur e:=by
 rcases h.2 with ⟨c,_⟩ | ⟨g',cap',cur,e',hb,hg,hn,hc,hs,ht⟩
 ·cases c
 ·obtain ⟨e1,_,rfl⟩:=Value.slice.inj e'
  obtain rfl:g=g':=by simpa using e1
  exact ⟨cur,hg⟩
theorem owns_other {w:World} {B n b i:Nat} {e:TypeId} {sz:Nat} {v u:Value} {xs:List Value} {cs:Array Value} {t:TypeId} (h:w.ownsRow B e sz v n xs) (hb:BoxN w b cs t) (hne:e≠t):(w.setCell ⟨b,i,none⟩ u).ownsRow B e sz v n xs :=
 owns_heap h fun g hg=>Below.heap_setCell _ _ _ _ (owns_box h hb hne g hg)
theorem NodeO.putN {w:World} {B g cap k m:Nat} {n:Nd} {vat:Value} {ts:List Tri} (h:NodeO w B n (.slice (some ⟨g,0,none⟩) m cap) vat ts) (s:ByteArray) :
  NodeO (w.setCell ⟨g,k,none⟩ (.string s)) B { n with ins:=n.ins.set k s } (.slice (some ⟨g,0,none⟩) m cap) vat ts:=by
 obtain ⟨_,_,e⟩:=owns_form h.ins
 obtain ⟨_,rfl,_⟩:=Value.slice.inj e
 have hne:∀ {e z m:_} {v:Value} {xs:List Value},w.ownsRow B e z v m xs→e≠9 → (w.setCell ⟨g,k,none⟩ (.string s)).ownsRow B e z v m xs:=fun {e z m v xs} hr hn=>owns_heap hr fun x hx=>Below.heap_setCell _ _ _ _ (fun e2=>by
  rcases owns_apart hr h.ins hn with h1 | h1
  ·rw [h1] at hx;cases hx
  ·exact h1 (by rw [hx];simp only at e2;rw [e2];rfl))
 exact { ins:=by rw [show ({ n with ins:=n.ins.set k s }:Nd).ins.length=n.ins.length from List.length_set];exact owns_putN h.ins s,len:=h.len,row:=hne h.row (by decide),att:=fun j a t h1 h2=>⟨hne (h.att j a t h1 h2).od (by decide),hne (h.att j a t h1 h2).ox (by decide),hne (h.att j a t h1 h2).oi (by decide)⟩ }
theorem NodeO.otherV {w:World} {B b i:Nat} {u:Value} {n:Nd} {vin vat:Value} {ts:List Tri} {cs:Array Value} (h:NodeO w B n vin vat ts) (hb:BoxN w b cs 29):NodeO (w.setCell ⟨b,i,none⟩ u) B n vin vat ts where
 ins:=owns_other h.ins hb (by decide)
 len:=h.len
 row:=owns_other h.row hb (by decide)
 att:=fun j a t h1 h2=>⟨owns_other (h.att j a t h1 h2).od hb (by decide),owns_other (h.att j a t h1 h2).ox hb (by decide),owns_other (h.att j a t h1 h2).oi hb (by decide)⟩
theorem ValuesO.otherS {w:World} {B b i:Nat} {u:Value} {l:List Vl} {vv:Value} {ds:List Value} {cs:Array Value} (h:ValuesO w B l vv ds) (hb:BoxN w b cs 9):ValuesO (w.setCell ⟨b,i,none⟩ u) B l vv ds :=
 ⟨h.len,owns_other h.row hb (by decide),fun j x d h1 h2=>owns_other (h.att j x d h1 h2) hb (by decide)⟩
theorem rowV_set:∀ {l:List Vl} {ds:List Value} {k:Nat} {x:Vl} {s:ByteArray},l[k]?=some x→l.length=ds.length→rowV (l.set k { x with name:=s }) ds=(rowV l ds).set (k * 3) (.string s)
 | [],_,k,x,s,h,_=>by simp at h
 | _ :: _,[],k,x,s,_,h=>by simp at h
 | b :: l,d :: ds,0,x,s,h,hl=>by
  obtain rfl:=Option.some.inj h
  rw [List.set_cons_zero,rowV,rowV,Nat.zero_mul]
  rfl
 | b :: l,d :: ds,k+1,x,s,h,hl=>by
  rw [List.set_cons_succ,rowV,rowV,List.set_append_right _ _ (by simp [valC];omega)]
  rw [rowV_set (by simpa using h) (by simpa using hl)]
  have:(k+1) * 3 - (valC b d).length=k * 3:=by simp [valC];omega
  rw [this]
theorem ValuesO.setName {w:World} {B g n cap k:Nat} {l:List Vl} {ds:List Value} {x:Vl} (h:ValuesO w B l (.slice (some ⟨g,0,none⟩) n cap) ds) (hn:l.length=n) (hk:l[k]?=some x) (s:ByteArray) :
  ValuesO (w.setCell ⟨g,k * 3,none⟩ (.string s)) B (l.set k { x with name:=s }) (.slice (some ⟨g,0,none⟩) n cap) ds:=by
 have hr:=h.row
 rw [hn] at hr
 obtain ⟨cur,hb⟩:=owns_boxM hr
 refine ⟨by rw [List.length_set];exact h.len,?_,fun j y d h1 h2=>?_⟩
 ·rw [List.length_set,hn,rowV_set hk h.len.symm]
  exact owns_setN _ hr
 ·by_cases e:k=j
  ·subst e
   rw [List.getElem?_set_self (List.getElem?_eq_some_iff.1 hk).1] at h1
   obtain rfl:=Option.some.inj h1
   exact owns_other (h.att k x d hk h2) hb (by decide)
  ·rw [List.getElem?_set_ne e] at h1
   exact owns_other (h.att j y d h1 h2) hb (by decide)
theorem values_sl {w:World} {B:Nat} {l:List Vl} {vv:Value} {ds:List Value} (h:ValuesO w B l vv ds) (hl:l.length≤1048575) (hb:∀ x ∈ l,x.name.size≤1048576∧InI x.typ∧x.dims.length * 8≤140737488351232∧∀ z ∈ x.dims,InI z):SlIn 3 rdValue w vv l:=by
 by_cases h0:l=[]
 ·subst h0
  obtain ⟨a,c,rfl⟩:=owns_form h.row
  exact .empty a c
 ·have hp:0 < l.length:=List.length_pos_iff.2 h0
  obtain ⟨g,cap,e,hB,hg⟩:=World.ownsRow.form h.row hp
  have hr:=h.row
  subst e
  have hblk:=(World.ownsRow.lt hr g rfl).2
  have hcap:l.length≤cap:=by
   obtain ⟨_,h1 | ⟨g',cap',cur,e,_,_,hc,_⟩⟩:=hr
   ·omega
   ·obtain ⟨_,_,rfl⟩:=Value.slice.inj e
    exact hc
  refine .row g 0 cap l h0 hcap hblk (fun j x hj=>?_) (by omega)
  have hjl:=(List.getElem?_eq_some_iff.1 hj).1
  obtain ⟨d,hd⟩:∃ d,ds[j]?=some d:=⟨_,List.getElem?_eq_getElem (by rw [h.len];exact hjl)⟩
  obtain ⟨b1,b2,b3,b4⟩:=hb x (List.mem_of_getElem? hj)
  refine ⟨valC x d,rfl,⟨d,rfl,b1,b2,IntsIn.of_owns (h.att j x d hj hd) (by omega) b4⟩,fun i u hu=>?_⟩
  have:=World.ownsRow.cells hr (g:=g) rfl (j * 3+i) u (rowV_get hj hd hu)
  rw [show (⟨g,0,none⟩:Addr).add (j * 3+i)=⟨g,j * 3+i,none⟩ from by rw [add_some,Nat.zero_add]] at this
  rw [show 0+j * 3+i=j * 3+i by omega]
  exact this
theorem sl_bounds {w:World} {v:Value} {l:List Vl} (h:SlIn 3 rdValue w v l):∀ x ∈ l,x.name.size≤1048576∧InI x.typ∧x.dims.length * 8≤140737488351232∧∀ z ∈ x.dims,InI z:=fun x hx=>by
 obtain ⟨j,hj⟩:=List.getElem?_of_mem hx
 obtain ⟨b,off,cap,cs,rfl,hb,_,_,⟨vd,rfl,h1,h2,h3⟩,hc⟩:=h.rows j x hj
 exact ⟨h1,h2,h3.wf.1,h3.wf.2⟩
def renI (nm:ByteArray) (k:Nat) (ins:List ByteArray):List ByteArray:=List.replicate k nm++ins.drop k
theorem renI_len {nm:ByteArray} {k:Nat} {ins:List ByteArray} (h:k≤ins.length):(renI nm k ins).length=ins.length:=by simp [renI];omega
theorem renI_get {nm:ByteArray} {k:Nat} {ins:List ByteArray}:(renI nm k ins)[k]?=ins[k]?:=by
 unfold renI
 rw [List.getElem?_append_right (by simp)]
 simp
theorem renI_set {nm:ByteArray} {k:Nat} {ins:List ByteArray} (h:k < ins.length):(renI nm k ins).set k nm=renI nm (k+1) ins:=by
 unfold renI
 rw [List.set_append_right _ _ (by simp),List.length_replicate,Nat.sub_self,List.drop_eq_getElem_cons h,List.set_cons_zero,List.replicate_succ',List.append_assoc]
 rfl
theorem renI_all {nm:ByteArray} {ins:List ByteArray}:∀ s ∈ renI nm ins.length ins,s=nm:=fun s hs=>by
 unfold renI at hs
 rw [List.drop_length,List.append_nil] at hs
 exact List.eq_of_mem_replicate hs
def renV (nm:ByteArray) (k:Nat) (l:List Vl):List Vl:=(l.take k).map (fun x=>{ x with name:=nm })++l.drop k
theorem renV_len {nm:ByteArray} {k:Nat} {l:List Vl} (h:k≤l.length):(renV nm k l).length=l.length:=by simp [renV];omega
theorem renV_get {nm:ByteArray} {k:Nat} {l:List Vl} (h:k≤l.length):(renV nm k l)[k]?=l[k]?:=by
 unfold renV
 rw [List.getElem?_append_right (by simp;omega)]
 simp only [List.length_map,List.length_take]
 rw [Nat.min_eq_left h,Nat.sub_self,List.getElem?_drop,Nat.add_zero]
theorem renV_set {nm:ByteArray} {k:Nat} {l:List Vl} {x:Vl} (h:l[k]?=some x):(renV nm k l).set k { x with name:=nm }=renV nm (k+1) l:=by
 obtain ⟨hk,e⟩:=List.getElem?_eq_some_iff.1 h
 unfold renV
 rw [List.set_append_right _ _ (by simp;omega)]
 simp only [List.length_map,List.length_take]
 rw [Nat.min_eq_left (by omega),Nat.sub_self,List.drop_eq_getElem_cons hk,List.set_cons_zero,List.take_add_one,h,List.map_append,List.append_assoc]
 rfl
theorem renV_zero {nm:ByteArray} {l:List Vl}:renV nm 0 l=l:=by simp [renV]
theorem renV_map {nm:ByteArray} {l:List Vl}:(renV nm l.length l).map (fun v=>(v.typ,v.dims))=l.map (fun v=>(v.typ,v.dims)):=by
 unfold renV
 rw [List.take_length,List.drop_length,List.append_nil,List.map_map]
 rfl
theorem renV_bounds {nm:ByteArray} {l:List Vl} (hn:nm.size≤1048576) (h:∀ x ∈ l,x.name.size≤1048576∧InI x.typ∧x.dims.length * 8≤140737488351232∧∀ z ∈ x.dims,InI z):∀ x ∈ renV nm l.length l,x.name.size≤1048576∧InI x.typ∧x.dims.length * 8≤140737488351232∧∀ z ∈ x.dims,InI z:=fun x hx=>by
 unfold renV at hx
 rw [List.take_length,List.drop_length,List.append_nil] at hx
 obtain ⟨y,hy,rfl⟩:=List.mem_map.1 hx
 exact ⟨hn,(h y hy).2⟩
theorem emp_of {s:ByteArray} (h:s.toList=[]):s=⟨#[]⟩:=toList_inj (by rw [h,ByteArray.toList_eq])
attribute [local irreducible] inferO cnt chk checkP renI renV
set_option maxHeartbeats 16000000 in
theorem names08_any {w:World} {vn vv:Value} {n:Nd} {ins:List Vl} {nm:ByteArray} (hn:NodeV w vn n) (hb:n.attrs.length≤1048575) (hs:SlIn 3 rdValue w vv ins) (hnm:nm.size≤1048576) (hG:Glob w) (hax:(intsP n.attrs nmAxes []).length * 8+48≤140737488351232) :
  Calls Tryz.prog 3 #[vn,vv,.string nm] w fun e w'=>e=.returned (.bool true)∧Below w.heap.size w w':=by
 obtain ⟨vin,vat,rfl,hm⟩:=hn
 obtain ⟨a1,c1,rfl⟩:=hm.is.form
 obtain ⟨a2,c2,rfl⟩:=hm.ia.form
 obtain ⟨a3,c3,rfl⟩:=hs.form
 have hil:=hs.len
 have hnl:=hm.is.len
 have HN:=hid hm
 have HS:=hid hs
 have HG:=hid hG
 have HAX:=hid hax
 have HBd:=hid (sl_bounds hs)
 clear hm hs hG hax
 have HLv:=hid (fun (W:World) (hB:Below w.heap.size w W)=>live08_any (HG.out.below hB))
 have HGd:=hid (fun h=>inferO_gd (n:=n) (ins:=ins) h)
 unfold Nd.val
 have HB1:=hid ((Below.refl w.heap.size w).alloc (Nat.le_refl _) (Obj.cells #[.string n.op,.string n.name,.slice a1 n.ins.length c1,.string n.out,.slice a2 n.attrs.length c2] 25))
 have HA1:=hid (BoxN.new w #[.string n.op,.string n.name,.slice a1 n.ins.length c1,.string n.out,.slice a2 n.attrs.length c2] 25)
 go_enter Tryz.func3,Tryz.ntmps3
 go_wp2_with fail
 generalize World.alloc w _=W1 at HB1 HA1 ⊢
 refine (infer_any (n:=n) (ins:=ins) ⟨_,_,rfl,HN.out.below HB1.out⟩ (HS.out.below (rdValue_below HB1.out) HB1.out) (HG.out.below HB1.out) HAX.out).mono ?_
 rintro e w2 ⟨B2,⟨hne,rfl⟩ | ⟨h0,v2,rfl,hr2⟩⟩
 ·have HB2:=hid (HB1.out.trans (B2.mono HB1.out.size))
  have hb':((inferO n ins).1 != 0)=true:=by simpa using hne
  generalize (inferO n ins).1=q at *
  clear hne B2 HA1
  go_wp2_with fail
  have HB3:Hid (Below w.heap.size w (w2.alloc (Obj.cells #[.string ⟨#[]⟩,.int .i64 0,.slice none 0 0] 29))):=hid (HB2.out.alloc HB2.out.size _)
  generalize w2.alloc _=w3 at HB3 ⊢
  refine (HLv.out _ HB3.out).mono ?_
  rintro e w4 ⟨rfl,B4⟩
  have HB4:=hid (HB3.out.trans (B4.mono HB3.out.size))
  clear B4
  go_wp2
  go_ret
  exact ⟨rfl,HB4.out⟩
 have HB2:=hid (HB1.out.trans (B2.mono HB1.out.size))
 have HA2:=hid (HA1.out.below' B2)
 have hgd:=HGd.out h0
 have HPL:=hid (fun (m:Nd) (h1:m.op=n.op) (h2:m.attrs=n.attrs) (h3:m.ins.length=n.ins.length) (h4:m.out≠⟨#[]⟩) (h5:∀ s ∈ m.ins,s≠⟨#[]⟩)=>names_plain (n:=n) (m:=m) (ins:=ins) (jns:=renV nm ins.length ins) h1 h2 h3 h4 h5 renV_map h0)
 obtain ⟨oo,ho⟩:∃ o,inferO n ins=o:=⟨_,rfl⟩
 rw [ho] at h0 hr2 hgd
 have HPL:=hid (fun (m:Nd) (h1:m.op=n.op) (h2:m.attrs=n.attrs) (h3:m.ins.length=n.ins.length) (h4:m.out≠⟨#[]⟩) (h5:∀ s ∈ m.ins,s≠⟨#[]⟩)=>(HPL.out m h1 h2 h3 h4 h5).trans ho)
 rw [ho]
 clear ho
 obtain ⟨r0,t,ds⟩:=oo
 dsimp only at h0 hr2 hgd
 subst h0
 have HI2:Hid (IntsIn w2 v2 ds):=hid (hr2.ints hgd.1 hgd.2)
 have HGD:=hid hgd
 obtain ⟨a4,c4,rfl⟩:=HI2.out.shape
 clear hr2 hgd B2 HA1 HGd
 have HB23:Hid (Below w2.heap.size w2 (w2.alloc (Obj.cells #[.string n.out,.int .i64 t,.slice a4 ds.length c4] 29))):=hid ((Below.refl _ w2).alloc (Nat.le_refl _) _)
 have HB3:Hid (Below w.heap.size w (w2.alloc (Obj.cells #[.string n.out,.int .i64 t,.slice a4 ds.length c4] 29))):=hid (HB2.out.trans (HB23.out.mono HB2.out.size))
 have HU:=hid (BoxN.new w2 #[.string n.out,.int .i64 t,.slice a4 ds.length c4] 29)
 have HA3:=hid (HA2.out.below' HB23.out)
 have HI3:=hid (HI2.out.below HB23.out)
 clear HA2 HI2
 by_cases hse:nm=⟨#[]⟩
 ·subst hse
  go_wp2_with fail
  generalize w2.alloc (Obj.cells #[.string n.out,.int .i64 t,.slice a4 ds.length c4] 29)=w3 at HB3 ⊢
  refine (HLv.out _ HB3.out).mono ?_
  rintro e w4 ⟨rfl,B4⟩
  have HB4:=hid (HB3.out.trans (B4.mono HB3.out.size))
  clear B4
  go_wp2
  go_ret
  exact ⟨rfl,HB4.out⟩
 have HNE:=hid hse
 have hsl:nm.toList.isEmpty=false:=by
  cases h:nm.toList.isEmpty with
  | false=>rfl
  | true=>exact absurd (emp_of (by simpa using h)) hse
 have hsl2:(nm.toList=[])=False:=by
  rw [eq_iff_iff]
  exact ⟨fun h=>(by rw [h] at hsl;cases hsl),False.elim⟩
 clear hse
 obtain ⟨k0,k1,k2,k3,k4⟩:=HA3.out.five
 go_wp2_with fail
 clear k0 k1 k2 k3 k4 hsl hsl2
 generalize w2.alloc (Obj.cells #[.string n.out,.int .i64 t,.slice a4 ds.length c4] 29)=w3 at HB23 HB3 HU HA3 HI3 ⊢
 generalize w2.heap.size=U2 at HU ⊢
 refine (copynode_core (n:=n) (HN.out.below HB3.out)).mono ?_
 rintro e w4 ⟨vin',vat',tss,rfl,ho,B4⟩
 obtain ⟨a5,c5,rfl⟩:=owns_form ho.ins
 obtain ⟨a6,c6,rfl⟩:=owns_form ho.row
 have HB4:Hid (Below w3.heap.size w3 w4):=hid B4
 have HO4:=hid ho
 clear B4 ho
 unfold Nd.val
 go_wp2_with fail
 have HM5:=hid (BoxN.new w4 #[.string n.op,.string nm,.slice a5 n.ins.length c5,.string nm,.slice a6 n.attrs.length c6] 25)
 have HB45:Hid (Below w4.heap.size w4 (w4.alloc (Obj.cells #[.string n.op,.string nm,.slice a5 n.ins.length c5,.string nm,.slice a6 n.attrs.length c6] 25))):=hid ((Below.refl _ w4).alloc (Nat.le_refl _) _)
 have HB5:=hid (HB4.out.trans (HB45.out.mono HB4.out.size))
 have HO5:=hid (HO4.out.below HB45.out)
 clear HO4 HB45
 generalize w4.alloc _=w5 at HM5 HB5 HO5 ⊢
 generalize w4.heap.size=mb at HM5 ⊢
 refine (copyvalues_any (l:=ins) (HS.out.below (rdValue_below (HB3.out.trans (HB5.out.mono HB3.out.size))) (HB3.out.trans (HB5.out.mono HB3.out.size)))).mono ?_
 rintro e w6 ⟨vv6,dvs,rfl,hv6,B6⟩
 obtain ⟨a7,c7,rfl⟩:=owns_form hv6.row
 have HB6:=hid (HB5.out.trans (B6.mono HB5.out.size))
 have HM6:=hid (HM5.out.below' B6)
 have HO6:=hid (HO5.out.below B6)
 have HV6:=hid (hv6.base HB5.out.size)
 clear B6 hv6 HM5 HO5 HB5 HB4
 go_wp2_with fail
 go_loopw [11] (fun i wr=>∃ k:Nat,k≤n.ins.length∧i=.int .i64 (k:Int)∧Hid (BoxN wr mb #[.string n.op,.string nm,.slice a5 n.ins.length c5,.string nm,.slice a6 n.attrs.length c6] 25)∧Hid (NodeO wr w3.heap.size { n with ins:=renI nm k n.ins } (.slice a5 n.ins.length c5) (.slice a6 n.attrs.length c6) tss)∧Hid (ValuesO wr w3.heap.size ins (.slice a7 ins.length c7) dvs)∧Hid (Below w3.heap.size w3 wr)) (fun i _=>n.ins.length - (intOf i).toNat)
 case atStart=>exact ⟨0,Nat.zero_le _,rfl,HM6,hid (by unfold renI;exact HO6.out),HV6,HB6⟩
 case round =>
  clear HM6 HO6 HV6 HB6
  obtain ⟨k,hk,rfl,hM,hO,hV,hB⟩:=hrel
  have m2:wr.cell? ⟨mb,2,none⟩=some (.slice a5 n.ins.length c5):=hM.out.cell 2 rfl
  by_cases hkl:k < n.ins.length
  ·have hki:(k:Int) < (n.ins.length:Int):=by omega
   obtain ⟨s,hs⟩:∃ s,n.ins[k]?=some s:=⟨_,List.getElem?_eq_getElem hkl⟩
   have hrl:(renI nm k n.ins).length=n.ins.length:=renI_len hk
   obtain ⟨g,cap,hv,_,_⟩:=hO.out.ins.form (by show 0 < (renI nm k n.ins).length;omega)
   obtain ⟨rfl,hle,rfl⟩:=Value.slice.inj hv
   clear hle hv
   have hcell:wr.cell? ⟨g,k,none⟩=some (.string s):=by
    have:=hO.out.ins.cells (g:=g) rfl k (.string s) (by rw [List.getElem?_map,renI_get,hs];rfl)
    rwa [add_some,Nat.zero_add] at this
   have hfree:wr.frozen? ⟨g,k,none⟩=false:=owns_frozenN hO.out.ins k
   have hO':=hO.out.putN (k:=k) nm
   have hset:({ n with ins:=(renI nm k n.ins).set k nm }:Nd) = { n with ins:=renI nm (k+1) n.ins }:=by rw [renI_set hkl]
   rw [show ({ n with ins:=renI nm k n.ins }:Nd).ins=renI nm k n.ins from rfl] at hO'
   rw [hset] at hO'
   have HO':=hid hO'
   have hri:=hO.out.ins
   rw [show ({ n with ins:=renI nm k n.ins }:Nd).ins=renI nm k n.ins from rfl,hrl] at hri
   obtain ⟨cur,hbx⟩:=owns_boxM hri
   have hgM:g≠mb:=fun e=>owns_box hO.out.ins hM.out (by decide) g rfl e
   have hgB:=(hO.out.ins.lt g rfl).1
   have HM':Hid (BoxN (wr.setCell ⟨g,k,none⟩ (.string nm)) mb #[.string n.op,.string nm,.slice (some ⟨g,0,none⟩) n.ins.length c5,.string nm,.slice a6 n.attrs.length c6] 25):=hid ((Below.heap_setCell _ _ _ _ (fun e=>hgM e.symm)).trans hM.out)
   have HV':=hid (hV.out.otherS (i:=k) (u:=.string nm) hbx)
   have HB':Hid (Below w3.heap.size w3 (wr.setCell ⟨g,k,none⟩ (.string nm))):=hid (hB.out.setCell (p:=⟨g,k,none⟩) hgB _)
   clear hO' hs hset hri hbx hgM hrl
   go_wp2_with fail
   go_roundw
   case rel=>exact ⟨k+1,by omega,by go_num,HM',HO',HV',HB'⟩
   case measure=>simp [intOf];omega
  ·have hki:¬ (k:Int) < (n.ins.length:Int):=by omega
   obtain rfl:k=n.ins.length:=by omega
   clear hkl hk
   go_wp2_with fail
   clear m2
   go_loopw [12] (fun i wq=>∃ k:Nat,k≤ins.length∧i=.int .i64 (k:Int)∧Hid (BoxN wq mb #[.string n.op,.string nm,.slice a5 n.ins.length c5,.string nm,.slice a6 n.attrs.length c6] 25)∧Hid (NodeO wq w3.heap.size { n with ins:=renI nm n.ins.length n.ins } (.slice a5 n.ins.length c5) (.slice a6 n.attrs.length c6) tss)∧Hid (ValuesO wq w3.heap.size (renV nm k ins) (.slice a7 ins.length c7) dvs)∧Hid (Below w3.heap.size w3 wq)) (fun i _=>ins.length - (intOf i).toNat)
   case atStart=>exact ⟨0,Nat.zero_le _,rfl,hM,hO,hid (by rw [renV_zero];exact hV.out),hB⟩
   case round =>
    clear hM hO hV hB
    rename_i wq _ _ _
    obtain ⟨k,hk,rfl,hM,hO,hV,hB⟩:=hrel
    by_cases hkl:k < ins.length
    ·have hki:(k:Int) < (ins.length:Int):=by omega
     obtain ⟨x,hx⟩:∃ x,ins[k]?=some x:=⟨_,List.getElem?_eq_getElem hkl⟩
     have hrl:(renV nm k ins).length=ins.length:=renV_len hk
     have hrx:(renV nm k ins)[k]?=some x:=by rw [renV_get hk];exact hx
     obtain ⟨g,cap,hv,_,_⟩:=hV.out.row.form (by omega)
     obtain ⟨rfl,hle,rfl⟩:=Value.slice.inj hv
     clear hle hv
     obtain ⟨d,hd⟩:∃ d,dvs[k]?=some d:=⟨_,List.getElem?_eq_getElem (by rw [hV.out.len];omega)⟩
     have hcell:wr.cell? ⟨g,k * 3,none⟩=some (.string x.name):=by
      have:=hV.out.row.cells (g:=g) rfl (k * 3+0) (.string x.name) (rowV_get hrx hd rfl)
      rwa [add_some,Nat.zero_add] at this
     have hfree:wr.frozen? ⟨g,k * 3,none⟩=false:=owns_frozenN hV.out.row (k * 3)
     have hV':=hV.out.setName hrl hrx nm
     rw [renV_set hx] at hV'
     have HV':=hid hV'
     have hri:=hV.out.row
     rw [hrl] at hri
     obtain ⟨cur,hbx⟩:=owns_boxM hri
     have hgM:g≠mb:=fun e=>owns_box hV.out.row hM.out (by decide) g rfl e
     have hgB:=(hV.out.row.lt g rfl).1
     have HM':Hid (BoxN (wr.setCell ⟨g,k * 3,none⟩ (.string nm)) mb #[.string n.op,.string nm,.slice a5 n.ins.length c5,.string nm,.slice a6 n.attrs.length c6] 25):=hid ((Below.heap_setCell _ _ _ _ (fun e=>hgM e.symm)).trans hM.out)
     have HO':=hid (hO.out.otherV (i:=k * 3) (u:=.string nm) hbx)
     have HB':Hid (Below w3.heap.size w3 (wr.setCell ⟨g,k * 3,none⟩ (.string nm))):=hid (hB.out.setCell (p:=⟨g,k * 3,none⟩) hgB _)
     clear hV' hx hri hbx hgM hrl hrx hd
     go_wp2_with fail
     go_roundw
     case rel=>exact ⟨k+1,by omega,by go_num,HM',HO',HV',HB'⟩
     case measure=>simp [intOf];omega
    ·have hki:¬ (k:Int) < (ins.length:Int):=by omega
     obtain rfl:k=ins.length:=by omega
     clear hkl hk
     have hNB:=HN.out.bounds
     have hO2:=hO.out.reads ⟨by show (renI nm n.ins.length n.ins).length * 16≤_;rw [renI_len (Nat.le_refl _)];exact hNB.ins,by show n.attrs.length≤_;omega,hNB.att⟩
     have HNV:Hid (NodeV wr (.agg #[.string n.op,.string nm,.slice a5 n.ins.length c5,.string nm,.slice a6 n.attrs.length c6]) { n with name:=nm,out:=nm,ins:=renI nm n.ins.length n.ins }):=hid ⟨_,_,rfl,⟨hO2.is,hO2.ia⟩⟩
     have HSV:Hid (SlIn 3 rdValue wr (.slice a7 ins.length c7) (renV nm ins.length ins)):=hid (values_sl hV.out (by rw [renV_len (Nat.le_refl _)];exact hil) (renV_bounds hnm HBd.out))
     have hE:=HPL.out { n with name:=nm,out:=nm,ins:=renI nm n.ins.length n.ins } rfl rfl (renI_len (Nat.le_refl _)) HNE.out (fun s hs=>by rw [renI_all s hs];exact HNE.out)
     have HE:=hid hE
     obtain ⟨k0,k1,k2,k3,k4⟩:=hM.out.five
     have HBw:=hid (HB3.out.trans (hB.out.mono HB3.out.size))
     have HUq:=hid (HU.out.below' hB.out)
     have HIq:=hid (HI3.out.below hB.out)
     clear hE hNB hO2 hO hV hM
     go_wp2_with fail
     clear k0 k1 k2 k3 k4
     have hcall:=infer_any (n:={ n with name:=nm,out:=nm,ins:=renI nm n.ins.length n.ins }) (ins:=renV nm ins.length ins) HNV.out HSV.out (HG.out.below HBw.out) HAX.out
     rw [HE.out] at hcall
     refine hcall.mono ?_
     clear hcall
     rintro e w7 ⟨B7,⟨hne,rfl⟩ | ⟨-,v7,rfl,hr7⟩⟩
     ·exact absurd rfl hne
     have HB7:=hid (HBw.out.trans (B7.mono HBw.out.size))
     have HI7:Hid (IntsIn w7 v7 ds):=hid (hr7.ints HGD.out.1 HGD.out.2)
     have HU7:=hid (HUq.out.below' B7)
     have HJ7:=hid (HIq.out.below B7)
     obtain ⟨a8,c8,rfl⟩:=HI7.out.shape
     clear B7 hr7 HUq HIq
     have HB78:Hid (Below w7.heap.size w7 (w7.alloc (Obj.cells #[.string nm,.int .i64 t,.slice a8 ds.length c8] 29))):=hid ((Below.refl _ w7).alloc (Nat.le_refl _) _)
     have HB8:=hid (HB7.out.trans (HB78.out.mono HB7.out.size))
     have HX8:=hid (BoxN.new w7 #[.string nm,.int .i64 t,.slice a8 ds.length c8] 29)
     have HU8:=hid (HU7.out.below' HB78.out)
     have HI8:=hid (HI7.out.below HB78.out)
     have HJ8:=hid (HJ7.out.below HB78.out)
     obtain ⟨u0,u1,u2⟩:=HU8.out.three
     have hnn:(nm.toList==nm.toList)=true:=by simp
     have htt:(t==t)=true:=by simp
     clear HB78 HI7 HU7 HJ7
     go_wp2_with fail
     clear u0 u1 u2
     generalize w7.alloc _=w8 at HB8 HX8 HU8 HI8 HJ8 ⊢
     generalize w7.heap.size=xb at HX8 ⊢
     refine (rsame_any HJ8.out HI8.out).mono ?_
     rintro e w9 ⟨rfl,B9⟩
     have HB9:=hid (HB8.out.trans (B9.mono HB8.out.size))
     clear B9
     rw [show decide (ds=ds)=true by simp]
     go_wp2_with fail
     refine (HLv.out _ HB9.out).mono ?_
     rintro e w10 ⟨rfl,B10⟩
     have HB10:=hid (HB9.out.trans (B10.mono HB9.out.size))
     clear B10
     go_wp2
     go_ret
     exact ⟨rfl,HB10.out⟩
theorem names08_walk {w:World} {vn vv:Value} {n:Nd} {ins:List Vl} (nm:ByteArray) (hn:NodeV w vn n) (hb:n.attrs.length≤1048575) (hbi:∀ a ∈ n.attrs,a.ints.length≤1048575) (hs:SlIn 3 rdValue w vv ins) (hnm:nm.size≤1048576) (hG:Glob w) :
  Calls Tryz.prog 3 #[vn,vv,.string nm] w fun e w'=>e=.returned (.bool true)∧Below w.heap.size w w':=names08_any hn hb hs hnm hG (hax_of hbi)
end Go.Proofs.YtijhdmidffenbaaGreatDoor
