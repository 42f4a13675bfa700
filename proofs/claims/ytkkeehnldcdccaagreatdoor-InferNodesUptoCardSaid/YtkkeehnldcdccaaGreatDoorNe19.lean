import Derived.Test.YtkkeehnldcdccaaGreatDoorShelfin
import Derived.Sort.OwnSortedInts
import Derived.Shelf.SlicesE.Reverse
import Derived.Shelf.Spec.SlicesInsert
import Derived.Shelf.Spec.SlicesInsertGrow
import Derived.Test.YtkkeehnldcdccaaGreatDoorNe18
set_option linter.unusedVariables false
set_option linter.unusedSimpArgs false
set_option maxRecDepth 100000
set_option maxHeartbeats 8000000
namespace Go.Proofs.YtkkeehnldcdccaaGreatDoor
open Go.RowKit
open Go.Lib (hid)
theorem Mf(w:World):Go.Sort.grow w #[]=w:=by unfold Go.Sort.grow;simp
theorem No{w:World}{B g cap n:Nat}{e:TypeId}{cur:Array Value}{ss ts:List Int}(hl:ts.length=ss.length)(hb:B≤g)(hg:w.heap[g]?=some (.cells cur e (0,0)))(h1:ss.length≤cap)(h2:cap≤maxLen)(h3:cur.size=cap*1) :
  (Go.Sort.putRow (Value.int .i64) (Go.Sort.ahead w n) g 0 ts.toArray).ownsRow B e 1 (.slice (some ⟨g,0,none⟩) ss.length cap) ss.length (ts.map (Value.int .i64)):=by
 have h:=ownsRow_sortedI (n:=n) (os:=#[]) hl hb hg h1 h2 h3
 rwa [Mf]at h
theorem IU{w:World}{B g n:Nat}(hB:B≤w.heap.size)(hb:B≤g)(d:Array Int):Below B w (Go.Sort.putRow (Value.int .i64) (Go.Sort.ahead w n) g 0 d):=by
 have h:=(Below.refl B w).grown (grownBy_sortedI (w:=w) (g:=g) (n:=n) (os:=#[]) d) hB (fun k e=>by cases e;exact hb)
 rwa [Mf]at h
theorem O3{w:World}{B:Nat}{v:Value}{zs:List Int}(h:Ag w B v zs)(hB:B≤w.heap.size)(hl:zs.length<4611686018427387904) :
  Calls Tryz.prog 171 #[v] w fun e w'=>e=.returned (.tuple #[])∧Ag w' B v (zs.mergeSort fun x y=>decide (x≤y))∧Below B w w':=by
 rcases h.2 with⟨rfl,h0⟩| ⟨g,cap,cur,rfl,hb,hg,h1,h2,h3,h4⟩
 ·obtain rfl:zs=[]:=List.length_eq_zero_iff.1 h0;refine(Tryz.slices_Sort_int_none none 0 w).mono ?_;rintro e w'⟨rfl,rfl⟩;exact⟨rfl,by simpa using h,Below.refl _ _⟩
 ·rw[Nat.mul_one]at h4;refine(Tryz.slices_Sort_int g 0 cap zs w (holds_of_blockI hg h4) (Array.getElem?_eq_some_iff.1 hg).1 hl).mono ?_;rintro e w'⟨rfl,n,os,rfl⟩;refine⟨rfl,?_,(Below.refl B w).grown (grownBy_sortedI _) hB (fun k e=>by cases e;exact hb)⟩;have:=ownsRow_sortedI (n:=n) (os:=os) (ts:=zs.mergeSort fun x y=>decide (x≤y)) (ss:=zs) (by simp) hb hg h1 h2 h3;unfold Ag;rw[List.length_mergeSort];exact this
theorem Xk{w:World}{B:Nat}{v:Value}{zs:List Int}(h:Ag w B v zs)(hB:B≤w.heap.size)(hl:zs.length≤9223372036854775807) :
  Calls Tryz.prog 172 #[v] w fun e w'=>e=.returned (.tuple #[])∧Ag w' B v zs.reverse∧Below B w w':=by
 rcases h.2 with⟨rfl,h0⟩| ⟨g,cap,cur,rfl,hb,hg,h1,h2,h3,h4⟩
 ·obtain rfl:zs=[]:=List.length_eq_zero_iff.1 h0;refine(Tryz.slices_Reverse_int_empty none 0 w).mono ?_;rintro e w'⟨rfl,rfl⟩;exact⟨rfl,by simpa using h,Below.refl _ _⟩
 ·rw[Nat.mul_one]at h4;refine(Tryz.slices_Reverse_int g 0 cap zs w (holds_of_blockI hg h4) hl).mono ?_;rintro e w'⟨rfl,n,rfl⟩;refine⟨rfl,?_,IU hB hb _⟩;unfold Ag;rw[List.length_reverse];exact No (by simp) hb hg h1 h2 h3
def R64.ren:Go.Shelf.Ren:=⟨fun|35=>168|n=>n,fun|0=>0|3=>3|4=>4|22=>39|23=>2|n=>n,fun|n=>n⟩
theorem R64.lays:Go.Proofs.SlLaysE.n35 Tryz.prog R64.ren:={
 mixed:=by kernel_rfl
 f35:=⟨Tryz.f168.name,by decide,Tryz.func168.trans (congrArg some (by kernel_rfl))⟩
 t0:=Tryz.underlying0
 a0:=Tryz.isAgg0
 z0:=Tryz.sizeOf0
 v0:=Tryz.zeroValue0
 t3:=Tryz.underlying3
 a3:=Tryz.isAgg3
 z3:=Tryz.sizeOf3
 v3:=Tryz.zeroValue3
 t4:=Tryz.underlying4
 a4:=Tryz.isAgg4
 z4:=Tryz.sizeOf4
 v4:=Tryz.zeroValue4
 t22:=Tryz.underlying39
 a22:=Tryz.isAgg39
 z22:=Tryz.sizeOf39
 v22:=Tryz.zeroValue39
 a23:=Tryz.isAgg2
 z23:=Tryz.sizeOf2 }
theorem Tl{w:World}{B:Nat}{v:Value}{zs:List Int}(h:w.ownsRow B 2 1 v zs.length (zs.map (Value.int .i64)))(hB:B≤w.heap.size)(hl:zs.length≤9223372036854775807) :
  Calls Tryz.prog 168 #[v] w fun e w'=>e=.returned (.tuple #[])∧w'.ownsRow B 2 1 v zs.reverse.length (zs.reverse.map (Value.int .i64))∧Below B w w':=by
 rcases h.2 with⟨rfl,h0⟩| ⟨g,cap,cur,rfl,hb,hg,h1,h2,h3,h4⟩
 ·obtain rfl:zs=[]:=List.length_eq_zero_iff.1 h0;refine(AnyE.slices_Reverse_empty R64.lays none 0 w).mono ?_;rintro e w'⟨rfl,rfl⟩;exact⟨rfl,by simpa using h,Below.refl _ _⟩
 ·rw[Nat.mul_one]at h4;refine(AnyE.slices_Reverse R64.lays (Value.int .i64) (fun _=>rfl) g 0 cap zs w (holds_of_blockI hg h4) hl).mono ?_;rintro e w'⟨rfl,n,rfl⟩;refine⟨rfl,?_,IU hB hb _⟩;rw[List.length_reverse];exact No (by simp) hb hg h1 h2 h3
theorem U4{w:World}{B g n m cap:Nat}{e:TypeId}{xs:List Value}(h:w.ownsRow B e 1 (.slice (some ⟨g,0,none⟩) n cap) n xs)(hm:m≤n):w.ownsRow B e 1 (.slice (some ⟨g,0,none⟩) m cap) m (xs.take m):=by
 obtain⟨hl,⟨h0,_⟩| ⟨g',cap',cur,hv,hb,hg,h1,h2,h3,h4⟩⟩:=h
 ·cases h0
 ·cases hv
  refine⟨by rw[List.length_take];omega,Or.inr ⟨g,cap,cur,rfl,hb,hg,by omega,h2,h3,?_⟩⟩;rw[←h4,List.take_take,Nat.mul_one,Nat.mul_one,Nat.min_eq_left hm]
theorem QK{w:World}{B k:Nat}{v:Value}{zs:List Int}(h:Ag w B v zs)(hB:B≤w.heap.size)(hk:k<zs.length) :
  Calls Tryz.prog 173 #[v,.int .i64 (k:Int),.int .i64 ((k:Int)+1)] w fun e w'=>∃v',e=.returned v'∧Ag w' B v' (zs.take k++zs.drop (k+1))∧Below B w w':=by
 rcases h.2 with⟨rfl,h0⟩| ⟨g,cap,cur,rfl,hb,hg,h1,h2,h3,h4⟩
 ·omega
 ·rw[Nat.mul_one]at h4;have hc:cap≤9223372036854775807:=h2;refine(Tryz.slices_Delete_int g 0 cap k (k+1) zs w (holds_of_blockI hg h4) h1 hc (by omega) hk).mono ?_;rintro e w'⟨rfl,n,rfl⟩;have hll:(zs.take k++zs.drop (k+1)++List.replicate (k+1-k) 0).length=zs.length:=by simp;omega
  have hl2:(zs.take k++zs.drop (k+1)).length=zs.length-1:=by simp;omega
  refine⟨_,rfl,?_,IU hB hb _⟩;have:=U4 (m:=zs.length-(k+1-k)) (No (n:=n) (ss:=zs) (ts:=zs.take k++zs.drop (k+1)++List.replicate (k+1-k) 0) hll hb hg h1 h2 h3) (by omega);unfold Ag;rw[←List.map_take,List.take_left' (by rw[hl2];omega)]at this;rw[hl2];rw[show zs.length-(k+1-k)=zs.length-1 by omega]at this⊢;exact this
theorem Dc{g:Nat}{t:TypeId}:∀(vs:List Value) (o:Nat) (w:World) (cur:Array Value),Ac w g cur t→∃cur',Ac (w.setCells g o vs) g cur' t∧cur'.size=cur.size
 | [],_,_,cur,h=>⟨cur,h,rfl⟩
 | v::r,o,w,cur,h=>by
  obtain⟨cur',h1,h2⟩:=Dc r (o+1) _ _ (h.set o v);exact⟨cur',h1,by rw[h2];simp⟩
theorem IV{w:World}{B g m cap:Nat}{t:TypeId}{cur:Array Value}{xs:List Value}(h:Ac w g cur t)(hb:B≤g)(hs:cur.size=cap)(hm:m≤cap)(hc:cap≤maxLen)(hl:xs.length=m)(hx:∀j v,xs[j]?=some v→w.cell? ⟨g,j,none⟩=some v) :
  w.ownsRow B t 1 (.slice (some ⟨g,0,none⟩) m cap) m xs:=by
 refine⟨by omega,Or.inr ⟨g,cap,cur,rfl,hb,h,hm,hc,by omega,?_⟩⟩;rw[Nat.mul_one];apply List.ext_getElem?;intro j;by_cases hj:j<m
 ·have h1:xs[j]?=some xs[j]:=List.getElem?_eq_getElem (by omega);have h2:=hx j _ h1;simp only[World.cell?,show w.heap[g]?=some (.cells cur t (0,0))from h]at h2;rw[List.getElem?_take_of_lt hj,h1,Array.getElem?_toList]
  simpa using h2
 ·rw[List.getElem?_take_eq_none (by omega),List.getElem?_eq_none (by omega)]
theorem Mg(w:World)(p:Addr):w.drew.cell? p=w.cell? p:=rfl
theorem Du{B g:Nat}(hg:B≤g):∀(vs:List Value) (o:Nat) {w0 w:World},Below B w0 w→Below B w0 (w.setCells g o vs)
 | [],_,_,_,h=>h
 | v::r,o,_,_,h=>Du hg r (o+1) (h.setCell (p:=⟨g,o,none⟩) hg v)
def I2.ren:Go.Shelf.Ren:=⟨fun|21=>174|27=>191|28=>192|35=>214|39=>172|n=>n,fun|0=>0|3=>3|4=>4|22=>29|n=>n,fun|n=>n⟩
theorem I2.lays:Go.Proofs.Lays2.n21 Tryz.prog I2.ren:={
 mixed:=by kernel_rfl
 f21:=Tryz.func174.trans (congrArg some (by kernel_rfl))
 f27:=Tryz.func191.trans (congrArg some (by kernel_rfl))
 f28:=Tryz.func192.trans (congrArg some (by kernel_rfl))
 f35:=Tryz.func214.trans (congrArg some (by kernel_rfl))
 f39:=Tryz.func172.trans (congrArg some (by kernel_rfl))
 t0:=Tryz.underlying0
 a0:=Tryz.isAgg0
 z0:=Tryz.sizeOf0
 v0:=Tryz.zeroValue0
 t3:=Tryz.underlying3
 a3:=Tryz.isAgg3
 z3:=Tryz.sizeOf3
 v3:=Tryz.zeroValue3
 t4:=Tryz.underlying4
 a4:=Tryz.isAgg4
 z4:=Tryz.sizeOf4
 v4:=Tryz.zeroValue4
 t22:=Tryz.underlying29
 a22:=Tryz.isAgg29
 z22:=Tryz.sizeOf29
 v22:=Tryz.zeroValue29
 i3:=by kernel_rfl }
theorem KT{w:World}{g:Nat}{t:TypeId}{cur:Array Value}(h:Ac w g cur t){j:Nat}(hj:j<cur.size):(w.cell? ⟨g,j,none⟩).isSome=true:=by
 rw[h.cell j (Array.getElem?_eq_getElem hj)];rfl
theorem Np{W:World}{B m cap:Nat}{t:TypeId}{cs:Array Value}{xs:List Value}(hB:B≤W.heap.size)(hs:cs.size=cap)(hm:m≤cap)(hc:cap≤maxLen)(hl:xs.length=m)(hx:cs.toList.take m=xs) :
  (W.alloc (.cells cs t)).ownsRow B t 1 (.slice (some ⟨W.heap.size,0,none⟩) m cap) m xs:=
 ⟨by omega,Or.inr ⟨_,cap,cs,rfl,hB,Ac.new W cs t,hm,hc,by omega,by rw[Nat.mul_one];exact hx⟩⟩
theorem KU{w:World}{g p:Nat}{t:TypeId}{cur:Array Value}(h:Ac w g cur t){us:List Value}(hp:p+us.length≤cur.size){j:Nat}{u:Value}(hu:us[j]?=some u):(w.setCells g p us).cell? ⟨g,p+j,none⟩=some u:=by
 obtain⟨hj,rfl⟩:=List.getElem?_eq_some_iff.1 hu;exact World.cell?_setCells_in g us p w (fun i hi=>KT h (by omega)) j hj
theorem FT{w:World}{g p:Nat}{us:List Value}{j:Nat}(hj:j<p∨p+us.length≤j):(w.setCells g p us).cell? ⟨g,j,none⟩=w.cell? ⟨g,j,none⟩:=
 World.cell?_setCells_out g us p w _ (fun _ _=>hj)
theorem QL{zs:List Int}{x:Int}{k:Nat}(hk:k≤zs.length){F:Nat→Option Value}(h1:∀j,j<k→F j=some (.int .i64 (zs.getD j 0)))(h2:F k=some (.int .i64 x))(h3:∀j,k≤j→j<zs.length→F (j+1)=some (.int .i64 (zs.getD j 0))) :
  ∀j v,((zs.take k++x::zs.drop k).map (Value.int .i64))[j]?=some v→F j=some v:=by
 intro j v hv;rw[List.getElem?_map]at hv;obtain⟨z,hz,rfl⟩:=Option.map_eq_some_iff.1 hv;have hl:(zs.take k).length=k:=by rw[List.length_take];omega
 by_cases c:j<k
 ·rw[List.getElem?_append_left (by omega),List.getElem?_take_of_lt c]at hz;rw[h1 j c,List.getD,hz];rfl
 ·rw[List.getElem?_append_right (by omega),hl]at hz;by_cases e:j=k
  ·subst e;rw[Nat.sub_self]at hz;obtain rfl:x=z:=by simpa using hz
   exact h2
  ·obtain⟨i,hi⟩:∃i,j=i+1:=⟨j-1,by omega⟩;subst hi;rw[show i+1-k=(i-k)+1 by omega,List.getElem?_cons_succ,List.getElem?_drop,show k+(i-k)=i by omega]at hz;rw[h3 i (by omega) (List.getElem?_eq_some_iff.1 hz).1,List.getD,hz];rfl
theorem QM{w:World}{B k vb:Nat}{v:Value}{zs:List Int}{x:Int}(h:Ag w B v zs)(hB:B≤w.heap.size)(hk:k≤zs.length)(hl:(zs.length+1)*8≤140737488355328)
  (hv:Ac w vb #[.int .i64 x] 3) (hne:∀g,v.ownBlock=some g→g≠vb) :
  Calls Tryz.prog 174 #[v,.int .i64 (k:Int),.slice (some ⟨vb,0,none⟩) 1 1] w fun e w'=>∃v',e=.returned v'∧Ag w' B v' (zs.take k++x::zs.drop k)∧Below B w w':=by
 have hvc:∀(j:Nat) (u:Value),[Value.int .i64 x][j]?=some u→w.cell? ⟨vb,0+j,none⟩=some u:=by
  intro j u hj
  match j,hj with
  | 0,hj=>cases hj;exact hv.cell 0 rfl
 have h1v:∀u∈[Value.int .i64 x],u.oneCell'=true:=by simp[Value.oneCell']
 have h1c:∀u∈zs.map (Value.int .i64),u.oneCell'=true:=by
  intro u hu;obtain⟨z,-,rfl⟩:=List.mem_map.1 hu
  rfl
 have hrl:(zs.take k++x::zs.drop k).length=zs.length+1:=by simp;omega
 have hml:((zs.take k++x::zs.drop k).map (Value.int .i64)).length=zs.length+1:=by rw[List.length_map,hrl]
 have hmx:zs.length+1≤maxLen:=by unfold maxLen;omega
 unfold Ag;rw[hrl];rcases h.2 with⟨rfl,h0⟩| ⟨g,cap,cur,rfl,hb,hg,h1,h2,h3,h4⟩
 ·obtain rfl:zs=[]:=List.length_eq_zero_iff.1 h0;obtain rfl:k=0:=by simpa using hk
  refine(Any2.slices_Insert_int_end_grow I2.lays none 0 0 vb 0 1 1 [] [.int .i64 x] w (by decide) (Nat.le_refl _) (by decide) (by decide) rfl rfl (fun _=>rfl) (fun a e=>by cases e) hvc h1v).mono ?_;rintro e w'⟨rfl,rfl⟩;have hge:=grownCap_ge w (0+1) 0 (I2.ren.t 3);refine⟨_,rfl,Np (W:=w.drew) hB ?_ hge (grownCap_le_maxLen w _ _ _ hmx) (by simp) (by simp),((Below.refl B w).drew).alloc hB _⟩;generalize grownCap w (0+1) 0 (I2.ren.t 3)=c at hge⊢;rw[Array.size_append,size_zeroCells];simp[Value.cells];omega
 ·rw[Nat.mul_one]at h3 h4;have hbx:Ac w g cur 3:=hg;have hcap:cap≤9223372036854775807:=h2;have hgv:g≠vb:=hne g rfl;have hce:∀j,j<zs.length→w.cell? ⟨g,j,none⟩=some (.int .i64 (zs.getD j 0)):=fun j hj=>by
   have:=(holds_of_blockI hg h4 j (by simpa using hj)).1;rw[Nat.zero_add]at this;rw[this];simp[List.getD,hj]
  have hcs:∀(j:Nat) (u:Value),(zs.map (Value.int .i64))[j]?=some u→w.cell? ⟨g,0+j,none⟩=some u:=fun j u hu=>by
   rw[List.getElem?_map]at hu;obtain⟨z,hz,rfl⟩:=Option.map_eq_some_iff.1 hu;rw[Nat.zero_add,hce j (List.getElem?_eq_some_iff.1 hz).1,List.getD,hz];rfl
  have hdr:∀j,k≤j→j<zs.length→((zs.map (Value.int .i64)).drop k)[j-k]?=some (.int .i64 (zs.getD j 0)):=fun j h1 h2=>by
   rw[List.getElem?_drop,show k+(j-k)=j by omega,List.getElem?_map,List.getElem?_eq_getElem h2];simp[List.getD,h2]
  have hdl:((zs.map (Value.int .i64)).drop k).length=zs.length-k:=by simp
  by_cases hroom:zs.length+1≤cap
  ·by_cases hi:k<zs.length
   ·refine(Any2.slices_Insert_int_shift I2.lays g 0 zs.length cap k vb 0 1 1 (zs.map (Value.int .i64)) [.int .i64 x] w hi (by decide) hroom hcap (fun e=>hgv e.symm) (by simp) rfl hcs (fun j hj=>by rw[Nat.zero_add];exact KT hbx (by omega)) (fun j hj=>hbx.frozen _) hvc h1c h1v 3 3 1 cap (by simp[World.shape?,show w.heap[vb]?=_ from hv]) (by simp[World.shape?,hg,h3]) (by omega) (hv.frozen 0) (hv.frozen 1)).mono ?_;rintro e w'⟨rfl,rfl⟩;have hb0:Ac w.drew g cur 3:=hbx;rw[Nat.zero_add,Nat.zero_add];obtain⟨c1,hb1,hs1⟩:=Dc ((zs.map (Value.int .i64)).drop k) (k+1) _ _ hb0;obtain⟨c2,hb2,hs2⟩:=Dc [Value.int .i64 x] k _ _ hb1;refine⟨_,rfl,IV hb2 hb (by omega) hroom h2 hml (QL hk (fun j hj=>?_) ?_ (fun j h5 h6=>?_)),Du hb _ _ (Du hb _ _ ((Below.refl B w).drew))⟩
    ·rw[FT (Or.inl hj),FT (Or.inl (by omega))];exact hce j (by omega)
    ·exact KU hb1 (p:=k) (us:=[Value.int .i64 x]) (by simp;omega) (j:=0) rfl
    ·rw[FT (Or.inr (by simp;omega)),show j+1=k+1+(j-k) by omega];exact KU hb0 (by omega) (hdr j h5 h6)
   ·obtain rfl:k=zs.length:=by omega
    refine(Any2.slices_Insert_int_end_room I2.lays g 0 zs.length cap vb 0 1 1 [.int .i64 x] w (by decide) hroom hcap rfl (fun j hj=>by rw[Nat.zero_add];exact KT hbx (by omega)) (fun j hj=>hbx.frozen _) hvc h1v).mono ?_;rintro e w'⟨rfl,rfl⟩;rw[Nat.zero_add];obtain⟨c2,hb2,hs2⟩:=Dc [Value.int .i64 x] zs.length _ _ hbx;refine⟨_,rfl,IV hb2 hb (by omega) hroom h2 hml (QL hk (fun j hj=>?_) ?_ (fun j h5 h6=>by omega)),Du hb _ _ (Below.refl B w)⟩
    ·rw[FT (Or.inl hj)];exact hce j (by omega)
    ·exact KU hbx (p:=zs.length) (us:=[Value.int .i64 x]) (by simp;omega) (j:=0) rfl
  ·have hge:=grownCap_ge w (zs.length+1) cap (I2.ren.t 3);have hgm:=grownCap_le_maxLen w (zs.length+1) cap (I2.ren.t 3) hmx;by_cases hi:k<zs.length
   ·refine(Any2.slices_Insert_int_grow I2.lays g 0 zs.length cap k vb 0 1 1 (zs.map (Value.int .i64)) [.int .i64 x] w hi (by decide) h1 (by omega) (by omega) (by simp) rfl hcs hvc h1c h1v).mono ?_;rintro e w'⟨rfl,rfl⟩;obtain⟨A,hA⟩:∃A:Array Value,((zs.map (Value.int .i64)).take k).toArray++Builtin.zeroCells (Value.int .i64 0).cells (zs.length+1-k)++Builtin.zeroCells (Value.int .i64 0).cells (grownCap w (zs.length+1) cap (I2.ren.t 3)-(zs.length+1))=A:=⟨_,rfl⟩;have hAs:A.size=grownCap w (zs.length+1) cap (I2.ren.t 3):=by
     rw[←hA,Array.size_append,Array.size_append,size_zeroCells,size_zeroCells];simp[Value.cells];omega
    have hAt:∀j,j<k→A[j]?=some (.int .i64 (zs.getD j 0)):=fun j hj=>by
     rw[←hA,Array.append_assoc,Array.getElem?_append_left (by simp;omega)];simp[List.getD,hj,show j<zs.length by omega]
    rw[hA];have hb0:Ac (w.alloc (.cells A (I2.ren.t 3))).drew w.heap.size A 3:=Ac.new w A _;have hbB:Below B w (w.alloc (.cells A (I2.ren.t 3))).drew:=((Below.refl B w).alloc hB _).drew;generalize (w.alloc (.cells A (I2.ren.t 3))).drew=W0 at hb0 hbB⊢;obtain⟨c1,hb1,hs1⟩:=Dc [Value.int .i64 x] k _ _ hb0;have hb1':Ac (W0.setCells w.heap.size k [Value.int .i64 x]).drew w.heap.size c1 3:=hb1;obtain⟨c2,hb2,hs2⟩:=Dc ((zs.map (Value.int .i64)).drop k) (k+1) _ _ hb1';refine⟨_,rfl,IV hb2 hB (by omega) hge hgm hml (QL hk (fun j hj=>?_) ?_ (fun j h5 h6=>?_)),Du hB _ _ ((Du hB _ _ hbB).drew)⟩
    ·rw[FT (Or.inl (by omega)),Mg,FT (Or.inl hj)];exact hb0.cell j (hAt j hj)
    ·rw[FT (Or.inl (by omega)),Mg];exact KU hb0 (p:=k) (us:=[Value.int .i64 x]) (by simp;omega) (j:=0) rfl
    ·rw[show j+1=k+1+(j-k) by omega];exact KU hb1' (by omega) (hdr j h5 h6)
   ·obtain rfl:k=zs.length:=by omega
    refine(Any2.slices_Insert_int_end_grow I2.lays (some ⟨g,0,none⟩) zs.length cap vb 0 1 1 (zs.map (Value.int .i64)) [.int .i64 x] w (by decide) h1 (by omega) (by omega) (by simp) rfl (fun e=>by cases e) (fun a e j u hu=>by cases e;rw[Addr.add_lit];exact hcs j u hu) hvc h1v).mono ?_;rintro e w'⟨rfl,rfl⟩;refine⟨_,rfl,Np (W:=w.drew) hB ?_ hge hgm hml ?_,((Below.refl B w).drew).alloc hB _⟩
    ·rw[Array.size_append,size_zeroCells];simp[Value.cells];omega
    ·rw[Array.toList_append,List.take_left' (by simp)];simp
section
def EH:ByteArray:=⟨#[112,101,114,109]⟩
def Dt(x ks:List Int):List Int:=ks.map fun p=>x.getD p.toNat 0
def QN(x:List Int):List Int→List Int→Option (List Int)
 | ks,[]=>some (Dt x ks)
 | ks,p::l=>if ks.contains p=true then none else QN x (ks++[p]) l
theorem Xl{x l:List Int}{k:Nat}(h:¬k<l.length):QN x (l.take k) (l.drop k)=some (Dt x l):=by rw[List.drop_eq_nil_of_le (by omega),List.take_of_length_le (by omega)];rfl
theorem Tm{x l:List Int}{k:Nat}(hk:k<l.length)(h:(l.take k).contains (l.getD k 0)=true):QN x (l.take k) (l.drop k)=none:=by rw[Bs hk];exact if_pos h
theorem U5{x l:List Int}{k:Nat}(hk:k<l.length)(h:(l.take k).contains (l.getD k 0)=false):QN x (l.take k) (l.drop k)=QN x (l.take (k+1)) (l.drop (k+1)):=by
 rw[Bs hk,QN,if_neg (by rw[h];decide),List.take_add_one,Fz hk]
 rfl
theorem Mh{x l:List Int}{k:Nat}(hk:k<l.length):Dt x (l.take (k+1))=Dt x (l.take k)++[x.getD (l.getD k 0).toNat 0]:=by
 rw[List.take_add_one,Fz hk];simp[Dt]
theorem KV(x l:List Int):(Dt x l).length=l.length:=by simp[Dt]
def Cb(n:Nd)(x:List Int):Option (List Int):=match AN (Af n.attrs EH (Cn x.length).reverse) x.length 0 ((x.length:Int)-1)with |none=>none|some p=>QN x [] p
theorem U6{n:Nd}{x:List Int}(h:AN (Af n.attrs EH (Cn x.length).reverse) x.length 0 ((x.length:Int)-1)=none):Cb n x=none:=by unfold Cb;rw[h]
theorem Tn{n:Nd}{x p:List Int}(h:AN (Af n.attrs EH (Cn x.length).reverse) x.length 0 ((x.length:Int)-1)=some p):Cb n x=QN x (p.take 0) (p.drop 0):=by unfold Cb;rw[h];rfl
attribute [local irreducible] Af AN Cn Ag BI Cb QN Dt
theorem LD{w:World}{v vx:Value}{n:Nd}{ins:List Vl}{x:List Int}(h:BF w v n ins)(hx:Aa w vx x)(hsm:Sm x) :
  Calls Tryz.prog 117 #[v,vx] w fun e w'=>AY w (Cb n x) e w':=by
 obtain⟨i0,hi,hz0,hz1,hz2⟩:=info_parts AI;obtain⟨vin,vat,vv,rfl,hm⟩:=h;obtain⟨a1,c1,rfl⟩:=hm.node.is.form;obtain⟨a2,c2,rfl⟩:=hm.node.ia.form;obtain⟨a3,c3,rfl⟩:=hm.ins.form;have HM:=hid hm;clear hm;obtain⟨a4,c4,rfl⟩:=hx.shape;have hxl:=hx.wf.1;have hxc:=hx.capI.2;have HX:=hid hx;clear hx;have HY:=hid (fun(W:World)=>Ao W);have HNo:=hid (fun(W:World)=>Aw W);have HB1:=hid ((Below.refl w.heap.size w).alloc (Nat.le_refl _) (Obj.cells #[.string n.op,.string n.name,.slice a1 n.ins.length c1,.string n.out,.slice a2 n.attrs.length c2,.slice a3 ins.length c3] 55));have HA1:=hid (Ac.new w #[.string n.op,.string n.name,.slice a1 n.ins.length c1,.string n.out,.slice a2 n.attrs.length c2,.slice a3 ins.length c3] 55);have hx6:=hsm.1;clear hsm;go_enter Tryz.func117,Tryz.ntmps117
 go_wp2_with fail
 generalize World.alloc w (Obj.cells #[.string n.op,.string n.name,.slice a1 n.ins.length c1,.string n.out,.slice a2 n.attrs.length c2,.slice a3 ins.length c3] 55)=W1 at HB1 HA1⊢;have HBw:Hid (∀W,Below W1.heap.size W1 W→Below w.heap.size w W):=hid fun W hB=>HB1.out.trans (hB.mono HB1.out.size);have HCo:=hid (fun(W:World) (u:Value) (ks:List Int) (h:Aa W u ks) (x:Int)=>Ew h x);have HN1:=hid (fun h=>U6 (n:=n) (x:=x) h);have HN2:=hid (fun p h=>Tn (n:=n) (x:=x) (p:=p) h);refine(Ku x.length (by omega) W1).mono ?_;rintro e w2⟨B2,v2,rfl,hr2⟩;have HW2:Hid (Below W1.heap.size W1 w2):=hid B2;have HR2:=hid hr2;obtain⟨a5,c5,rfl⟩:=hr2.form;clear B2 hr2;go_wp2_with fail
 refine(Tl (B:=W1.heap.size) (by have:=HR2.out;unfold BI at this;exact this) HW2.out.size (by rw[CE];omega)).mono ?_;rintro e w3⟨rfl,hr3,B3⟩;have HW3:Hid (Below W1.heap.size W1 w3):=hid (HW2.out.trans B3);have HI3:Hid (Aa w3 (.slice a5 (Cn x.length).length c5) (Cn x.length).reverse):=hid (BI.ints (B:=W1.heap.size) (by unfold BI;exact hr3) (by rw[List.length_reverse,CE];omega) (fun z hz=>Fa _ (by omega) z (List.mem_reverse.1 hz)));clear hr3 B3 HR2 HW2;generalize (Cn x.length).reverse=ol at*;obtain⟨k0,k1,k2,k3,k4,k5⟩:=(HA1.out.below' HW3.out).six;have hxw:IntKind.i64.wrap ((x.length:Int)-1)=(x.length:Int)-1:=by rw[IntKind.wrap_i64];omega
 go_wp2_with fail
 clear k0 k1 k2 k3 k4 k5 hxw;refine(CZ (n:=n) ⟨_,_,rfl,(HM.out.below (HBw.out _ HW3.out)).node⟩ EH HI3.out (x.length:Int) 0 ((x.length:Int)-1)).mono ?_;rintro e w4⟨B4,hc⟩;have HW4:=hid (HW3.out.trans (B4.mono HW3.out.size));cases hp:AN (Af n.attrs EH ol) x.length 0 ((x.length:Int)-1)with
 | none=>
  rw[hp]at hc;obtain rfl:e=Em 4:=hc;have E:=hid (HN1.out hp);clear hp;exact⟨rfl,AY.no E.out (HBw.out _ HW4.out)⟩
 | some p=>
  rw[hp]at hc;obtain⟨v4,rfl,hr4⟩:∃v,e=.returned v∧Ag w4 _ v p:=hc;have E:=hid (HN2.out p hp);obtain⟨hpl,hpr⟩:=AT hp;have hpl:p.length=x.length:=by omega
  have HPr:=hid hpr;have HI4:Hid (Aa w4 v4 p):=hid (hr4.ints (by omega) (fun z hz=>by have:=HPr.out z hz;unfold Bf;omega));obtain⟨a6,c6,rfl⟩:=HI4.out.shape;have hpc:=HI4.out.capI.2;have HPL:=hid hpl;have hpw:=HI4.out.wf.1;clear hp hr4 hpr hpl B4 HN1 HN2 HI3;go_wp2_with fail
  go_loopw [7,26] (fun ov i wr=>∃(k:Nat),k≤p.length∧i=.int .i64 (k:Int)∧Hid (Cb n x=QN x (p.take k) (p.drop k))∧Hid (Ag wr w4.heap.size ov (Dt x (p.take k)))∧Hid (Below w4.heap.size w4 wr)) (fun _ i _=>p.length-(intOf i).toNat)
  case atStart=>exact⟨0,Nat.zero_le _,rfl,E,hid (by rw[List.take_zero,show Dt x []=[] by unfold Dt;rfl];exact Ag.nil _ _),hid (Below.refl _ _)⟩
  case round=>
   obtain⟨k,hk,rfl,hF,hO,hW⟩:=hrel;have HWr:=hid (HBw.out _ (HW4.out.trans (hW.out.mono HW4.out.size)));obtain⟨ao,co,rfl⟩:=hO.out.form;have hpk:(Dt x (p.take k)).length=k:=by rw[KV,List.length_take];omega
   rw[hpk];have hO:Hid ((Ag wr w4.heap.size (.slice ao k co) (Dt x (p.take k)))):=hid (by have:=hO.out;rwa [hpk]at this);by_cases hkl:k<p.length
   ·have hki:(k:Int)<(p.length:Int):=by omega
    have hzr:=HPr.out _ (Am (zs:=p) hkl);obtain⟨j,hj⟩:∃j:Nat,p.getD k 0=(j:Int):=⟨(p.getD k 0).toNat,by omega⟩;have hjx:j<x.length:=by omega
    have hji:(j:Int)<(x.length:Int):=by omega
    obtain⟨bp,op',hap,-,gp,up,-⟩:=Ai HI4.out hkl;subst hap;have up:=(hW.out.cell (p:=⟨bp,op'+k,none⟩) gp).trans up;obtain⟨bx,ox,hax,-,gx,ux,hxi⟩:=Ai HX.out hjx;subst hax;have ux:=(HWr.out.cell (p:=⟨bx,ox+j,none⟩) gx).trans ux;have HKI:Hid (Aa wr (.slice (some ⟨bp,op',none⟩) k c6) (p.take k)):=hid ((HI4.out.below hW.out).take hk);have F1:=hid (fun h=>Tm (x:=x) hkl h);have F2:=hid (fun h=>U5 (x:=x) hkl h);have F3:=hid (Mh (x:=x) hkl);rw[hj]at up F1 F2 F3;rw[Int.toNat_natCast]at F3;clear hj hzr gp gx hxi;generalize x.getD j 0=xj at*;have hC:=HCo.out wr _ _ HKI.out (j:Int);cases hct:(p.take k).contains (j:Int)with
    | true=>
     have G:=hid (hF.out.trans (F1.out hct));rw[hct]at hC;have hC:=hid hC;clear hct F1 F2 F3 hpk;go_wp2_with fail
     refine hC.out.mono ?_;rintro e w'⟨rfl,rfl⟩;go_wp2_with fail
     refine(HNo.out _).mono ?_;rintro e w'⟨rfl,rfl⟩;exact⟨rfl,AY.no G.out HWr.out⟩
    | false=>
     have G:=hid (hF.out.trans (F2.out hct));rw[hct]at hC;have hC:=hid hC;have HPK:=hid hpk;clear hct F1 F2 hpk;have HOwn:Hid (wr.ownsRow w4.heap.size 3 1 (.slice ao k co) k ((Dt x (p.take k)).map (Value.int .i64))):=hid (by have:=hO.out.own;rwa [HPK.out]at this);go_wp2_with fail
     refine hC.out.mono ?_;rintro e w'⟨rfl,rfl⟩;go_wp2_with fail
     refine(HY.out _).mono ?_;rintro e w'⟨rfl,rfl⟩;have hsw:=HWr.out.size;have hsw4:=hW.out.size;go_wp2_with (at_builtin;refine wpList_append_own _ rfl _ _ 29 rfl w4.heap.size 3 i0 (.int .i64 0) 1 8 Tryz.underlying29 hi hz0 hz1 hz2 rfl (by decide) _ _ _ rfl (HOwn.out.alloc _) ⟨w'.heap.size,0,none⟩ 1 1 (#[.int .i64 xj]:Array Value).toList rfl rfl (World.news_of_block (heap_alloc_new w' _)) (by simp[Value.oneCell']) ?A3 ?A4 ?A5 ?_)
     case A3=>unfold maxLen;omega
     case A4=>omega
     case A5=>first|(simp;omega)|omega
     intro v' w9 hown' hgrow _;have hb9:Hid (Below w4.heap.size w4 w9):=hid ((hW.out.alloc hsw4 _).grown hgrow (by simp;omega) fun g hg=>(hO.out.own.lt g hg).1);have ho9:Hid (Ag w9 w4.heap.size v' (Dt x (p.take (k+1)))):=hid (by rw[F3.out];refine Ag.push (hO.out) ?_;rw[HPK.out];exact hown');clear hown' hgrow F3;go_wp2_with fail
     go_roundw
     case rel=>exact⟨k+1,by omega,by go_num,G,ho9,hb9⟩
     case measure=>simp[intOf];omega
   ·have hki:¬(k:Int)<(p.length:Int):=by omega
    have G:=hid (hF.out.trans (Xl hkl));have HRw:Hid (Ag wr w.heap.size (.slice ao k co) (Dt x p)):=hid (by have:=hO.out;rw[List.take_of_length_le (by omega)]at this;exact this.base (HBw.out _ HW4.out).size);go_wp2
    go_ret
    exact AY.yes G.out HWr.out HRw.out
end
end Go.Proofs.YtkkeehnldcdccaaGreatDoor
