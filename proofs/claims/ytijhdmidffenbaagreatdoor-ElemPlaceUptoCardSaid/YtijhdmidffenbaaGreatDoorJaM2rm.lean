import Derived.Test.YtijhdmidffenbaaGreatDoorJaM1rm
import Derived.Test.YtijhdmidffenbaaGreatDoorShelfrm
import Derived.Sort.OwnSortedInts
import Derived.Shelf.SlicesE.Reverse
import Derived.Shelf.Spec.SlicesInsert
import Derived.Shelf.Spec.SlicesInsertGrow
import Derived.Shelf.Spec.SlicesGrow
open Go.Lib (hid)
set_option linter.unusedVariables false
set_option linter.unusedSimpArgs false
namespace Go.Proofs.YtijhdmidffenbaaGreatDoor
section
open Go.RowKit
set_option maxRecDepth 100000
theorem grow_none (w:World):Go.Sort.grow w #[]=w:=by unfold Go.Sort.grow;simp
theorem put_own {w:World} {B g cap n:Nat} {e:TypeId} {cur:Array Value} {ss ts:List Int} (hl:ts.length=ss.length) (hb:B≤g) (hg:w.heap[g]?=some (.cells cur e (0,0))) (h1:ss.length≤cap) (h2:cap≤maxLen) (h3:cur.size=cap * 1) :
  (Go.Sort.putRow (Value.int .i64) (Go.Sort.ahead w n) g 0 ts.toArray).ownsRow B e 1 (.slice (some ⟨g,0,none⟩) ss.length cap) ss.length (ts.map (Value.int .i64)):=by
 have h:=ownsRow_sortedI (n:=n) (os:=#[]) hl hb hg h1 h2 h3
 rwa [grow_none] at h
theorem put_below {w:World} {B g n:Nat} (hB:B≤w.heap.size) (hb:B≤g) (d:Array Int):Below B w (Go.Sort.putRow (Value.int .i64) (Go.Sort.ahead w n) g 0 d):=by
 have h:=(Below.refl B w).grown (grownBy_sortedI (w:=w) (g:=g) (n:=n) (os:=#[]) d) hB (fun k e=>by cases e;exact hb)
 rwa [grow_none] at h
theorem sort_any {w:World} {B:Nat} {v:Value} {zs:List Int} (h:RowI w B v zs) (hB:B≤w.heap.size) (hl:zs.length < 4611686018427387904) :
  Calls Tryz.prog 161 #[v] w fun e w'=>e=.returned (.tuple #[])∧RowI w' B v (zs.mergeSort fun x y=>decide (x≤y))∧Below B w w':=by
 rcases h.2 with ⟨rfl,h0⟩ | ⟨g,cap,cur,rfl,hb,hg,h1,h2,h3,h4⟩
 ·obtain rfl:zs=[]:=List.length_eq_zero_iff.1 h0;refine (Tryz.slices_Sort_int_none none 0 w).mono ?_;rintro e w' ⟨rfl,rfl⟩;exact ⟨rfl,by simpa using h,Below.refl _ _⟩
 ·rw [Nat.mul_one] at h4;refine (Tryz.slices_Sort_int g 0 cap zs w (holds_of_blockI hg h4) (Array.getElem?_eq_some_iff.1 hg).1 hl).mono ?_;rintro e w' ⟨rfl,n,os,rfl⟩;refine ⟨rfl,?_,(Below.refl B w).grown (grownBy_sortedI _) hB (fun k e=>by cases e;exact hb)⟩;have:=ownsRow_sortedI (n:=n) (os:=os) (ts:=zs.mergeSort fun x y=>decide (x≤y)) (ss:=zs) (by simp) hb hg h1 h2 h3;unfold RowI;rw [List.length_mergeSort];exact this
theorem rev_any {w:World} {B:Nat} {v:Value} {zs:List Int} (h:RowI w B v zs) (hB:B≤w.heap.size) (hl:zs.length≤9223372036854775807) :
  Calls Tryz.prog 162 #[v] w fun e w'=>e=.returned (.tuple #[])∧RowI w' B v zs.reverse∧Below B w w':=by
 rcases h.2 with ⟨rfl,h0⟩ | ⟨g,cap,cur,rfl,hb,hg,h1,h2,h3,h4⟩
 ·obtain rfl:zs=[]:=List.length_eq_zero_iff.1 h0;refine (Tryz.slices_Reverse_int_empty none 0 w).mono ?_;rintro e w' ⟨rfl,rfl⟩;exact ⟨rfl,by simpa using h,Below.refl _ _⟩
 ·rw [Nat.mul_one] at h4;refine (Tryz.slices_Reverse_int g 0 cap zs w (holds_of_blockI hg h4) hl).mono ?_;rintro e w' ⟨rfl,n,rfl⟩;refine ⟨rfl,?_,put_below hB hb _⟩;unfold RowI;rw [List.length_reverse];exact put_own (by simp) hb hg h1 h2 h3
def R64.ren:Go.Shelf.Ren:=⟨fun | 35=>158 | n=>n,fun | 0=>0 | 3=>3 | 4=>4 | 22=>44 | 23=>2 | n=>n,fun | n=>n⟩
theorem R64.lays:Go.Proofs.SlLaysE.n35 Tryz.prog R64.ren:={
 mixed:=by kernel_rfl
 f35:=⟨Tryz.f158.name,by decide,Tryz.func158.trans (congrArg some (by kernel_rfl))⟩
 t0:=Tryz.underlying0
 a0:=Tryz.isAgg0
 z0:=Tryz.sizeOf0
 v0:=Tryz.zeroValue0
 t3:=Tryz.underlying3
 a3:=Tryz.isAgg3
 z3:=Tryz.sizeOf3
 v3:=Tryz.zeroValue3
 t4:=Tryz.underlying4
 a4:=Tryz.isAgg4
 z4:=Tryz.sizeOf4
 v4:=Tryz.zeroValue4
 t22:=Tryz.underlying44
 a22:=Tryz.isAgg44
 z22:=Tryz.sizeOf44
 v22:=Tryz.zeroValue44
 a23:=Tryz.isAgg2
 z23:=Tryz.sizeOf2 }
theorem rev64_any {w:World} {B:Nat} {v:Value} {zs:List Int} (h:w.ownsRow B 2 1 v zs.length (zs.map (Value.int .i64))) (hB:B≤w.heap.size) (hl:zs.length≤9223372036854775807) :
  Calls Tryz.prog 158 #[v] w fun e w'=>e=.returned (.tuple #[])∧w'.ownsRow B 2 1 v zs.reverse.length (zs.reverse.map (Value.int .i64))∧Below B w w':=by
 rcases h.2 with ⟨rfl,h0⟩ | ⟨g,cap,cur,rfl,hb,hg,h1,h2,h3,h4⟩
 ·obtain rfl:zs=[]:=List.length_eq_zero_iff.1 h0;refine (AnyE.slices_Reverse_empty R64.lays none 0 w).mono ?_;rintro e w' ⟨rfl,rfl⟩;exact ⟨rfl,by simpa using h,Below.refl _ _⟩
 ·rw [Nat.mul_one] at h4;refine (AnyE.slices_Reverse R64.lays (Value.int .i64) (fun _=>rfl) g 0 cap zs w (holds_of_blockI hg h4) hl).mono ?_;rintro e w' ⟨rfl,n,rfl⟩;refine ⟨rfl,?_,put_below hB hb _⟩;rw [List.length_reverse];exact put_own (by simp) hb hg h1 h2 h3
theorem own_less {w:World} {B g n m cap:Nat} {e:TypeId} {xs:List Value} (h:w.ownsRow B e 1 (.slice (some ⟨g,0,none⟩) n cap) n xs) (hm:m≤n):w.ownsRow B e 1 (.slice (some ⟨g,0,none⟩) m cap) m (xs.take m):=by
 obtain ⟨hl,⟨h0,_⟩ | ⟨g',cap',cur,hv,hb,hg,h1,h2,h3,h4⟩⟩:=h
 ·cases h0
 ·cases hv
  refine ⟨by rw [List.length_take];omega,Or.inr ⟨g,cap,cur,rfl,hb,hg,by omega,h2,h3,?_⟩⟩;rw [←h4,List.take_take,Nat.mul_one,Nat.mul_one,Nat.min_eq_left hm]
theorem delete_any {w:World} {B k:Nat} {v:Value} {zs:List Int} (h:RowI w B v zs) (hB:B≤w.heap.size) (hk:k < zs.length) :
  Calls Tryz.prog 163 #[v,.int .i64 (k:Int),.int .i64 ((k:Int)+1)] w fun e w'=>∃ v',e=.returned v'∧RowI w' B v' (zs.take k++zs.drop (k+1))∧Below B w w':=by
 rcases h.2 with ⟨rfl,h0⟩ | ⟨g,cap,cur,rfl,hb,hg,h1,h2,h3,h4⟩
 ·omega
 ·rw [Nat.mul_one] at h4;have hc:cap≤9223372036854775807:=h2;refine (Tryz.slices_Delete_int g 0 cap k (k+1) zs w (holds_of_blockI hg h4) h1 hc (by omega) hk).mono ?_;rintro e w' ⟨rfl,n,rfl⟩;have hll:(zs.take k++zs.drop (k+1)++List.replicate (k+1 - k) 0).length=zs.length:=by simp;omega
  have hl2:(zs.take k++zs.drop (k+1)).length=zs.length - 1:=by simp;omega
  refine ⟨_,rfl,?_,put_below hB hb _⟩;have:=own_less (m:=zs.length - (k+1 - k)) (put_own (n:=n) (ss:=zs) (ts:=zs.take k++zs.drop (k+1)++List.replicate (k+1 - k) 0) hll hb hg h1 h2 h3) (by omega);unfold RowI;rw [←List.map_take,List.take_left' (by rw [hl2];omega)] at this;rw [hl2];rw [show zs.length - (k+1 - k)=zs.length - 1 by omega] at this ⊢;exact this
theorem box_setCells {g:Nat} {t:TypeId}:∀ (vs:List Value) (o:Nat) (w:World) (cur:Array Value),BoxN w g cur t→∃ cur',BoxN (w.setCells g o vs) g cur' t∧cur'.size=cur.size
 | [],_,_,cur,h=>⟨cur,h,rfl⟩
 | v :: r,o,w,cur,h=>by
  obtain ⟨cur',h1,h2⟩:=box_setCells r (o+1) _ _ (h.set o v);exact ⟨cur',h1,by rw [h2];simp⟩
theorem own_cells {w:World} {B g m cap:Nat} {t:TypeId} {cur:Array Value} {xs:List Value} (h:BoxN w g cur t) (hb:B≤g) (hs:cur.size=cap) (hm:m≤cap) (hc:cap≤maxLen) (hl:xs.length=m) (hx:∀ j v,xs[j]?=some v→w.cell? ⟨g,j,none⟩=some v) :
  w.ownsRow B t 1 (.slice (some ⟨g,0,none⟩) m cap) m xs:=by
 refine ⟨by omega,Or.inr ⟨g,cap,cur,rfl,hb,h,hm,hc,by omega,?_⟩⟩;rw [Nat.mul_one];apply List.ext_getElem?;intro j;by_cases hj:j < m
 ·have h1:xs[j]?=some xs[j]:=List.getElem?_eq_getElem (by omega);have h2:=hx j _ h1;simp only [World.cell?,show w.heap[g]?=some (.cells cur t (0,0)) from h] at h2;rw [List.getElem?_take_of_lt hj,h1,Array.getElem?_toList]
  simpa using h2
 ·rw [List.getElem?_take_eq_none (by omega),List.getElem?_eq_none (by omega)]
theorem cell_drew (w:World) (p:Addr):w.drew.cell? p=w.cell? p:=rfl
theorem below_cells {B g:Nat} (hg:B≤g):∀ (vs:List Value) (o:Nat) {w0 w:World},Below B w0 w→Below B w0 (w.setCells g o vs)
 | [],_,_,_,h=>h
 | v :: r,o,_,_,h=>below_cells hg r (o+1) (h.setCell (p:=⟨g,o,none⟩) hg v)
def I2.ren:Go.Shelf.Ren:=⟨fun | 21=>164 | 27=>176 | 28=>177 | 35=>199 | 39=>162 | n=>n,fun | 0=>0 | 3=>3 | 4=>4 | 22=>27 | n=>n,fun | n=>n⟩
theorem I2.lays:Go.Proofs.Lays2.n21 Tryz.prog I2.ren:={
 mixed:=by kernel_rfl
 f21:=Tryz.func164.trans (congrArg some (by kernel_rfl))
 f27:=Tryz.func176.trans (congrArg some (by kernel_rfl))
 f28:=Tryz.func177.trans (congrArg some (by kernel_rfl))
 f35:=Tryz.func199.trans (congrArg some (by kernel_rfl))
 f39:=Tryz.func162.trans (congrArg some (by kernel_rfl))
 t0:=Tryz.underlying0
 a0:=Tryz.isAgg0
 z0:=Tryz.sizeOf0
 v0:=Tryz.zeroValue0
 t3:=Tryz.underlying3
 a3:=Tryz.isAgg3
 z3:=Tryz.sizeOf3
 v3:=Tryz.zeroValue3
 t4:=Tryz.underlying4
 a4:=Tryz.isAgg4
 z4:=Tryz.sizeOf4
 v4:=Tryz.zeroValue4
 t22:=Tryz.underlying27
 a22:=Tryz.isAgg27
 z22:=Tryz.sizeOf27
 v22:=Tryz.zeroValue27
 i3:=by kernel_rfl }
theorem box_some {w:World} {g:Nat} {t:TypeId} {cur:Array Value} (h:BoxN w g cur t) {j:Nat} (hj:j < cur.size):(w.cell? ⟨g,j,none⟩).isSome=true:=by
 rw [h.cell j (Array.getElem?_eq_getElem hj)];rfl
theorem own_new {W:World} {B m cap:Nat} {t:TypeId} {cs:Array Value} {xs:List Value} (hB:B≤W.heap.size) (hs:cs.size=cap) (hm:m≤cap) (hc:cap≤maxLen) (hl:xs.length=m) (hx:cs.toList.take m=xs) :
  (W.alloc (.cells cs t)).ownsRow B t 1 (.slice (some ⟨W.heap.size,0,none⟩) m cap) m xs :=
 ⟨by omega,Or.inr ⟨_,cap,cs,rfl,hB,BoxN.new W cs t,hm,hc,by omega,by rw [Nat.mul_one];exact hx⟩⟩
theorem put_at {w:World} {g p:Nat} {t:TypeId} {cur:Array Value} (h:BoxN w g cur t) {us:List Value} (hp:p+us.length≤cur.size) {j:Nat} {u:Value} (hu:us[j]?=some u):(w.setCells g p us).cell? ⟨g,p+j,none⟩=some u:=by
 obtain ⟨hj,rfl⟩:=List.getElem?_eq_some_iff.1 hu;exact World.cell?_setCells_in g us p w (fun i hi=>box_some h (by omega)) j hj
theorem put_off {w:World} {g p:Nat} {us:List Value} {j:Nat} (hj:j < p∨p+us.length≤j):(w.setCells g p us).cell? ⟨g,j,none⟩=w.cell? ⟨g,j,none⟩ :=
 World.cell?_setCells_out g us p w _ (fun _ _=>hj)
theorem ins_at {zs:List Int} {x:Int} {k:Nat} (hk:k≤zs.length) {F:Nat→Option Value} (h1:∀ j,j < k→F j=some (.int .i64 (zs.getD j 0))) (h2:F k=some (.int .i64 x)) (h3:∀ j,k≤j→j < zs.length→F (j+1)=some (.int .i64 (zs.getD j 0))) :
  ∀ j v,((zs.take k++x :: zs.drop k).map (Value.int .i64))[j]?=some v→F j=some v:=by
 intro j v hv;rw [List.getElem?_map] at hv;obtain ⟨z,hz,rfl⟩:=Option.map_eq_some_iff.1 hv;have hl:(zs.take k).length=k:=by rw [List.length_take];omega
 by_cases c:j < k
 ·rw [List.getElem?_append_left (by omega),List.getElem?_take_of_lt c] at hz;rw [h1 j c,List.getD,hz];rfl
 ·rw [List.getElem?_append_right (by omega),hl] at hz;by_cases e:j=k
  ·subst e;rw [Nat.sub_self] at hz;obtain rfl:x=z:=by simpa using hz
   exact h2
  ·obtain ⟨i,hi⟩:∃ i,j=i+1:=⟨j - 1,by omega⟩;subst hi;rw [show i+1 - k=(i - k)+1 by omega,List.getElem?_cons_succ,List.getElem?_drop,show k+(i - k)=i by omega] at hz;rw [h3 i (by omega) (List.getElem?_eq_some_iff.1 hz).1,List.getD,hz];rfl
theorem insert_any {w:World} {B k vb:Nat} {v:Value} {zs:List Int} {x:Int} (h:RowI w B v zs) (hB:B≤w.heap.size) (hk:k≤zs.length) (hl:(zs.length+1) * 8≤140737488355328)
  (hv:BoxN w vb #[.int .i64 x] 3) (hne:∀ g,v.ownBlock=some g→g≠vb) :
  Calls Tryz.prog 164 #[v,.int .i64 (k:Int),.slice (some ⟨vb,0,none⟩) 1 1] w fun e w'=>∃ v',e=.returned v'∧RowI w' B v' (zs.take k++x :: zs.drop k)∧Below B w w':=by
 have hvc:∀ (j:Nat) (u:Value),[Value.int .i64 x][j]?=some u→w.cell? ⟨vb,0+j,none⟩=some u:=by
  intro j u hj
  match j,hj with
  | 0,hj=>cases hj;exact hv.cell 0 rfl
 have h1v:∀ u ∈ [Value.int .i64 x],u.oneCell'=true:=by simp [Value.oneCell']
 have h1c:∀ u ∈ zs.map (Value.int .i64),u.oneCell'=true:=by
  intro u hu;obtain ⟨z,-,rfl⟩:=List.mem_map.1 hu
  rfl
 have hrl:(zs.take k++x :: zs.drop k).length=zs.length+1:=by simp;omega
 have hml:((zs.take k++x :: zs.drop k).map (Value.int .i64)).length=zs.length+1:=by rw [List.length_map,hrl]
 have hmx:zs.length+1≤maxLen:=by unfold maxLen;omega
 unfold RowI;rw [hrl];rcases h.2 with ⟨rfl,h0⟩ | ⟨g,cap,cur,rfl,hb,hg,h1,h2,h3,h4⟩
 ·obtain rfl:zs=[]:=List.length_eq_zero_iff.1 h0;obtain rfl:k=0:=by simpa using hk
  refine (Any2.slices_Insert_int_end_grow I2.lays none 0 0 vb 0 1 1 [] [.int .i64 x] w (by decide) (Nat.le_refl _) (by decide) (by decide) rfl rfl (fun _=>rfl) (fun a e=>by cases e) hvc h1v).mono ?_;rintro e w' ⟨rfl,rfl⟩;have hge:=grownCap_ge w (0+1) 0 (I2.ren.t 3);refine ⟨_,rfl,own_new (W:=w.drew) hB ?_ hge (grownCap_le_maxLen w _ _ _ hmx) (by simp) (by simp),((Below.refl B w).drew).alloc hB _⟩;generalize grownCap w (0+1) 0 (I2.ren.t 3)=c at hge ⊢;rw [Array.size_append,size_zeroCells];simp [Value.cells];omega
 ·rw [Nat.mul_one] at h3 h4;have hbx:BoxN w g cur 3:=hg;have hcap:cap≤9223372036854775807:=h2;have hgv:g≠vb:=hne g rfl;have hce:∀ j,j < zs.length→w.cell? ⟨g,j,none⟩=some (.int .i64 (zs.getD j 0)):=fun j hj=>by
   have:=(holds_of_blockI hg h4 j (by simpa using hj)).1;rw [Nat.zero_add] at this;rw [this];simp [List.getD,hj]
  have hcs:∀ (j:Nat) (u:Value),(zs.map (Value.int .i64))[j]?=some u→w.cell? ⟨g,0+j,none⟩=some u:=fun j u hu=>by
   rw [List.getElem?_map] at hu;obtain ⟨z,hz,rfl⟩:=Option.map_eq_some_iff.1 hu;rw [Nat.zero_add,hce j (List.getElem?_eq_some_iff.1 hz).1,List.getD,hz];rfl
  have hdr:∀ j,k≤j→j < zs.length→((zs.map (Value.int .i64)).drop k)[j - k]?=some (.int .i64 (zs.getD j 0)):=fun j h1 h2=>by
   rw [List.getElem?_drop,show k+(j - k)=j by omega,List.getElem?_map,List.getElem?_eq_getElem h2];simp [List.getD,h2]
  have hdl:((zs.map (Value.int .i64)).drop k).length=zs.length - k:=by simp
  by_cases hroom:zs.length+1≤cap
  ·by_cases hi:k < zs.length
   ·refine (Any2.slices_Insert_int_shift I2.lays g 0 zs.length cap k vb 0 1 1 (zs.map (Value.int .i64)) [.int .i64 x] w hi (by decide) hroom hcap (fun e=>hgv e.symm) (by simp) rfl hcs (fun j hj=>by rw [Nat.zero_add];exact box_some hbx (by omega)) (fun j hj=>hbx.frozen _) hvc h1c h1v 3 3 1 cap (by simp [World.shape?,show w.heap[vb]?=_ from hv]) (by simp [World.shape?,hg,h3]) (by omega) (hv.frozen 0) (hv.frozen 1)).mono ?_;rintro e w' ⟨rfl,rfl⟩;have hb0:BoxN w.drew g cur 3:=hbx;rw [Nat.zero_add,Nat.zero_add];obtain ⟨c1,hb1,hs1⟩:=box_setCells ((zs.map (Value.int .i64)).drop k) (k+1) _ _ hb0;obtain ⟨c2,hb2,hs2⟩:=box_setCells [Value.int .i64 x] k _ _ hb1;refine ⟨_,rfl,own_cells hb2 hb (by omega) hroom h2 hml (ins_at hk (fun j hj=>?_) ?_ (fun j h5 h6=>?_)),below_cells hb _ _ (below_cells hb _ _ ((Below.refl B w).drew))⟩
    ·rw [put_off (Or.inl hj),put_off (Or.inl (by omega))];exact hce j (by omega)
    ·exact put_at hb1 (p:=k) (us:=[Value.int .i64 x]) (by simp;omega) (j:=0) rfl
    ·rw [put_off (Or.inr (by simp;omega)),show j+1=k+1+(j - k) by omega];exact put_at hb0 (by omega) (hdr j h5 h6)
   ·obtain rfl:k=zs.length:=by omega
    refine (Any2.slices_Insert_int_end_room I2.lays g 0 zs.length cap vb 0 1 1 [.int .i64 x] w (by decide) hroom hcap rfl (fun j hj=>by rw [Nat.zero_add];exact box_some hbx (by omega)) (fun j hj=>hbx.frozen _) hvc h1v).mono ?_;rintro e w' ⟨rfl,rfl⟩;rw [Nat.zero_add];obtain ⟨c2,hb2,hs2⟩:=box_setCells [Value.int .i64 x] zs.length _ _ hbx;refine ⟨_,rfl,own_cells hb2 hb (by omega) hroom h2 hml (ins_at hk (fun j hj=>?_) ?_ (fun j h5 h6=>by omega)),below_cells hb _ _ (Below.refl B w)⟩
    ·rw [put_off (Or.inl hj)];exact hce j (by omega)
    ·exact put_at hbx (p:=zs.length) (us:=[Value.int .i64 x]) (by simp;omega) (j:=0) rfl
  ·have hge:=grownCap_ge w (zs.length+1) cap (I2.ren.t 3);have hgm:=grownCap_le_maxLen w (zs.length+1) cap (I2.ren.t 3) hmx;by_cases hi:k < zs.length
   ·refine (Any2.slices_Insert_int_grow I2.lays g 0 zs.length cap k vb 0 1 1 (zs.map (Value.int .i64)) [.int .i64 x] w hi (by decide) h1 (by omega) (by omega) (by simp) rfl hcs hvc h1c h1v).mono ?_;rintro e w' ⟨rfl,rfl⟩;obtain ⟨A,hA⟩:∃ A:Array Value,((zs.map (Value.int .i64)).take k).toArray++Builtin.zeroCells (Value.int .i64 0).cells (zs.length+1 - k)++Builtin.zeroCells (Value.int .i64 0).cells (grownCap w (zs.length+1) cap (I2.ren.t 3) - (zs.length+1))=A:=⟨_,rfl⟩;have hAs:A.size=grownCap w (zs.length+1) cap (I2.ren.t 3):=by
     rw [←hA,Array.size_append,Array.size_append,size_zeroCells,size_zeroCells];simp [Value.cells];omega
    have hAt:∀ j,j < k→A[j]?=some (.int .i64 (zs.getD j 0)):=fun j hj=>by
     rw [←hA,Array.append_assoc,Array.getElem?_append_left (by simp;omega)];simp [List.getD,hj,show j < zs.length by omega]
    rw [hA];have hb0:BoxN (w.alloc (.cells A (I2.ren.t 3))).drew w.heap.size A 3:=BoxN.new w A _;have hbB:Below B w (w.alloc (.cells A (I2.ren.t 3))).drew:=((Below.refl B w).alloc hB _).drew;generalize (w.alloc (.cells A (I2.ren.t 3))).drew=W0 at hb0 hbB ⊢;obtain ⟨c1,hb1,hs1⟩:=box_setCells [Value.int .i64 x] k _ _ hb0;have hb1':BoxN (W0.setCells w.heap.size k [Value.int .i64 x]).drew w.heap.size c1 3:=hb1;obtain ⟨c2,hb2,hs2⟩:=box_setCells ((zs.map (Value.int .i64)).drop k) (k+1) _ _ hb1';refine ⟨_,rfl,own_cells hb2 hB (by omega) hge hgm hml (ins_at hk (fun j hj=>?_) ?_ (fun j h5 h6=>?_)),below_cells hB _ _ ((below_cells hB _ _ hbB).drew)⟩
    ·rw [put_off (Or.inl (by omega)),cell_drew,put_off (Or.inl hj)];exact hb0.cell j (hAt j hj)
    ·rw [put_off (Or.inl (by omega)),cell_drew];exact put_at hb0 (p:=k) (us:=[Value.int .i64 x]) (by simp;omega) (j:=0) rfl
    ·rw [show j+1=k+1+(j - k) by omega];exact put_at hb1' (by omega) (hdr j h5 h6)
   ·obtain rfl:k=zs.length:=by omega
    refine (Any2.slices_Insert_int_end_grow I2.lays (some ⟨g,0,none⟩) zs.length cap vb 0 1 1 (zs.map (Value.int .i64)) [.int .i64 x] w (by decide) h1 (by omega) (by omega) (by simp) rfl (fun e=>by cases e) (fun a e j u hu=>by cases e;rw [Addr.add_lit];exact hcs j u hu) hvc h1v).mono ?_;rintro e w' ⟨rfl,rfl⟩;refine ⟨_,rfl,own_new (W:=w.drew) hB ?_ hge hgm hml ?_,((Below.refl B w).drew).alloc hB _⟩
    ·rw [Array.size_append,size_zeroCells];simp [Value.cells];omega
    ·rw [Array.toList_append,List.take_left' (by simp)];simp
end
section
open Go.RowKit
set_option maxRecDepth 100000
def nmPerm:ByteArray:=⟨#[112,101,114,109]⟩
def pick (x ks:List Int):List Int:=ks.map fun p=>x.getD p.toNat 0
def trF (x:List Int):List Int→List Int→Option (List Int)
 | ks,[]=>some (pick x ks)
 | ks,p :: l=>if ks.contains p=true then none else trF x (ks++[p]) l
theorem trF_end {x l:List Int} {k:Nat} (h:¬ k < l.length):trF x (l.take k) (l.drop k)=some (pick x l):=by rw [List.drop_eq_nil_of_le (by omega),List.take_of_length_le (by omega)];rfl
theorem trF_twice {x l:List Int} {k:Nat} (hk:k < l.length) (h:(l.take k).contains (l.getD k 0)=true):trF x (l.take k) (l.drop k)=none:=by rw [drop_next hk];exact if_pos h
theorem trF_next {x l:List Int} {k:Nat} (hk:k < l.length) (h:(l.take k).contains (l.getD k 0)=false):trF x (l.take k) (l.drop k)=trF x (l.take (k+1)) (l.drop (k+1)):=by
 rw [drop_next hk,trF,if_neg (by rw [h];decide),List.take_add_one,int_at hk]
 rfl
theorem pick_next {x l:List Int} {k:Nat} (hk:k < l.length):pick x (l.take (k+1))=pick x (l.take k)++[x.getD (l.getD k 0).toNat 0]:=by
 rw [List.take_add_one,int_at hk];simp [pick]
theorem pick_len (x l:List Int):(pick x l).length=l.length:=by simp [pick]
def transP (n:Nd) (x:List Int):Option (List Int):=match numsP (intsP n.attrs nmPerm (upL x.length).reverse) x.length 0 ((x.length:Int) - 1) with | none=>none | some p=>trF x [] p
theorem trans_no {n:Nd} {x:List Int} (h:numsP (intsP n.attrs nmPerm (upL x.length).reverse) x.length 0 ((x.length:Int) - 1)=none):transP n x=none:=by unfold transP;rw [h]
theorem trans_yes {n:Nd} {x p:List Int} (h:numsP (intsP n.attrs nmPerm (upL x.length).reverse) x.length 0 ((x.length:Int) - 1)=some p):transP n x=trF x (p.take 0) (p.drop 0):=by unfold transP;rw [h];rfl
attribute [local irreducible] intsP numsP upL RowI RowL transP trF pick
set_option maxHeartbeats 8000000 in
theorem transpose_any {w:World} {v vx:Value} {n:Nd} {ins:List Vl} {x:List Int} (h:MkV w v n ins) (hx:IntsIn w vx x) (hsm:Sm x) :
  Calls Tryz.prog 127 #[v,vx] w fun e w'=>ResI w (transP n x) e w':=by
 obtain ⟨i0,hi,hz0,hz1,hz2⟩:=info_parts info_int;obtain ⟨vin,vat,vv,rfl,hm⟩:=h;obtain ⟨a1,c1,rfl⟩:=hm.node.is.form;obtain ⟨a2,c2,rfl⟩:=hm.node.ia.form;obtain ⟨a3,c3,rfl⟩:=hm.ins.form;have HM:=hid hm;clear hm;obtain ⟨a4,c4,rfl⟩:=hx.shape;have hxl:=hx.wf.1;have hxc:=hx.capI.2;have HX:=hid hx;clear hx;have HY:=hid (fun (W:World)=>rule_yes W);have HNo:=hid (fun (W:World)=>rule_no W);have HB1:=hid ((Below.refl w.heap.size w).alloc (Nat.le_refl _) (Obj.cells #[.string n.op,.string n.name,.slice a1 n.ins.length c1,.string n.out,.slice a2 n.attrs.length c2,.slice a3 ins.length c3] 63));have HA1:=hid (BoxN.new w #[.string n.op,.string n.name,.slice a1 n.ins.length c1,.string n.out,.slice a2 n.attrs.length c2,.slice a3 ins.length c3] 63);have hx6:=hsm.1;clear hsm;go_enter Tryz.func127,Tryz.ntmps127
 go_wp2_with fail
 generalize World.alloc w (Obj.cells #[.string n.op,.string n.name,.slice a1 n.ins.length c1,.string n.out,.slice a2 n.attrs.length c2,.slice a3 ins.length c3] 63)=W1 at HB1 HA1 ⊢;have HBw:Hid (∀ W,Below W1.heap.size W1 W→Below w.heap.size w W):=hid fun W hB=>HB1.out.trans (hB.mono HB1.out.size);have HCo:=hid (fun (W:World) (u:Value) (ks:List Int) (h:IntsIn W u ks) (x:Int)=>containsI2_any h x);have HN1:=hid (fun h=>trans_no (n:=n) (x:=x) h);have HN2:=hid (fun p h=>trans_yes (n:=n) (x:=x) (p:=p) h);refine (upTo_any x.length (by omega) W1).mono ?_;rintro e w2 ⟨B2,v2,rfl,hr2⟩;have HW2:Hid (Below W1.heap.size W1 w2):=hid B2;have HR2:=hid hr2;obtain ⟨a5,c5,rfl⟩:=hr2.form;clear B2 hr2;go_wp2_with fail
 refine (rev64_any (B:=W1.heap.size) (by have:=HR2.out;unfold RowL at this;exact this) HW2.out.size (by rw [upL_len];omega)).mono ?_;rintro e w3 ⟨rfl,hr3,B3⟩;have HW3:Hid (Below W1.heap.size W1 w3):=hid (HW2.out.trans B3);have HI3:Hid (IntsIn w3 (.slice a5 (upL x.length).length c5) (upL x.length).reverse):=hid (RowL.ints (B:=W1.heap.size) (by unfold RowL;exact hr3) (by rw [List.length_reverse,upL_len];omega) (fun z hz=>upL_in _ (by omega) z (List.mem_reverse.1 hz)));clear hr3 B3 HR2 HW2;generalize (upL x.length).reverse=ol at *;obtain ⟨k0,k1,k2,k3,k4,k5⟩:=(HA1.out.below' HW3.out).six;have hxw:IntKind.i64.wrap ((x.length:Int) - 1)=(x.length:Int) - 1:=by rw [IntKind.wrap_i64];omega
 go_wp2_with fail
 clear k0 k1 k2 k3 k4 k5 hxw;refine (numbers_any (n:=n) ⟨_,_,rfl,(HM.out.below (HBw.out _ HW3.out)).node⟩ nmPerm HI3.out (x.length:Int) 0 ((x.length:Int) - 1)).mono ?_;rintro e w4 ⟨B4,hc⟩;have HW4:=hid (HW3.out.trans (B4.mono HW3.out.size));cases hp:numsP (intsP n.attrs nmPerm ol) x.length 0 ((x.length:Int) - 1) with
 | none =>
  rw [hp] at hc;obtain rfl:e=brk 4:=hc;have E:=hid (HN1.out hp);clear hp;exact ⟨rfl,ResI.no E.out (HBw.out _ HW4.out)⟩
 | some p =>
  rw [hp] at hc;obtain ⟨v4,rfl,hr4⟩:∃ v,e=.returned v∧RowI w4 _ v p:=hc;have E:=hid (HN2.out p hp);obtain ⟨hpl,hpr⟩:=nums_props hp;have hpl:p.length=x.length:=by omega
  have HPr:=hid hpr;have HI4:Hid (IntsIn w4 v4 p):=hid (hr4.ints (by omega) (fun z hz=>by have:=HPr.out z hz;unfold InI;omega));obtain ⟨a6,c6,rfl⟩:=HI4.out.shape;have hpc:=HI4.out.capI.2;have HPL:=hid hpl;have hpw:=HI4.out.wf.1;clear hp hr4 hpr hpl B4 HN1 HN2 HI3;go_wp2_with fail
  go_loopw [7,26] (fun ov i wr=>∃ (k:Nat),k≤p.length∧i=.int .i64 (k:Int)∧Hid (transP n x=trF x (p.take k) (p.drop k))∧Hid (RowI wr w4.heap.size ov (pick x (p.take k)))∧Hid (Below w4.heap.size w4 wr)) (fun _ i _=>p.length - (intOf i).toNat)
  case atStart=>exact ⟨0,Nat.zero_le _,rfl,E,hid (by rw [List.take_zero,show pick x []=[] by unfold pick;rfl];exact RowI.nil _ _),hid (Below.refl _ _)⟩
  case round =>
   obtain ⟨k,hk,rfl,hF,hO,hW⟩:=hrel;have HWr:=hid (HBw.out _ (HW4.out.trans (hW.out.mono HW4.out.size)));obtain ⟨ao,co,rfl⟩:=hO.out.form;have hpk:(pick x (p.take k)).length=k:=by rw [pick_len,List.length_take];omega
   rw [hpk];have hO:Hid ((RowI wr w4.heap.size (.slice ao k co) (pick x (p.take k)))):=hid (by have:=hO.out;rwa [hpk] at this);by_cases hkl:k < p.length
   ·have hki:(k:Int) < (p.length:Int):=by omega
    have hzr:=HPr.out _ (getD_mem (zs:=p) hkl);obtain ⟨j,hj⟩:∃ j:Nat,p.getD k 0=(j:Int):=⟨(p.getD k 0).toNat,by omega⟩;have hjx:j < x.length:=by omega
    have hji:(j:Int) < (x.length:Int):=by omega
    obtain ⟨bp,op',hap,-,gp,up,-⟩:=ints_at HI4.out hkl;subst hap;have up:=(hW.out.cell (p:=⟨bp,op'+k,none⟩) gp).trans up;obtain ⟨bx,ox,hax,-,gx,ux,hxi⟩:=ints_at HX.out hjx;subst hax;have ux:=(HWr.out.cell (p:=⟨bx,ox+j,none⟩) gx).trans ux;have HKI:Hid (IntsIn wr (.slice (some ⟨bp,op',none⟩) k c6) (p.take k)):=hid ((HI4.out.below hW.out).take hk);have F1:=hid (fun h=>trF_twice (x:=x) hkl h);have F2:=hid (fun h=>trF_next (x:=x) hkl h);have F3:=hid (pick_next (x:=x) hkl);rw [hj] at up F1 F2 F3;rw [Int.toNat_natCast] at F3;clear hj hzr gp gx hxi;generalize x.getD j 0=xj at *;have hC:=HCo.out wr _ _ HKI.out (j:Int);cases hct:(p.take k).contains (j:Int) with
    | true =>
     have G:=hid (hF.out.trans (F1.out hct));rw [hct] at hC;have hC:=hid hC;clear hct F1 F2 F3 hpk;go_wp2_with fail
     refine hC.out.mono ?_;rintro e w' ⟨rfl,rfl⟩;go_wp2_with fail
     refine (HNo.out _).mono ?_;rintro e w' ⟨rfl,rfl⟩;exact ⟨rfl,ResI.no G.out HWr.out⟩
    | false =>
     have G:=hid (hF.out.trans (F2.out hct));rw [hct] at hC;have hC:=hid hC;have HPK:=hid hpk;clear hct F1 F2 hpk;have HOwn:Hid (wr.ownsRow w4.heap.size 3 1 (.slice ao k co) k ((pick x (p.take k)).map (Value.int .i64))):=hid (by have:=hO.out.own;rwa [HPK.out] at this);go_wp2_with fail
     refine hC.out.mono ?_;rintro e w' ⟨rfl,rfl⟩;go_wp2_with fail
     refine (HY.out _).mono ?_;rintro e w' ⟨rfl,rfl⟩;have hsw:=HWr.out.size;have hsw4:=hW.out.size;go_wp2_with (at_builtin;refine wpList_append_own _ rfl _ _ 27 rfl w4.heap.size 3 i0 (.int .i64 0) 1 8 Tryz.underlying27 hi hz0 hz1 hz2 rfl (by decide) _ _ _ rfl (HOwn.out.alloc _) ⟨w'.heap.size,0,none⟩ 1 1 (#[.int .i64 xj]:Array Value).toList rfl rfl (World.news_of_block (heap_alloc_new w' _)) (by simp [Value.oneCell']) ?A3 ?A4 ?A5 ?_)
     case A3=>unfold maxLen;omega
     case A4=>omega
     case A5=>first | (simp;omega) | omega
     intro v' w9 hown' hgrow _;have hb9:Hid (Below w4.heap.size w4 w9):=hid ((hW.out.alloc hsw4 _).grown hgrow (by simp;omega) fun g hg=>(hO.out.own.lt g hg).1);have ho9:Hid (RowI w9 w4.heap.size v' (pick x (p.take (k+1)))):=hid (by rw [F3.out];refine RowI.push (hO.out) ?_;rw [HPK.out];exact hown');clear hown' hgrow F3;go_wp2_with fail
     go_roundw
     case rel=>exact ⟨k+1,by omega,by go_num,G,ho9,hb9⟩
     case measure=>simp [intOf];omega
   ·have hki:¬ (k:Int) < (p.length:Int):=by omega
    have G:=hid (hF.out.trans (trF_end hkl));have HRw:Hid (RowI wr w.heap.size (.slice ao k co) (pick x p)):=hid (by have:=hO.out;rw [List.take_of_length_le (by omega)] at this;exact this.base (HBw.out _ HW4.out).size);go_wp2
    go_ret
    exact ResI.yes G.out HWr.out HRw.out
end
section
open Go.RowKit
set_option maxRecDepth 100000
theorem axesF_nodup {r:Nat}:∀ (l acc ks:List Int),axesF r acc l=some ks→acc.Nodup→ks.Nodup
 | [],acc,ks,h,hn=>by obtain rfl:acc=ks:=Option.some.inj h;exact hn
 | a :: l,acc,ks,h,hn=>by
  unfold axesF at h;split at h
  ·cases h
  ·rename_i k _
   split at h
   ·cases h
   ·rename_i hc
    refine axesF_nodup l _ ks h ?_;rw [List.nodup_append];refine ⟨hn,by simp,fun x hx y hy e=>?_⟩;obtain rfl:y=k:=by simpa using hy
    subst e;exact hc (by rw [List.contains_iff_mem];exact hx)
theorem axesP_nodup {r:Nat} {l ks:List Int} (h:axesP l r=some ks):ks.Nodup:=axesF_nodup l [] ks h (by simp)
def srt (l:List Int):List Int:=l.mergeSort fun x y=>decide (x≤y)
theorem srt_len (l:List Int):(srt l).length=l.length:=List.length_mergeSort _
theorem srt_mem {l:List Int} {z:Int} (h:z ∈ srt l):z ∈ l:=List.mem_mergeSort.1 h
theorem srt_up {l:List Int} (h:l.Nodup):(srt l).Pairwise (fun x y=>x < y):=by
 have h1:=List.pairwise_mergeSort (le:=fun (x y:Int)=>decide (x≤y)) (by intro a b c;simp;omega) (by intro a b;simp;omega) l;have h2:(srt l).Nodup:=(List.mergeSort_perm l _).nodup_iff.2 h;rw [List.pairwise_iff_getElem];intro i j hi hj hij;have e1:=(List.pairwise_iff_getElem.1 h1) i j hi hj hij;have e2:=(List.pairwise_iff_getElem.1 h2) i j hi hj hij;have e1:(srt l)[i]≤(srt l)[j]:=of_decide_eq_true e1;have e2:(srt l)[i]≠(srt l)[j]:=e2;omega
theorem atI {L:List Int} {k:Nat} (h:k < L.length):L[k]=L.getD k 0:=by simp [List.getD,List.getElem?_eq_getElem h]
theorem up_low {L:List Int} {R:Nat} (h:L.Pairwise (fun x y=>x < y)) (hr:∀ z ∈ L,0≤z∧z < (R:Int)):∀ d k:Nat,k+d+1=L.length→L.getD k 0+((d:Int)+1)≤R
 | 0,k,hk=>by have:=hr _ (getD_mem (zs:=L) (k:=k) (by omega));omega
 | d+1,k,hk=>by
  have ih:=up_low h hr d (k+1) (by omega);have:=(List.pairwise_iff_getElem.1 h) k (k+1) (by omega) (by omega) (by omega);rw [atI,atI] at this;omega
theorem down_low {L:List Int} {R:Nat} (h:L.Pairwise (fun x y=>y < x)) (hr:∀ z ∈ L,0≤z∧z < (R:Int)):∀ k:Nat,k < L.length→L.getD k 0+(k:Int) < R
 | 0,hk=>by have:=hr _ (getD_mem (zs:=L) hk);omega
 | k+1,hk=>by
  have ih:=down_low h hr k (by omega);have:=(List.pairwise_iff_getElem.1 h) k (k+1) (by omega) (by omega) (by omega);rw [atI,atI] at this;omega
def sqF:List Int→List Int→Option (List Int)
 | out,[]=>some out
 | out,a :: l=>if out.getD a.toNat 0=1 then sqF (out.take a.toNat++out.drop (a.toNat+1)) l else none
theorem sq_end {out l:List Int} {k:Nat} (h:¬ k < l.length):sqF out (l.drop k)=some out:=by rw [List.drop_eq_nil_of_le (by omega)];rfl
theorem sq_bad {out l:List Int} {k j:Nat} (hk:k < l.length) (hj:l.getD k 0=(j:Int)) (h:¬ out.getD j 0=1):sqF out (l.drop k)=none:=by rw [drop_next hk,hj,sqF,Int.toNat_natCast];exact if_neg h
theorem sq_next {out l:List Int} {k j:Nat} (hk:k < l.length) (hj:l.getD k 0=(j:Int)) (h:out.getD j 0=1):sqF out (l.drop k)=sqF (out.take j++out.drop (j+1)) (l.drop (k+1)):=by rw [drop_next hk,hj,sqF,Int.toNat_natCast];exact if_pos h
def squeezeP (n:Nd) (x:List Int):Option (List Int):=match axesP (intsP n.attrs nmAxes []) x.length with | none=>none | some l=>sqF x (srt l).reverse
theorem squeeze_no {n:Nd} {x:List Int} (h:axesP (intsP n.attrs nmAxes []) x.length=none):squeezeP n x=none:=by unfold squeezeP;rw [h]
theorem squeeze_yes {n:Nd} {x l:List Int} (h:axesP (intsP n.attrs nmAxes []) x.length=some l):squeezeP n x=sqF x ((srt l).reverse.drop 0):=by unfold squeezeP;rw [h];rfl
def unF:List Int→List Int→List Int
 | out,[]=>out
 | out,a :: l=>unF (out.take a.toNat++1 :: out.drop a.toNat) l
theorem un_end {out l:List Int} {k:Nat} (h:¬ k < l.length):unF out (l.drop k)=out:=by rw [List.drop_eq_nil_of_le (by omega)];rfl
theorem un_next {out l:List Int} {k j:Nat} (hk:k < l.length) (hj:l.getD k 0=(j:Int)):unF out (l.drop k)=unF (out.take j++1 :: out.drop j) (l.drop (k+1)):=by rw [drop_next hk,hj,unF,Int.toNat_natCast]
def unsqP (n:Nd) (x:List Int):Option (List Int):=match axesP (intsP n.attrs nmAxes []) (x.length+(intsP n.attrs nmAxes []).length) with | none=>none | some l=>some (unF x (srt l))
theorem unsq_no {n:Nd} {x s:List Int} (es:intsP n.attrs nmAxes []=s) (h:axesP s (x.length+s.length)=none):unsqP n x=none:=by subst es;unfold unsqP;rw [h]
theorem unsq_yes {n:Nd} {x s l:List Int} (es:intsP n.attrs nmAxes []=s) (h:axesP s (x.length+s.length)=some l):unsqP n x=some (unF x ((srt l).drop 0)):=by subst es;unfold unsqP;rw [h];rfl
attribute [local irreducible] intsP axesP sqF unF squeezeP unsqP RowI RowL srt
set_option maxHeartbeats 8000000 in
theorem squeeze_any {w:World} {v vx:Value} {n:Nd} {ins:List Vl} {x:List Int} (h:MkV w v n ins) (hx:IntsIn w vx x) (hsm:Sm x) :
  Calls Tryz.prog 132 #[v,vx] w fun e w'=>ResI w (squeezeP n x) e w':=by
 obtain ⟨i0,hi,hz0,hz1,hz2⟩:=info_parts info_int;obtain ⟨vin,vat,vv,rfl,hm⟩:=h;obtain ⟨a1,c1,rfl⟩:=hm.node.is.form;obtain ⟨a2,c2,rfl⟩:=hm.node.ia.form;obtain ⟨a3,c3,rfl⟩:=hm.ins.form;have HM:=hid hm;clear hm;obtain ⟨a4,c4,rfl⟩:=hx.shape;have hxl:=hx.wf.1;have hxc:=hx.capI.2;have HX:=hid hx;clear hx;have HY:=hid (fun (W:World)=>rule_yes W);have HNo:=hid (fun (W:World)=>rule_no W);have HB1:=hid ((Below.refl w.heap.size w).alloc (Nat.le_refl _) (Obj.cells #[.string n.op,.string n.name,.slice a1 n.ins.length c1,.string n.out,.slice a2 n.attrs.length c2,.slice a3 ins.length c3] 63));have HA1:=hid (BoxN.new w #[.string n.op,.string n.name,.slice a1 n.ins.length c1,.string n.out,.slice a2 n.attrs.length c2,.slice a3 ins.length c3] 63);have HSm:=hid hsm;have hx6:=hsm.1;clear hsm;obtain ⟨k0,k1,k2,k3,k4,k5⟩:=HA1.out.six;go_enter Tryz.func132,Tryz.ntmps132
 go_wp2_with fail
 generalize World.alloc w (Obj.cells #[.string n.op,.string n.name,.slice a1 n.ins.length c1,.string n.out,.slice a2 n.attrs.length c2,.slice a3 ins.length c3] 63)=W1 at HB1 HA1 ⊢;have HBw:Hid (∀ W,Below W1.heap.size W1 W→Below w.heap.size w W):=hid fun W hB=>HB1.out.trans (hB.mono HB1.out.size);clear k0 k1 k2 k3 k4 k5;refine (sints_any (n:=n) ⟨_,_,rfl,(HM.out.below HB1.out).node⟩ nmAxes (.empty none 0)).mono ?_;rintro e w2 ⟨v2,rfl,hr,B⟩;have HW2:Hid (Below W1.heap.size W1 w2):=hid B;have hok:=ints_okP (nm:=nmAxes) (other:=[]) (v:=(.agg #[.string n.op,.string n.name,.slice a1 n.ins.length c1,.string n.out,.slice a2 n.attrs.length c2])) ⟨_,_,rfl,HM.out.node⟩ (by simp) (by simp);have HN1:=hid (fun h=>squeeze_no (n:=n) (x:=x) h);have HN2:=hid (fun l h=>squeeze_yes (n:=n) (x:=x) (l:=l) h);have HI2:Hid (IntsIn w2 v2 (intsP n.attrs nmAxes [])):=hid (RowL.ints (B:=W1.heap.size) (by unfold RowL;exact hr) hok.1 hok.2);have hsl:=hok.1;clear hr hok B;generalize intsP n.attrs nmAxes []=s at *;obtain ⟨as',cs',rfl⟩:=HI2.out.shape;go_wp2_with fail
 refine (axes_any (r:=x.length) HI2.out hsl (by omega)).mono ?_;rintro e w3 ⟨B3,hc⟩;have HW3:=hid (HW2.out.trans (B3.mono HW2.out.size));have HB3:=hid B3;clear B3;cases hax:axesP s x.length with
 | none =>
  rw [hax] at hc;obtain rfl:e=brk 4:=hc;have E:=hid (HN1.out hax);exact ⟨rfl,ResI.no E.out (HBw.out _ HW3.out)⟩
 | some l =>
 rw [hax] at hc;obtain ⟨v3,rfl,hr3⟩:∃ v,e=.returned v∧RowI w3 _ v l:=hc;obtain ⟨hpl,hpn⟩:=axesP_props hax;have E:=hid (HN2.out l hax);have HND:=hid (axesP_nodup hax);have HP:=hid hpl;have hll:l.length * 8≤140737488351232:=by rw [hpn];exact hsl
 have HR3:=hid hr3;obtain ⟨a5,c5,rfl⟩:=hr3.form;clear hr3 hax hpl hpn HN1 HN2 HI2;go_wp2_with fail
 refine (sort_any HR3.out HB3.out.size (by omega)).mono ?_;rintro e w4 ⟨rfl,hr4,B4⟩;have HR4:Hid (RowI w4 w2.heap.size (.slice a5 l.length c5) (srt l)):=hid (by unfold srt;exact hr4);have HB4:=hid (HB3.out.trans B4);clear hr4 B4 HR3 HB3;go_wp2_with fail
 refine (rev_any HR4.out HB4.out.size (by rw [srt_len];omega)).mono ?_;rintro e w5 ⟨rfl,hr5,B5⟩;have HB5:=hid (HB4.out.trans B5);have HW5:=hid (HW2.out.trans (HB5.out.mono HW2.out.size));have HLl:Hid ((srt l).reverse.length=l.length):=hid (by rw [List.length_reverse,srt_len]);have HLD:=hid (down_low (L:=(srt l).reverse) (R:=x.length) (List.pairwise_reverse.2 (srt_up HND.out)) (fun z hz=>HP.out z (srt_mem (List.mem_reverse.1 hz))));have HLP:Hid (∀ z ∈ (srt l).reverse,0≤z∧z < (x.length:Int)):=hid (fun z hz=>HP.out z (srt_mem (List.mem_reverse.1 hz)));generalize (srt l).reverse=L at *;have HI5:Hid (IntsIn w5 (.slice a5 l.length c5) L):=hid (hr5.ints (by rw [HLl.out];exact hll) (fun z hz=>inI_low (HLP.out z hz) (by omega)));clear hr5 B5 HR4 HB4 HND HP HW2 HB5;go_wp2_with fail
 refine (Vb.clone_any (HX.out.below (HBw.out _ HW5.out))).mono ?_;rintro e w6 ⟨v6,rfl,hf6,B6⟩;have HR6:Hid (RowI w6 w5.heap.size v6 x):=hid (by unfold RowI;exact hf6);have HB6:=hid B6;obtain ⟨a7,c7,rfl⟩:=hf6.form;clear hf6 B6;go_wp2_with fail
 go_loopw [6,23] (fun ov i wr=>∃ (k:Nat) (out:List Int),k≤l.length∧i=.int .i64 (k:Int)∧out.length+k=x.length∧Hid (∀ z ∈ out,InI z)∧Hid (squeezeP n x=sqF out (L.drop k))∧Hid (RowI wr w5.heap.size ov out)∧Hid (Below w5.heap.size w5 wr)) (fun _ i _=>l.length - (intOf i).toNat)
 case atStart=>exact ⟨0,x,Nat.zero_le _,rfl,rfl,hid HX.out.wf.2,E,HR6,HB6⟩
 case round =>
  obtain ⟨k,out,hk,rfl,hol,hOI,hF,hO,hW⟩:=hrel;have HWr:=hid (HBw.out _ (HW5.out.trans (hW.out.mono HW5.out.size)));obtain ⟨ao,co,rfl⟩:=hO.out.form;by_cases hkl:k < l.length
  ·have hki:(k:Int) < (l.length:Int):=by omega
   have hkL:k < L.length:=by rw [HLl.out];exact hkl
   have hzr:=HLP.out _ (getD_mem (zs:=L) hkL);have hzd:=HLD.out k hkL;obtain ⟨j,hj⟩:∃ j:Nat,L.getD k 0=(j:Int):=⟨(L.getD k 0).toNat,by omega⟩;have hjo:j < out.length:=by omega
   have hji:(j:Int) < (out.length:Int):=by omega
   have hj0:(0:Int)≤(j:Int):=by omega
   obtain ⟨bp,op',hap,-,gp,up,-⟩:=ints_at HI5.out hkL;subst hap;have up:=(hW.out.cell (p:=⟨bp,op'+k,none⟩) gp).trans up;obtain ⟨bx,ox,hax,-,gx,ux,hxi⟩:=ints_at (hO.out.ints (by omega) hOI.out) hjo;subst hax;have F1:=hid (fun h=>sq_bad (out:=out) hkL hj h);have F2:=hid (fun h=>sq_next (out:=out) hkL hj h);rw [hj] at up;clear hj hzr hzd gp gx hxi;have hjw:IntKind.i64.wrap ((j:Int)+1)=(j:Int)+1:=by rw [IntKind.wrap_i64];omega
   generalize out.getD j 0=q at *;by_cases h1:q=1
   ·have G:=hid (hF.out.trans (F2.out h1));rw [h1] at ux;clear h1 F1 F2;have HD:=hid (delete_any hO.out hW.out.size hjo);go_wp2_with fail
    refine (HY.out _).mono ?_;rintro e w' ⟨rfl,rfl⟩;go_wp2_with fail
    refine HD.out.mono ?_;rintro e w9 ⟨v9,rfl,hr9,B9⟩;have HR9:=hid hr9;have HB9:=hid (hW.out.trans B9);have HOI:Hid (∀ z ∈ out.take j++out.drop (j+1),InI z):=hid (fun z hz=>hOI.out z (by rcases List.mem_append.1 hz with h | h;exact List.mem_of_mem_take h;exact List.mem_of_mem_drop h));have HOL2:Hid ((out.take j++out.drop (j+1)).length+(k+1)=x.length):=hid (by simp;omega);clear hr9 B9 HD ux up;generalize out.take j++out.drop (j+1)=out2 at *;obtain ⟨a9,c9,rfl⟩:=HR9.out.form;go_wp2_with fail
    go_roundw
    case rel=>exact ⟨k+1,out2,by omega,by go_num,HOL2.out,HOI,G,HR9,HB9⟩
    case measure=>simp [intOf];omega
   ·have G:=hid (hF.out.trans (F1.out h1));have hb1:(q==1)=false:=by simpa using h1
    clear h1 F1 F2;go_wp2_with fail
    refine (HNo.out _).mono ?_;rintro e w' ⟨rfl,rfl⟩;exact ⟨rfl,ResI.no G.out HWr.out⟩
  ·have hki:¬ (k:Int) < (l.length:Int):=by omega
   have G:=hid (hF.out.trans (sq_end (by rw [HLl.out];exact hkl)));have HRw:Hid (RowI wr w.heap.size (.slice ao out.length co) out):=hid (hO.out.base (HBw.out _ HW5.out).size);go_wp2
   go_ret
   exact ResI.yes G.out HWr.out HRw.out
set_option maxHeartbeats 8000000 in
theorem unsqueeze_any {w:World} {v vx:Value} {n:Nd} {ins:List Vl} {x:List Int} (h:MkV w v n ins) (hx:IntsIn w vx x) (hsm:Sm x) :
  Calls Tryz.prog 133 #[v,vx] w fun e w'=>ResI w (unsqP n x) e w':=by
 obtain ⟨i0,hi,hz0,hz1,hz2⟩:=info_parts info_int;obtain ⟨vin,vat,vv,rfl,hm⟩:=h;obtain ⟨a1,c1,rfl⟩:=hm.node.is.form;obtain ⟨a2,c2,rfl⟩:=hm.node.ia.form;obtain ⟨a3,c3,rfl⟩:=hm.ins.form;have HM:=hid hm;clear hm;obtain ⟨a4,c4,rfl⟩:=hx.shape;have hxl:=hx.wf.1;have hxc:=hx.capI.2;have HX:=hid hx;clear hx;have HY:=hid (fun (W:World)=>rule_yes W);have HNo:=hid (fun (W:World)=>rule_no W);have HB1:=hid ((Below.refl w.heap.size w).alloc (Nat.le_refl _) (Obj.cells #[.string n.op,.string n.name,.slice a1 n.ins.length c1,.string n.out,.slice a2 n.attrs.length c2,.slice a3 ins.length c3] 63));have HA1:=hid (BoxN.new w #[.string n.op,.string n.name,.slice a1 n.ins.length c1,.string n.out,.slice a2 n.attrs.length c2,.slice a3 ins.length c3] 63);have HSm:=hid hsm;have hx6:=hsm.1;clear hsm;obtain ⟨k0,k1,k2,k3,k4,k5⟩:=HA1.out.six;go_enter Tryz.func133,Tryz.ntmps133
 go_wp2_with fail
 generalize World.alloc w (Obj.cells #[.string n.op,.string n.name,.slice a1 n.ins.length c1,.string n.out,.slice a2 n.attrs.length c2,.slice a3 ins.length c3] 63)=W1 at HB1 HA1 ⊢;have HBw:Hid (∀ W,Below W1.heap.size W1 W→Below w.heap.size w W):=hid fun W hB=>HB1.out.trans (hB.mono HB1.out.size);clear k0 k1 k2 k3 k4 k5;refine (sints_any (n:=n) ⟨_,_,rfl,(HM.out.below HB1.out).node⟩ nmAxes (.empty none 0)).mono ?_;rintro e w2 ⟨v2,rfl,hr,B⟩;have HW2:Hid (Below W1.heap.size W1 w2):=hid B;have hok:=ints_okP (nm:=nmAxes) (other:=[]) (v:=(.agg #[.string n.op,.string n.name,.slice a1 n.ins.length c1,.string n.out,.slice a2 n.attrs.length c2])) ⟨_,_,rfl,HM.out.node⟩ (by simp) (by simp);obtain ⟨s,hse⟩:∃ s,intsP n.attrs nmAxes []=s:=⟨_,rfl⟩;rw [hse] at hr hok;have HN1:=hid (fun h=>unsq_no (n:=n) (x:=x) hse h);have HN2:=hid (fun l h=>unsq_yes (n:=n) (x:=x) (l:=l) hse h);have HI2:Hid (IntsIn w2 v2 s):=hid (RowL.ints (B:=W1.heap.size) (by unfold RowL;exact hr) hok.1 hok.2);have hsl:=hok.1;clear hr hok B hse;obtain ⟨as',cs',rfl⟩:=HI2.out.shape;have hxs:IntKind.i64.wrap ((x.length:Int)+(s.length:Int))=((x.length+s.length:Nat):Int):=by rw [IntKind.wrap_i64];omega
 go_wp2_with fail
 clear hxs;refine (axes_any (r:=x.length+s.length) HI2.out hsl (by omega)).mono ?_;rintro e w3 ⟨B3,hc⟩;have HW3:=hid (HW2.out.trans (B3.mono HW2.out.size));have HB3:=hid B3;clear B3;cases hax:axesP s (x.length+s.length) with
 | none =>
  rw [hax] at hc;obtain rfl:e=brk 4:=hc;have E:=hid (HN1.out hax);exact ⟨rfl,ResI.no E.out (HBw.out _ HW3.out)⟩
 | some l =>
 rw [hax] at hc;obtain ⟨v3,rfl,hr3⟩:∃ v,e=.returned v∧RowI w3 _ v l:=hc;obtain ⟨hpl,hpn⟩:=axesP_props hax;have E:=hid (HN2.out l hax);have HND:=hid (axesP_nodup hax);have HP:=hid hpl;have HPN:=hid hpn;have hll:l.length * 8≤140737488351232:=by rw [hpn];exact hsl
 have HR3:=hid hr3;obtain ⟨a5,c5,rfl⟩:=hr3.form;clear hr3 hax hpl hpn HN1 HN2 HI2;go_wp2_with fail
 refine (sort_any HR3.out HB3.out.size (by omega)).mono ?_;rintro e w5 ⟨rfl,hr5,B4⟩;have hr5:RowI w5 w2.heap.size (.slice a5 l.length c5) (srt l):=by unfold srt;exact hr5
 have HB5:=hid (HB3.out.trans B4);have HW5:=hid (HW2.out.trans (HB5.out.mono HW2.out.size));have HLl:Hid ((srt l).length=l.length):=hid (srt_len l);have HLP:Hid (∀ z ∈ srt l,0≤z∧z < ((x.length+s.length:Nat):Int)):=hid (fun z hz=>HP.out z (srt_mem hz));have HLD:=hid (up_low (L:=srt l) (R:=x.length+s.length) (srt_up HND.out) HLP.out);have HU:Hid (∀ z ∈ unF x (srt l),True):=hid (fun _ _=>trivial);clear HU;generalize srt l=L at *;have HI5:Hid (IntsIn w5 (.slice a5 l.length c5) L):=hid (hr5.ints (by rw [HLl.out];exact hll) (fun z hz=>inI_low (HLP.out z hz) (by omega)));clear hr5 B4 HR3 HB3 HND HP HW2 HB5;go_wp2_with fail
 refine (Vb.clone_any (HX.out.below (HBw.out _ HW5.out))).mono ?_;rintro e w6 ⟨v6,rfl,hf6,B6⟩;have HR6:Hid (RowI w6 w5.heap.size v6 x):=hid (by unfold RowI;exact hf6);have HB6:=hid B6;obtain ⟨a7,c7,rfl⟩:=hf6.form;clear hf6 B6;go_wp2_with fail
 go_loopw [7,26] (fun ov i wr=>∃ (k:Nat) (out:List Int),k≤l.length∧i=.int .i64 (k:Int)∧out.length=x.length+k∧Hid (unsqP n x=some (unF out (L.drop k)))∧Hid (RowI wr w5.heap.size ov out)∧Hid (Below w5.heap.size w5 wr)) (fun _ i _=>l.length - (intOf i).toNat)
 case atStart=>exact ⟨0,x,Nat.zero_le _,rfl,rfl,E,HR6,HB6⟩
 case round =>
  obtain ⟨k,out,hk,rfl,hol,hF,hO,hW⟩:=hrel;have HWr:=hid (HBw.out _ (HW5.out.trans (hW.out.mono HW5.out.size)));obtain ⟨ao,co,rfl⟩:=hO.out.form;have HOL:=hid hol;clear hol;by_cases hkl:k < l.length
  ·have hki:(k:Int) < (l.length:Int):=by omega
   have hkL:k < L.length:=by rw [HLl.out];exact hkl
   have hzr:=HLP.out _ (getD_mem (zs:=L) hkL);have hzd:=HLD.out (L.length - k - 1) k (by omega);obtain ⟨j,hj⟩:∃ j:Nat,L.getD k 0=(j:Int):=⟨(L.getD k 0).toNat,by omega⟩;have hjo:j≤out.length:=by have:=HOL.out;have:=HPN.out;have:=HLl.out;omega
   obtain ⟨bp,op',hap,-,gp,up,-⟩:=ints_at HI5.out hkL;subst hap;have up:=(hW.out.cell (p:=⟨bp,op'+k,none⟩) gp).trans up;have F2:=hid (un_next (out:=out) hkL hj);rw [hj] at up;clear hj hzr hzd gp;have G:=hid (hF.out.trans (congrArg some F2.out));have HOA:=hid (hO.out.below ((Below.refl wr.heap.size wr).alloc (Nat.le_refl _) (.cells #[.int .i64 1] 3)));have HWA:Hid (Below w5.heap.size w5 (wr.alloc (.cells #[.int .i64 1] 3))):=hid (hW.out.alloc hW.out.size _);have HI:=hid (insert_any (x:=1) (vb:=wr.heap.size) HOA.out HWA.out.size hjo (by have:=HOL.out;have:=HPN.out;omega) (BoxN.new _ _ _) (fun g hg=>by have:=(hO.out.own.lt g hg).2;omega));clear F2;go_wp2_with fail
   refine HI.out.mono ?_;rintro e w9 ⟨v9,rfl,hr9,B9⟩;have HR9:=hid hr9;have HB9:=hid (HWA.out.trans B9);have HOL2:Hid ((out.take j++1 :: out.drop j).length=x.length+(k+1)):=hid (by have:=HOL.out;simp;omega);clear hr9 B9 HI up HOA HWA;generalize out.take j++1 :: out.drop j=out2 at *;obtain ⟨a9,c9,rfl⟩:=HR9.out.form;go_wp2_with fail
   go_roundw
   case rel=>exact ⟨k+1,out2,by omega,by go_num,HOL2.out,G,HR9,HB9⟩
   case measure=>simp [intOf];omega
  ·have hki:¬ (k:Int) < (l.length:Int):=by omega
   have G:=hid (hF.out.trans (congrArg some (un_end (by rw [HLl.out];exact hkl))));have HRw:Hid (RowI wr w.heap.size (.slice ao out.length co) out):=hid (hO.out.base (HBw.out _ HW5.out).size);go_wp2
   go_ret
   exact ResI.yes G.out HWr.out HRw.out
end
section
open Go.RowKit
set_option maxRecDepth 100000
theorem run_append_ints {P:Program} {w:World} {t ty e:TypeId} {i:TypeInfo} {z:Value} (ht:P.underlying t=some (.slice e)) (hi:P.info? e=some i) (hz:i.zero=some z)
  (hsize:i.size=1) (hby:i.bytes=8) (hzs:z.cells.size=1) {base n:Nat} {v:Value} {xs:List Value} (hown:w.ownsRow base e 1 v n xs) {xv:Value} {zs:List Int} (hI:IntsIn w xv zs)
  (h63:n+zs.length≤maxLen) (hbytes:(n+zs.length) * 8≤140737488355328) (hbase:base≤w.heap.size) :
  ∃ v' w',(Builtin.append_ #[t,t] ty #[v,xv]).run P w=.ok v' w'∧w'.ownsRow base e 1 v' (n+zs.length) (xs++zs.map (Value.int .i64))∧w.grownBy w' v.ownBlock:=by
 cases hI with
 | empty a0 cap =>
  cases a0 with
  | none =>
   refine ⟨v,w,?_,by simpa using hown,⟨rfl,rfl,rfl,Nat.le_refl _,fun _ _ _=>rfl⟩⟩;rcases hown.2 with ⟨rfl,rfl⟩ | ⟨g,cp,cur,rfl,_,_,hnc,_⟩
   ·simp [Builtin.append_,run_underlying ht,sizeOf,typeInfo,hi,Builtin.lenOf,Builtin.firstCells]
   ·simp [Builtin.append_,run_underlying ht,sizeOf,typeInfo,hi,Builtin.lenOf,Builtin.firstCells,hnc,storeCells]
  | some ad =>
   obtain ⟨v',w',hr,h2,h3,_,h5⟩:=run_append_own_at (P:=P) w base t ty e i z 1 8 ht hi hz hsize hby hzs (by decide) v n xs hown ad 0 cap [] (by simp) (fun j u hu=>by simp at hu) (fun u hu=>by simp at hu) h63 hbytes hbase;exact ⟨v',w',hr,by simpa using h2,h3⟩
 | row b off cap _ h0 hc hb hr hlen hw =>
  obtain ⟨v',w',hr',h2,h3,_,h5⟩:=run_append_own_at (P:=P) w base t ty e i z 1 8 ht hi hz hsize hby hzs (by decide) v n xs hown ⟨b,off,none⟩ zs.length cap (zs.map (Value.int .i64)) (by simp) (reads_cells hr) (ints_one zs) h63 hbytes hbase;exact ⟨v',w',hr',h2,h3⟩
theorem wpList_append_ints {P:Program} {w:World} {ops:Array Oper} {rest:List Oper} {o:Oper} {a:Act} {Q:Exit→Act→World→Prop} (hgd:o.guard=none) (s x:Operand) (t:TypeId)
  (ho:o.op=.call { callee:=.builtin .append,args:=#[s,x],argTypes:=#[t,t] })
  {e:TypeId} {i:TypeInfo} {z:Value} (ht:P.underlying t=some (.slice e)) (hi:P.info? e=some i) (hz:i.zero=some z)
  (hsize:i.size=1) (hby:i.bytes=8) (hzs:z.cells.size=1) {base n:Nat} {v:Value} {xs:List Value} {xv:Value} {zs:List Int} (hs:a.eval s=v) (hx:a.eval x=xv) (hown:w.ownsRow base e 1 v n xs) (hI:IntsIn w xv zs)
  (h63:n+zs.length≤maxLen) (hbytes:(n+zs.length) * 8≤140737488355328) (hbase:base≤w.heap.size)
  (h:∀ v' w',w'.ownsRow base e 1 v' (n+zs.length) (xs++zs.map (Value.int .i64))→w.grownBy w' v.ownBlock→wpList P ops Q rest (a.put o.dst v') w'):wpList P ops Q (o :: rest) a w:=by
 refine wpList_plain hgd fun K hK=>?_;obtain ⟨v',w',hr,h2,h3⟩:=run_append_ints (P:=P) (ty:=o.type) ht hi hz hsize hby hzs hown hI h63 hbytes hbase;unfold Oper.wp execOp;simp only [ho,resolve,invoke,builtin,Sem.run_bind,Sem.run_pure,Result.andThen_ok,List.map_toArray,List.map_cons,List.map_nil,hs,hx,hr];exact hK _ _ (h v' w' h2 h3)
def G8.ren:Go.Shelf.Ren:=⟨fun | 4=>160 | n=>n,fun | 0=>0 | 3=>3 | 4=>4 | 9=>9 | 20=>20 | 22=>27 | 25=>3 | n=>n,fun | n=>n⟩
theorem G8.lays:Go.Proofs.Lays8.n4 Tryz.prog G8.ren:={
 mixed:=by kernel_rfl
 f4:=⟨Tryz.f160.name,by decide,Tryz.func160.trans (congrArg some (by kernel_rfl))⟩
 t0:=Tryz.underlying0
 a0:=Tryz.isAgg0
 z0:=Tryz.sizeOf0
 v0:=Tryz.zeroValue0
 t3:=Tryz.underlying3
 a3:=Tryz.isAgg3
 z3:=Tryz.sizeOf3
 v3:=Tryz.zeroValue3
 t4:=Tryz.underlying4
 a4:=Tryz.isAgg4
 z4:=Tryz.sizeOf4
 v4:=Tryz.zeroValue4
 t9:=Tryz.underlying9
 a9:=Tryz.isAgg9
 z9:=Tryz.sizeOf9
 v9:=Tryz.zeroValue9
 t20:=Tryz.underlying20
 a20:=Tryz.isAgg20
 z20:=Tryz.sizeOf20
 v20:=Tryz.zeroValue20
 t22:=Tryz.underlying27
 a22:=Tryz.isAgg27
 z22:=Tryz.sizeOf27
 v22:=Tryz.zeroValue27 }
theorem grow_any (n:Nat) (hn:n * 8≤140737488355328) (w:World) :
  Calls Tryz.prog 160 #[.slice none 0 0,.int .i64 (n:Int)] w fun e w'=>∃ v',e=.returned v'∧RowI w' w.heap.size v' []∧Below w.heap.size w w':=by
 obtain ⟨i0,hi,hz0,hz1,hz2⟩:=info_parts info_int;by_cases h:n=0
 ·subst h;refine (Any8.slices_Grow_room G8.lays none 0 0 0 w (Nat.le_refl _) (by decide) (by decide) (Nat.le_refl _)).mono ?_;rintro e w' ⟨rfl,rfl⟩;exact ⟨_,rfl,RowI.nil _ _,Below.refl _ _⟩
 ·refine (Any8.slices_Grow_grow G8.lays i0 (.int .i64 0) hi hz0 (by rw [hz1];decide) none 0 0 n [] w (Nat.le_refl _) (by omega) (by rw [hz2];omega) (by omega) (by simp) (fun _=>rfl) (fun a e=>by cases e)).mono ?_;rintro e w' ⟨rfl,rfl⟩;have hge:=grownCap_ge w (0+n) 0 (G8.ren.t 25);have hmx:=grownCap_le_maxLen w (0+n) 0 (G8.ren.t 25) (by unfold maxLen;omega);refine ⟨_,rfl,?_,((Below.refl w.heap.size w).drew).alloc (Nat.le_refl _) _⟩;generalize grownCap w (0+n) 0 (G8.ren.t 25)=c at hge hmx ⊢;refine own_new (W:=w.drew) (Nat.le_refl _) ?_ (Nat.zero_le _) hmx rfl (by simp);rw [Array.size_append,Array.size_append,size_zeroCells,size_zeroCells];simp [Value.cells];omega
def tot (ls:List (List Int)) (k:Nat):Nat:=(ls.take k).flatten.length
theorem tot_next {ls:List (List Int)} {k:Nat} {l:List Int} (h:ls[k]?=some l):tot ls (k+1)=tot ls k+l.length:=by
 unfold tot;rw [List.take_add_one,h];simp
theorem tot_le (ls:List (List Int)) (k:Nat):tot ls k≤ls.flatten.length:=by
 unfold tot;have h:ls.flatten.length=(ls.take k).flatten.length+(ls.drop k).flatten.length:=by
  rw [←List.length_append,←List.flatten_append,List.take_append_drop]
 omega
theorem flat_next {ls:List (List Int)} {k:Nat} {l:List Int} (h:ls[k]?=some l):(ls.take (k+1)).flatten=(ls.take k).flatten++l:=by
 rw [List.take_add_one,h];simp
attribute [local irreducible] RowI tot
set_option maxHeartbeats 4000000 in
theorem concatS_any {w:World} {b:Nat} {us:List Value} {ls:List (List Int)} (hb:BoxN w b us.toArray 27) (hl:us.length=ls.length) (h:∀ (k:Nat) (v:Value) (l:List Int),us[k]?=some v→ls[k]?=some l→IntsIn w v l) (hs:ls.flatten.length * 8≤140737488351232) (hu:us.length≤1000000) :
  Calls Tryz.prog 130 #[.slice (some ⟨b,0,none⟩) us.length us.length] w fun e w'=>∃ v',e=.returned v'∧RowI w' w.heap.size v' ls.flatten∧Below w.heap.size w w':=by
 obtain ⟨i0,hi,hz0,hz1,hz2⟩:=info_parts info_int;have HB:=hid hb;have HL:=hid hl;have HH:=hid h;have HT:=hid (fun k=>tot_le ls k);have HS:=hid hs;have hbl:b < w.heap.size:=hb.lt;clear hb hl h hs;go_enter Tryz.func130,Tryz.ntmps130
 go_wp2_with fail
 go_loopw [3,11] (fun s i wr=>∃ (k q:Nat),k≤us.length∧i=.int .i64 (k:Int)∧s=.int .i64 (q:Int)∧Hid (q=tot ls k)∧Hid (Below w.heap.size w wr)) (fun _ i _=>us.length - (intOf i).toNat)
 case atStart=>exact ⟨0,0,Nat.zero_le _,rfl,rfl,hid (by unfold tot;simp),hid (Below.refl _ _)⟩
 obtain ⟨k,q,hk,rfl,rfl,hQ,hW⟩:=hrel;by_cases hkl:k < us.length
 case pos =>
  have hki:(k:Int) < (us.length:Int):=by omega
  obtain ⟨u,hu'⟩:∃ u,us[k]?=some u:=⟨_,List.getElem?_eq_getElem hkl⟩;obtain ⟨l,hl'⟩:∃ l,ls[k]?=some l:=⟨_,List.getElem?_eq_getElem (by have:=HL.out;omega)⟩;have hI:=HH.out k u l hu' hl';obtain ⟨a,c,rfl⟩:=hI.shape;have hc:=(hW.out.cell (p:=⟨b,k,none⟩) hbl).trans (HB.out.cell k (v:=.slice a l.length c) (by simpa using hu'));have hq2:Hid (q+l.length=tot ls (k+1)):=hid (by rw [tot_next hl',hQ.out]);have hle:=HT.out (k+1);rw [←hq2.out] at hle;have hsb:=HS.out;have hw1:IntKind.i64.wrap ((q:Int)+(l.length:Int))=((q+l.length:Nat):Int):=by rw [IntKind.wrap_i64];omega
  have hw2:¬ (((q+l.length:Nat):Int) < 0):=by omega
  clear hI hu' hl' hle hsb;generalize q+l.length=q2 at *;go_wp2_with fail
  go_roundw
  case rel=>exact ⟨k+1,q2,by omega,by go_num,rfl,hq2,hW⟩
  case measure=>simp [intOf];omega
 have hki:¬ (k:Int) < (us.length:Int):=by omega
 obtain rfl:k=us.length:=by omega
 have hqb:q * 8≤140737488355328:=by have:=hQ.out;have:=HT.out us.length;have:=HS.out;omega
 have HG:=hid (grow_any q hqb wr);go_wp2_with fail
 refine HG.out.mono ?_;rintro e w2 ⟨v2,rfl,hr2,B2⟩;have HR2:Hid (RowI w2 w.heap.size v2 []):=hid (hr2.base hW.out.size);have HB2:=hid (hW.out.trans (B2.mono hW.out.size));clear hr2 B2 HG hqb hki hkl hk hQ hW;go_wp2_with fail
 go_loopw [6,27] (fun ov i wr=>∃ (k:Nat),k≤us.length∧i=.int .i64 (k:Int)∧Hid (RowI wr w.heap.size ov (ls.take k).flatten)∧Hid (Below w.heap.size w wr)) (fun _ i _=>us.length - (intOf i).toNat)
 case atStart=>exact ⟨0,Nat.zero_le _,rfl,HR2,HB2⟩
 obtain ⟨k,hk,rfl,hO,hW⟩:=hrel;by_cases hkl:k < us.length
 case pos =>
  have hki:(k:Int) < (us.length:Int):=by omega
  obtain ⟨u,hu'⟩:∃ u,us[k]?=some u:=⟨_,List.getElem?_eq_getElem hkl⟩;obtain ⟨l,hl'⟩:∃ l,ls[k]?=some l:=⟨_,List.getElem?_eq_getElem (by have:=HL.out;omega)⟩;have hI:=HH.out k u l hu' hl';have HI:=hid (hI.below hW.out);obtain ⟨a,c,rfl⟩:=hI.shape;have hc:=(hW.out.cell (p:=⟨b,k,none⟩) hbl).trans (HB.out.cell k (v:=.slice a l.length c) (by simpa using hu'));have HN:Hid ((ls.take (k+1)).flatten=(ls.take k).flatten++l):=hid (flat_next hl');have hle:=HT.out (k+1);have hsb:=HS.out;have hlen:(ls.take k).flatten.length+l.length≤ls.flatten.length:=by unfold tot at hle;rw [HN.out,List.length_append] at hle;exact hle
  clear hI hu' hl' hle;generalize ls.flatten.length=FL at *;generalize (ls.take k).flatten=A at *;obtain ⟨ao,co,rfl⟩:=hO.out.form;have hsw:=hW.out.size;go_wp2_with (at_builtin;refine wpList_append_ints rfl _ _ 27 rfl Tryz.underlying27 hi hz0 hz1 hz2 rfl rfl rfl hO.out.own HI.out ?A3 ?A4 ?A5 ?_)
  case A3=>unfold maxLen;omega
  case A4=>omega
  case A5=>omega
  intro v' w4 hown' hgrow;have HB4:Hid (Below w.heap.size w w4):=hid (hW.out.grown hgrow hsw fun g hg=>(hO.out.own.lt g hg).1);have HR4:Hid (RowI w4 w.heap.size v' (ls.take (k+1)).flatten):=hid (by rw [HN.out];unfold RowI;rw [List.length_append,List.map_append];exact hown');clear hown' hgrow HN;go_wp2_with fail
  go_roundw
  case rel=>exact ⟨k+1,by omega,by go_num,HR4,HB4⟩
  case measure=>simp [intOf];omega
 have hki:¬ (k:Int) < (us.length:Int):=by omega
 go_wp2
 go_ret
 exact ⟨_,rfl,by have:=hO.out;rwa [List.take_of_length_le (by have:=HL.out;omega)] at this,hW.out⟩
end
section
open Go.RowKit
set_option maxRecDepth 100000
def Gd (zs:List Int):Prop:=zs.length * 8≤140737488351232∧∀ z ∈ zs,InI z
theorem inI_mid {z:Int} (h:0≤z∧z≤1152921504606846976):InI z:=by unfold InI;omega
theorem Sm.inI {x:List Int} (h:Sm x):∀ z ∈ x,InI z:=fun z hz=>inI_mid (by have:=h.2 z hz;omega)
theorem Sm.gd {x:List Int} (h:Sm x):Gd x:=⟨by have:=h.1;omega,h.inI⟩
theorem getD_inI {x:List Int} (h:∀ z ∈ x,InI z) (k:Nat):InI (x.getD k 0):=by
 by_cases c:k < x.length
 ·exact h _ (getD_mem c)
 ·rw [List.getD,List.getElem?_eq_none (by omega)];exact inI_mid (by decide)
theorem getD_rng {x:List Int} (h:Sm x) (k:Nat):0≤x.getD k 0∧x.getD k 0≤65536:=by
 by_cases c:k < x.length
 ·have:=h.at c;omega
 ·rw [List.getD,List.getElem?_eq_none (by omega)];decide
theorem pad_gd {n:Nd} {x zs:List Int} (hx:Sm x) (h:padP n x=some zs):Gd zs:=by
 unfold padP at h;split at h
 ·cases h
 ·rename_i p hp
  obtain rfl:=Option.some.inj h;obtain ⟨hl,hr⟩:=nums_props hp;have hg:∀ k,0≤p.getD k 0∧p.getD k 0≤65536:=fun k=>by
   by_cases c:k < p.length
   ·exact hr _ (getD_mem c)
   ·rw [List.getD,List.getElem?_eq_none (by omega)];decide
  refine ⟨by rw [padL_len];have:=hx.1;omega,fun z hz=>?_⟩;unfold padL at hz;obtain ⟨i,-,rfl⟩:=List.mem_map.1 hz;have h1:=getD_rng hx i;have h2:=hg i;have h3:=hg (x.length+i);split<;>exact inI_mid (by omega)
theorem resF_gd {x:List Int}:∀ (l:List Int) (i:Nat) (left prod:Int) (out:List Int) (r:Int × Int × List Int),resF x i left prod out l=some r→(∀ z ∈ out,1≤z∧z≤65536)→(∀ z ∈ r.2.2,1≤z∧z≤65536)∧r.2.2.length=out.length+l.length
 | [],i,left,prod,out,r,h,ho=>by
  rw [resF] at h;obtain rfl:=Option.some.inj h;exact ⟨ho,rfl⟩
 | d :: l,i,left,prod,out,r,h,ho=>by
  rw [resF] at h;split at h
  ·rename_i g
   split at h
   ·obtain ⟨h1,h2⟩:=resF_gd l _ _ _ _ r h fun z hz=>by
     rcases List.mem_append.1 hz with hz | hz
     ·exact ho z hz
     ·obtain rfl:=List.mem_singleton.1 hz;exact g
    exact ⟨h1,by rw [h2];simp;omega⟩
   ·cases h
  ·cases h
theorem resh_gd {n:Nd} {x zs:List Int} (hx:Sm x) (hl:(intsP n.attrs nmShape []).length * 8≤140737488351232) (h:reshapeP n x=some zs):Gd zs:=by
 unfold reshapeP at h;split at h
 ·cases h
 ·rename_i r hr
  obtain ⟨h1,h2⟩:=resF_gd _ _ _ _ _ r hr (by simp);have h3:∀ z ∈ r.2.2,InI z:=fun z hz=>inI_mid (by have:=h1 z hz;omega);unfold resE at h;split at h
  ·split at h
   ·obtain rfl:=Option.some.inj h;refine ⟨by rw [List.length_set,h2];simp;omega,fun z hz=>?_⟩;rcases List.mem_or_eq_of_mem_set hz with hz | rfl
    ·exact h3 z hz
    ·have hc:=cnt_rng x;have:InI (((cnt x).1).tdiv r.2.1):=by
      have h4:=Int.natAbs_tdiv_le_natAbs ((cnt x).1) r.2.1;unfold InI;omega
     exact this
   ·cases h
  ·split at h
   ·obtain rfl:=Option.some.inj h;exact ⟨by rw [h2];simp;omega,h3⟩
   ·cases h
theorem slF_gd {x s e:List Int} (hx:Sm x):∀ (l:List Int) (i:Nat) (out zs:List Int),slF x s e i out l=some zs→(∀ z ∈ out,InI z)→(∀ k ∈ l,0≤k∧k < (x.length:Int))→(∀ z ∈ zs,InI z)∧zs.length=out.length
 | [],i,out,zs,h,ho,_=>by
  rw [slF] at h;obtain rfl:=Option.some.inj h;exact ⟨ho,rfl⟩
 | k :: l,i,out,zs,h,ho,hk=>by
  rw [slF] at h;split at h
  ·have hk0:=hk k (List.mem_cons_self ..);have hd:=hx.at (k:=k.toNat) (by omega);have r1:=bound_rng (a:=e.getD i 0) hd;have r2:=bound_rng (a:=s.getD i 0) hd;obtain ⟨h1,h2⟩:=slF_gd hx l _ _ zs h (fun z hz=>by
    rcases List.mem_or_eq_of_mem_set hz with hz | rfl
    ·exact ho z hz
    ·unfold InI;omega) (fun j hj=>hk j (List.mem_cons_of_mem _ hj))
   exact ⟨h1,by rw [h2,List.length_set]⟩
  ·cases h
theorem slice_gd {n:Nd} {x zs:List Int} (hx:Sm x) (h:sliceP n x=some zs):Gd zs:=by
 unfold sliceP at h;split at h
 ·cases h
 ·rename_i l hl
  split at h
  ·obtain ⟨h1,h2⟩:=slF_gd hx _ _ _ _ h hx.inI (axesP_props hl).1;exact ⟨by rw [h2];have:=hx.1;omega,h1⟩
  ·cases h
theorem ccF_gd {x:List Int} {a:Nat}:∀ (l:List Vl) (out zs:List Int) (M:Int),ccF x a out l=some zs→(∀ v ∈ l,Sm v.dims)→(∀ z ∈ out,0≤z∧z≤M)→0≤M→(∀ z ∈ zs,0≤z∧z≤M+65536 * (l.length:Int))∧zs.length=out.length
 | [],out,zs,M,h,_,ho,hM=>by
  rw [ccF] at h;obtain rfl:=Option.some.inj h;exact ⟨fun z hz=>by have:=ho z hz;simp;omega,rfl⟩
 | v :: l,out,zs,M,h,hv,ho,hM=>by
  rw [ccF] at h;split at h
  ·have hd:=getD_rng (hv v (List.mem_cons_self ..)) a;have hg:0≤out.getD a 0∧out.getD a 0≤M:=by
    by_cases c:a < out.length
    ·exact ho _ (getD_mem c)
    ·rw [List.getD,List.getElem?_eq_none (by omega)];exact ⟨by decide,hM⟩
   obtain ⟨h1,h2⟩:=ccF_gd l _ zs (M+65536) h (fun u hu=>hv u (List.mem_cons_of_mem _ hu)) (fun z hz=>by
    rcases List.mem_or_eq_of_mem_set hz with hz | rfl
    ·have:=ho z hz;omega
    ·omega) (by omega)
   refine ⟨fun z hz=>?_,by rw [h2,List.length_set]⟩;have:=h1 z hz;rw [List.length_cons];omega
  ·cases h
theorem concat_gd {n:Nd} {x zs:List Int} {l:List Vl} (hx:Sm x) (hl:∀ v ∈ l,Sm v.dims) (hn:l.length≤8796093022208) (h:concatP n x l=some zs):Gd zs:=by
 unfold concatP at h;split at h
 ·cases h
 ·obtain ⟨h1,h2⟩:=ccF_gd l x zs 65536 h hl (fun z hz=>by have:=hx.2 z hz;omega) (by decide);exact ⟨by rw [h2];have:=hx.1;omega,fun z hz=>inI_mid (by have:=h1 z hz;omega)⟩
theorem flat_gd {n:Nd} {x zs:List Int} (h:flatP n x=some zs):Gd zs:=by
 unfold flatP at h;split at h
 ·obtain rfl:=Option.some.inj h;refine ⟨by simp,fun z hz=>?_⟩;simp only [List.mem_cons,List.not_mem_nil,or_false] at hz;rcases hz with rfl | rfl<;>exact cnt_inI _
 ·cases h
theorem trF_gd {x:List Int}:∀ (l ks zs:List Int),trF x ks l=some zs→∃ m,zs=pick x m∧m.length=ks.length+l.length
 | [],ks,zs,h=>by rw [trF] at h;obtain rfl:=Option.some.inj h;exact ⟨ks,rfl,rfl⟩
 | p :: l,ks,zs,h=>by
  rw [trF] at h;split at h
  ·cases h
  ·obtain ⟨m,h1,h2⟩:=trF_gd l _ zs h;exact ⟨m,h1,by rw [h2];simp;omega⟩
theorem trans_gd {n:Nd} {x zs:List Int} (hx:Sm x) (h:transP n x=some zs):Gd zs:=by
 unfold transP at h;split at h
 ·cases h
 ·rename_i p hp
  obtain ⟨m,rfl,hm⟩:=trF_gd _ _ _ h;have hl:=(nums_props hp).1;refine ⟨by rw [pick_len,hm];have:=hx.1;simp;omega,fun z hz=>?_⟩;unfold pick at hz;obtain ⟨q,-,rfl⟩:=List.mem_map.1 hz;exact getD_inI hx.inI _
theorem sqF_gd:∀ (l out zs:List Int),sqF out l=some zs→(∀ z ∈ zs,z ∈ out)∧zs.length≤out.length
 | [],out,zs,h=>by rw [sqF] at h;obtain rfl:=Option.some.inj h;exact ⟨fun z hz=>hz,Nat.le_refl _⟩
 | a :: l,out,zs,h=>by
  rw [sqF] at h;split at h
  ·obtain ⟨h1,h2⟩:=sqF_gd l _ zs h;refine ⟨fun z hz=>?_,Nat.le_trans h2 (by simp;omega)⟩;rcases List.mem_append.1 (h1 z hz) with h | h
   ·exact List.mem_of_mem_take h
   ·exact List.mem_of_mem_drop h
  ·cases h
theorem squeeze_gd {n:Nd} {x zs:List Int} (hx:Sm x) (h:squeezeP n x=some zs):Gd zs:=by
 unfold squeezeP at h;split at h
 ·cases h
 ·obtain ⟨h1,h2⟩:=sqF_gd _ _ _ h;exact ⟨by have:=hx.1;omega,fun z hz=>hx.inI z (h1 z hz)⟩
theorem unF_gd:∀ (l out:List Int),(∀ z ∈ out,InI z)→(∀ z ∈ unF out l,InI z)∧(unF out l).length≤out.length+l.length
 | [],out,ho=>by rw [unF];exact ⟨ho,by simp⟩
 | a :: l,out,ho=>by
  rw [unF];obtain ⟨h1,h2⟩:=unF_gd l (out.take a.toNat++1 :: out.drop a.toNat) fun z hz=>by
   rcases List.mem_append.1 hz with h | h
   ·exact ho z (List.mem_of_mem_take h)
   ·rcases List.mem_cons.1 h with rfl | h
    ·exact inI_mid (by decide)
    ·exact ho z (List.mem_of_mem_drop h)
  exact ⟨h1,Nat.le_trans h2 (by simp;omega)⟩
theorem unsq_gd {n:Nd} {x zs:List Int} (hx:Sm x) (hl:(intsP n.attrs nmAxes []).length * 8+48≤140737488351232) (h:unsqP n x=some zs):Gd zs:=by
 unfold unsqP at h;split at h
 ·cases h
 ·rename_i l hk
  obtain rfl:=Option.some.inj h;obtain ⟨h1,h2⟩:=unF_gd (srt l) x hx.inI;rw [srt_len,(axesP_props hk).2] at h2;exact ⟨by have:=hx.1;omega,h1⟩
end
section
open Go.RowKit
set_option maxRecDepth 100000
def expO (n:Nd) (x:List Int):Int × List Int:=match numsP (intsP n.attrs nmShape []) (intsP n.attrs nmShape []).length 1 9223372036854775807 with | none=>(4,[]) | some s=>Vb.bcO x s
theorem exp_no {n:Nd} {x s:List Int} (e:intsP n.attrs nmShape []=s) (h:numsP s s.length 1 9223372036854775807=none):expO n x=(4,[]):=by subst e;unfold expO;rw [h]
theorem exp_yes {n:Nd} {x s l:List Int} (e:intsP n.attrs nmShape []=s) (h:numsP s s.length 1 9223372036854775807=some l):expO n x=Vb.bcO x l:=by subst e;unfold expO;rw [h]
def gatO (n:Nd) (x y:List Int):Int × List Int:=match axisP (intP n.attrs nmAxis 0) x.length with | none=>(4,[]) | some a=>(0,x.take a.toNat++y++x.drop (a.toNat+1))
theorem gat_no {n:Nd} {x y:List Int} (h:axisP (intP n.attrs nmAxis 0) x.length=none):gatO n x y=(4,[]):=by unfold gatO;rw [h]
theorem gat_yes {n:Nd} {x y:List Int} {a:Nat} (h:axisP (intP n.attrs nmAxis 0) x.length=some (a:Int)):gatO n x y=(0,x.take a++y++x.drop (a+1)):=by unfold gatO;rw [h];rfl
theorem DimR.of {w w':World} {x:Option (List Int)} {e:Ending} (h:ResI w x e w') (g:∀ zs,x=Option.some zs→Gd zs):DimR w (optO x) e w':=h.dim (Below.refl _ _) g
theorem concat3_any {w:World} {b:Nat} {v0 v1 v2:Value} {l0 l1 l2:List Int} (hb:BoxN w b #[v0,v1,v2] 27) (h0:IntsIn w v0 l0) (h1:IntsIn w v1 l1) (h2:IntsIn w v2 l2) (hs:(l0.length+l1.length+l2.length) * 8≤140737488351232) :
  Calls Tryz.prog 130 #[.slice (some ⟨b,0,none⟩) 3 3] w fun e w'=>∃ v',e=.returned v'∧RowI w' w.heap.size v' (l0++l1++l2)∧Below w.heap.size w w':=by
 have h:=concatS_any (w:=w) (b:=b) (us:=[v0,v1,v2]) (ls:=[l0,l1,l2]) hb rfl (fun k v l hv hl=>by
  match k,hv,hl with
  | 0,hv,hl=>cases hv;cases hl;exact h0
  | 1,hv,hl=>cases hv;cases hl;exact h1
  | 2,hv,hl=>cases hv;cases hl;exact h2) (by simp;omega) (by simp)
 have e:[l0,l1,l2].flatten=l0++l1++l2:=by simp
 rw [e] at h;exact h
attribute [local irreducible] Vb.bcO reshapeP transP concatP sliceP padP squeezeP unsqP flatP expO gatO axisP intP intsP numsP RowI RowL
set_option maxHeartbeats 4000000 in
theorem moved_Reshape {w:World} {v vx:Value} {n:Nd} {ins:List Vl} {x:List Int} (h:MkV w v n ins) (hx:IntsIn w vx x) (hsm:Sm x) (hl:n.op.toList=[82,101,115,104,97,112,101]) :
  Calls Tryz.prog 74 #[v,vx] w fun e w'=>DimR w (optO (reshapeP n x)) e w':=by
 obtain ⟨i0,hi,hz0,hz1,hz2⟩:=info_parts info_int;obtain ⟨vin,vat,vv,rfl,hm⟩:=h;obtain ⟨a1,c1,rfl⟩:=hm.node.is.form;obtain ⟨a2,c2,rfl⟩:=hm.node.ia.form;obtain ⟨a3,c3,rfl⟩:=hm.ins.form;have HM:=hid hm;clear hm;obtain ⟨a4,c4,rfl⟩:=hx.shape;have hxl:=hx.wf.1;have hxc:=hx.capI.2;have HX:=hid hx;clear hx;have HY:=hid (fun (W:World)=>rule_yes W);have HNo:=hid (fun (W:World)=>rule_no W);have HB1:=hid ((Below.refl w.heap.size w).alloc (Nat.le_refl _) (Obj.cells #[.string n.op,.string n.name,.slice a1 n.ins.length c1,.string n.out,.slice a2 n.attrs.length c2,.slice a3 ins.length c3] 63));have HA1:=hid (BoxN.new w #[.string n.op,.string n.name,.slice a1 n.ins.length c1,.string n.out,.slice a2 n.attrs.length c2,.slice a3 ins.length c3] 63);obtain ⟨k0,k1,k2,k3,k4,k5⟩:=HA1.out.six;have HGd:Hid (∀ zs,reshapeP n x=some zs→Gd zs):=hid (fun zs h=>resh_gd hsm (ints_okP (nm:=nmShape) (other:=[]) (v:=(.agg #[.string n.op,.string n.name,.slice a1 n.ins.length c1,.string n.out,.slice a2 n.attrs.length c2])) ⟨_,_,rfl,HM.out.node⟩ (by simp) (by simp)).1 h);go_enter Tryz.func74,Tryz.ntmps74
 go_wp2_with fail
 generalize World.alloc w (Obj.cells #[.string n.op,.string n.name,.slice a1 n.ins.length c1,.string n.out,.slice a2 n.attrs.length c2,.slice a3 ins.length c3] 63)=W1 at HB1 HA1 ⊢;clear k0 k1 k2 k3 k4 k5;refine (reshape_any (n:=n) (ins:=ins) ⟨_,_,_,rfl,HM.out.below HB1.out⟩ (HX.out.below HB1.out) hsm).mono ?_;rintro e w2 hR;have hX:DimR w (optO (reshapeP n x)) e w2:=hR.dim HB1.out HGd.out;have HX2:=hid hX;clear hX;obtain ⟨-,hc⟩:=hR;cases hq:reshapeP n x with
 | none =>
  rw [hq] at hc;obtain rfl:e=brk 4:=hc;clear hq;exact ⟨rfl,HX2.out⟩
 | some zs =>
  rw [hq] at hc;obtain ⟨v2,rfl,-⟩:=hc;clear hq;go_wp2
  go_ret
  exact HX2.out
set_option maxHeartbeats 4000000 in
theorem moved_Transpose {w:World} {v vx:Value} {n:Nd} {ins:List Vl} {x:List Int} (h:MkV w v n ins) (hx:IntsIn w vx x) (hsm:Sm x) (hl:n.op.toList=[84,114,97,110,115,112,111,115,101]) :
  Calls Tryz.prog 74 #[v,vx] w fun e w'=>DimR w (optO (transP n x)) e w':=by
 obtain ⟨i0,hi,hz0,hz1,hz2⟩:=info_parts info_int;obtain ⟨vin,vat,vv,rfl,hm⟩:=h;obtain ⟨a1,c1,rfl⟩:=hm.node.is.form;obtain ⟨a2,c2,rfl⟩:=hm.node.ia.form;obtain ⟨a3,c3,rfl⟩:=hm.ins.form;have HM:=hid hm;clear hm;obtain ⟨a4,c4,rfl⟩:=hx.shape;have hxl:=hx.wf.1;have hxc:=hx.capI.2;have HX:=hid hx;clear hx;have HY:=hid (fun (W:World)=>rule_yes W);have HNo:=hid (fun (W:World)=>rule_no W);have HB1:=hid ((Below.refl w.heap.size w).alloc (Nat.le_refl _) (Obj.cells #[.string n.op,.string n.name,.slice a1 n.ins.length c1,.string n.out,.slice a2 n.attrs.length c2,.slice a3 ins.length c3] 63));have HA1:=hid (BoxN.new w #[.string n.op,.string n.name,.slice a1 n.ins.length c1,.string n.out,.slice a2 n.attrs.length c2,.slice a3 ins.length c3] 63);obtain ⟨k0,k1,k2,k3,k4,k5⟩:=HA1.out.six;have HGd:Hid (∀ zs,transP n x=some zs→Gd zs):=hid (fun zs h=>trans_gd hsm h);go_enter Tryz.func74,Tryz.ntmps74
 go_wp2_with fail
 generalize World.alloc w (Obj.cells #[.string n.op,.string n.name,.slice a1 n.ins.length c1,.string n.out,.slice a2 n.attrs.length c2,.slice a3 ins.length c3] 63)=W1 at HB1 HA1 ⊢;clear k0 k1 k2 k3 k4 k5;refine (transpose_any (n:=n) (ins:=ins) ⟨_,_,_,rfl,HM.out.below HB1.out⟩ (HX.out.below HB1.out) hsm).mono ?_;rintro e w2 hR;have hX:DimR w (optO (transP n x)) e w2:=hR.dim HB1.out HGd.out;have HX2:=hid hX;clear hX;obtain ⟨-,hc⟩:=hR;cases hq:transP n x with
 | none =>
  rw [hq] at hc;obtain rfl:e=brk 4:=hc;clear hq;exact ⟨rfl,HX2.out⟩
 | some zs =>
  rw [hq] at hc;obtain ⟨v2,rfl,-⟩:=hc;clear hq;go_wp2
  go_ret
  exact HX2.out
set_option maxHeartbeats 4000000 in
theorem moved_Concat {w:World} {v vx:Value} {n:Nd} {ins:List Vl} {x:List Int} (h:MkV w v n ins) (hx:IntsIn w vx x) (hsm:Sm x) (hi0:0 < ins.length) (hall:∀ v ∈ ins,Sm v.dims) (hin:ins.length≤8796093022208) (hl:n.op.toList=[67,111,110,99,97,116]) :
  Calls Tryz.prog 74 #[v,vx] w fun e w'=>DimR w (optO (concatP n x (ins.drop 1))) e w':=by
 obtain ⟨i0,hi,hz0,hz1,hz2⟩:=info_parts info_int;obtain ⟨vin,vat,vv,rfl,hm⟩:=h;obtain ⟨a1,c1,rfl⟩:=hm.node.is.form;obtain ⟨a2,c2,rfl⟩:=hm.node.ia.form;obtain ⟨a3,c3,rfl⟩:=hm.ins.form;have HM:=hid hm;clear hm;obtain ⟨a4,c4,rfl⟩:=hx.shape;have hxl:=hx.wf.1;have hxc:=hx.capI.2;have HX:=hid hx;clear hx;have HY:=hid (fun (W:World)=>rule_yes W);have HNo:=hid (fun (W:World)=>rule_no W);have HB1:=hid ((Below.refl w.heap.size w).alloc (Nat.le_refl _) (Obj.cells #[.string n.op,.string n.name,.slice a1 n.ins.length c1,.string n.out,.slice a2 n.attrs.length c2,.slice a3 ins.length c3] 63));have HA1:=hid (BoxN.new w #[.string n.op,.string n.name,.slice a1 n.ins.length c1,.string n.out,.slice a2 n.attrs.length c2,.slice a3 ins.length c3] 63);obtain ⟨k0,k1,k2,k3,k4,k5⟩:=HA1.out.six;have HGd:Hid (∀ zs,concatP n x (ins.drop 1)=some zs→Gd zs):=hid (fun zs h=>concat_gd hsm (fun v hv=>hall v (List.mem_of_mem_drop hv)) (by rw [List.length_drop];omega) h);go_enter Tryz.func74,Tryz.ntmps74
 go_wp2_with fail
 generalize World.alloc w (Obj.cells #[.string n.op,.string n.name,.slice a1 n.ins.length c1,.string n.out,.slice a2 n.attrs.length c2,.slice a3 ins.length c3] 63)=W1 at HB1 HA1 ⊢;clear k0 k1 k2 k3 k4 k5;refine (concat_any (n:=n) (ins:=ins) ⟨_,_,_,rfl,HM.out.below HB1.out⟩ (HX.out.below HB1.out) hsm hi0 hall).mono ?_;rintro e w2 hR;have hX:DimR w (optO (concatP n x (ins.drop 1))) e w2:=hR.dim HB1.out HGd.out;have HX2:=hid hX;clear hX;obtain ⟨-,hc⟩:=hR;cases hq:concatP n x (ins.drop 1) with
 | none =>
  rw [hq] at hc;obtain rfl:e=brk 4:=hc;clear hq;exact ⟨rfl,HX2.out⟩
 | some zs =>
  rw [hq] at hc;obtain ⟨v2,rfl,-⟩:=hc;clear hq;go_wp2
  go_ret
  exact HX2.out
set_option maxHeartbeats 4000000 in
theorem moved_Slice {w:World} {v vx:Value} {n:Nd} {ins:List Vl} {x:List Int} (h:MkV w v n ins) (hx:IntsIn w vx x) (hsm:Sm x) (hl:n.op.toList=[83,108,105,99,101]) :
  Calls Tryz.prog 74 #[v,vx] w fun e w'=>DimR w (optO (sliceP n x)) e w':=by
 obtain ⟨i0,hi,hz0,hz1,hz2⟩:=info_parts info_int;obtain ⟨vin,vat,vv,rfl,hm⟩:=h;obtain ⟨a1,c1,rfl⟩:=hm.node.is.form;obtain ⟨a2,c2,rfl⟩:=hm.node.ia.form;obtain ⟨a3,c3,rfl⟩:=hm.ins.form;have HM:=hid hm;clear hm;obtain ⟨a4,c4,rfl⟩:=hx.shape;have hxl:=hx.wf.1;have hxc:=hx.capI.2;have HX:=hid hx;clear hx;have HY:=hid (fun (W:World)=>rule_yes W);have HNo:=hid (fun (W:World)=>rule_no W);have HB1:=hid ((Below.refl w.heap.size w).alloc (Nat.le_refl _) (Obj.cells #[.string n.op,.string n.name,.slice a1 n.ins.length c1,.string n.out,.slice a2 n.attrs.length c2,.slice a3 ins.length c3] 63));have HA1:=hid (BoxN.new w #[.string n.op,.string n.name,.slice a1 n.ins.length c1,.string n.out,.slice a2 n.attrs.length c2,.slice a3 ins.length c3] 63);obtain ⟨k0,k1,k2,k3,k4,k5⟩:=HA1.out.six;have HGd:Hid (∀ zs,sliceP n x=some zs→Gd zs):=hid (fun zs h=>slice_gd hsm h);go_enter Tryz.func74,Tryz.ntmps74
 go_wp2_with fail
 generalize World.alloc w (Obj.cells #[.string n.op,.string n.name,.slice a1 n.ins.length c1,.string n.out,.slice a2 n.attrs.length c2,.slice a3 ins.length c3] 63)=W1 at HB1 HA1 ⊢;clear k0 k1 k2 k3 k4 k5;refine (slice_any (n:=n) (ins:=ins) ⟨_,_,_,rfl,HM.out.below HB1.out⟩ (HX.out.below HB1.out) hsm).mono ?_;rintro e w2 hR;have hX:DimR w (optO (sliceP n x)) e w2:=hR.dim HB1.out HGd.out;have HX2:=hid hX;clear hX;obtain ⟨-,hc⟩:=hR;cases hq:sliceP n x with
 | none =>
  rw [hq] at hc;obtain rfl:e=brk 4:=hc;clear hq;exact ⟨rfl,HX2.out⟩
 | some zs =>
  rw [hq] at hc;obtain ⟨v2,rfl,-⟩:=hc;clear hq;go_wp2
  go_ret
  exact HX2.out
set_option maxHeartbeats 4000000 in
theorem moved_Pad {w:World} {v vx:Value} {n:Nd} {ins:List Vl} {x:List Int} (h:MkV w v n ins) (hx:IntsIn w vx x) (hsm:Sm x) (hl:n.op.toList=[80,97,100]) :
  Calls Tryz.prog 74 #[v,vx] w fun e w'=>DimR w (optO (padP n x)) e w':=by
 obtain ⟨i0,hi,hz0,hz1,hz2⟩:=info_parts info_int;obtain ⟨vin,vat,vv,rfl,hm⟩:=h;obtain ⟨a1,c1,rfl⟩:=hm.node.is.form;obtain ⟨a2,c2,rfl⟩:=hm.node.ia.form;obtain ⟨a3,c3,rfl⟩:=hm.ins.form;have HM:=hid hm;clear hm;obtain ⟨a4,c4,rfl⟩:=hx.shape;have hxl:=hx.wf.1;have hxc:=hx.capI.2;have HX:=hid hx;clear hx;have HY:=hid (fun (W:World)=>rule_yes W);have HNo:=hid (fun (W:World)=>rule_no W);have HB1:=hid ((Below.refl w.heap.size w).alloc (Nat.le_refl _) (Obj.cells #[.string n.op,.string n.name,.slice a1 n.ins.length c1,.string n.out,.slice a2 n.attrs.length c2,.slice a3 ins.length c3] 63));have HA1:=hid (BoxN.new w #[.string n.op,.string n.name,.slice a1 n.ins.length c1,.string n.out,.slice a2 n.attrs.length c2,.slice a3 ins.length c3] 63);obtain ⟨k0,k1,k2,k3,k4,k5⟩:=HA1.out.six;have HGd:Hid (∀ zs,padP n x=some zs→Gd zs):=hid (fun zs h=>pad_gd hsm h);go_enter Tryz.func74,Tryz.ntmps74
 go_wp2_with fail
 generalize World.alloc w (Obj.cells #[.string n.op,.string n.name,.slice a1 n.ins.length c1,.string n.out,.slice a2 n.attrs.length c2,.slice a3 ins.length c3] 63)=W1 at HB1 HA1 ⊢;clear k0 k1 k2 k3 k4 k5;refine (pad_any (n:=n) (ins:=ins) ⟨_,_,_,rfl,HM.out.below HB1.out⟩ (HX.out.below HB1.out) hsm).mono ?_;rintro e w2 hR;have hX:DimR w (optO (padP n x)) e w2:=hR.dim HB1.out HGd.out;have HX2:=hid hX;clear hX;obtain ⟨-,hc⟩:=hR;cases hq:padP n x with
 | none =>
  rw [hq] at hc;obtain rfl:e=brk 4:=hc;clear hq;exact ⟨rfl,HX2.out⟩
 | some zs =>
  rw [hq] at hc;obtain ⟨v2,rfl,-⟩:=hc;clear hq;go_wp2
  go_ret
  exact HX2.out
set_option maxHeartbeats 4000000 in
theorem moved_Squeeze {w:World} {v vx:Value} {n:Nd} {ins:List Vl} {x:List Int} (h:MkV w v n ins) (hx:IntsIn w vx x) (hsm:Sm x) (hl:n.op.toList=[83,113,117,101,101,122,101]) :
  Calls Tryz.prog 74 #[v,vx] w fun e w'=>DimR w (optO (squeezeP n x)) e w':=by
 obtain ⟨i0,hi,hz0,hz1,hz2⟩:=info_parts info_int;obtain ⟨vin,vat,vv,rfl,hm⟩:=h;obtain ⟨a1,c1,rfl⟩:=hm.node.is.form;obtain ⟨a2,c2,rfl⟩:=hm.node.ia.form;obtain ⟨a3,c3,rfl⟩:=hm.ins.form;have HM:=hid hm;clear hm;obtain ⟨a4,c4,rfl⟩:=hx.shape;have hxl:=hx.wf.1;have hxc:=hx.capI.2;have HX:=hid hx;clear hx;have HY:=hid (fun (W:World)=>rule_yes W);have HNo:=hid (fun (W:World)=>rule_no W);have HB1:=hid ((Below.refl w.heap.size w).alloc (Nat.le_refl _) (Obj.cells #[.string n.op,.string n.name,.slice a1 n.ins.length c1,.string n.out,.slice a2 n.attrs.length c2,.slice a3 ins.length c3] 63));have HA1:=hid (BoxN.new w #[.string n.op,.string n.name,.slice a1 n.ins.length c1,.string n.out,.slice a2 n.attrs.length c2,.slice a3 ins.length c3] 63);obtain ⟨k0,k1,k2,k3,k4,k5⟩:=HA1.out.six;have HGd:Hid (∀ zs,squeezeP n x=some zs→Gd zs):=hid (fun zs h=>squeeze_gd hsm h);go_enter Tryz.func74,Tryz.ntmps74
 go_wp2_with fail
 generalize World.alloc w (Obj.cells #[.string n.op,.string n.name,.slice a1 n.ins.length c1,.string n.out,.slice a2 n.attrs.length c2,.slice a3 ins.length c3] 63)=W1 at HB1 HA1 ⊢;clear k0 k1 k2 k3 k4 k5;refine (squeeze_any (n:=n) (ins:=ins) ⟨_,_,_,rfl,HM.out.below HB1.out⟩ (HX.out.below HB1.out) hsm).mono ?_;rintro e w2 hR;have hX:DimR w (optO (squeezeP n x)) e w2:=hR.dim HB1.out HGd.out;have HX2:=hid hX;clear hX;obtain ⟨-,hc⟩:=hR;cases hq:squeezeP n x with
 | none =>
  rw [hq] at hc;obtain rfl:e=brk 4:=hc;clear hq;exact ⟨rfl,HX2.out⟩
 | some zs =>
  rw [hq] at hc;obtain ⟨v2,rfl,-⟩:=hc;clear hq;go_wp2
  go_ret
  exact HX2.out
set_option maxHeartbeats 4000000 in
theorem moved_Unsqueeze {w:World} {v vx:Value} {n:Nd} {ins:List Vl} {x:List Int} (h:MkV w v n ins) (hx:IntsIn w vx x) (hsm:Sm x) (hax:(intsP n.attrs nmAxes []).length * 8+48≤140737488351232) (hl:n.op.toList=[85,110,115,113,117,101,101,122,101]) :
  Calls Tryz.prog 74 #[v,vx] w fun e w'=>DimR w (optO (unsqP n x)) e w':=by
 obtain ⟨i0,hi,hz0,hz1,hz2⟩:=info_parts info_int;obtain ⟨vin,vat,vv,rfl,hm⟩:=h;obtain ⟨a1,c1,rfl⟩:=hm.node.is.form;obtain ⟨a2,c2,rfl⟩:=hm.node.ia.form;obtain ⟨a3,c3,rfl⟩:=hm.ins.form;have HM:=hid hm;clear hm;obtain ⟨a4,c4,rfl⟩:=hx.shape;have hxl:=hx.wf.1;have hxc:=hx.capI.2;have HX:=hid hx;clear hx;have HY:=hid (fun (W:World)=>rule_yes W);have HNo:=hid (fun (W:World)=>rule_no W);have HB1:=hid ((Below.refl w.heap.size w).alloc (Nat.le_refl _) (Obj.cells #[.string n.op,.string n.name,.slice a1 n.ins.length c1,.string n.out,.slice a2 n.attrs.length c2,.slice a3 ins.length c3] 63));have HA1:=hid (BoxN.new w #[.string n.op,.string n.name,.slice a1 n.ins.length c1,.string n.out,.slice a2 n.attrs.length c2,.slice a3 ins.length c3] 63);obtain ⟨k0,k1,k2,k3,k4,k5⟩:=HA1.out.six;have HGd:Hid (∀ zs,unsqP n x=some zs→Gd zs):=hid (fun zs h=>unsq_gd hsm hax h);go_enter Tryz.func74,Tryz.ntmps74
 go_wp2_with fail
 generalize World.alloc w (Obj.cells #[.string n.op,.string n.name,.slice a1 n.ins.length c1,.string n.out,.slice a2 n.attrs.length c2,.slice a3 ins.length c3] 63)=W1 at HB1 HA1 ⊢;clear k0 k1 k2 k3 k4 k5;refine (unsqueeze_any (n:=n) (ins:=ins) ⟨_,_,_,rfl,HM.out.below HB1.out⟩ (HX.out.below HB1.out) hsm).mono ?_;rintro e w2 hR;have hX:DimR w (optO (unsqP n x)) e w2:=hR.dim HB1.out HGd.out;have HX2:=hid hX;clear hX;obtain ⟨-,hc⟩:=hR;cases hq:unsqP n x with
 | none =>
  rw [hq] at hc;obtain rfl:e=brk 4:=hc;clear hq;exact ⟨rfl,HX2.out⟩
 | some zs =>
  rw [hq] at hc;obtain ⟨v2,rfl,-⟩:=hc;clear hq;go_wp2
  go_ret
  exact HX2.out
set_option maxHeartbeats 4000000 in
theorem moved_rest {w:World} {v vx:Value} {n:Nd} {ins:List Vl} {x:List Int} (h:MkV w v n ins) (hx:IntsIn w vx x) (hl:∀ l ∈ ([[82,101,115,104,97,112,101],[69,120,112,97,110,100],[84,114,97,110,115,112,111,115,101],[67,111,110,99,97,116],[83,108,105,99,101],[71,97,116,104,101,114],[80,97,100],[83,113,117,101,101,122,101],[85,110,115,113,117,101,101,122,101]]:List (List UInt8)),n.op.toList≠l) :
  Calls Tryz.prog 74 #[v,vx] w fun e w'=>DimR w (optO (flatP n x)) e w':=by
 obtain ⟨i0,hi,hz0,hz1,hz2⟩:=info_parts info_int;obtain ⟨vin,vat,vv,rfl,hm⟩:=h;obtain ⟨a1,c1,rfl⟩:=hm.node.is.form;obtain ⟨a2,c2,rfl⟩:=hm.node.ia.form;obtain ⟨a3,c3,rfl⟩:=hm.ins.form;have HM:=hid hm;clear hm;obtain ⟨a4,c4,rfl⟩:=hx.shape;have hxl:=hx.wf.1;have hxc:=hx.capI.2;have HX:=hid hx;clear hx;have HY:=hid (fun (W:World)=>rule_yes W);have HNo:=hid (fun (W:World)=>rule_no W);have HB1:=hid ((Below.refl w.heap.size w).alloc (Nat.le_refl _) (Obj.cells #[.string n.op,.string n.name,.slice a1 n.ins.length c1,.string n.out,.slice a2 n.attrs.length c2,.slice a3 ins.length c3] 63));have HA1:=hid (BoxN.new w #[.string n.op,.string n.name,.slice a1 n.ins.length c1,.string n.out,.slice a2 n.attrs.length c2,.slice a3 ins.length c3] 63);have q0:(n.op.toList==([82,101,115,104,97,112,101]:List UInt8))=false:=by have:=hl [82,101,115,104,97,112,101] (by simp);simpa using this
 have q1:(n.op.toList==([69,120,112,97,110,100]:List UInt8))=false:=by have:=hl [69,120,112,97,110,100] (by simp);simpa using this
 have q2:(n.op.toList==([84,114,97,110,115,112,111,115,101]:List UInt8))=false:=by have:=hl [84,114,97,110,115,112,111,115,101] (by simp);simpa using this
 have q3:(n.op.toList==([67,111,110,99,97,116]:List UInt8))=false:=by have:=hl [67,111,110,99,97,116] (by simp);simpa using this
 have q4:(n.op.toList==([83,108,105,99,101]:List UInt8))=false:=by have:=hl [83,108,105,99,101] (by simp);simpa using this
 have q5:(n.op.toList==([71,97,116,104,101,114]:List UInt8))=false:=by have:=hl [71,97,116,104,101,114] (by simp);simpa using this
 have q6:(n.op.toList==([80,97,100]:List UInt8))=false:=by have:=hl [80,97,100] (by simp);simpa using this
 have q7:(n.op.toList==([83,113,117,101,101,122,101]:List UInt8))=false:=by have:=hl [83,113,117,101,101,122,101] (by simp);simpa using this
 have q8:(n.op.toList==([85,110,115,113,117,101,101,122,101]:List UInt8))=false:=by have:=hl [85,110,115,113,117,101,101,122,101] (by simp);simpa using this
 clear hl;obtain ⟨k0,k1,k2,k3,k4,k5⟩:=HA1.out.six;go_enter Tryz.func74,Tryz.ntmps74
 go_wp2_with fail
 generalize World.alloc w (Obj.cells #[.string n.op,.string n.name,.slice a1 n.ins.length c1,.string n.out,.slice a2 n.attrs.length c2,.slice a3 ins.length c3] 63)=W1 at HB1 HA1 ⊢;clear k0 k1 k2 k3 k4 k5;refine (flatten_any (n:=n) (ins:=ins) ⟨_,_,_,rfl,HM.out.below HB1.out⟩ (HX.out.below HB1.out)).mono ?_;rintro e w2 hR;have hX:DimR w (optO (flatP n x)) e w2:=hR.dim HB1.out (fun zs h=>flat_gd h);have HX2:=hid hX;clear hX;obtain ⟨-,hc⟩:=hR;cases hq:flatP n x with
 | none =>
  rw [hq] at hc;obtain rfl:e=brk 4:=hc;clear hq;exact ⟨rfl,HX2.out⟩
 | some zs =>
  rw [hq] at hc;obtain ⟨v2,rfl,-⟩:=hc;clear hq;go_wp2
  go_ret
  exact HX2.out
set_option maxHeartbeats 8000000 in
theorem moved_Expand {w:World} {v vx:Value} {n:Nd} {ins:List Vl} {x:List Int} (h:MkV w v n ins) (hx:IntsIn w vx x) (hsm:Sm x) (hl:n.op.toList=[69,120,112,97,110,100]) :
  Calls Tryz.prog 74 #[v,vx] w fun e w'=>DimR w (expO n x) e w':=by
 obtain ⟨i0,hi,hz0,hz1,hz2⟩:=info_parts info_int;obtain ⟨vin,vat,vv,rfl,hm⟩:=h;obtain ⟨a1,c1,rfl⟩:=hm.node.is.form;obtain ⟨a2,c2,rfl⟩:=hm.node.ia.form;obtain ⟨a3,c3,rfl⟩:=hm.ins.form;have HM:=hid hm;clear hm;obtain ⟨a4,c4,rfl⟩:=hx.shape;have hxl:=hx.wf.1;have hxc:=hx.capI.2;have HX:=hid hx;clear hx;have HY:=hid (fun (W:World)=>rule_yes W);have HNo:=hid (fun (W:World)=>rule_no W);have HB1:=hid ((Below.refl w.heap.size w).alloc (Nat.le_refl _) (Obj.cells #[.string n.op,.string n.name,.slice a1 n.ins.length c1,.string n.out,.slice a2 n.attrs.length c2,.slice a3 ins.length c3] 63));have HA1:=hid (BoxN.new w #[.string n.op,.string n.name,.slice a1 n.ins.length c1,.string n.out,.slice a2 n.attrs.length c2,.slice a3 ins.length c3] 63);have hx6:=hsm.1;have HSm:=hid hsm;clear hsm;obtain ⟨k0,k1,k2,k3,k4,k5⟩:=HA1.out.six;go_enter Tryz.func74,Tryz.ntmps74
 go_wp2_with fail
 generalize World.alloc w (Obj.cells #[.string n.op,.string n.name,.slice a1 n.ins.length c1,.string n.out,.slice a2 n.attrs.length c2,.slice a3 ins.length c3] 63)=W1 at HB1 HA1 ⊢;clear k0 k1 k2 k3 k4 k5;refine (sints_any (n:=n) ⟨_,_,rfl,(HM.out.below HB1.out).node⟩ nmShape (.empty none 0)).mono ?_;rintro e w2 ⟨v2,rfl,hr,B⟩;have HW2:=hid (HB1.out.trans (B.mono HB1.out.size));have HA2:=hid (HA1.out.below' B);have hok:=ints_okP (nm:=nmShape) (other:=[]) (v:=(.agg #[.string n.op,.string n.name,.slice a1 n.ins.length c1,.string n.out,.slice a2 n.attrs.length c2])) ⟨_,_,rfl,HM.out.node⟩ (by simp) (by simp);have HNu:=hid (numbers_any (n:=n) (v:=(.agg #[.string n.op,.string n.name,.slice a1 n.ins.length c1,.string n.out,.slice a2 n.attrs.length c2])) ⟨_,_,rfl,(HM.out.below HW2.out).node⟩ nmShape (.empty none 0) ((intsP n.attrs nmShape []).length:Int) 1 9223372036854775807);have HN1:=hid (fun h=>exp_no (n:=n) (x:=x) rfl h);have HN2:=hid (fun l h=>exp_yes (n:=n) (x:=x) (l:=l) rfl h);have hsl:=hok.1;obtain ⟨as',cs',rfl⟩:=owns_form hr;clear hr hok B;generalize intsP n.attrs nmShape []=s at *;obtain ⟨k0,k1,k2,k3,k4,k5⟩:=HA2.out.six;go_wp2_with fail
 clear k0 k1 k2 k3 k4 k5;refine HNu.out.mono ?_;rintro e w3 ⟨B3,hc⟩;have HW3:=hid (HW2.out.trans (B3.mono HW2.out.size));cases hp:numsP s s.length 1 9223372036854775807 with
 | none =>
  rw [hp] at hc;obtain rfl:e=brk 4:=hc;have E:=hid (HN1.out hp);clear hp;exact ⟨rfl,HW3.out,Or.inl ⟨by rw [E.out];decide,by rw [E.out]⟩⟩
 | some l =>
 rw [hp] at hc;obtain ⟨v3,rfl,hr3⟩:∃ v,e=.returned v∧RowI w3 _ v l:=hc;obtain ⟨hpl,hpr⟩:=nums_props hp;have E:=hid (HN2.out l hp);have HLI:Hid (∀ z ∈ l,InI z):=hid (fun z hz=>by have:=hpr z hz;unfold InI;omega);have HLL:Hid (l.length * 8≤140737488351232):=hid (by omega);have HI3:Hid (IntsIn w3 v3 l):=hid (hr3.ints HLL.out HLI.out);clear hp hr3 hpl hpr B3 HN1 HN2 HNu;go_wp2_with fail
 refine (spread_any (HX.out.below HW3.out) HI3.out).mono ?_;rintro e w4 hR;have hX:DimR w (Vb.bcO x l) e w4:=hR.dim HW3.out (fun h0=>by have:=bc_len h0;have:=HLL.out;omega) (bc_inI HSm.out.inI HLI.out);have HX2:=hid hX;clear hX;rcases hR with ⟨_,⟨_,rfl⟩ | ⟨_,v2,rfl,hr2⟩⟩
 ·exact ⟨rfl,by rw [E.out];exact HX2.out⟩
 ·clear hr2;go_wp2
  go_ret
  rw [E.out];exact HX2.out
set_option maxHeartbeats 8000000 in
theorem moved_Gather {w:World} {v vx:Value} {n:Nd} {ins:List Vl} {x:List Int} {y:Vl} (h:MkV w v n ins) (hx:IntsIn w vx x) (hsm:Sm x) (hy:ins[1]?=some y) (hym:Sm y.dims) (hl:n.op.toList=[71,97,116,104,101,114]) :
  Calls Tryz.prog 74 #[v,vx] w fun e w'=>DimR w (gatO n x y.dims) e w':=by
 obtain ⟨i0,hi,hz0,hz1,hz2⟩:=info_parts info_int;obtain ⟨vin,vat,vv,rfl,hm⟩:=h;obtain ⟨a1,c1,rfl⟩:=hm.node.is.form;obtain ⟨a2,c2,rfl⟩:=hm.node.ia.form;obtain ⟨a3,c3,rfl⟩:=hm.ins.form;have HM:=hid hm;clear hm;obtain ⟨a4,c4,rfl⟩:=hx.shape;have hxl:=hx.wf.1;have hxc:=hx.capI.2;have HX:=hid hx;clear hx;have HY:=hid (fun (W:World)=>rule_yes W);have HNo:=hid (fun (W:World)=>rule_no W);have HB1:=hid ((Below.refl w.heap.size w).alloc (Nat.le_refl _) (Obj.cells #[.string n.op,.string n.name,.slice a1 n.ins.length c1,.string n.out,.slice a2 n.attrs.length c2,.slice a3 ins.length c3] 63));have HA1:=hid (BoxN.new w #[.string n.op,.string n.name,.slice a1 n.ins.length c1,.string n.out,.slice a2 n.attrs.length c2,.slice a3 ins.length c3] 63);have hx6:=hsm.1;have hy6:=hym.1;have HSm:=hid hsm;have HYm:=hid hym;clear hsm hym;obtain ⟨by',oy,vdy,ea,gy,uy,hdy⟩:=dim_atK HM.out.ins hy;have EA:=hid ea;obtain ⟨ay,cy,rfl⟩:=hdy.shape;have HDy:=hid hdy;have hlen:1 < ins.length:=(List.getElem?_eq_some_iff.1 hy).1;have hleni:(1:Int) < (ins.length:Int):=by omega
 clear hdy hy ea;obtain ⟨k0,k1,k2,k3,k4,k5⟩:=HA1.out.six;go_enter Tryz.func74,Tryz.ntmps74
 go_wp2_with fail
 generalize World.alloc w (Obj.cells #[.string n.op,.string n.name,.slice a1 n.ins.length c1,.string n.out,.slice a2 n.attrs.length c2,.slice a3 ins.length c3] 63)=W1 at HB1 HA1 ⊢;clear k0 k1 k2 k3 k4 k5;refine (sint_any (n:=n) ⟨_,_,rfl,(HM.out.below HB1.out).node⟩ nmAxis 0).mono ?_;rintro e w2 ⟨rfl,B2⟩;have HB2:=hid (HB1.out.trans (B2.mono HB1.out.size));have HA2:=hid (HA1.out.below' B2);have hz:=int_okP (nm:=nmAxis) (other:=0) (v:=(.agg #[.string n.op,.string n.name,.slice a1 n.ins.length c1,.string n.out,.slice a2 n.attrs.length c2])) ⟨_,_,rfl,HM.out.node⟩ (by unfold InI;decide);have HS1:=hid (fun h=>gat_no (n:=n) (x:=x) (y:=y.dims) h);have HS2:=hid (fun k h=>gat_yes (n:=n) (x:=x) (y:=y.dims) (a:=k) h);generalize intP n.attrs nmAxis 0=z at *;have HAx:=hid (axis_any z x.length hz (by omega) w2);clear B2 hz;go_wp2_with fail
 refine HAx.out.mono ?_;rintro e w3 ⟨hr,rfl⟩;cases ha:axisP z x.length with
 | none =>
  rw [ha] at hr;obtain rfl:e=brk 4:=hr;have E:=hid (HS1.out ha);clear ha;exact ⟨rfl,HB2.out,Or.inl ⟨by rw [E.out];decide,by rw [E.out]⟩⟩
 | some kz =>
 rw [ha] at hr;obtain rfl:e=.returned (.int .i64 kz):=hr;have hkr:=axis_lt ha;obtain ⟨k,rfl⟩:∃ k:Nat,kz=(k:Int):=⟨kz.toNat,by omega⟩;have E:=hid (HS2.out k ha);clear ha HS1 HS2 HAx;have hkx:k < x.length:=by omega
 have hki:(k:Int) < (x.length:Int):=by omega
 have hk0:(0:Int)≤(k:Int):=by omega
 have hkc:(k:Int)+1≤(x.length:Int):=by omega
 have hk4:k≤c4:=by omega
 have hk1:(0:Int)≤(k:Int)+1:=by omega
 have hkw:IntKind.i64.wrap ((k:Int)+1)=((k+1:Nat):Int):=by rw [IntKind.wrap_i64];omega
 go_wp2_with fail
 have c5:w3.cell? ⟨w.heap.size,5,none⟩=some (.slice (some ⟨by',oy,none⟩) ins.length c3):=by rw [←EA.out];exact HA2.out.six.2.2.2.2.2
 have uy5:w3.cell? ⟨by',oy+5,none⟩=some (.slice ay y.dims.length cy):=(HB2.out.cell (p:=⟨by',oy+5,none⟩) gy).trans uy;have hbw:w.heap.size < w3.heap.size:=HA2.out.lt;have hbl:by' < w3.heap.size:=by have:=HB2.out.size;omega
 have HSr:Hid (∀ W',Below w3.heap.size w3 W'→W'.cell? ⟨w.heap.size,5,none⟩=some (.slice (some ⟨by',oy,none⟩) ins.length c3)∧W'.cell? ⟨by',oy+5,none⟩=some (.slice ay y.dims.length cy)):=hid fun W' h=>⟨(h.cell (p:=⟨w.heap.size,5,none⟩) hbw).trans c5,(h.cell (p:=⟨by',oy+5,none⟩) hbl).trans uy5⟩;clear c5 uy5;refine wp_region_plan 14 [0,1,2,3,4,5,6,7,8,9,10,11,12,13] (fun W'=>Below w3.heap.size w3 W') (by kernel_rfl) (by kernel_rfl) (fun _ d _ _ _ h=>by cases d<;>exact h) (Below.refl _ _).drew ?_;have B0:Hid (Below w3.heap.size w3 w3.drew):=hid (Below.refl _ _).drew;generalize w3.drew=wD at B0 ⊢
 repeat
  refine plan_read (v:=?_) rfl rfl (Or.inl ⟨by rfl,?_⟩) ?_;rotate_left
  ·intro W' hSw;obtain ⟨s0,s1⟩:=HSr.out W' hSw;go_simp
   try with_reducible rfl
  try simp only [Act.put,List.getElem_toArray,List.getElem_cons_zero,List.getElem_cons_succ,List.setIfInBounds_toArray,List.set_cons_zero,List.set_cons_succ]
 refine plan_act rfl rfl (fun K' hK=>?_);go_simp
 have HI0:=hid (((HX.out.below HB2.out).below B0.out).take (k:=k) (by omega));have HI1:=hid ((HDy.out.below HB2.out).below B0.out);have HI2:=hid (ints_dropI (k:=k+1) ((HX.out.below HB2.out).below B0.out) (by omega));have BA:=fun o=>(Below.refl wD.heap.size wD).alloc (Nat.le_refl _) o;refine hK.out _ _ (B0.out.alloc B0.out.size _) ?_;clear hK K';refine plan_act rfl rfl (fun K' hK=>?_);go_simp
 refine (concat3_any (BoxN.new _ _ _) (HI0.out.below (BA _)) (HI1.out.below (BA _)) (HI2.out.below (BA _)) (by simp;omega)).mono ?_;rintro e w4 ⟨v4,rfl,hr4,B4⟩;have HB34:=hid ((B0.out.alloc B0.out.size _).trans (B4.mono (B0.out.alloc B0.out.size _).size));have HB4:=hid (HB2.out.trans (HB34.out.mono HB2.out.size));have HI4:Hid (IntsIn w4 v4 (x.take k++y.dims++x.drop (k+1))):=hid (hr4.ints (by simp;omega) (fun z hz=>by
  rcases List.mem_append.1 hz with hz | hz
  ·rcases List.mem_append.1 hz with hz | hz
   ·exact HSm.out.inI z (List.mem_of_mem_take hz)
   ·exact HYm.out.inI z hz
  ·exact HSm.out.inI z (List.mem_of_mem_drop hz)))
 refine hK.out _ _ HB34.out ?_;clear hK K' hr4 B4;refine plan_tail rfl ?_;simp only [List.toList_toArray,List.drop_succ_cons,List.drop_zero];go_wp2
 all_goals
  go_ret
  rw [E.out];exact ⟨HB4.out,Or.inr ⟨rfl,_,rfl,HI4.out⟩⟩
end
end Go.Proofs.YtijhdmidffenbaaGreatDoor
