import Derived.Test.YtkkeehnldcdccaaGreatDoorNe24
set_option linter.unusedVariables false
set_option linter.unusedSimpArgs false
set_option maxRecDepth 100000
set_option maxHeartbeats 16000000
namespace Go.Proofs.YtkkeehnldcdccaaGreatDoor
open Go.Lib (hid)
open Go.RowKit
section
def F4:ByteArray:=⟨#[103,114,111,117,112]⟩
def Gm(x k:List Int)(g:Int):Prop:=x.length=4∧k.length=4∧1≤g∧g≤65536
def Gn(x k:List Int)(g:Int):Prop:=(x.getD 1 0).tmod g=0∧(k.getD 0 0).tmod g=0∧k.getD 1 0=(x.getD 1 0).tdiv g
instance (x k:List Int)(g:Int):Decidable (Gm x k g):=by unfold Gm;infer_instance
instance (x k:List Int)(g:Int):Decidable (Gn x k g):=by unfold Gn;infer_instance
def Jr(n:Nd)(x k:List Int):Option (List Int):=match AQ n x (k.drop 2)with |none=>none|some (h,v)=>some [x.getD 0 0,k.getD 0 0,h,v]
def CD(n:Nd)(x k:List Int)(z:Option (List Int)):Option (List Int):=
 if Gm x k (AH n.attrs F4 1)then(if Gn x k (AH n.attrs F4 1)then(if z=none∨z=some (k.take 1)then Jr n x k else none)else none)else none
theorem IW{n:Nd}{x k:List Int}{z:Option (List Int)}{g:Int}(e:AH n.attrs F4 1=g)(h:¬Gm x k g):CD n x k z=none:=by subst e;exact if_neg h
theorem Nv{n:Nd}{x k:List Int}{z:Option (List Int)}{g:Int}(e:AH n.attrs F4 1=g)(h:Gm x k g)(f:¬Gn x k g):CD n x k z=none:=by subst e;unfold CD;rw[if_pos h,if_neg f]
theorem Vv{n:Nd}{x k:List Int}{z:Option (List Int)}{g:Int}(e:AH n.attrs F4 1=g)(h:Gm x k g)(f:Gn x k g)(d:¬(z=none∨z=some (k.take 1))):CD n x k z=none:=by subst e;unfold CD;rw[if_pos h,if_pos f,if_neg d]
theorem QY{n:Nd}{x k:List Int}{z:Option (List Int)}{g:Int}(e:AH n.attrs F4 1=g)(h:Gm x k g)(f:Gn x k g)(d:z=none∨z=some (k.take 1)):CD n x k z=Jr n x k:=by subst e;unfold CD;rw[if_pos h,if_pos f,if_pos d]
theorem K8{n:Nd}{x k:List Int}(h:AQ n x (k.drop 2)=none):Jr n x k=none:=by unfold Jr;rw[h]
theorem Ms{n:Nd}{x k:List Int}{a b:Int}(h:AQ n x (k.drop 2)=some (a,b)):Jr n x k=some [x.getD 0 0,k.getD 0 0,a,b]:=by unfold Jr;rw[h]
attribute [local irreducible] AH AQ CD Ag
theorem Vy{w:World}{v vx:Value}{n:Nd}{ins:List Vl}{x:List Int}{y:Vl}{z:Option Vl}(h:BF w v n ins)(hx:Aa w vx x)(hsm:Sm x)(hy:ins[1]?=some y)(hym:Sm y.dims)(hz:ins[2]?=z)(hl:ins.length≤3) :
  Calls Tryz.prog 51 #[v,vx] w fun e w'=>AY w (CD n x y.dims (z.map Vl.dims)) e w':=by
 obtain⟨i0,hi,hz0,hz1,hz2⟩:=info_parts AI;obtain⟨vin,vat,vv,rfl,hm⟩:=h;obtain⟨a1,c1,rfl⟩:=hm.node.is.form;obtain⟨a2,c2,rfl⟩:=hm.node.ia.form;obtain⟨a3,c3,rfl⟩:=hm.ins.form;have HM:=hid hm;clear hm;obtain⟨a4,c4,rfl⟩:=hx.shape;have hxl:=hx.wf.1;have hxc:=hx.capI.2;have HX:=hid hx;clear hx;have HY:=hid (fun(W:World)=>Ao W);have HNo:=hid (fun(W:World)=>Aw W);have HSm:=hid hsm;have HYm:=hid hym;have HZ:=hid hz;obtain⟨bi,oi,vd,hai,hbi,y2,hd⟩:=Di HM.out.ins hy;subst hai;rw[Nat.one_mul]at y2;have hlen:1<ins.length:=(List.getElem?_eq_some_iff.1 hy).1;have hlen1:(1:Int)<(ins.length:Int):=by omega
 have HD:=hid hd;have hyl:=hd.wf.1;have hycA:∀a c,vd=.slice a y.dims.length c→y.dims.length≤c:=fun a c e=>by subst e;exact hd.capI.2
 obtain⟨ad,cd,rfl⟩:=hd.shape;have hyc:=hycA _ _ rfl;clear hycA;obtain⟨k,hke⟩:∃k,y.dims=k:=⟨_,rfl⟩;have HKe:=hid hke;rw[hke]at HD hyl hyc y2 HYm;clear hd hy hz hsm hym hke;have HB1:=hid ((Below.refl w.heap.size w).alloc (Nat.le_refl _) (Obj.cells #[.string n.op,.string n.name,.slice a1 n.ins.length c1,.string n.out,.slice a2 n.attrs.length c2,.slice (some ⟨bi,oi,none⟩) ins.length c3] 55));have HA1:=hid (Ac.new w #[.string n.op,.string n.name,.slice a1 n.ins.length c1,.string n.out,.slice a2 n.attrs.length c2,.slice (some ⟨bi,oi,none⟩) ins.length c3] 55);go_enter Tryz.func51,Tryz.ntmps51
 have y2a:=Aj y2 (Obj.cells #[.string n.op,.string n.name,.slice a1 n.ins.length c1,.string n.out,.slice a2 n.attrs.length c2,.slice (some ⟨bi,oi,none⟩) ins.length c3] 55);go_wp2_with fail
 generalize World.alloc w (Obj.cells #[.string n.op,.string n.name,.slice a1 n.ins.length c1,.string n.out,.slice a2 n.attrs.length c2,.slice (some ⟨bi,oi,none⟩) ins.length c3] 55)=W1 at HB1 HA1 y2a⊢;have HMk:Hid (∀W,Below W1.heap.size W1 W→BF W (.agg #[.string n.op,.string n.name,.slice a1 n.ins.length c1,.string n.out,.slice a2 n.attrs.length c2,.slice (some ⟨bi,oi,none⟩) ins.length c3]) n ins):=hid fun W hB=>⟨_,_,_,rfl,HM.out.below (HB1.out.trans (hB.mono HB1.out.size))⟩;have HBw:Hid (∀W,Below W1.heap.size W1 W→Below w.heap.size w W):=hid fun W hB=>HB1.out.trans (hB.mono HB1.out.size);clear y2a;refine(DC (n:=n) ⟨_,_,rfl,(HM.out.below HB1.out).node⟩ F4 1).mono ?_;rintro e w2⟨rfl,B2⟩;have HW2:Hid (Below W1.heap.size W1 w2):=hid B2;obtain⟨g,hge⟩:∃g,AH n.attrs F4 1=g:=⟨_,rfl⟩;rw[hge];have HG:=hid hge;clear hge B2;by_cases h1:x.length=4
 case neg=>
  have E:=hid (IW (k:=k) (z:=z.map Vl.dims) HG.out (fun c=>h1 c.1));have hb:((x.length:Int)==4)=false:=by simp;omega
  clear h1;go_wp2_with fail
  refine(HNo.out _).mono ?_;rintro e w'⟨rfl,rfl⟩;exact⟨rfl,AY.no (by rw[HKe.out];exact E.out) (HBw.out _ HW2.out)⟩
 have hb1:((x.length:Int)==4)=true:=by simp;omega
 by_cases h2:k.length=4
 case neg=>
  have E:=hid (IW (x:=x) (z:=z.map Vl.dims) HG.out (fun c=>h2 c.2.1));have hb:((k.length:Int)==4)=false:=by simp;omega
  clear h1 h2;go_wp2_with fail
  refine(HNo.out _).mono ?_;rintro e w'⟨rfl,rfl⟩;exact⟨rfl,AY.no (by rw[HKe.out];exact E.out) (HBw.out _ HW2.out)⟩
 have hb2:((k.length:Int)==4)=true:=by simp;omega
 by_cases h3:1≤g
 case neg=>
  have E:=hid (IW (x:=x) (k:=k) (z:=z.map Vl.dims) HG.out (fun c=>h3 c.2.2.1));have hb:decide (1≤g)=false:=by simpa using h3
  clear h1 h2;go_wp2_with fail
  refine(HNo.out _).mono ?_;rintro e w'⟨rfl,rfl⟩;exact⟨rfl,AY.no (by rw[HKe.out];exact E.out) (HBw.out _ HW2.out)⟩
 have hb3:decide (1≤g)=true:=by simpa using h3
 by_cases h4:g≤65536
 case neg=>
  have E:=hid (IW (x:=x) (k:=k) (z:=z.map Vl.dims) HG.out (fun c=>h4 c.2.2.2));have hb:decide (g≤65536)=false:=by simpa using h4
  clear h1 h2;go_wp2_with fail
  refine(HNo.out _).mono ?_;rintro e w'⟨rfl,rfl⟩;exact⟨rfl,AY.no (by rw[HKe.out];exact E.out) (HBw.out _ HW2.out)⟩
 have hb4:decide (g≤65536)=true:=by simpa using h4
 have HA:=hid (show Gm x k g from⟨h1,h2,h3,h4⟩);have HLX:=hid h1;have HLK:=hid h2;obtain⟨bx,ox,hax,-,gx,x0,i0'⟩:=Ai (k:=0) HX.out (by omega);subst hax;obtain⟨bx',ox',hax,-,-,x1,i1'⟩:=Ai (k:=1) HX.out (by omega);obtain⟨e1,e2⟩:bx=bx'∧ox=ox':=by simpa using hax
 subst e1 e2;obtain⟨bk,ok',hak,-,gk,u0,-⟩:=Ai (k:=0) HD.out (by omega);subst hak;obtain⟨bk',ok'',hak,-,-,u1,-⟩:=Ai (k:=1) HD.out (by omega);obtain⟨e1,e2⟩:bk=bk'∧ok'=ok'':=by simpa using hak
 subst e1 e2;clear hax hak i0' i1';rw[Nat.add_zero]at x0 u0;have rx0:=HSm.out.at (k:=0) (by omega);have rx1:=HSm.out.at (k:=1) (by omega);have rk0:=HYm.out.at (k:=0) (by omega);have rk1:=HYm.out.at (k:=1) (by omega);have HCB:Hid (Gn x k g=((x.getD 1 0).tmod g=0∧(k.getD 0 0).tmod g=0∧k.getD 1 0=(x.getD 1 0).tdiv g)):=hid rfl;have HFin:Hid (∀a b,AQ n x (k.drop 2)=some (a,b)→Jr n x k=some [x.getD 0 0,k.getD 0 0,a,b]):=hid fun a b h=>Ms h;rw[h1,h2];rw[h1]at hxl hxc;rw[h2]at hyl hyc;generalize x.getD 0 0=X0 at*;generalize x.getD 1 0=X1 at*;generalize k.getD 0 0=K0 at*;generalize k.getD 1 0=K1 at*;clear h1 h2 hb1 hb2 hb3 hb4;have hG0:¬g=0:=by omega
 have hG0b:(g==0)=false:=by simpa using hG0
 have hG1:¬g=-1:=by omega
 have tX:0≤X1.tmod g∧X1.tmod g≤65536:=by
  rw[Int.tmod_eq_emod_of_nonneg (by omega)];have:=Int.emod_lt_of_pos X1 (show 0<g by omega);have:=Int.emod_nonneg X1 hG0;omega
 have tK:0≤K0.tmod g∧K0.tmod g≤65536:=by
  rw[Int.tmod_eq_emod_of_nonneg (by omega)];have:=Int.emod_lt_of_pos K0 (show 0<g by omega);have:=Int.emod_nonneg K0 hG0;omega
 have tD:0≤X1.tdiv g∧X1.tdiv g≤65536:=by
  rw[Int.tdiv_eq_ediv_of_nonneg (by omega)];have h1:=Int.ediv_nonneg (show 0≤X1 by omega) (show 0≤g by omega);have h2:=Int.ediv_le_self g (show 0≤X1 by omega);omega
 have wX:IntKind.i64.wrap (X1.tmod g)=X1.tmod g:=by rw[IntKind.wrap_i64];omega
 have wK:IntKind.i64.wrap (K0.tmod g)=K0.tmod g:=by rw[IntKind.wrap_i64];omega
 have wD:IntKind.i64.wrap (X1.tdiv g)=X1.tdiv g:=by rw[IntKind.wrap_i64];omega
 have X0c:=hid x0;have U0c:=hid u0;have gx2:bx<w2.heap.size:=Nat.lt_of_lt_of_le gx (HBw.out _ HW2.out).size;have gk2:bk<w2.heap.size:=Nat.lt_of_lt_of_le gk (HBw.out _ HW2.out).size;have x0:=((HBw.out _ HW2.out).cell (p:=⟨bx,ox,none⟩) gx).trans x0;have x1:=((HBw.out _ HW2.out).cell (p:=⟨bx,ox+1,none⟩) gx).trans x1;have u0:=((HBw.out _ HW2.out).cell (p:=⟨bk,ok',none⟩) gk).trans u0;have u1:=((HBw.out _ HW2.out).cell (p:=⟨bk,ok'+1,none⟩) gk).trans u1;go_wp2_with fail
 refine(HY.out _).mono ?_;rintro e w'⟨rfl,rfl⟩;go_wp2_with fail
 by_cases q1:X1.tmod g=0
 case neg=>
  have E:=hid (Nv (z:=z.map Vl.dims) HG.out HA.out (fun c=>q1 (HCB.out ▸ c).1));have qb1:(X1.tmod g==0)=false:=by simpa using q1
  refine Ae 25 [0,1,2,3,4,5,6,7,8,9,10,11,12,13,14,15,16,17,18,19,20,21,22,23,24] (fun W'=>Below w'.heap.size w' W') (by kernel_rfl) (by kernel_rfl) (fun _ d _ _ _ h=>by cases d<;>exact h) (Below.refl _ _).drew ?_;have B0:Hid (Below w'.heap.size w' w'.drew):=hid (Below.refl _ _).drew;generalize w'.drew=wD' at B0⊢
  repeat first
   |refine Ah (v:=?_) rfl rfl (Or.inl ⟨by rfl,?_⟩) ?_
    rotate_left
    ·intro W' hSw;have x0:=(hSw.cell (p:=⟨bx,ox,none⟩) gx2).trans x0;have x1:=(hSw.cell (p:=⟨bx,ox+1,none⟩) gx2).trans x1;have u0:=(hSw.cell (p:=⟨bk,ok',none⟩) gk2).trans u0;have u1:=(hSw.cell (p:=⟨bk,ok'+1,none⟩) gk2).trans u1;go_simp
     try with_reducible rfl
    try simp only[Act.put,List.getElem_toArray,List.getElem_cons_zero,List.getElem_cons_succ,List.setIfInBounds_toArray,List.set_cons_zero,List.set_cons_succ]
   |refine Ah (v:=undef) rfl rfl (Or.inr ⟨by rfl,rfl⟩) ?_
    try simp only[Act.put,List.getElem_toArray,List.getElem_cons_zero,List.getElem_cons_succ,List.setIfInBounds_toArray,List.set_cons_zero,List.set_cons_succ]
  refine Aq rfl ?_;simp only[List.toList_toArray,List.drop_succ_cons,List.drop_zero];have HBD:=hid ((HBw.out _ HW2.out).trans (B0.out.mono (HBw.out _ HW2.out).size));go_wp2_with fail
  refine(HNo.out _).mono ?_;rintro e w3⟨rfl,rfl⟩;exact⟨rfl,AY.no (by rw[HKe.out];exact E.out) HBD.out⟩
 have qb1:(X1.tmod g==0)=true:=by simpa using q1
 by_cases q2:K0.tmod g=0
 case neg=>
  have E:=hid (Nv (z:=z.map Vl.dims) HG.out HA.out (fun c=>q2 (HCB.out ▸ c).2.1));have qb2:(K0.tmod g==0)=false:=by simpa using q2
  refine Ae 25 [0,1,2,3,4,5,6,7,8,9,10,11,12,13,14,15,16,17,18,19,20,21,22,23,24] (fun W'=>Below w'.heap.size w' W') (by kernel_rfl) (by kernel_rfl) (fun _ d _ _ _ h=>by cases d<;>exact h) (Below.refl _ _).drew ?_;have B0:Hid (Below w'.heap.size w' w'.drew):=hid (Below.refl _ _).drew;generalize w'.drew=wD' at B0⊢
  repeat first
   |refine Ah (v:=?_) rfl rfl (Or.inl ⟨by rfl,?_⟩) ?_
    rotate_left
    ·intro W' hSw;have x0:=(hSw.cell (p:=⟨bx,ox,none⟩) gx2).trans x0;have x1:=(hSw.cell (p:=⟨bx,ox+1,none⟩) gx2).trans x1;have u0:=(hSw.cell (p:=⟨bk,ok',none⟩) gk2).trans u0;have u1:=(hSw.cell (p:=⟨bk,ok'+1,none⟩) gk2).trans u1;go_simp
     try with_reducible rfl
    try simp only[Act.put,List.getElem_toArray,List.getElem_cons_zero,List.getElem_cons_succ,List.setIfInBounds_toArray,List.set_cons_zero,List.set_cons_succ]
   |refine Ah (v:=undef) rfl rfl (Or.inr ⟨by rfl,rfl⟩) ?_
    try simp only[Act.put,List.getElem_toArray,List.getElem_cons_zero,List.getElem_cons_succ,List.setIfInBounds_toArray,List.set_cons_zero,List.set_cons_succ]
  refine Aq rfl ?_;simp only[List.toList_toArray,List.drop_succ_cons,List.drop_zero];have HBD:=hid ((HBw.out _ HW2.out).trans (B0.out.mono (HBw.out _ HW2.out).size));go_wp2_with fail
  refine(HNo.out _).mono ?_;rintro e w3⟨rfl,rfl⟩;exact⟨rfl,AY.no (by rw[HKe.out];exact E.out) HBD.out⟩
 have qb2:(K0.tmod g==0)=true:=by simpa using q2
 by_cases q3:K1=X1.tdiv g
 case neg=>
  have E:=hid (Nv (z:=z.map Vl.dims) HG.out HA.out (fun c=>q3 (HCB.out ▸ c).2.2));have qb3:(K1==X1.tdiv g)=false:=by simpa using q3
  refine Ae 25 [0,1,2,3,4,5,6,7,8,9,10,11,12,13,14,15,16,17,18,19,20,21,22,23,24] (fun W'=>Below w'.heap.size w' W') (by kernel_rfl) (by kernel_rfl) (fun _ d _ _ _ h=>by cases d<;>exact h) (Below.refl _ _).drew ?_;have B0:Hid (Below w'.heap.size w' w'.drew):=hid (Below.refl _ _).drew;generalize w'.drew=wD' at B0⊢
  repeat first
   |refine Ah (v:=?_) rfl rfl (Or.inl ⟨by rfl,?_⟩) ?_
    rotate_left
    ·intro W' hSw;have x0:=(hSw.cell (p:=⟨bx,ox,none⟩) gx2).trans x0;have x1:=(hSw.cell (p:=⟨bx,ox+1,none⟩) gx2).trans x1;have u0:=(hSw.cell (p:=⟨bk,ok',none⟩) gk2).trans u0;have u1:=(hSw.cell (p:=⟨bk,ok'+1,none⟩) gk2).trans u1;go_simp
     try with_reducible rfl
    try simp only[Act.put,List.getElem_toArray,List.getElem_cons_zero,List.getElem_cons_succ,List.setIfInBounds_toArray,List.set_cons_zero,List.set_cons_succ]
   |refine Ah (v:=undef) rfl rfl (Or.inr ⟨by rfl,rfl⟩) ?_
    try simp only[Act.put,List.getElem_toArray,List.getElem_cons_zero,List.getElem_cons_succ,List.setIfInBounds_toArray,List.set_cons_zero,List.set_cons_succ]
  refine Aq rfl ?_;simp only[List.toList_toArray,List.drop_succ_cons,List.drop_zero];have HBD:=hid ((HBw.out _ HW2.out).trans (B0.out.mono (HBw.out _ HW2.out).size));go_wp2_with fail
  refine(HNo.out _).mono ?_;rintro e w3⟨rfl,rfl⟩;exact⟨rfl,AY.no (by rw[HKe.out];exact E.out) HBD.out⟩
 have qb3:(K1==X1.tdiv g)=true:=by simpa using q3
 have HB:Hid (Gn x k g):=hid (by rw[HCB.out];exact⟨q1,q2,q3⟩);refine Ae 25 [0,1,2,3,4,5,6,7,8,9,10,11,12,13,14,15,16,17,18,19,20,21,22,23,24] (fun W'=>Below w'.heap.size w' W') (by kernel_rfl) (by kernel_rfl) (fun _ d _ _ _ h=>by cases d<;>exact h) (Below.refl _ _).drew ?_;have B0:Hid (Below w'.heap.size w' w'.drew):=hid (Below.refl _ _).drew;generalize w'.drew=wD' at B0⊢
 repeat first
  |refine Ah (v:=?_) rfl rfl (Or.inl ⟨by rfl,?_⟩) ?_
   rotate_left
   ·intro W' hSw;have x0:=(hSw.cell (p:=⟨bx,ox,none⟩) gx2).trans x0;have x1:=(hSw.cell (p:=⟨bx,ox+1,none⟩) gx2).trans x1;have u0:=(hSw.cell (p:=⟨bk,ok',none⟩) gk2).trans u0;have u1:=(hSw.cell (p:=⟨bk,ok'+1,none⟩) gk2).trans u1;go_simp
    try with_reducible rfl
   try simp only[Act.put,List.getElem_toArray,List.getElem_cons_zero,List.getElem_cons_succ,List.setIfInBounds_toArray,List.set_cons_zero,List.set_cons_succ]
  |refine Ah (v:=undef) rfl rfl (Or.inr ⟨by rfl,rfl⟩) ?_
   try simp only[Act.put,List.getElem_toArray,List.getElem_cons_zero,List.getElem_cons_succ,List.setIfInBounds_toArray,List.set_cons_zero,List.set_cons_succ]
 refine Aq rfl ?_;simp only[List.toList_toArray,List.drop_succ_cons,List.drop_zero];have HBD:=hid ((HBw.out _ HW2.out).trans (B0.out.mono (HBw.out _ HW2.out).size));clear q1 q2 q3 qb1 qb2 qb3 wX wK wD tX tK tD hG0 hG0b hG1;go_wp2_with fail
 refine(HY.out _).mono ?_;rintro e w3⟨rfl,rfl⟩;have HW3:=hid (HW2.out.trans (B0.out.mono HW2.out.size));have x0:=(B0.out.cell (p:=⟨bx,ox,none⟩) gx2).trans x0;have u0:=(B0.out.cell (p:=⟨bk,ok',none⟩) gk2).trans u0;have gx3:bx<w3.heap.size:=Al x0;have gk3:bk<w3.heap.size:=Al u0;clear B0 HBD x1 u1 gx2 gk2;have hcd2:¬cd=2:=by omega
 have hcd2':2≤cd:=by omega
 have hcd1:1≤cd:=by omega
 have hcd1i:(1:Int)≤(cd:Int):=by omega
 have HDr:Hid (∀W,Below W1.heap.size W1 W→Aa W (.slice (some ⟨bk,ok'+2,none⟩) 2 (cd-2)) (k.drop 2)):=hid fun W hB=>by
  have:=Ds (k:=2) (zs:=k) (c:=cd) (a:=some ⟨bk,ok',none⟩) (HD.out.below (HBw.out _ hB)) (by rw[HLK.out];decide);rw[if_neg hcd2,HLK.out,Option.map_some,Fo]at this;exact this
 have HTk:Hid (∀W,Below W1.heap.size W1 W→Aa W (.slice (some ⟨bk,ok',none⟩) 1 cd) (k.take 1)):=hid fun W hB=>(HD.out.below (HBw.out _ hB)).take (by rw[HLK.out];decide);have HWin:Hid (∀W,Below W1.heap.size W1 W→Calls Tryz.prog 114 #[.agg #[.string n.op,.string n.name,.slice a1 n.ins.length c1,.string n.out,.slice a2 n.attrs.length c2,.slice (some ⟨bi,oi,none⟩) ins.length c3],.slice (some ⟨bx,ox,none⟩) 4 c4,.slice (some ⟨bk,ok'+2,none⟩) 2 (cd-2)] W fun e w'=>JP (AQ n x (k.drop 2)) e∧Below W.heap.size W w'):=hid fun W hB=>K6 (HMk.out _ hB) (show Aa W (.slice (some ⟨bx,ox,none⟩) 4 c4) x by have:=HX.out.below (HBw.out _ hB);rwa [HLX.out]at this) (HDr.out _ hB) HLX.out (by rw[List.length_drop,HLK.out]) HSm.out.2 (fun z hz=>HYm.out.2 z (List.mem_of_mem_drop hz));have HWr:Hid (∀a b,AQ n x (k.drop 2)=some (a,b)→Bf a∧Bf b):=hid fun a b h=>K7 h HLX.out (by rw[List.length_drop,HLK.out]) HSm.out.2 (fun z hz=>HYm.out.2 z (List.mem_of_mem_drop hz));go_wp2_with fail
 cases z with
 | none=>
  have hl3:(ins.length:Int)<3:=by
   have:=List.getElem?_eq_none_iff.1 HZ.out;omega
  have E:=hid (QY (z:=none) HG.out HA.out HB.out (Or.inl rfl));refine Ae 14 [0,1,2,3,4,5,6,7,8,9,10,11,12,13] (fun W'=>Below w3.heap.size w3 W') (by kernel_rfl) (by kernel_rfl) (fun _ d _ _ _ h=>by cases d<;>exact h) (Below.refl _ _).drew ?_;have B3:Hid (Below w3.heap.size w3 w3.drew):=hid (Below.refl _ _).drew;generalize w3.drew=wC at B3⊢
  repeat first
   |refine Ah (v:=?_) rfl rfl (Or.inl ⟨by rfl,?_⟩) ?_
    rotate_left
    ·intro W' hSw;obtain⟨k0,k1,k2,k3,k4,k5⟩:=(HA1.out.below' (HW3.out.trans (hSw.mono HW3.out.size))).six;go_simp
     try with_reducible rfl
    try simp only[Act.put,List.getElem_toArray,List.getElem_cons_zero,List.getElem_cons_succ,List.setIfInBounds_toArray,List.set_cons_zero,List.set_cons_succ]
   |refine Ah (v:=undef) rfl rfl (Or.inr ⟨by rfl,rfl⟩) ?_
    try simp only[Act.put,List.getElem_toArray,List.getElem_cons_zero,List.getElem_cons_succ,List.setIfInBounds_toArray,List.set_cons_zero,List.set_cons_succ]
  refine Av rfl rfl (fun K' hK=>?_);go_simp
  refine hK.out _ _ B3.out ?_;clear hK K'
  repeat
   refine Ah (v:=?_) rfl rfl (Or.inl ⟨by rfl,?_⟩) ?_;rotate_left
   ·intro W' hSw
    skip
    go_simp
    try with_reducible rfl
   try simp only[Act.put,List.getElem_toArray,List.getElem_cons_zero,List.getElem_cons_succ,List.setIfInBounds_toArray,List.set_cons_zero,List.set_cons_succ]
  refine Aq rfl ?_;simp only[List.toList_toArray,List.drop_succ_cons,List.drop_zero];go_wp2_with fail
  refine(HY.out _).mono ?_;rintro e w4⟨rfl,rfl⟩;have HW4:=hid (HW3.out.trans (B3.out.mono HW3.out.size));clear B3;go_wp2_with fail
  refine Ae 9 [0,1,2,3,4,5,6,7,8] (fun W'=>Below w4.heap.size w4 W') (by kernel_rfl) (by kernel_rfl) (fun _ d _ _ _ h=>by cases d<;>exact h) (Below.refl _ _).drew ?_;have B4:Hid (Below w4.heap.size w4 w4.drew):=hid (Below.refl _ _).drew;generalize w4.drew=wE at B4⊢
  repeat
   refine Ah (v:=?_) rfl rfl (Or.inl ⟨by rfl,?_⟩) ?_;rotate_left
   ·intro W' hSw;obtain⟨k0,k1,k2,k3,k4,k5⟩:=(HA1.out.below' (HW4.out.trans (hSw.mono HW4.out.size))).six;go_simp
    try with_reducible rfl
   try simp only[Act.put,List.getElem_toArray,List.getElem_cons_zero,List.getElem_cons_succ,List.setIfInBounds_toArray,List.set_cons_zero,List.set_cons_succ]
  have HWE:=hid (HW4.out.trans (B4.out.mono HW4.out.size));refine Av rfl rfl (fun K' hK=>?_);go_simp
  refine(HWin.out _ HWE.out).mono ?_;rintro e w5⟨hc,B5⟩;have HW5:=hid (HWE.out.trans (B5.mono HWE.out.size));have HW45:=hid (B4.out.trans (B5.mono B4.out.size));cases hw:AQ n x (k.drop 2)with
  | none=>
   rw[hw]at hc;obtain rfl:e=Em 4:=hc;exact⟨rfl,AY.no (by rw[HKe.out];exact E.out.trans (K8 hw)) (HBw.out _ HW5.out)⟩
  | some ab=>
  obtain⟨qh,qv⟩:=ab;rw[hw]at hc;obtain rfl:e=.returned (.tuple #[.int .i64 qh,.int .i64 qv]):=hc;have F:=hid (E.out.trans (HFin.out qh qv hw));clear hw B5;refine hK.out _ _ HW45.out ?_;clear hK K'
  repeat
   refine Ah (v:=?_) rfl rfl (Or.inl ⟨by rfl,?_⟩) ?_;rotate_left
   ·intro W' hSw
    skip
    go_simp
    try with_reducible rfl
   try simp only[Act.put,List.getElem_toArray,List.getElem_cons_zero,List.getElem_cons_succ,List.setIfInBounds_toArray,List.set_cons_zero,List.set_cons_succ]
  refine Aq rfl ?_;simp only[List.toList_toArray,List.drop_succ_cons,List.drop_zero];have x0:=((HBw.out _ HW5.out).cell (p:=⟨bx,ox,none⟩) gx).trans X0c.out;have u0:=((HBw.out _ HW5.out).cell (p:=⟨bk,ok',none⟩) gk).trans U0c.out;have gx5:bx<w5.heap.size:=Al x0;have gk5:bk<w5.heap.size:=Al u0;go_wp2_with fail
  refine Ae 8 [0,1,2,3,4,5,6,7] (fun W'=>Below w5.heap.size w5 W') (by kernel_rfl) (by kernel_rfl) (fun _ d _ _ _ h=>by cases d<;>exact h) (Below.refl _ _).drew ?_;have B6:Hid (Below w5.heap.size w5 w5.drew):=hid (Below.refl _ _).drew;generalize w5.drew=wF at B6⊢
  repeat
   refine Ah (v:=?_) rfl rfl (Or.inl ⟨by rfl,?_⟩) ?_;rotate_left
   ·intro W' hSw;have x0:=(hSw.cell (p:=⟨bx,ox,none⟩) gx5).trans x0;have u0:=(hSw.cell (p:=⟨bk,ok',none⟩) gk5).trans u0;go_simp
    try with_reducible rfl
   try simp only[Act.put,List.getElem_toArray,List.getElem_cons_zero,List.getElem_cons_succ,List.setIfInBounds_toArray,List.set_cons_zero,List.set_cons_succ]
  refine Aq rfl ?_;simp only[List.toList_toArray,List.drop_succ_cons,List.drop_zero];have HBF:=hid ((HBw.out _ HW5.out).trans (B6.out.mono (HBw.out _ HW5.out).size));have HBG:=hid (HBF.out.alloc HBF.out.size (Obj.cells #[.int .i64 X0,.int .i64 K0,.int .i64 qh,.int .i64 qv] 3));have HRw:Hid (Ag (wF.alloc (Obj.cells #[.int .i64 X0,.int .i64 K0,.int .i64 qh,.int .i64 qv] 3)) w.heap.size (.slice (some ⟨wF.heap.size,0,none⟩) 4 4) [X0,K0,qh,qv]):=hid (Db (zs:=[X0,K0,qh,qv]) (Ac.new wF _ _) HBF.out.size rfl (by simp));go_wp2
  go_ret
  exact AY.yes (by rw[HKe.out];exact F.out) HBG.out HRw.out
 | some zz=>
  have hl3':=(List.getElem?_eq_some_iff.1 HZ.out).1;have hl3:¬(ins.length:Int)<3:=by omega
  have hl4:(2:Int)<(ins.length:Int):=by omega
  obtain⟨bz,oz,vz,haz,hbz,z2,hzd⟩:=Di HM.out.ins HZ.out;obtain⟨e1,e2⟩:bi=bz∧oi=oz:=by simpa using haz
  subst e1 e2;obtain⟨az,cz,rfl⟩:=hzd.shape;have HZD:=hid hzd;have z2:w3.cell? ⟨bi,oi+6+2,none⟩=_:=((HBw.out _ HW3.out).cell (p:=⟨bi,oi+2*3+2,none⟩) hbz).trans z2;have gz:bi<w3.heap.size:=Al z2;clear haz hzd hbz hl3';refine Ae 14 [0,1,2,3,4,5,6,7,8,9,10,11,12,13] (fun W'=>Below w3.heap.size w3 W') (by kernel_rfl) (by kernel_rfl) (fun _ d _ _ _ h=>by cases d<;>exact h) (Below.refl _ _).drew ?_;have B3:Hid (Below w3.heap.size w3 w3.drew):=hid (Below.refl _ _).drew;generalize w3.drew=wC at B3⊢
  repeat first
   |refine Ah (v:=?_) rfl rfl (Or.inl ⟨by rfl,?_⟩) ?_
    rotate_left
    ·intro W' hSw;obtain⟨k0,k1,k2,k3,k4,k5⟩:=(HA1.out.below' (HW3.out.trans (hSw.mono HW3.out.size))).six;have z2:=(hSw.cell (p:=⟨bi,oi+6+2,none⟩) gz).trans z2;go_simp
     try with_reducible rfl
    try simp only[Act.put,List.getElem_toArray,List.getElem_cons_zero,List.getElem_cons_succ,List.setIfInBounds_toArray,List.set_cons_zero,List.set_cons_succ]
   |refine Ah (v:=undef) rfl rfl (Or.inr ⟨by rfl,rfl⟩) ?_
    try simp only[Act.put,List.getElem_toArray,List.getElem_cons_zero,List.getElem_cons_succ,List.setIfInBounds_toArray,List.set_cons_zero,List.set_cons_succ]
  refine Av rfl rfl (fun K' hK=>?_);go_simp
  have HWC:=hid (HW3.out.trans (B3.out.mono HW3.out.size));refine(Hk (HZD.out.below (HBw.out _ HWC.out)) (HTk.out _ HWC.out)).mono ?_;rintro e w4⟨rfl,B4e⟩;have HW34:=hid (B3.out.trans (B4e.mono B3.out.size));have HW4:=hid (HW3.out.trans (HW34.out.mono HW3.out.size));refine hK.out _ _ HW34.out ?_;clear hK K' B3 HWC B4e;by_cases hq:zz.dims=k.take 1
  ·have E:=hid (QY (z:=some zz.dims) HG.out HA.out HB.out (Or.inr (by rw[hq])));rw[decide_eq_true hq];clear hq
   repeat
    refine Ah (v:=?_) rfl rfl (Or.inl ⟨by rfl,?_⟩) ?_;rotate_left
    ·intro W' hSw
     skip
     go_simp
     try with_reducible rfl
    try simp only[Act.put,List.getElem_toArray,List.getElem_cons_zero,List.getElem_cons_succ,List.setIfInBounds_toArray,List.set_cons_zero,List.set_cons_succ]
   refine Aq rfl ?_;simp only[List.toList_toArray,List.drop_succ_cons,List.drop_zero];go_wp2_with fail
   refine(HY.out _).mono ?_;rintro e w4⟨rfl,rfl⟩;go_wp2_with fail
   refine Ae 9 [0,1,2,3,4,5,6,7,8] (fun W'=>Below w4.heap.size w4 W') (by kernel_rfl) (by kernel_rfl) (fun _ d _ _ _ h=>by cases d<;>exact h) (Below.refl _ _).drew ?_;have B4:Hid (Below w4.heap.size w4 w4.drew):=hid (Below.refl _ _).drew;generalize w4.drew=wE at B4⊢
   repeat
    refine Ah (v:=?_) rfl rfl (Or.inl ⟨by rfl,?_⟩) ?_;rotate_left
    ·intro W' hSw;obtain⟨k0,k1,k2,k3,k4,k5⟩:=(HA1.out.below' (HW4.out.trans (hSw.mono HW4.out.size))).six;go_simp
     try with_reducible rfl
    try simp only[Act.put,List.getElem_toArray,List.getElem_cons_zero,List.getElem_cons_succ,List.setIfInBounds_toArray,List.set_cons_zero,List.set_cons_succ]
   have HWE:=hid (HW4.out.trans (B4.out.mono HW4.out.size));refine Av rfl rfl (fun K' hK=>?_);go_simp
   refine(HWin.out _ HWE.out).mono ?_;rintro e w5⟨hc,B5⟩;have HW5:=hid (HWE.out.trans (B5.mono HWE.out.size));have HW45:=hid (B4.out.trans (B5.mono B4.out.size));cases hw:AQ n x (k.drop 2)with
   | none=>
    rw[hw]at hc;obtain rfl:e=Em 4:=hc;exact⟨rfl,AY.no (by rw[HKe.out];exact E.out.trans (K8 hw)) (HBw.out _ HW5.out)⟩
   | some ab=>
   obtain⟨qh,qv⟩:=ab;rw[hw]at hc;obtain rfl:e=.returned (.tuple #[.int .i64 qh,.int .i64 qv]):=hc;have F:=hid (E.out.trans (HFin.out qh qv hw));clear hw B5;refine hK.out _ _ HW45.out ?_;clear hK K'
   repeat
    refine Ah (v:=?_) rfl rfl (Or.inl ⟨by rfl,?_⟩) ?_;rotate_left
    ·intro W' hSw
     skip
     go_simp
     try with_reducible rfl
    try simp only[Act.put,List.getElem_toArray,List.getElem_cons_zero,List.getElem_cons_succ,List.setIfInBounds_toArray,List.set_cons_zero,List.set_cons_succ]
   refine Aq rfl ?_;simp only[List.toList_toArray,List.drop_succ_cons,List.drop_zero];have x0:=((HBw.out _ HW5.out).cell (p:=⟨bx,ox,none⟩) gx).trans X0c.out;have u0:=((HBw.out _ HW5.out).cell (p:=⟨bk,ok',none⟩) gk).trans U0c.out;have gx5:bx<w5.heap.size:=Al x0;have gk5:bk<w5.heap.size:=Al u0;go_wp2_with fail
   refine Ae 8 [0,1,2,3,4,5,6,7] (fun W'=>Below w5.heap.size w5 W') (by kernel_rfl) (by kernel_rfl) (fun _ d _ _ _ h=>by cases d<;>exact h) (Below.refl _ _).drew ?_;have B6:Hid (Below w5.heap.size w5 w5.drew):=hid (Below.refl _ _).drew;generalize w5.drew=wF at B6⊢
   repeat
    refine Ah (v:=?_) rfl rfl (Or.inl ⟨by rfl,?_⟩) ?_;rotate_left
    ·intro W' hSw;have x0:=(hSw.cell (p:=⟨bx,ox,none⟩) gx5).trans x0;have u0:=(hSw.cell (p:=⟨bk,ok',none⟩) gk5).trans u0;go_simp
     try with_reducible rfl
    try simp only[Act.put,List.getElem_toArray,List.getElem_cons_zero,List.getElem_cons_succ,List.setIfInBounds_toArray,List.set_cons_zero,List.set_cons_succ]
   refine Aq rfl ?_;simp only[List.toList_toArray,List.drop_succ_cons,List.drop_zero];have HBF:=hid ((HBw.out _ HW5.out).trans (B6.out.mono (HBw.out _ HW5.out).size));have HBG:=hid (HBF.out.alloc HBF.out.size (Obj.cells #[.int .i64 X0,.int .i64 K0,.int .i64 qh,.int .i64 qv] 3));have HRw:Hid (Ag (wF.alloc (Obj.cells #[.int .i64 X0,.int .i64 K0,.int .i64 qh,.int .i64 qv] 3)) w.heap.size (.slice (some ⟨wF.heap.size,0,none⟩) 4 4) [X0,K0,qh,qv]):=hid (Db (zs:=[X0,K0,qh,qv]) (Ac.new wF _ _) HBF.out.size rfl (by simp));go_wp2
   go_ret
   exact AY.yes (by rw[HKe.out];exact F.out) HBG.out HRw.out
  ·have E:=hid (Vv (z:=some zz.dims) HG.out HA.out HB.out (fun c=>hq (by rcases c with c|c;cases c;exact Option.some.inj c)));rw[decide_eq_false hq];clear hq
   repeat
    refine Ah (v:=?_) rfl rfl (Or.inl ⟨by rfl,?_⟩) ?_;rotate_left
    ·intro W' hSw
     skip
     go_simp
     try with_reducible rfl
    try simp only[Act.put,List.getElem_toArray,List.getElem_cons_zero,List.getElem_cons_succ,List.setIfInBounds_toArray,List.set_cons_zero,List.set_cons_succ]
   refine Aq rfl ?_;simp only[List.toList_toArray,List.drop_succ_cons,List.drop_zero];go_wp2_with fail
   refine(HNo.out _).mono ?_;rintro e w'⟨rfl,rfl⟩;exact⟨rfl,AY.no (by rw[HKe.out];exact E.out) (HBw.out _ HW4.out)⟩
end
end Go.Proofs.YtkkeehnldcdccaaGreatDoor
