import Derived.Test.YtkkeehnldcdccaaGreatDoorNe18
set_option linter.unusedVariables false
set_option linter.unusedSimpArgs false
set_option maxRecDepth 100000
set_option maxHeartbeats 16000000
namespace Go.Proofs.YtkkeehnldcdccaaGreatDoor
open Go.Lib (hid)
open Go.RowKit
section
def BO(a d:Int):Int:=max 0 (min (if a<0 then a+d else a) d)
theorem En{a d:Int}(hd:1≤d∧d≤65536):0≤BO a d∧BO a d≤65536:=by unfold BO;omega
theorem Mi(a d:Int)(ha:Bf a)(hd:1≤d∧d≤65536)(w:World):Calls Tryz.prog 169 #[.int .i64 a,.int .i64 d] w fun e w'=>e=.returned (.int .i64 (BO a d))∧w'=w:=by
 obtain⟨y0,y1⟩:=ha;obtain⟨d0,d1⟩:=hd;by_cases h:a<0
 ·have E:Hid (BO a d=max 0 (min (a+d) d)):=hid (by unfold BO;rw[if_pos h]);go_enter Tryz.func169,Tryz.ntmps169
  go_wp2
  go_ret
  exact⟨Ab (by rw[E.out];rfl),rfl⟩
 ·have E:Hid (BO a d=max 0 (min a d)):=hid (by unfold BO;rw[if_neg h]);go_enter Tryz.func169,Tryz.ntmps169
  go_wp2
  go_ret
  exact⟨Ab (by rw[E.out];rfl),rfl⟩
def Fv:ByteArray:=⟨#[115,116,97,114,116,115]⟩
def KY:ByteArray:=⟨#[101,110,100,115]⟩
def Mj(x s e:List Int):Nat→List Int→List Int→Option (List Int)
 | _,out,[]=>some out
 | i,out,k::l=>
  if 0<BO (e.getD i 0) (x.getD k.toNat 0)-BO (s.getD i 0) (x.getD k.toNat 0)then Mj x s e (i+1) (out.set k.toNat (BO (e.getD i 0) (x.getD k.toNat 0)-BO (s.getD i 0) (x.getD k.toNat 0))) l else none
theorem U9{x s e out l:List Int}{k i:Nat}(h:¬k<l.length):Mj x s e i out (l.drop k)=some out:=by rw[List.drop_eq_nil_of_le (by omega),Mj]
theorem Va{x s e out l:List Int}{k j:Nat}{v:Int}(hk:k<l.length)(hj:(l.getD k 0).toNat=j)(hv:BO (e.getD k 0) (x.getD j 0)-BO (s.getD k 0) (x.getD j 0)=v)(h:¬0<v):Mj x s e k out (l.drop k)=none:=by
 subst hj hv;rw[Bs hk,Mj];exact if_neg h
theorem R0{x s e out l:List Int}{k j:Nat}{v:Int}(hk:k<l.length)(hj:(l.getD k 0).toNat=j)(hv:BO (e.getD k 0) (x.getD j 0)-BO (s.getD k 0) (x.getD j 0)=v)(h:0<v):Mj x s e k out (l.drop k)=Mj x s e (k+1) (out.set j v) (l.drop (k+1)):=by
 subst hj hv;rw[Bs hk,Mj];exact if_pos h
def BY(n:Nd)(x:List Int):Option (List Int):=
 match By (Af n.attrs AF (Cn (Af n.attrs Fv []).length)) x.length with
 | none=>none
 | some l=>if(Af n.attrs Fv []).length=(Af n.attrs KY []).length∧(Af n.attrs Fv []).length=l.length then Mj x (Af n.attrs Fv []) (Af n.attrs KY []) 0 x l else none
theorem Vc{n:Nd}{x s:List Int}(es:Af n.attrs Fv []=s)(h:By (Af n.attrs AF (Cn s.length)) x.length=none):BY n x=none:=by subst es;unfold BY;rw[h]
theorem Tp{n:Nd}{x s t l:List Int}(es:Af n.attrs Fv []=s)(et:Af n.attrs KY []=t)(h:By (Af n.attrs AF (Cn s.length)) x.length=some l)(g:¬(s.length=t.length∧s.length=l.length)):BY n x=none:=by subst es et;unfold BY;rw[h];exact if_neg g
theorem Tq{n:Nd}{x s t l:List Int}(es:Af n.attrs Fv []=s)(et:Af n.attrs KY []=t)(h:By (Af n.attrs AF (Cn s.length)) x.length=some l)(g:s.length=t.length∧s.length=l.length):BY n x=Mj x s t 0 x l:=by subst es et;unfold BY;rw[h];exact if_pos g
attribute [local irreducible] Af By Cn BO Mj BY Ag BI
theorem Tr{w:World}{v vx:Value}{n:Nd}{ins:List Vl}{x:List Int}(h:BF w v n ins)(hx:Aa w vx x)(hsm:Sm x) :
  Calls Tryz.prog 119 #[v,vx] w fun e w'=>AY w (BY n x) e w':=by
 obtain⟨i0,hi,hz0,hz1,hz2⟩:=info_parts AI;obtain⟨vin,vat,vv,rfl,hm⟩:=h;obtain⟨a1,c1,rfl⟩:=hm.node.is.form;obtain⟨a2,c2,rfl⟩:=hm.node.ia.form;obtain⟨a3,c3,rfl⟩:=hm.ins.form;have HM:=hid hm;clear hm;obtain⟨a4,c4,rfl⟩:=hx.shape;have hxl:=hx.wf.1;have hxc:=hx.capI.2;have HX:=hid hx;clear hx;have HY:=hid (fun(W:World)=>Ao W);have HNo:=hid (fun(W:World)=>Aw W);have HB1:=hid ((Below.refl w.heap.size w).alloc (Nat.le_refl _) (Obj.cells #[.string n.op,.string n.name,.slice a1 n.ins.length c1,.string n.out,.slice a2 n.attrs.length c2,.slice a3 ins.length c3] 55));have HA1:=hid (Ac.new w #[.string n.op,.string n.name,.slice a1 n.ins.length c1,.string n.out,.slice a2 n.attrs.length c2,.slice a3 ins.length c3] 55);have HSm:=hid hsm;have hx6:=hsm.1;clear hsm;go_enter Tryz.func119,Tryz.ntmps119
 go_wp2_with fail
 generalize World.alloc w (Obj.cells #[.string n.op,.string n.name,.slice a1 n.ins.length c1,.string n.out,.slice a2 n.attrs.length c2,.slice a3 ins.length c3] 55)=W1 at HB1 HA1⊢;have HBw:Hid (∀W,Below W1.heap.size W1 W→Below w.heap.size w W):=hid fun W hB=>HB1.out.trans (hB.mono HB1.out.size);have HU:=hid (fun(W:World) (m:Nat) (h:m*8≤140737488351232)=>Ku m h W);have HAx:=hid (fun(W:World) (u:Value) (L:List Int) (h:Aa W u L)=>Ib (r:=x.length) h h.wf.1 (by omega));refine Ae 6 [0,1,3,4,2,5] (fun W'=>Below W1.heap.size W1 W') (by kernel_rfl) (by kernel_rfl) (fun _ d _ _ _ h=>by cases d<;>exact h) (Below.refl _ _).drew ?_;have B0:Hid (Below W1.heap.size W1 W1.drew):=hid (Below.refl _ _).drew;generalize W1.drew=wD at B0⊢
 repeat
  refine Ah (v:=?_) rfl rfl (Or.inl ⟨by rfl,?_⟩) ?_;rotate_left
  ·intro W' hSw;obtain⟨k0,k1,k2,k3,k4,k5⟩:=(HA1.out.below' hSw).six;go_simp
   try with_reducible rfl
  try simp only[Act.put,List.getElem_toArray,List.getElem_cons_zero,List.getElem_cons_succ,List.setIfInBounds_toArray,List.set_cons_zero,List.set_cons_succ]
 refine Av rfl rfl (fun K' hK=>?_);go_simp
 refine(CR (n:=n) ⟨_,_,rfl,(HM.out.below (HBw.out _ B0.out)).node⟩ Fv (.empty none 0)).mono ?_;rintro e w2⟨v2,rfl,hr,B⟩;have HWw2:=hid (B0.out.trans (B.mono B0.out.size));have hok:=BS (nm:=Fv) (other:=[]) (v:=(.agg #[.string n.op,.string n.name,.slice a1 n.ins.length c1,.string n.out,.slice a2 n.attrs.length c2])) ⟨_,_,rfl,HM.out.node⟩ (by simp) (by simp);obtain⟨s,hse⟩:∃s,Af n.attrs Fv []=s:=⟨_,rfl⟩;rw[hse]at hr hok;have HSe:=hid hse;have HIs:Hid (Aa w2 v2 s):=hid (BI.ints (B:=wD.heap.size) (by unfold BI;exact hr) hok.1 hok.2);have hsl:=hok.1;obtain⟨as',cs',rfl⟩:=HIs.out.shape;clear hse hr hok B;refine hK.out _ _ HWw2.out ?_;clear hK K';refine Av rfl rfl (fun K' hK=>?_);go_simp
 refine(CR (n:=n) ⟨_,_,rfl,(HM.out.below (HBw.out _ HWw2.out)).node⟩ KY (.empty none 0)).mono ?_;rintro e w3⟨v3,rfl,hr,B⟩;have HWw3:=hid (HWw2.out.trans (B.mono HWw2.out.size));have hok:=BS (nm:=KY) (other:=[]) (v:=(.agg #[.string n.op,.string n.name,.slice a1 n.ins.length c1,.string n.out,.slice a2 n.attrs.length c2])) ⟨_,_,rfl,HM.out.node⟩ (by simp) (by simp);obtain⟨t,hte⟩:∃t,Af n.attrs KY []=t:=⟨_,rfl⟩;rw[hte]at hr hok;have HTe:=hid hte;have HIt:Hid (Aa w3 v3 t):=hid (BI.ints (B:=w2.heap.size) (by unfold BI;exact hr) hok.1 hok.2);have htl:=hok.1;have HIs:=hid (HIs.out.below B);obtain⟨at',ct',rfl⟩:=HIt.out.shape;clear hte hr hok B;refine hK.out _ _ HWw3.out ?_;clear hK K';refine Aq rfl ?_;simp only[List.toList_toArray,List.drop_succ_cons,List.drop_zero];go_wp2_with fail
 refine Ae 9 [0,1,2,3,6,7,4,5,8] (fun W'=>Below w3.heap.size w3 W') (by kernel_rfl) (by kernel_rfl) (fun _ d _ _ _ h=>by cases d<;>exact h) (Below.refl _ _).drew ?_;have B0:Hid (Below w3.heap.size w3 w3.drew):=hid (Below.refl _ _).drew;generalize w3.drew=wE at B0⊢
 repeat
  refine Ah (v:=?_) rfl rfl (Or.inl ⟨by rfl,?_⟩) ?_;rotate_left
  ·intro W' hSw;obtain⟨k0,k1,k2,k3,k4,k5⟩:=(HA1.out.below' (HWw3.out.trans (hSw.mono HWw3.out.size))).six;go_simp
   try with_reducible rfl
  try simp only[Act.put,List.getElem_toArray,List.getElem_cons_zero,List.getElem_cons_succ,List.setIfInBounds_toArray,List.set_cons_zero,List.set_cons_succ]
 refine Av rfl rfl (fun K' hK=>?_);go_simp
 refine(HU.out _ _ hsl).mono ?_;rintro e w4⟨B4,v4,rfl,hr4⟩;have HB34:=hid (B0.out.trans (B4.mono B0.out.size));have HW4:=hid (HWw3.out.trans (HB34.out.mono HWw3.out.size));have HU4:Hid (Aa w4 v4 (Cn s.length)):=hid (hr4.ints (by rw[CE];exact hsl) (Fa _ (by omega)));refine hK.out _ _ HB34.out ?_;clear hK K' B4 hr4;refine Av rfl rfl (fun K' hK=>?_);go_simp
 refine(CR (n:=n) ⟨_,_,rfl,(HM.out.below (HBw.out _ HW4.out)).node⟩ AF HU4.out).mono ?_;rintro e w5⟨v5,rfl,hr,B⟩;have HWw5:=hid (HW4.out.trans (B.mono HW4.out.size));have hok:=BS (nm:=AF) (other:=(Cn s.length)) (v:=(.agg #[.string n.op,.string n.name,.slice a1 n.ins.length c1,.string n.out,.slice a2 n.attrs.length c2])) ⟨_,_,rfl,HM.out.node⟩ (by rw[CE];exact hsl) (Fa _ (by omega));have HB35:=hid (HB34.out.trans (B.mono HB34.out.size));have HI5:Hid (Aa w5 v5 (Af n.attrs AF (Cn s.length))):=hid (BI.ints (B:=w4.heap.size) (by unfold BI;exact hr) hok.1 hok.2);have HN1:=hid (fun h=>Vc (x:=x) HSe.out h);have HN2:=hid (fun l h g=>Tp (x:=x) (l:=l) HSe.out HTe.out h g);have HN3:=hid (fun l h g=>Tq (x:=x) (l:=l) HSe.out HTe.out h g);clear hr hok B HU4;generalize Af n.attrs AF (Cn s.length)=L at*;obtain⟨a5,c5,rfl⟩:=HI5.out.shape;refine hK.out _ _ HB35.out ?_;clear hK K';refine Av rfl rfl (fun K' hK=>?_);go_simp
 refine(HAx.out _ _ _ HI5.out).mono ?_;rintro e w6⟨B6,hc⟩;have HB36:=hid (HB35.out.trans (B6.mono HB35.out.size));have HW6:=hid (HWw3.out.trans (HB36.out.mono HWw3.out.size));have HLL:Hid (L.length*8≤140737488351232):=hid HI5.out.wf.1;cases hax:By L x.length with
 | none=>
  rw[hax]at hc;obtain rfl:e=Em 4:=hc;exact⟨rfl,AY.no (HN1.out hax) (HBw.out _ HW6.out)⟩
 | some l=>
 rw[hax]at hc;obtain⟨v6,rfl,hr6⟩:∃v,e=.returned v∧Ag w6 _ v l:=hc;obtain⟨hpl,hpn⟩:=A8 hax;have HP:=hid hpl;have HN2:=hid (fun g=>HN2.out l hax g);have HN3:=hid (fun g=>HN3.out l hax g);have HI6:Hid (Aa w6 v6 l):=hid (hr6.ints (by rw[hpn];exact HLL.out) (fun z hz=>DO (hpl z hz) (by omega)));obtain⟨a6,c6,rfl⟩:=HI6.out.shape;have HIs:=hid (HIs.out.below HB36.out);have HIt:=hid (HIt.out.below HB36.out);have hll:=HI6.out.wf.1;clear hax hr6 hpl hpn B6 HI5;refine hK.out _ _ HB36.out ?_;clear hK K';refine Aq rfl ?_;simp only[List.toList_toArray,List.drop_succ_cons,List.drop_zero];by_cases h1:s.length=t.length
 case neg=>
  have E:=hid (HN2.out (fun c=>h1 c.1));have hb:((s.length:Int)==(t.length:Int))=false:=by simp;omega
  clear h1;go_wp2_with fail
  refine(HNo.out _).mono ?_;rintro e w'⟨rfl,rfl⟩;exact⟨rfl,AY.no E.out (HBw.out _ HW6.out)⟩
 have hb1:((s.length:Int)==(t.length:Int))=true:=by simp;omega
 by_cases h2:s.length=l.length
 case neg=>
  have E:=hid (HN2.out (fun c=>h2 c.2));have hb:((s.length:Int)==(l.length:Int))=false:=by simp;omega
  clear h1 h2;go_wp2_with fail
  refine(HNo.out _).mono ?_;rintro e w'⟨rfl,rfl⟩;exact⟨rfl,AY.no E.out (HBw.out _ HW6.out)⟩
 have hb2:((s.length:Int)==(l.length:Int))=true:=by simp;omega
 have E:=hid (HN3.out ⟨h1,h2⟩);have HL1:=hid h1;have HL2:=hid h2;clear h1 h2;go_wp2_with fail
 refine(HY.out _).mono ?_;rintro e w'⟨rfl,rfl⟩;go_wp2_with fail
 clear hb1 hb2;refine(Vb.Cv (HX.out.below (HBw.out _ HW6.out))).mono ?_;rintro e w7⟨v7,rfl,hf7,B7⟩;have HF7:=hid hf7;have HB67:=hid B7;obtain⟨a7,c7,rfl⟩:=hf7.form;clear hf7 B7;go_wp2_with fail
 go_loopw [43] (fun i wr=>∃(k:Nat) (out:List Int),k≤l.length∧i=.int .i64 (k:Int)∧out.length=x.length∧Hid (Mj x s t 0 x l=Mj x s t k out (l.drop k))∧Hid (Vb.Bj w'.heap.size wr (.slice a7 x.length c7) out)∧Hid (Below w'.heap.size w' wr)) (fun i _=>l.length-(intOf i).toNat)
 case atStart=>exact⟨0,x,Nat.zero_le _,rfl,rfl,hid rfl,HF7,HB67⟩
 case round=>
  obtain⟨k,out,hk,rfl,hol,hF,hO,hW⟩:=hrel;have HWr:=hid (HW6.out.trans (hW.out.mono HW6.out.size));have HBr:=hid (HBw.out _ HWr.out);have HOL:=hid hol;clear hol;by_cases hkl:k<l.length
  ·have hki:(k:Int)<(l.length:Int):=by omega
   have hzr:=HP.out _ (Am (zs:=l) hkl);obtain⟨j,hj⟩:∃j:Nat,l.getD k 0=(j:Int):=⟨(l.getD k 0).toNat,by omega⟩;have hjx:j<x.length:=by omega
   have hji:(j:Int)<(x.length:Int):=by omega
   obtain⟨bl,ol,hal,-,gl,ul,-⟩:=Ai HI6.out hkl;subst hal;have ul:=(hW.out.cell (p:=⟨bl,ol+k,none⟩) gl).trans ul;rw[hj]at ul;have hjt:(l.getD k 0).toNat=j:=by rw[hj];rfl
   have F1:=hid (fun v h1 h2=>Va (x:=x) (s:=s) (e:=t) (out:=out) (v:=v) hkl hjt h1 h2);have F2:=hid (fun v h1 h2=>R0 (x:=x) (s:=s) (e:=t) (out:=out) (v:=v) hkl hjt h1 h2);clear hj hjt hzr;have hOD:=hO.out.below ((Below.refl wr.heap.size wr).drew);have HWD:Hid (Below w'.heap.size w' wr.drew):=hid hW.out.drew;have HBD:Hid (Below w.heap.size w wr.drew):=hid HBr.out.drew;obtain⟨g,hg,hgB,c0,z0,hst⟩:=hOD.at HOL.out hjx;subst hg;obtain⟨bx,ox,hax,-,gx,ux,-⟩:=Ai HX.out hjx;subst hax;have ux:=(HBD.out.cell (p:=⟨bx,ox+j,none⟩) gx).trans ux;obtain⟨bs,os,has,-,gs,us,is0⟩:=Ai (k:=k) HIs.out (by have:=HL2.out;omega);subst has;have us:=(HWD.out.cell (p:=⟨bs,os+k,none⟩) gs).trans us;obtain⟨bt,ot,hat,-,gt,ut,it0⟩:=Ai (k:=k) HIt.out (by have:=HL1.out;have:=HL2.out;omega);subst hat
   have ut:=(HWD.out.cell (p:=⟨bt,ot+k,none⟩) gt).trans ut;have rx:=HSm.out.at hjx;have hks:(k:Int)<(s.length:Int):=by have:=HL2.out;omega
   have hkt:(k:Int)<(t.length:Int):=by have:=HL1.out;have:=HL2.out;omega
   have gxD:bx<wr.drew.heap.size:=Al ux;have gsD:bs<wr.drew.heap.size:=Al us;have gtD:bt<wr.drew.heap.size:=Al ut;have ggD:g<wr.drew.heap.size:=Al c0;have HB1':=hid (fun(W:World)=>Mi (t.getD k 0) (x.getD j 0) it0 rx W);have HB2':=hid (fun(W:World)=>Mi (s.getD k 0) (x.getD j 0) is0 rx W);have r1:=En (a:=t.getD k 0) rx;have r2:=En (a:=s.getD k 0) rx;have HST:=hid (hst (BO (t.getD k 0) (x.getD j 0)-BO (s.getD k 0) (x.getD j 0)));have F1:=hid (fun h=>F1.out _ rfl h);have F2:=hid (fun h=>F2.out _ rfl h);clear hst hOD is0 it0;generalize BO (t.getD k 0) (x.getD j 0)=q1 at*;generalize BO (s.getD k 0) (x.getD j 0)=q2 at*;generalize x.getD j 0=xj at*;generalize t.getD k 0=tk at*;generalize s.getD k 0=sk at*;have wq:IntKind.i64.wrap (q1-q2)=q1-q2:=by rw[IntKind.wrap_i64];omega
   have bk:(0:Int)≤(k:Int)∧(k:Int)<(s.length:Int):=⟨by omega,hks⟩;have bk':(0:Int)≤(k:Int)∧(k:Int)<(t.length:Int):=⟨by omega,hkt⟩;have bj:(0:Int)≤(j:Int)∧(j:Int)<(x.length:Int):=⟨by omega,hji⟩;go_wp2_with fail
   refine Ae 21 [0,1,2,3,4,5,6,7,8,9,11,12,13,14,15,16,17,18,10,19,20] (fun W'=>W'=wr.drew) (by kernel_rfl) (by kernel_rfl) (fun _ d _ _ _ h=>by cases d<;>exact h) rfl ?_;generalize wr.drew=wD at*
   repeat
    refine Ah (v:=?_) rfl rfl (Or.inl ⟨by rfl,?_⟩) ?_;rotate_left
    ·rintro W' rfl;go_simp
     try with_reducible rfl
    try simp only[Act.put,List.getElem_toArray,List.getElem_cons_zero,List.getElem_cons_succ,List.setIfInBounds_toArray,List.set_cons_zero,List.set_cons_succ]
   refine Av rfl rfl (fun K' hK=>?_);go_simp
   refine(HB1'.out _).mono ?_;rintro e w9⟨rfl,rfl⟩;refine hK.out _ _ rfl ?_;clear hK K';refine Av rfl rfl (fun K' hK=>?_);go_simp
   refine(HB2'.out _).mono ?_;rintro e w9⟨rfl,rfl⟩;refine hK.out _ _ rfl ?_;clear hK K'
   repeat
    refine Ah (v:=?_) rfl rfl (Or.inl ⟨by rfl,?_⟩) ?_;rotate_left
    ·rintro W' rfl;go_simp
     try with_reducible rfl
    try simp only[Act.put,List.getElem_toArray,List.getElem_cons_zero,List.getElem_cons_succ,List.setIfInBounds_toArray,List.set_cons_zero,List.set_cons_succ]
   refine Aq rfl ?_;simp only[List.toList_toArray,List.drop_succ_cons,List.drop_zero];have HWS:Hid (Below w'.heap.size w' (w9.setCell ⟨g,j,none⟩ (.int .i64 (q1-q2)))):=hid (HWD.out.setCell (p:=⟨g,j,none⟩) hgB _);have HBS:=hid (HBD.out.setCell (p:=⟨g,j,none⟩) (Nat.le_trans (HBw.out _ HW6.out).size hgB) (.int .i64 (q1-q2)));have cs2:(w9.setCell ⟨g,j,none⟩ (.int .i64 (q1-q2))).cell? ⟨g,j,none⟩=some (.int .i64 (q1-q2)):=by simp[go_sem,c0]
   by_cases hq:0<q1-q2
   ·have G:=hid (hF.out.trans (F2.out hq));have hqb:decide (q2<q1)=true:=by simp;omega
    clear F1 F2;go_wp2_with fail
    refine(HY.out _).mono ?_;rintro e w10⟨rfl,rfl⟩;go_wp2
    go_roundw
    case rel=>exact⟨k+1,out.set j (q1-q2),by omega,by go_num,(by rw[List.length_set];exact HOL.out),G,HST,HWS⟩
    case measure=>simp[intOf];omega
   ·have G:=hid (hF.out.trans (F1.out (by omega)));have hqb:decide (q2<q1)=false:=by simp;omega
    clear F1 F2;go_wp2_with fail
    refine(HNo.out _).mono ?_;rintro e w10⟨rfl,rfl⟩;exact⟨rfl,AY.no (E.out.trans G.out) HBS.out⟩
  ·have hki:¬(k:Int)<(l.length:Int):=by omega
   obtain rfl:k=l.length:=by omega
   have F:=hid (E.out.trans (hF.out.trans (U9 (Nat.lt_irrefl _))));have HRw:Hid (Ag wr w.heap.size (.slice a7 x.length c7) out):=hid (by
    have h1:Ag wr w'.heap.size (.slice a7 out.length c7) out:=by
     have:=hO.out;rw[←HOL.out]at this;unfold Ag;exact this
    rw[HOL.out]at h1;exact h1.base (HBw.out _ HW6.out).size)
   go_wp2
   go_ret
   exact AY.yes F.out HBr.out HRw.out
end
section
theorem R4{w:World}{a:Option Addr}{c j:Nat}{x:Vl}{ins:List Vl}(h:BJ 3 AM w (.slice a ins.length c) ins)(hi:ins[j]?=some x):∃b off vd,a=some ⟨b,off,none⟩∧b<w.heap.size∧w.cell? ⟨b,off+j*3+2,none⟩=some vd∧Aa w vd x.dims:=by
 obtain⟨b,off,cap,vd,hv,hb,_,_,c2,_,_,hd⟩:=Bm h (j:=j) (x:=x) hi;obtain⟨rfl,-,-⟩:=Value.slice.inj hv;exact⟨b,off,vd,rfl,hb,c2,hd⟩
def R5(x d:List Int)(a m:Nat):Bool:=(List.range m).all fun i=>decide (i=a)||decide (d.getD i 0=x.getD i 0)
theorem JX{x d:List Int}{a m:Nat}(h:R5 x d a m=true)(g:m=a∨d.getD m 0=x.getD m 0):R5 x d a (m+1)=true:=by
 unfold R5 at*;rw[List.range_succ,List.all_append,h];simpa using g
theorem Vd{x d:List Int}{a m k:Nat}(hm:m<k)(g:¬(m=a∨d.getD m 0=x.getD m 0)):R5 x d a k=false:=by
 unfold R5;refine List.all_eq_false.2 ⟨m,List.mem_range.2 hm,?_⟩
 simpa using g
def LF(x:List Int)(a:Nat):List Int→List Vl→Option (List Int)
 | out,[]=>some out
 | out,v::l=>if v.dims.length=x.length∧R5 x v.dims a x.length=true then LF x a (out.set a (out.getD a 0+v.dims.getD a 0)) l else none
def BV(n:Nd)(x:List Int)(rest:List Vl):Option (List Int):=match Bq (AH n.attrs AB 0) x.length with |none=>none|some a=>LF x a.toNat x rest
theorem QP{x out:List Int}{a:Nat}:LF x a out []=some out:=rfl
theorem Ve{x out:List Int}{a:Nat}{v:Vl}{l:List Vl}(h:¬(v.dims.length=x.length∧R5 x v.dims a x.length=true)):LF x a out (v::l)=none:=by rw[LF];exact if_neg h
theorem R6{x out:List Int}{a:Nat}{v:Vl}{l:List Vl}(h:v.dims.length=x.length)(g:R5 x v.dims a x.length=true):LF x a out (v::l)=LF x a (out.set a (out.getD a 0+v.dims.getD a 0)) l:=by rw[LF];exact if_pos ⟨h,g⟩
theorem Mk{n:Nd}{x:List Int}{rest:List Vl}(h:Bq (AH n.attrs AB 0) x.length=none):BV n x rest=none:=by unfold BV;rw[h]
theorem KZ{n:Nd}{x:List Int}{rest:List Vl}{a:Nat}(h:Bq (AH n.attrs AB 0) x.length=some (a:Int)):BV n x rest=LF x a x rest:=by unfold BV;rw[h];rfl
def F6(out d:List Int)(a j:Nat):List Int:=if a<j then out.set a (out.getD a 0+d.getD a 0)else out
theorem K4(out d:List Int)(a j:Nat):(F6 out d a j).length=out.length:=by unfold F6;split<;>simp
theorem Ml(out d:List Int)(a:Nat):F6 out d a 0=out:=if_neg (by omega)
theorem Mm{out d:List Int}{a j:Nat}(h:j≠a):F6 out d a (j+1)=F6 out d a j:=by
 unfold F6;by_cases g:a<j
 ·rw[if_pos g,if_pos (by omega)]
 ·rw[if_neg g,if_neg (by omega)]
theorem Pb{out d:List Int}{a:Nat}:F6 out d a (a+1)=(F6 out d a a).set a (out.getD a 0+d.getD a 0):=by
 unfold F6;rw[if_pos (by omega),if_neg (by omega)]
theorem Pc{out d:List Int}{a:Nat}:(F6 out d a a).getD a 0=out.getD a 0:=by unfold F6;rw[if_neg (by omega)]
theorem Pd{out d:List Int}{a j:Nat}(h:a<j):F6 out d a j=out.set a (out.getD a 0+d.getD a 0):=if_pos h
attribute [local irreducible] AH Bq R5 LF BV F6 Ag
theorem QQ{w:World}{v vx:Value}{n:Nd}{ins:List Vl}{x:List Int}(h:BF w v n ins)(hx:Aa w vx x)(hsm:Sm x)(hi0:0<ins.length)(hall:∀v∈ins,Sm v.dims) :
  Calls Tryz.prog 118 #[v,vx] w fun e w'=>AY w (BV n x (ins.drop 1)) e w':=by
 obtain⟨i0,hi,hz0,hz1,hz2⟩:=info_parts AI;obtain⟨vin,vat,vv,rfl,hm⟩:=h;obtain⟨a1,c1,rfl⟩:=hm.node.is.form;obtain⟨a2,c2,rfl⟩:=hm.node.ia.form;obtain⟨a3,c3,rfl⟩:=hm.ins.form;have HM:=hid hm;clear hm;obtain⟨a4,c4,rfl⟩:=hx.shape;have hxl:=hx.wf.1;have hxc:=hx.capI.2;have HX:=hid hx;clear hx;have HY:=hid (fun(W:World)=>Ao W);have HNo:=hid (fun(W:World)=>Aw W);have HSm:=hid hsm;have hx6:=hsm.1;have HAll:=hid hall;have hil:=HM.out.ins.len;have hic:=HM.out.ins.cap;obtain⟨x00,hx00⟩:∃x00,ins[0]?=some x00:=⟨_,List.getElem?_eq_getElem hi0⟩;obtain⟨bi,oi,vd0,hai,hbi,-,-⟩:=R4 HM.out.ins hx00;subst hai;clear hsm hall hx00;have HB1:=hid ((Below.refl w.heap.size w).alloc (Nat.le_refl _) (Obj.cells #[.string n.op,.string n.name,.slice a1 n.ins.length c1,.string n.out,.slice a2 n.attrs.length c2,.slice (some ⟨bi,oi,none⟩) ins.length c3] 55));have HA1:=hid (Ac.new w #[.string n.op,.string n.name,.slice a1 n.ins.length c1,.string n.out,.slice a2 n.attrs.length c2,.slice (some ⟨bi,oi,none⟩) ins.length c3] 55);go_enter Tryz.func118,Tryz.ntmps118
 go_wp2_with fail
 generalize World.alloc w (Obj.cells #[.string n.op,.string n.name,.slice a1 n.ins.length c1,.string n.out,.slice a2 n.attrs.length c2,.slice (some ⟨bi,oi,none⟩) ins.length c3] 55)=W1 at HB1 HA1⊢;have HBw:Hid (∀W,Below W1.heap.size W1 W→Below w.heap.size w W):=hid fun W hB=>HB1.out.trans (hB.mono HB1.out.size);refine(DC (n:=n) ⟨_,_,rfl,(HM.out.below HB1.out).node⟩ AB 0).mono ?_;rintro e w2⟨rfl,B2⟩;have HW2:Hid (Below W1.heap.size W1 w2):=hid B2;have hz:=C7 (nm:=AB) (other:=0) (v:=(.agg #[.string n.op,.string n.name,.slice a1 n.ins.length c1,.string n.out,.slice a2 n.attrs.length c2])) ⟨_,_,rfl,HM.out.node⟩ Ij;have HN1:=hid (fun h=>Mk (n:=n) (x:=x) (rest:=ins.drop 1) h);have HN2:=hid (fun a h=>KZ (n:=n) (x:=x) (rest:=ins.drop 1) (a:=a) h);generalize AH n.attrs AB 0=z at*;have HAx:=hid (Ia z x.length hz (by omega) w2);clear B2 hz;go_wp2_with fail
 refine HAx.out.mono ?_;rintro e w3⟨hr,rfl⟩;cases ha:Bq z x.length with
 | none=>
  rw[ha]at hr;obtain rfl:e=Em 4:=hr;exact⟨rfl,AY.no (HN1.out ha) (HBw.out _ HW2.out)⟩
 | some q=>
 rw[ha]at hr;obtain rfl:e=.returned (.int .i64 q):=hr;have hq:=FC ha;obtain⟨a,haq⟩:∃a:Nat,q=(a:Int):=⟨q.toNat,by omega⟩;subst haq;have E:=hid (HN2.out a ha);have hax:a<x.length:=by omega
 clear ha HN1 HN2 hq HAx;go_wp2_with fail
 refine(Vb.Cv (HX.out.below (HBw.out _ HW2.out))).mono ?_;rintro e w7⟨v7,rfl,hf7,B7⟩;have HF7:=hid hf7;have HB67:=hid B7;have HW7:=hid (HW2.out.trans (B7.mono HW2.out.size));obtain⟨a7,c7,rfl⟩:=hf7.form;clear hf7 B7;obtain⟨k0,k1,k2,k3,k4,k5⟩:=(HA1.out.below' HW7.out).six;have hi1:1≤ins.length:=by omega
 have hi1i:(1:Int)≤(ins.length:Int):=by omega
 go_wp2_with fail
 case inl=>
  have hcz:ins.length=1:=by omega
  go_loopw [23] (fun i wr=>∃(k:Nat) (out:List Int),k≤ins.length-1∧i=.int .i64 (k:Int)∧out.length=x.length∧Hid (0≤out.getD a 0∧out.getD a 0≤65536*((k:Int)+1))∧Hid (LF x a x (ins.drop 1)=LF x a out (ins.drop (k+1)))∧Hid (Vb.Bj w3.heap.size wr (.slice a7 x.length c7) out)∧Hid (Below w3.heap.size w3 wr)) (fun i _=>ins.length-1-(intOf i).toNat)
  case atStart=>exact⟨0,x,Nat.zero_le _,rfl,rfl,hid (by have:=HSm.out.at hax;omega),hid rfl,HF7,HB67⟩
  case round=>
   obtain⟨k,out,hk,rfl,hol,hA,hF,hO,hW⟩:=hrel;have HWr:=hid (HW2.out.trans (hW.out.mono HW2.out.size));have HBr:=hid (HBw.out _ HWr.out);have HOL:=hid hol;clear hol;by_cases hkl:k<ins.length-1
   ·exfalso;omega
   ·have hki:¬(k:Int)<((ins.length-1:Nat):Int):=by omega
    obtain rfl:k=ins.length-1:=by omega
    have F:Hid (BV n x (ins.drop 1)=some out):=hid (by
     have h1:=E.out.trans hF.out;have hd:ins.drop (ins.length-1+1)=[]:=List.drop_eq_nil_of_le (by omega);rw[hd]at h1;exact h1.trans QP)
    have HRw:Hid (Ag wr w.heap.size (.slice a7 x.length c7) out):=hid (by
     have h1:Ag wr w3.heap.size (.slice a7 out.length c7) out:=by
      have:=hO.out;rw[←HOL.out]at this;unfold Ag;exact this
     rw[HOL.out]at h1;exact h1.base (HBw.out _ HW2.out).size)
    go_wp2
    go_ret
    exact AY.yes (by first|exact F.out|(rw[←List.drop_one];exact F.out)) HBr.out HRw.out
 case inr=>
  go_loopw [23] (fun i wr=>∃(k:Nat) (out:List Int),k≤ins.length-1∧i=.int .i64 (k:Int)∧out.length=x.length∧Hid (0≤out.getD a 0∧out.getD a 0≤65536*((k:Int)+1))∧Hid (LF x a x (ins.drop 1)=LF x a out (ins.drop (k+1)))∧Hid (Vb.Bj w3.heap.size wr (.slice a7 x.length c7) out)∧Hid (Below w3.heap.size w3 wr)) (fun i _=>ins.length-1-(intOf i).toNat)
  case atStart=>exact⟨0,x,Nat.zero_le _,rfl,rfl,hid (by have:=HSm.out.at hax;omega),hid rfl,HF7,HB67⟩
  case round=>
   obtain⟨k,out,hk,rfl,hol,hA,hF,hO,hW⟩:=hrel;have HWr:=hid (HW2.out.trans (hW.out.mono HW2.out.size));have HBr:=hid (HBw.out _ HWr.out);have HOL:=hid hol;clear hol;by_cases hkl:k<ins.length-1
   ·skip
    have hki:(k:Int)<((ins.length-1:Nat):Int):=by omega
    obtain⟨v,hv⟩:=BH ins (k+1) (by omega);obtain⟨b',o',cap',vd,hvs,hb',u0,u1,u2,-,-,hd⟩:=Bm HM.out.ins hv;obtain⟨e1,-,-⟩:=Value.slice.inj hvs;obtain⟨e1,e2⟩:bi=b'∧oi=o':=by simpa using e1
    subst e1 e2;have hof:oi+(k+1)*3=oi+3+k*3:=by omega
    rw[hof]at u0 u1 u2;have u0:=(HBr.out.cell (p:=⟨bi,oi+3+k*3,none⟩) hb').trans u0;have u1:=(HBr.out.cell (p:=⟨bi,oi+3+k*3+1,none⟩) hb').trans u1;have u2:=(HBr.out.cell (p:=⟨bi,oi+3+k*3+2,none⟩) hb').trans u2;have HD:=hid (hd.below HBr.out);have HD0:=hid hd;obtain⟨ad,cd,rfl⟩:=hd.shape;have HDs:=hid (HAll.out v (List.mem_of_getElem? hv));have hdr:ins.drop (k+1)=v::ins.drop (k+2):=by
     obtain⟨hlt,rfl⟩:=List.getElem?_eq_some_iff.1 hv;exact List.drop_eq_getElem_cons hlt
    rw[hdr]at hF;have F1:=hid (fun h=>Ve (x:=x) (out:=out) (a:=a) (v:=v) (l:=ins.drop (k+2)) h);have F2:=hid (fun h g=>R6 (x:=x) (out:=out) (a:=a) (v:=v) (l:=ins.drop (k+2)) h g);clear hdr hof hv hvs hd;go_wp2_with fail
    have hB8:Below wr.heap.size wr (wr.alloc (Obj.cells #[.string v.name,.int .i64 v.typ,.slice ad v.dims.length cd] 31)):=(Below.refl _ _).alloc (Nat.le_refl _) _;have HP8:=hid (Ac.new wr #[.string v.name,.int .i64 v.typ,.slice ad v.dims.length cd] 31);have HB38:Hid (Below w3.heap.size w3 (wr.alloc (Obj.cells #[.string v.name,.int .i64 v.typ,.slice ad v.dims.length cd] 31))):=hid (hW.out.trans (hB8.mono hW.out.size));have HD8:=hid (HD.out.below hB8);have HO8:=hid (hO.out.below hB8);clear u0 u1 u2 hB8 HD hO;generalize wr.alloc _=w8 at HP8 HB38 HD8 HO8⊢;generalize wr.heap.size=P8 at HP8⊢;have HB8:=hid (HBw.out _ (HW2.out.trans (HB38.out.mono HW2.out.size)));by_cases hvl:v.dims.length=x.length
    case neg=>
     have HH:=hid (E.out.trans (hF.out.trans (F1.out (fun c=>hvl c.1))));have hb:((v.dims.length:Int)==(x.length:Int))=false:=by simp;omega
     rw[hb];clear hvl;refine(HNo.out _).mono ?_;rintro e w'⟨rfl,rfl⟩;exact⟨rfl,AY.no (by first|exact HH.out|(rw[←List.drop_one];exact HH.out)) HB8.out⟩
    have hb:((v.dims.length:Int)==(x.length:Int))=true:=by simp;omega
    have HVL:=hid hvl;have F2:=hid (fun g=>F2.out hvl g);rw[hvl];rw[hvl]at HP8 HD8 HD0;clear hvl hb;have p2:=HP8.out.cell 2 rfl;rw[show((x.length:Int)==(x.length:Int))=true by simp];refine(HY.out _).mono ?_;rintro e w8'⟨rfl,rfl⟩;go_wp2_with fail
    clear p2;go_loopw [37] (fun i wq=>∃(j:Nat),j≤x.length∧i=.int .i64 (j:Int)∧Hid (R5 x v.dims a j=true)∧Hid (Vb.Bj w3.heap.size wq (.slice a7 x.length c7) (F6 out v.dims a j))∧Hid (Below w3.heap.size w3 wq)∧Hid (Aa wq (.slice ad x.length cd) v.dims)) (fun i _=>x.length-(intOf i).toNat)
    case atStart=>exact⟨0,Nat.zero_le _,rfl,hid (by unfold R5;rfl),hid (by rw[Ml];exact HO8.out),HB38,HD8⟩
    case round=>
     obtain⟨j,hj,rfl,hK,hP,hV,hDq⟩:=hrel;have HWq:=hid (HW2.out.trans (hV.out.mono HW2.out.size));have HBq:=hid (HBw.out _ HWq.out);by_cases hjl:j<x.length
     ·have hji:(j:Int)<(x.length:Int):=by omega
      obtain⟨bd,od,had,-,gd,ud,-⟩:=Ai (k:=j) hDq.out (by have:=HVL.out;omega);subst had;obtain⟨bx,ox,hax',-,gx,ux,-⟩:=Ai HX.out hjl;subst hax';have ux:=(HBq.out.cell (p:=⟨bx,ox+j,none⟩) gx).trans ux;have rd:=HDs.out.2 _ (Am (zs:=v.dims) (k:=j) (by have:=HVL.out;omega));have hgl:=Al ud;by_cases hja:j=a
      ·subst hja;have hjb:((j:Int)==(j:Int))=true:=by simp
       have hKn:=hid (JX hK.out (Or.inl rfl));obtain⟨g,hg,hgB,c0,z0,hst⟩:=hP.out.at ((K4 _ _ _ _).trans HOL.out) hjl;subst hg;rw[Pc]at c0;have hA':=hA.out;have HST:=hid (hst (out.getD j 0+v.dims.getD j 0));rw[←Pb]at HST;have HVS:Hid (Below w3.heap.size w3 (wr.setCell ⟨g,j,none⟩ (.int .i64 (out.getD j 0+v.dims.getD j 0)))):=hid (hV.out.setCell (p:=⟨g,j,none⟩) hgB _);have HVI:Hid (Aa (wr.setCell ⟨g,j,none⟩ (.int .i64 (out.getD j 0+v.dims.getD j 0))) (.slice (some ⟨bd,od,none⟩) x.length cd) v.dims):=hid (HD0.out.below (HBw.out _ (HW2.out.trans (HVS.out.mono HW2.out.size))));clear hst hK ux;generalize out.getD j 0=qa at*;generalize v.dims.getD j 0=qd at*;go_wp2_with fail
       go_roundw
       case rel=>exact⟨j+1,by omega,by go_num,hKn,HST,HVS,HVI⟩
       case measure=>simp[intOf];omega
      ·have hjb:((j:Int)==(a:Int))=false:=by simp;omega
       have hPn:Hid (Vb.Bj w3.heap.size wr (.slice a7 x.length c7) (F6 out v.dims a (j+1))):=hid (by rw[Mm hja];exact hP.out);by_cases hdx:v.dims.getD j 0=x.getD j 0
       ·have hKn:=hid (JX (a:=a) hK.out (Or.inr hdx));have hdb:(v.dims.getD j 0==x.getD j 0)=true:=by simpa using hdx
        clear hK hdx;generalize v.dims.getD j 0=dj at*;generalize x.getD j 0=xj at*;go_wp2_with fail
        refine(HY.out _).mono ?_;rintro e w'⟨rfl,rfl⟩;go_wp2
        go_roundw
        case rel=>exact⟨j+1,by omega,by go_num,hKn,hPn,hV,hDq⟩
        case measure=>simp[intOf];omega
       ·have hKn:=hid (Vd (a:=a) hjl (fun c=>c.elim hja hdx));have HH:=hid (E.out.trans (hF.out.trans (F1.out (fun c=>by have:=hKn.out;rw[this]at c;exact absurd c.2 (by decide)))));have hdb:(v.dims.getD j 0==x.getD j 0)=false:=by simpa using hdx
        clear hK hdx hKn;generalize v.dims.getD j 0=dj at*;generalize x.getD j 0=xj at*;go_wp2_with fail
        refine(HNo.out _).mono ?_;rintro e w'⟨rfl,rfl⟩;exact⟨rfl,AY.no (by first|exact HH.out|(rw[←List.drop_one];exact HH.out)) HBq.out⟩
     ·have hji:¬(j:Int)<(x.length:Int):=by omega
      obtain rfl:j=x.length:=by omega
      have hFn:=hid (hF.out.trans (F2.out hK.out));have hPn:Hid (Vb.Bj w3.heap.size wr (.slice a7 x.length c7) (out.set a (out.getD a 0+v.dims.getD a 0))):=hid (by have:=hP.out;rw[Pd hax]at this;exact this);have hAn:Hid (0≤(out.set a (out.getD a 0+v.dims.getD a 0)).getD a 0∧(out.set a (out.getD a 0+v.dims.getD a 0)).getD a 0≤65536*(((k+1:Nat):Int)+1)):=hid (by
       have h1:=HDs.out.2 _ (Am (zs:=v.dims) (k:=a) (by have:=HVL.out;omega));have h2:=hA.out;rw[show(out.set a (out.getD a 0+v.dims.getD a 0)).getD a 0=out.getD a 0+v.dims.getD a 0 by simp[List.getD,HOL.out,hax]]
       push_cast
       omega)
      go_wp2
      go_roundw
      case rel=>exact⟨k+1,out.set a (out.getD a 0+v.dims.getD a 0),by omega,by go_num,(by rw[List.length_set];exact HOL.out),hAn,hFn,hPn,hV⟩
      case measure=>simp[intOf];omega
   ·have hki:¬(k:Int)<((ins.length-1:Nat):Int):=by omega
    obtain rfl:k=ins.length-1:=by omega
    have F:Hid (BV n x (ins.drop 1)=some out):=hid (by
     have h1:=E.out.trans hF.out;have hd:ins.drop (ins.length-1+1)=[]:=List.drop_eq_nil_of_le (by omega);rw[hd]at h1;exact h1.trans QP)
    have HRw:Hid (Ag wr w.heap.size (.slice a7 x.length c7) out):=hid (by
     have h1:Ag wr w3.heap.size (.slice a7 out.length c7) out:=by
      have:=hO.out;rw[←HOL.out]at this;unfold Ag;exact this
     rw[HOL.out]at h1;exact h1.base (HBw.out _ HW2.out).size)
    go_wp2
    go_ret
    exact AY.yes (by first|exact F.out|(rw[←List.drop_one];exact F.out)) HBr.out HRw.out
end
end Go.Proofs.YtkkeehnldcdccaaGreatDoor
