import Derived.BigQuiet
import Derived.Deep.QuietTactic
import Derived.Test.YtkkeehnldcdccaaGreatDoorNe30
set_option linter.unusedVariables false
set_option linter.unusedSimpArgs false
set_option maxRecDepth 100000
set_option maxHeartbeats 16000000
namespace Go.Proofs.YtkkeehnldcdccaaGreatDoor
open Go.Lib (hid)
open Go.RowKit
section
theorem GL{w:World}{va vb:Value}{xa xb:List Int}(ha:Aa w va xa)(hb:Aa w vb xb):Calls Tryz.prog 67 #[va,vb] w fun e w'=>Ff w (Vb.Bx xa xb) e w'∧((Vb.Bx xa xb).1=0→∃v,e=.returned (.tuple #[v,.int .i64 0])∧Ag w' w.heap.size v (Vb.Bx xa xb).2):=by
 refine(Vb.Ks ha hb).mono ?_;rintro e w'⟨B,⟨h0,rfl⟩| ⟨h0,v,rfl,hr⟩⟩
 ·exact⟨⟨B,Or.inl ⟨h0,_,_,_,rfl⟩⟩,fun e=>absurd e h0⟩
 ·have hr:Ag w' w.heap.size v (Vb.Bx xa xb).2:=by unfold Ag;exact hr
  have hi:=hr.ints (by have:=ED h0;have:=ha.wf.1;have:=hb.wf.1;omega) (FP ha.wf.2 hb.wf.2);exact⟨Ff.yes (Prod.ext h0 rfl) B hi,fun _=>⟨v,rfl,hr⟩⟩
attribute [local irreducible] AH De Au Vb.Bx Ag
theorem Ju{w:World}{v vx:Value}{n:Nd}{x:List Int}(nm:ByteArray)(h:Ba w v n)(hx:Aa w vx x) :
  Calls Tryz.prog 135 #[v,.string nm,vx] w fun e w'=>Hw w (De n nm x) e w':=by
 obtain⟨a1,c1,a2,c2,rfl,HN⟩:=Cr h;obtain⟨a4,c4,rfl⟩:=hx.shape;have hxl:=hx.wf.1;have HX:=hid hx;clear hx h;go_enter Tryz.func135,Tryz.ntmps135
 go_wp2_with fail
 generalize hW1:w.alloc _=W1;obtain⟨HB1,-,HN⟩:=HN.out W1 hW1;clear hW1;refine(DD (HN.out _ (Below.refl _ _)) nm 0).mono ?_;rintro e w2⟨rfl,B2⟩;have HB2:=hid (HB1.out.trans (B2.mono HB1.out.size));have HX:=hid (HX.out.below HB2.out);obtain⟨z,hze⟩:∃z,AH n.attrs nm 0=z:=⟨_,rfl⟩;rw[hze];have HZ:=hid hze;clear B2 hze;by_cases h1:x.length=2∧(z=0∨z=1)
 case neg=>
  have E:=hid (Nu (nm:=nm) (x:=x) HZ.out h1);have hb:((x.length:Int) != 2)=true∨(((x.length:Int) != 2)=false∧(z != 0)=true∧(z != 1)=true):=by
   by_cases h:x.length=2
   ·refine Or.inr ⟨by simp;omega,?_,?_⟩
    ·simpa using fun e=>h1 ⟨h,Or.inl e⟩
    ·simpa using fun e=>h1 ⟨h,Or.inr e⟩
   ·exact Or.inl (by simp;omega)
  clear h1;rcases hb with hb| ⟨hb,hb2,hb3⟩
  all_goals
   go_wp2_with fail
   go_ret2
   exact Hw.no E.out HB2.out
 have HL:=hid h1.1;have hb:((x.length:Int) != 2)=false:=by simp;omega
 obtain⟨-,rfl|rfl⟩:=h1
 ·have E:=hid (Mo (nm:=nm) HZ.out HL.out);go_wp2_with fail
  go_ret2
  exact Hw.yes E.out HB2.out HX.out
 have E:=hid (Pi (nm:=nm) HZ.out HL.out);obtain⟨bx,ox,hax,-,gx,x0,i0'⟩:=Ai (k:=0) HX.out (by have:=HL.out;omega);obtain⟨bx',ox',e1,-,-,x1,i1'⟩:=Ai (k:=1) HX.out (by have:=HL.out;omega);rw[hax]at e1;obtain⟨rfl,rfl⟩:bx=bx'∧ox=ox':=by simpa using e1
 subst hax;have x0:w2.cell? ⟨bx,ox,none⟩=some (.int .i64 (x.getD 0 0)):=x0;generalize x.getD 0 0=X0 at*;generalize x.getD 1 0=X1 at*;have l0:(0:Int)<(x.length:Int):=by have:=HL.out;omega
 have l1:(1:Int)<(x.length:Int):=by have:=HL.out;omega
 have l0':0<x.length:=by omega
 go_wp2_with fail
 refine Ae 7 [0,1,2,3,4,5,6] (fun W'=>Below w2.heap.size w2 W') (by kernel_rfl) (by kernel_rfl) (fun _ d _ _ _ h=>by cases d<;>exact h) (Below.refl _ _).drew ?_;have B0:Hid (Below w2.heap.size w2 w2.drew):=hid (Below.refl _ _).drew;generalize w2.drew=wD at B0⊢
 repeat
  refine Ah (v:=?_) rfl rfl (Or.inl ⟨by rfl,?_⟩) ?_;rotate_left
  ·intro W' hSw;have x0:=(hSw.cell (Al x0)).trans x0;have x1:=(hSw.cell (Al x1)).trans x1;go_simp
   try with_reducible rfl
  try simp only[Act.put,List.getElem_toArray,List.getElem_cons_zero,List.getElem_cons_succ,List.setIfInBounds_toArray,List.set_cons_zero,List.set_cons_succ]
 refine Av rfl rfl (fun K' hK=>?_);go_simp
 refine hK.out _ _ (B0.out.alloc B0.out.size _) ?_;clear hK K';refine Aq rfl ?_;simp only[List.toList_toArray,List.drop_succ_cons,List.drop_zero];go_wp2_with fail
 go_ret2
 exact Hw.yes E.out (HB2.out.trans ((B0.out.alloc B0.out.size _).mono HB2.out.size)) ((Db (zs:=[X1,X0]) (Ac.new _ _ _) (Nat.zero_le _) rfl (by simp)).ints (by simp) (by simpa using⟨i1',i0'⟩))
theorem Yv{ops:Array Oper}{rest:List Oper}{o:Oper}{a:Act}{Q:Exit→Act→World→Prop}{w W:World}{B co:Nat}{ao:Option Addr}{out:List Int}{x y:Int}{T:TypeId}{s z:Operand}
  (hO:Ag w B (.slice ao out.length co) out) (hW:Below W.heap.size W w) (hk:(out.length+2)*8≤140737488351232) (hB:W.heap.size≤B) (hw:B≤w.heap.size)
  (hgd:o.guard=none) (ho:o.op=.call { callee:=.builtin .append,args:=#[s,z],argTypes:=#[29,29] }) (hs:a.eval s=.slice ao out.length co) (hy:a.eval z=.slice (some ⟨w.heap.size,0,none⟩) 2 2)
  (h:∀v' w',Hid (Ag w' B v' (out++[x,y]))→Hid (Below W.heap.size W w')→wpList Tryz.prog ops Q rest (a.put o.dst v') w'):wpList Tryz.prog ops Q (o::rest) a (w.alloc (.cells #[.int .i64 x,.int .i64 y] T)):=by
 obtain⟨i0,hi,hz0,hz1,hz2⟩:=info_parts AI;have hO':=hO.below ((Below.refl _ w).alloc (Nat.le_refl _) (.cells #[.int .i64 x,.int .i64 y] T));refine wpList_append_own _ hgd s z 29 ho B 3 i0 (.int .i64 0) 1 8 Tryz.underlying29 hi hz0 hz1 hz2 rfl (by decide) _ _ _ hs hO'.own ⟨w.heap.size,0,none⟩ 2 2 (#[.int .i64 x,.int .i64 y]:Array Value).toList hy rfl (World.news_of_block (heap_alloc_new w _)) (by simp[Value.oneCell']) (by unfold maxLen;omega) (by omega) (by simp;omega) ?_;intro v' w4 hr hg _;exact h v' w4 (hid (Ag.push2 (zs:=out) hO' hr)) (hid ((hW.alloc (by omega) _).grown hg (by simp;omega) fun g hg=>Nat.le_trans hB (hO'.own.lt g hg).1))
theorem Jv{w:World}{va vb:Value}{xa xb:List Int}(ha:Aa w va xa)(hb:Aa w vb xb) :
  Calls Tryz.prog 72 #[va,vb] w fun e w'=>Ff w (Au xa xb) e w':=by
 obtain⟨a1,c1,rfl⟩:=ha.shape;obtain⟨a2,c2,rfl⟩:=hb.shape;have hla:=ha.wf.1;have hlb:=hb.wf.1;have hca:=ha.capI.2;have hcb:=hb.capI.2;have HA:=hid ha;have HB:=hid hb;clear ha hb;have HD:=hid (fun nq=>below_drewN (Below.refl w.heap.size w) nq);go_enter Tryz.func72,Tryz.ntmps72
 by_cases hs:xa.length<2∨xb.length<2
 ·have E:=hid (Fd hs);have hs:decide ((xa.length:Int)<2)=true∨(decide ((xa.length:Int)<2)=false∧decide ((xb.length:Int)<2)=true):=by
   simp only[decide_eq_true_eq,decide_eq_false_iff_not];omega
  clear hla hlb hca hcb HA HB;rcases hs with h1| ⟨h1,h2⟩
  all_goals
   go_wp2_with fail
   go_quiet (fail)
   go_wp2_with fail
   go_ret2
   exact Ff.no (by rw[E.out]) (by decide) (HD.out nq)
 obtain⟨m,hm⟩:∃m,xa.length=m+2:=⟨xa.length-2,by omega⟩;obtain⟨k,hk⟩:∃k,xb.length=k+2:=⟨xb.length-2,by omega⟩;obtain⟨b1,o1,rfl,-,hb1,x0,ix0⟩:=Ai (k:=m+1) HA.out (by omega);obtain⟨b2,o2,rfl,-,hb2,y0,iy0⟩:=Ai (k:=k) HB.out (by omega);obtain⟨b1',o1',e1,-,-,x1,ix1⟩:=Ai (k:=m) HA.out (by omega);obtain⟨e1,e1'⟩:b1=b1'∧o1=o1':=by simpa using e1
 subst e1 e1';obtain⟨b2',o2',e2,-,-,y1,iy1⟩:=Ai (k:=k+1) HB.out (by omega);obtain⟨e2,e2'⟩:b2=b2'∧o2=o2':=by simpa using e2
 subst e2 e2';have HTA:=hid (HA.out.take (k:=m) (by omega));have HTB:=hid (HB.out.take (k:=k) (by omega));have HLA:Hid ((xa.take m).length≤m):=hid (by rw[List.length_take];omega);have HLB:Hid ((xb.take k).length≤k):=hid (by rw[List.length_take];omega);have E1:=hid (Gk hm hk);have E2:=hid (Jj hm hk);have E3:=hid (In hm hk);rw[hm]at hla hca;rw[hk]at hlb hcb;have h1':decide ((m:Int)+2<2)=false:=by simp;omega
 have h2':decide ((k:Int)+2<2)=false:=by simp;omega
 rw[hm,hk];clear hm hk HA HB hs;have wm:IntKind.i64.wrap ((m:Int)+1)=(m:Int)+1:=by rw[IntKind.wrap_i64];omega
 have wk:IntKind.i64.wrap ((k:Int)+1)=(k:Int)+1:=by rw[IntKind.wrap_i64];omega
 have bm1:(0:Int)≤(m:Int)+1∧(m:Int)+1<(m:Int)+2:=⟨by omega,by omega⟩;have bk1:(0:Int)≤(k:Int)+1∧(k:Int)+1<(k:Int)+2:=⟨by omega,by omega⟩;have bm0:(0:Int)≤(m:Int)∧(m:Int)<(m:Int)+2:=⟨by omega,by omega⟩;have bk0:(0:Int)≤(k:Int)∧(k:Int)<(k:Int)+2:=⟨by omega,by omega⟩;have tm:((m:Int)+1).toNat=m+1:=by omega
 have tk:((k:Int)+1).toNat=k+1:=by omega
 have wm2:IntKind.i64.wrap ((m:Int)+2-1)=(m:Int)+1:=by rw[IntKind.wrap_i64];omega
 have wk2:IntKind.i64.wrap ((k:Int)+2-2)=(k:Int):=by rw[IntKind.wrap_i64];omega
 have wm3:IntKind.i64.wrap ((m:Int)+2-2)=(m:Int):=by rw[IntKind.wrap_i64];omega
 have wk3:IntKind.i64.wrap ((k:Int)+2-1)=(k:Int)+1:=by rw[IntKind.wrap_i64];omega
 have wm0:IntKind.i64.wrap (m:Int)=(m:Int):=by rw[IntKind.wrap_i64];omega
 have wk0:IntKind.i64.wrap (k:Int)=(k:Int):=by rw[IntKind.wrap_i64];omega
 have lm:m≤c1:=by omega
 have lk:k≤c2:=by omega
 generalize xa.getD (m+1) 0=p0 at*;generalize xb.getD k 0=q0 at*;generalize xa.getD m 0=p1 at*;generalize xb.getD (k+1) 0=q1 at*;by_cases hpq:p0=q0
 case neg=>
  have E:=hid (E1.out hpq);have hb:(p0 != q0)=true:=by simpa using hpq
  clear hpq;go_wp2_with fail
  go_quiet (fail)
  go_wp2_with fail
  go_ret2
  exact Ff.no (by rw[E.out]) (by decide) (HD.out nq)
 have hb:(p0 != q0)=false:=by simpa using hpq
 have E2:=hid (E2.out hpq);have E3:=hid (E3.out hpq);clear hpq E1;go_wp2_with fail
 go_quiet (fail)
 have B2:=HD.out nq;have HTA:=hid (HTA.out.below B2);have HTB:=hid (HTB.out.below B2);have x1:=(B2.cell (p:=⟨b1,o1+m,none⟩) hb1).trans x1;have y1:=(B2.cell (p:=⟨b2,o2+(k+1),none⟩) hb2).trans y1;have HB2:=hid B2;clear x0 y0 hb B2 HD;generalize w.drewN nq=w2 at*;go_wp2_with fail
 refine Ae 15 [0,1,2,3,4,5,6,7,8,9,10,11,12,13,14] (fun W'=>Below w2.heap.size w2 W') (by kernel_rfl) (by kernel_rfl) (fun _ d _ _ _ h=>by cases d<;>exact h) (Below.refl _ _).drew ?_;have B0:Hid (Below w2.heap.size w2 w2.drew):=hid (Below.refl _ _).drew;generalize w2.drew=wD at B0⊢
 repeat
  refine Ah (v:=?_) rfl rfl (Or.inl ⟨by rfl,?_⟩) ?_;rotate_left
  ·intro W' hSw;go_simp
   try with_reducible rfl
  try simp only[Act.put,List.getElem_toArray,List.getElem_cons_zero,List.getElem_cons_succ,List.setIfInBounds_toArray,List.set_cons_zero,List.set_cons_succ]
 refine Av rfl rfl (fun K' hK=>?_);go_simp
 refine(GL (HTA.out.below B0.out) (HTB.out.below B0.out)).mono ?_;rintro e w5⟨hf,hr⟩;obtain⟨a5,k5,c5,rfl,B5,-⟩:=hf.form;have HR:=hid hr;have HB5:=hid (B0.out.trans (B5.out.mono B0.out.size));have HBE:=hid (HB2.out.trans (HB5.out.mono HB2.out.size));clear hf hr;refine hK.out _ _ HB5.out ?_;clear hK K'
 repeat
  refine Ah (v:=?_) rfl rfl (Or.inl ⟨by rfl,?_⟩) ?_;rotate_left
  ·intro W' hSw;go_simp
   try with_reducible rfl
  try simp only[Act.put,List.getElem_toArray,List.getElem_cons_zero,List.getElem_cons_succ,List.setIfInBounds_toArray,List.set_cons_zero,List.set_cons_succ]
 refine Aq rfl ?_;simp only[List.toList_toArray,List.drop_succ_cons,List.drop_zero];by_cases h0:(Vb.Bx (xa.take m) (xb.take k)).1=0
 case neg=>
  have E:=hid (E2.out h0);have H0:=hid h0;have hb:((Vb.Bx (xa.take m) (xb.take k)).1 != 0)=true:=by simpa using h0
  clear h0;go_wp2_with fail
  go_ret2
  exact Ff.no (by rw[E.out]) H0.out HBE.out
 have E:=hid (E3.out h0);have HLn:=hid (ED h0);obtain⟨v5,e5,r5⟩:=HR.out h0;obtain⟨a6,c6,rfl⟩:=r5.form;rw[h0]at e5⊢;have HR5:=hid r5;have HBi:=hid (FP HTA.out.wf.2 HTB.out.wf.2);clear h0 E2 E3 HR r5;generalize (Vb.Bx (xa.take m) (xb.take k)).2=zs at*;obtain⟨rfl,rfl,rfl⟩:a5=a6∧k5=zs.length∧c5=c6:=by simpa using e5
 clear e5 E3;have x1:=(HB5.out.cell (Al x1)).trans x1;have y1:=(HB5.out.cell (Al y1)).trans y1;have hzl:(zs.length+2)*8≤140737488351232:=by have:=HLn.out;have:=HLA.out;have:=HLB.out;omega
 have HGd:Hid (∀z∈zs++[p1,q1],Bf z):=hid fun z hz=>by
  rcases List.mem_append.1 hz with h|h
  ·exact HBi.out z h
  ·simp only[List.mem_cons,List.not_mem_nil,or_false]at h;rcases h with rfl|rfl<;>assumption
 go_wp2_with fail
 refine Ae 14 [0,1,2,3,4,5,6,7,8,9,10,11,12,13] (fun W'=>Below w5.heap.size w5 W') (by kernel_rfl) (by kernel_rfl) (fun _ d _ _ _ h=>by cases d<;>exact h) (Below.refl _ _).drew ?_;have B6:Hid (Below w5.heap.size w5 w5.drew):=hid (Below.refl _ _).drew;have hsz:wD.heap.size≤w5.heap.size:=B5.out.size;generalize w5.drew=w6 at B6⊢
 repeat
  refine Ah (v:=?_) rfl rfl (Or.inl ⟨by rfl,?_⟩) ?_;rotate_left
  ·intro W' hSw;have x1:=(hSw.cell (Al x1)).trans x1;have y1:=(hSw.cell (Al y1)).trans y1;go_simp
   try with_reducible rfl
  try simp only[Act.put,List.getElem_toArray,List.getElem_cons_zero,List.getElem_cons_succ,List.setIfInBounds_toArray,List.set_cons_zero,List.set_cons_succ]
 refine Av rfl rfl (fun K' hK=>?_);go_simp
 refine hK.out _ _ (B6.out.alloc B6.out.size _) ?_;clear hK K';have HR6:=hid (HR5.out.below B6.out);have hs6:=B6.out.size;refine Aq rfl ?_;simp only[List.toList_toArray,List.drop_succ_cons,List.drop_zero];go_wp2_with (at_builtin;refine Yv (W:=wD) (B:=wD.heap.size) HR6.out (B5.out.trans (B6.out.mono B5.out.size)) hzl (Nat.le_refl _) (by omega) rfl rfl rfl rfl ?_)
 intro v' w7 ho7 hb7;have HB7:=hid (HB2.out.trans ((B0.out.trans (hb7.out.mono B0.out.size)).mono HB2.out.size));have HI7:=hid (ho7.out.ints (by rw[List.length_append];simpa using hzl) HGd.out);go_wp2_with fail
 go_ret2
 exact Ff.yes E.out HB7.out HI7.out
end
section
attribute [local irreducible] AH Bq R5 LF BV F6 Ag
theorem Pv{w:World}{v vv:Value}{n:Nd}{ins:List Vl}{x:Vl}(h:Ba w v n)(hs:BJ 3 AM w vv ins)(hx:ins[0]?=some x)(hall:∀u∈ins,Sm u.dims) :
  Calls Tryz.prog 140 #[v,vv] w fun e w'=>Hw w (BV n x.dims (ins.drop 1)) e w':=by
 have hsm:=hall _ (List.mem_of_getElem? hx);have hz:=C7 (nm:=AB) (other:=0) h Ij;obtain⟨a1,c1,a2,c2,rfl,HN⟩:=Cr h;obtain⟨a3,c3,rfl⟩:=hs.form;have hil:=hs.len;obtain⟨bi,oi,vd,hai,gi,d0,HX⟩:=Di hs hx;subst hai;have hi1:1≤ins.length:=(List.getElem?_eq_some_iff.1 hx).1;have HS:=hid hs;have HAll:=hid hall;have hx6:=hsm.1;have HSm:=hid hsm;have HGd:=hid (fun zs e=>Mn (n:=n) (zs:=zs) hsm (fun v hv=>hall v (List.mem_of_mem_drop hv)) (by rw[List.length_drop];omega:(ins.drop 1).length≤8796093022208) e);obtain⟨ax,cx,rfl⟩:=HX.shape;have HX:=hid HX;have d0:w.cell? ⟨bi,oi+2,none⟩=some (.slice ax x.dims.length cx):=by simpa using d0
 have HN1:=hid (fun h=>Mk (n:=n) (x:=x.dims) (rest:=ins.drop 1) h);have HN2:=hid (fun a h=>KZ (n:=n) (x:=x.dims) (rest:=ins.drop 1) (a:=a) h);clear h hs hall hsm hx;generalize x.dims=x at*;go_enter Tryz.func140,Tryz.ntmps140
 have hi0:(0:Int)<(ins.length:Int):=by omega
 obtain⟨W1,hW1⟩:∃W1,w.alloc (Obj.cells #[.string n.op,.string n.name,.slice a1 n.ins.length c1,.string n.out,.slice a2 n.attrs.length c2] 25)=W1:=⟨_,rfl⟩;obtain⟨HB1,HF,HN⟩:=HN.out W1 hW1;obtain⟨f0,f1,f2,f3,f4⟩:=HF.out _ (Below.refl _ _);have d0:=(HB1.out.cell gi).trans d0;go_wp2_with fail
 clear f0 f1 f2 f3 f4 d0 hW1;refine(DD (HN.out _ (Below.refl _ _)) AB 0).mono ?_;rintro e w2⟨rfl,B2⟩;have HB2:=hid (HB1.out.trans (B2.mono HB1.out.size));generalize AH n.attrs AB 0=z at*;have HAx:=hid (Gz z x.length hz (by omega) w2);clear B2 hz HN HF;go_wp2_with fail
 refine HAx.out.mono ?_;rintro e w3⟨rfl,rfl⟩;cases ha:Bq z x.length with
 | none=>
  have G:=hid (HN1.out ha);unfold GR;dsimp only;go_wp2_with fail
  go_ret2
  first|exact Hw.no G.out HB2.out|(rw[←List.drop_one];exact Hw.no G.out HB2.out)
 | some q=>
 have hq:=FC ha;obtain⟨a,rfl⟩:∃a:Nat,q=(a:Int):=⟨q.toNat,by omega⟩;have E:=hid (HN2.out a ha);have hax:a<x.length:=by omega
 clear ha HN1 HN2 hq HAx;unfold GR;dsimp only;go_wp2_with fail
 refine(Fx (HX.out.below HB2.out)).mono ?_;rintro e w7⟨v7,rfl,hr7,B7⟩;have HF7:Hid (Vb.Bj w3.heap.size w7 v7 x):=hid hr7;have HB7:=hid B7;obtain⟨a7,c7,rfl⟩:=HF7.out.form;clear hr7 B7;go_wp2_with fail
 go_loopw [10] (fun i wr=>∃(k:Nat) (out:List Int),1≤k∧k≤ins.length∧i=.int .i64 (k:Int)∧Hid (out.length=x.length)∧Hid (0≤out.getD a 0∧out.getD a 0≤65536*(k:Int))∧Hid (LF x a x (ins.drop 1)=LF x a out (ins.drop k))∧Hid (Vb.Bj w3.heap.size wr (.slice a7 x.length c7) out)∧Hid (Below w3.heap.size w3 wr)) (fun i _=>ins.length-(intOf i).toNat)
 case atStart=>exact⟨1,x,by omega,hi1,rfl,hid rfl,hid (by have:=HSm.out.at hax;omega),hid rfl,HF7,HB7⟩
 case round=>
  obtain⟨k,out,hk1,hk,rfl,HOL,hA,hF,hO,hW⟩:=hrel;have HBr:=hid (HB2.out.trans (hW.out.mono HB2.out.size));by_cases hkl:k<ins.length
  case neg=>
   have hki:¬(k:Int)<(ins.length:Int):=by omega
   obtain rfl:k=ins.length:=by omega
   have F:=hid (E.out.trans (hF.out.trans (show LF x a out (ins.drop ins.length)=some out by rw[List.drop_length];exact QP)));have hi:Aa wr (.slice a7 x.length c7) out:=by
    have h1:Ag wr w3.heap.size (.slice a7 x.length c7) out:=by unfold Ag;exact hO.out
    exact h1.ints (HGd.out _ F.out).1 (HGd.out _ F.out).2
   have HR:=hid (Hw.yes F.out HBr.out hi);clear hi;go_wp2_with fail
   go_ret2
   first|exact HR.out|(rw[←List.drop_one];exact HR.out)
  have hki:(k:Int)<(ins.length:Int):=by omega
  obtain⟨v,hv⟩:∃v,ins[k]?=some v:=⟨_,List.getElem?_eq_getElem hkl⟩;obtain⟨b',o',cap',vd,hvs,-,-,-,u2,-,-,hd⟩:=Bm HS.out hv;obtain⟨e1,-,-⟩:=Value.slice.inj hvs;obtain⟨rfl,rfl⟩:bi=b'∧oi=o':=by simpa using e1
  have u2:=(HBr.out.cell (Al u2)).trans u2;have HD:=hid (hd.below HBr.out);have HD0:=hid hd;obtain⟨ad,cd,rfl⟩:=hd.shape;have hld:=hd.wf.1;have HDs:=hid (HAll.out v (List.mem_of_getElem? hv));have hdr:ins.drop k=v::ins.drop (k+1):=by
   obtain⟨hlt,rfl⟩:=List.getElem?_eq_some_iff.1 hv;exact List.drop_eq_getElem_cons hlt
  rw[hdr]at hF;have F1:=hid (fun h=>Ve (x:=x) (out:=out) (a:=a) (v:=v) (l:=ins.drop (k+1)) h);have F2:=hid (fun h g=>R6 (x:=x) (out:=out) (a:=a) (v:=v) (l:=ins.drop (k+1)) h g);clear hdr hv hvs hd e1;generalize v.dims=d at*;by_cases hvl:d.length=x.length
  case neg=>
   have HH:=hid (E.out.trans (hF.out.trans (F1.out (fun c=>hvl c.1))));have hb:¬(d.length:Int)=(x.length:Int):=by omega
   clear hvl;go_wp2_with fail
   go_ret2
   first|exact Hw.no HH.out HBr.out|(rw[←List.drop_one];exact Hw.no HH.out HBr.out)
  have HVL:=hid hvl;have F2:=hid (fun g=>F2.out hvl g);have hb:(d.length:Int)=(x.length:Int):=by omega
  clear hvl;go_wp2_with fail
  clear u2;go_loopw [12] (fun i wq=>∃(j:Nat),j≤x.length∧i=.int .i64 (j:Int)∧Hid (R5 x d a j=true)∧Hid (Vb.Bj w3.heap.size wq (.slice a7 x.length c7) (F6 out d a j))∧Hid (Below w3.heap.size w3 wq)) (fun i _=>x.length-(intOf i).toNat)
  case atStart=>exact⟨0,Nat.zero_le _,rfl,hid (by unfold R5;rfl),hid (by rw[Ml];exact hO.out),hW⟩
  case round=>
   obtain⟨j,hj,rfl,hK,hP,hV⟩:=hrel;have HBq:=hid (HB2.out.trans (hV.out.mono HB2.out.size));by_cases hjl:j<x.length
   case neg=>
    have hji:¬(j:Int)<(d.length:Int):=by omega
    obtain rfl:j=x.length:=by omega
    have hFn:=hid (hF.out.trans (F2.out hK.out));have hPn:Hid (Vb.Bj w3.heap.size wr (.slice a7 x.length c7) (out.set a (out.getD a 0+d.getD a 0))):=hid (by have:=hP.out;rw[Pd hax]at this;exact this);have hAn:Hid (0≤(out.set a (out.getD a 0+d.getD a 0)).getD a 0∧(out.set a (out.getD a 0+d.getD a 0)).getD a 0≤65536*((k+1:Nat):Int)):=hid (by
     have h1:=HDs.out.2 _ (Am (zs:=d) (k:=a) (by have:=HVL.out;omega));have h2:=hA.out;rw[show(out.set a (out.getD a 0+d.getD a 0)).getD a 0=out.getD a 0+d.getD a 0 by simp[List.getD,HOL.out,hax]]
     push_cast
     omega)
    go_wp2_with fail
    go_roundw
    case rel=>exact⟨k+1,out.set a (out.getD a 0+d.getD a 0),by omega,by omega,by go_num,hid (by rw[List.length_set];exact HOL.out),hAn,hFn,hPn,hV⟩
    case measure=>simp[intOf];omega
   have hji:(j:Int)<(d.length:Int):=by omega
   obtain⟨bd,od,had,-,gd,ud,-⟩:=Ai (k:=j) HD0.out (by have:=HVL.out;omega);obtain⟨bx,ox,hax',-,gx,ux,-⟩:=Ai HX.out hjl;subst had hax';have ud:=(HBq.out.cell (Al ud)).trans ud;have ux:=(HBq.out.cell (Al ux)).trans ux;have rd:=HDs.out.2 _ (Am (zs:=d) (k:=j) (by have:=HVL.out;omega));have bj:(0:Int)≤(j:Int)∧(j:Int)<(x.length:Int):=⟨by omega,by omega⟩;have bd':(0:Int)≤(j:Int)∧(j:Int)<(d.length:Int):=⟨by omega,hji⟩;by_cases hja:j=a
   ·subst hja;have hKn:=hid (JX hK.out (Or.inl rfl));obtain⟨g,hg,hgB,c0,z0,hst⟩:=hP.out.at ((K4 _ _ _ _).trans HOL.out) hjl;subst hg;have hA':=hA.out;rw[Pc]at c0;have HG:=hid (Pb (out:=out) (d:=d) (a:=j));clear hst hK ux;generalize out.getD j 0=qa at*;generalize d.getD j 0=qd at*;have wq:IntKind.i64.wrap (qa+qd)=qa+qd:=by rw[IntKind.wrap_i64];omega
    go_wp2_with fail
    refine Ae 11 [0,1,2,3,4,5,6,7,8,9,10] (fun W'=>Below wr.heap.size wr W') (by kernel_rfl) (by kernel_rfl) (fun _ d _ _ _ h=>by cases d<;>exact h) (Below.refl _ _).drew ?_;have B0:=(Below.refl wr.heap.size wr).drew;have hP:=hid (hP.out.below B0);have hV:=hid (hV.out.trans (B0.mono hV.out.size));clear B0 z0;generalize wr.drew=wD at*
    repeat
     refine Ah (v:=?_) rfl rfl (Or.inl ⟨by rfl,?_⟩) ?_;rotate_left
     ·intro W' hSw;have c0:=(hSw.cell (Al c0)).trans c0;have ud:=(hSw.cell (Al ud)).trans ud;go_simp
      try with_reducible rfl
     try simp only[Act.put,List.getElem_toArray,List.getElem_cons_zero,List.getElem_cons_succ,List.setIfInBounds_toArray,List.set_cons_zero,List.set_cons_succ]
    refine Aq rfl ?_;simp only[List.toList_toArray,List.drop_succ_cons,List.drop_zero];obtain⟨g',hg',-,d1,z1,hst⟩:=hP.out.at ((K4 _ _ _ _).trans HOL.out) hjl;obtain rfl:g=g':=by simpa using hg'
    have HST:=hid (hst (qa+qd));rw[←HG.out]at HST;have HVS:=hid (hV.out.setCell (p:=⟨g,j,none⟩) hgB (.int .i64 (qa+qd)));clear hst;go_wp2_with fail
    go_roundw
    case rel=>exact⟨j+1,by omega,by go_num,hKn,HST,HVS⟩
    case measure=>simp[intOf];omega
   ·have hjb:((j:Int)==(a:Int))=false:=by simp;omega
    have hjb2:¬(j:Int)=(a:Int):=by omega
    have hPn:Hid (Vb.Bj w3.heap.size wr (.slice a7 x.length c7) (F6 out d a (j+1))):=hid (by rw[Mm hja];exact hP.out);have HDw:=hid (fun nq=>below_drewN (Below.refl wr.heap.size wr) nq);by_cases hdx:d.getD j 0=x.getD j 0
    ·have hKn:=hid (JX (a:=a) hK.out (Or.inr hdx));have hdb:(d.getD j 0 != x.getD j 0)=false:=by simpa using hdx
     clear hK hdx;generalize d.getD j 0=dj at*;generalize x.getD j 0=xj at*;go_wp2_with fail
     go_quiet (fail)
     have B:=HDw.out nq;go_wp2_with fail
     go_roundw
     case rel=>exact⟨j+1,by omega,by go_num,hKn,hid (hPn.out.below B),hid (hV.out.trans (B.mono hV.out.size))⟩
     case measure=>simp[intOf];omega
    ·have hKn:=hid (Vd (a:=a) hjl (fun c=>c.elim hja hdx));have HH:=hid (E.out.trans (hF.out.trans (F1.out (fun c=>by have:=hKn.out;rw[this]at c;exact absurd c.2 (by decide)))));have hdb:(d.getD j 0 != x.getD j 0)=true:=by simpa using hdx
     clear hK hdx hKn;generalize d.getD j 0=dj at*;generalize x.getD j 0=xj at*;go_wp2_with fail
     go_quiet (fail)
     have B:=HDw.out nq;go_wp2_with fail
     go_ret2
     first|exact Hw.no HH.out (HBq.out.trans (B.mono HBq.out.size))|(rw[←List.drop_one];exact Hw.no HH.out (HBq.out.trans (B.mono HBq.out.size)))
end
end Go.Proofs.YtkkeehnldcdccaaGreatDoor
