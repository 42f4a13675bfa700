import Derived.BigQuiet
import Derived.Deep.QuietTactic
import Derived.Laws.FloatArith
import Derived.Laws.Externs
import Derived.Laws.BitsAllLaws
import Derived.Laws.BitsLemmas
import Derived.Test.YtkkeehnldcdccaaGreatDoorNe35
set_option linter.unusedVariables false
set_option linter.unusedSimpArgs false
set_option maxRecDepth 100000
set_option maxHeartbeats 16000000
namespace Go.Proofs.YtkkeehnldcdccaaGreatDoor
open Go.Lib (hid)
open Go.RowKit
section
attribute [local irreducible] Af AH AQ CD Ag
theorem TQ{w:World}{v vv:Value}{n:Nd}{ins:List Vl}{x y:Vl}(h:Ba w v n)(hs:BJ 3 AM w vv ins)(hx:ins[0]?=some x)(hy:ins[1]?=some y)(hsm:∀u∈ins,Sm u.dims)(hl:ins.length≤3) :
  Calls Tryz.prog 74 #[v,vv] w fun e w'=>P1 w (CD n x.dims y.dims ((ins[2]?).map Vl.dims)) (x.dims.getD 0 0) (y.dims.getD 0 0) e w':=by
 obtain⟨a1,c1,a2,c2,rfl,HN⟩:=Cr h;obtain⟨a3,c3,rfl⟩:=hs.form;obtain⟨bi,oi,vd,hai,gi,d0,HX⟩:=Di hs hx;obtain⟨bi',oi',vk,hai',gi',d1,HK⟩:=Di hs hy;obtain⟨rfl,rfl⟩:bi=bi'∧oi=oi':=by
  rw[hai]at hai'
  simpa using hai'
 have hz:∀z,ins[2]?=some z→∃vz,w.cell? ⟨bi,oi+8,none⟩=some vz∧Aa w vz z.dims:=fun z hz=>by
  obtain⟨b',o',vz,e,-,dz,hi⟩:=Di hs hz;obtain⟨rfl,rfl⟩:bi=b'∧oi=o':=by
   rw[hai]at e
   simpa using e
  exact⟨vz,dz,hi⟩
 subst hai;have hi2:1<ins.length:=(List.getElem?_eq_some_iff.1 hy).1;have HSx:=hid (hsm x (List.mem_of_getElem? hx));have HSk:=hid (hsm y (List.mem_of_getElem? hy));obtain⟨ax,cx,rfl⟩:=HX.shape;obtain⟨ak,ck,rfl⟩:=HK.shape;have HX:=hid HX;have HK:=hid HK;have HZ:=hid hz;have HSm:=hid hsm;clear hx hy hai' gi' h hz hsm;generalize x.dims=x at*;generalize y.dims=k at*;go_enter Tryz.func74,Tryz.ntmps74
 have d0:w.cell? ⟨bi,oi+2,none⟩=some (.slice ax x.length cx):=by simpa using d0
 have d1:w.cell? ⟨bi,oi+5,none⟩=some (.slice ak k.length ck):=by simpa using d1
 have hi0:(0:Int)<(ins.length:Int):=by omega
 have hi1:(1:Int)<(ins.length:Int):=by omega
 obtain⟨W1,hW1⟩:∃W1,w.alloc (Obj.cells #[.string n.op,.string n.name,.slice a1 n.ins.length c1,.string n.out,.slice a2 n.attrs.length c2] 25)=W1:=⟨_,rfl⟩;obtain⟨HB1,HF,HN⟩:=HN.out W1 hW1;have hs1:W1.heap.size=w.heap.size+1:=by rw[←hW1];simp
 have D1:Hid (Ac (W1.alloc (Obj.cells #[.slice none 0 0,.slice none 0 0,.slice none 0 0,.slice none 0 0,.int .i64 0,.int .i64 0] 102)) (w.heap.size+1) #[.slice none 0 0,.slice none 0 0,.slice none 0 0,.slice none 0 0,.int .i64 0,.int .i64 0] 102):=hid (by rw[←hs1];exact Ac.new _ _ _);have HW2:=hid ((Below.refl W1.heap.size W1).alloc (Nat.le_refl _) (Obj.cells #[.slice none 0 0,.slice none 0 0,.slice none 0 0,.slice none 0 0,.int .i64 0,.int .i64 0] 102));have HB2:=hid (HB1.out.trans (HW2.out.mono HB1.out.size));have e0:=(HB1.out.cell gi).trans d0;have e1:=(HB1.out.cell gi).trans d1;obtain⟨f0,f1,f2,f3,f4⟩:=HF.out _ (Below.refl _ _);go_wp2_with fail
 clear f0 f1 f2 f3 f4;clear hW1 e0 e1;generalize W1.alloc _=W2 at D1 HW2 HB2⊢;refine(DD (HN.out _ HW2.out) F4 1).mono ?_;rintro e w3⟨rfl,B3⟩;have D1:=hid (D1.out.below' B3);have HW3:=hid (HW2.out.trans (B3.mono HW2.out.size));have HB3:=hid (HB1.out.trans (HW3.out.mono HB1.out.size));have HGi:=C7 (HN.out _ HW2.out) (nm:=F4) FK;obtain⟨g,hg⟩:∃g,AH n.attrs F4 1=g:=⟨_,rfl⟩;rw[hg]at HGi⊢;obtain⟨g0,g1⟩:=HGi;have HG:=hid hg;obtain⟨k0,k1,k2,k3,k4,k5⟩:=D1.out.six;have z0:=D1.out.frozen 0;have z1:=D1.out.frozen 1;have z2:=D1.out.frozen 2;have z3:=D1.out.frozen 3;have z4:=D1.out.frozen 4;have z5:=D1.out.frozen 5;clear hg B3;have HLx:=hid HX.out.wf.1;have HLk:=hid HK.out.wf.1;by_cases cA:Gm x k g
 case neg=>
  have N:=hid (IW (z:=(ins[2]?).map Vl.dims) HG.out cA);have hA:¬(x.length:Int)=4∨((x.length:Int)=4∧¬(k.length:Int)=4)∨((x.length:Int)=4∧(k.length:Int)=4∧g<1)∨((x.length:Int)=4∧(k.length:Int)=4∧1≤g∧65536<g):=by
   unfold Gm at cA;omega
  clear cA;rcases hA with h1| ⟨h1,h2⟩| ⟨h1,h2,h3⟩| ⟨h1,h2,h3,h4⟩
  all_goals
   go_wp2_with fail
   exact CL rfl (D1.out.put6 _ _ _ _ _ _) rfl rfl rfl (P1.no N.out (HB3.out.trans (Bz (by omega) _ _ _ _ _ _)))
 have HA:=hid cA;obtain⟨lx,lk,h3,h4⟩:=cA;have e1:(x.length:Int)=4:=by omega
 have e2:(k.length:Int)=4:=by omega
 have LX:=hid lx;have LK:=hid lk;obtain⟨bx,ox,hax,-,gx,ux1,-⟩:=Ai (k:=1) HX.out (by omega);obtain⟨bk,ok',hak,-,gk,uk0,-⟩:=Ai (k:=0) HK.out (by omega);obtain⟨bk',ok2,hak',-,-,uk1,-⟩:=Ai (k:=1) HK.out (by omega);rw[hak]at hak';obtain⟨rfl,rfl⟩:bk=bk'∧ok'=ok2:=by simpa using hak'
 subst hax hak;have ux1:=(HB3.out.cell gx).trans ux1;have uk0:w3.cell? ⟨bk,ok',none⟩=some (.int .i64 (k.getD 0 0)):=(HB3.out.cell gk).trans uk0;have uk1:=(HB3.out.cell gk).trans uk1;have r1:=HSx.out.at (k:=1) (by omega);have r2:=HSk.out.at (k:=0) (by omega);have r3:=HSk.out.at (k:=1) (by omega);have hCB:Gn x k g↔(x.getD 1 0%g=0∧k.getD 0 0%g=0∧k.getD 1 0=x.getD 1 0/g):=by
  unfold Gn;rw[Int.tmod_eq_emod_of_nonneg (by omega),Int.tmod_eq_emod_of_nonneg (by omega),Int.tdiv_eq_ediv_of_nonneg (by omega)]
 have HCB:=hid hCB;have gg0:¬g=0:=by omega
 have ggm:¬g=-1:=by omega
 have tA:=Int.tmod_eq_emod_of_nonneg (a:=x.getD 1 0) (b:=g) (by omega);have tB:=Int.tmod_eq_emod_of_nonneg (a:=k.getD 0 0) (b:=g) (by omega);have tC:=Int.tdiv_eq_ediv_of_nonneg (a:=x.getD 1 0) (b:=g) (by omega);clear hCB hak' lx lk;generalize x.getD 1 0=X1 at ux1 r1 HCB tA tC;generalize k.getD 0 0=K0 at uk0 r2 HCB tB;generalize k.getD 1 0=K1 at uk1 r3 HCB;have td:0≤X1/g∧X1/g≤65536:=by
  have h1:=Int.ediv_nonneg (show 0≤X1 by omega) (show 0≤g by omega);have h2:=Int.ediv_le_self g (show 0≤X1 by omega);omega
 have wq:wrap64 (X1/g)=X1/g:=by unfold wrap64;omega
 have HD:=hid (fun nq=>below_drewN (Below.refl w3.heap.size w3) nq);by_cases cB:Gn x k g
 case neg=>
  have N:=hid (Nv (z:=(ins[2]?).map Vl.dims) HG.out HA.out cB);rw[HCB.out]at cB;have hB:(X1%g != 0)=true∨((X1%g != 0)=false∧(K0%g != 0)=true)∨((X1%g != 0)=false∧(K0%g != 0)=false∧(K1 != X1/g)=true):=by
   by_cases q1:X1%g=0
   ·by_cases q2:K0%g=0
    ·exact Or.inr (Or.inr ⟨by simp[q1],by simp[q2],by simp;exact fun q3=>cB ⟨q1,q2,q3⟩⟩)
    ·exact Or.inr (Or.inl ⟨by simp[q1],by simpa using q2⟩)
   ·exact Or.inl (by simpa using q1)
  clear cB;rcases hB with q1| ⟨q1,q2⟩| ⟨q1,q2,q3⟩
  all_goals
   go_wp2_with fail
   go_quiet (fail)
   have B4:=HD.out nq;have D1:=hid (D1.out.below' B4);have HB4:=hid (HB3.out.trans (B4.mono HB3.out.size));go_wp2_with fail
   exact CL rfl (D1.out.put6 _ _ _ _ _ _) rfl rfl rfl (P1.no N.out (HB4.out.trans (Bz (by omega) _ _ _ _ _ _)))
 have HCb:=hid cB;have cB:=HCB.out.1 cB;have qb1:(X1%g != 0)=false:=by simp[cB.1]
 have qb2:(K0%g != 0)=false:=by simp[cB.2.1]
 have qb3:(K1 != X1/g)=false:=by simp[cB.2.2]
 clear cB;go_wp2_with fail
 go_quiet (fail)
 have B4:=HD.out nq;have D1:=hid (D1.out.below' B4);have HB4:=hid (HB3.out.trans (B4.mono HB3.out.size));have HW4:=hid (HW3.out.trans (B4.mono HW3.out.size));clear ux1 uk0 uk1 qb1 qb2 qb3 wq td tA tB tC k0 k1 k2 k3 k4 k5 z0 z1 z2 z3 z4 z5 HD B4 r1 r2 r3;generalize w3.drewN nq=w4 at*;obtain⟨k0,k1,k2,k3,k4,k5⟩:=D1.out.six;have z0:=D1.out.frozen 0;have z1:=D1.out.frozen 1;have z2:=D1.out.frozen 2;have z3:=D1.out.frozen 3;have z4:=D1.out.frozen 4;have z5:=D1.out.frozen 5;have HD:=hid (fun nq=>below_drewN (Below.refl w4.heap.size w4) nq);obtain⟨bk',ok2,hak',-,gk,uk0,-⟩:=Ai (k:=0) HK.out (by have:=LK.out;omega);obtain⟨rfl,rfl⟩:bk=bk'∧ok'=ok2:=by simpa using hak'
 have uk0:w4.cell? ⟨bk,ok',none⟩=some (.int .i64 (k.getD 0 0)):=(HB4.out.cell gk).trans uk0;have HT:Hid (k.take 1=[k.getD 0 0]):=hid (by
  have:=LK.out
  match k,this with
  | [_,_,_,_],_=>rfl)
 have hZ:(ins[2]?=none∧¬(ins.length:Int)=3)∨∃az cz zs,ins[2]?.map Vl.dims=some zs∧(ins.length:Int)=3∧w4.cell? ⟨bi,oi+8,none⟩=some (.slice az zs.length cz)∧Aa w4 (.slice az zs.length cz) zs:=by
  cases hz:ins[2]? with
  | none=>exact Or.inl ⟨rfl,by have:=List.getElem?_eq_none_iff.1 hz;omega⟩
  | some z=>
   obtain⟨vz,dz,hi⟩:=HZ.out z hz;obtain⟨az,cz,rfl⟩:=hi.shape;have:=(List.getElem?_eq_some_iff.1 hz).1;exact Or.inr ⟨az,cz,z.dims,rfl,by omega,(HB4.out.cell gi).trans dz,hi.below HB4.out⟩
 by_cases cD:ins[2]?.map Vl.dims=none∨ins[2]?.map Vl.dims=some (k.take 1)
 case neg=>
  have N:=hid (Vv HG.out HA.out HCb.out cD);rcases hZ with⟨e,-⟩| ⟨az,cz,zs,e,l3,e8,hi⟩
  ·exact absurd (Or.inl (by rw[e];rfl)) cD
  rw[e,HT.out]at cD;have hq:¬(zs.length:Int)=1∨((zs.length:Int)=1∧∃bz oz u,az=some ⟨bz,oz,none⟩∧w4.cell? ⟨bz,oz,none⟩=some (.int .i64 u)∧(u != k.getD 0 0)=true):=by
   by_cases q:zs.length=1
   ·obtain⟨bz,oz,haz,-,-,uz,-⟩:=Ai (k:=0) hi (by omega);refine Or.inr ⟨by omega,bz,oz,zs.getD 0 0,haz,uz,?_⟩;have h1:zs=[zs.getD 0 0]:=by
     match zs,q with
     | [_],_=>rfl
    generalize zs.getD 0 0=u at h1⊢;simp only[bne_iff_ne,ne_eq];exact fun e2=>cD (Or.inr (by rw[h1,e2]))
   ·exact Or.inl (by omega)
  have HLz:=hi.wf.1;clear cD hi e;generalize k.getD 0 0=K at uk0 hq;rcases hq with q1| ⟨q1,bz,oz,u,rfl,uz,q2⟩
  all_goals
   go_wp2_with fail
   go_quiet (fail)
   have B5:=HD.out nq;have D1:=hid (D1.out.below' B5);have HB5:=hid (HB4.out.trans (B5.mono HB4.out.size));go_wp2_with fail
   exact CL rfl (D1.out.put6 _ _ _ _ _ _) rfl rfl rfl (P1.no N.out (HB5.out.trans (Bz (by omega) _ _ _ _ _ _)))
 have HCW:=hid (QY HG.out HA.out HCb.out cD);have hQ:¬(ins.length:Int)=3∨((ins.length:Int)=3∧∃az cz bz oz u,w4.cell? ⟨bi,oi+8,none⟩=some (.slice az 1 cz)∧1≤cz∧az=some ⟨bz,oz,none⟩∧w4.cell? ⟨bz,oz,none⟩=some (.int .i64 u)∧(u != k.getD 0 0)=false):=by
  rcases hZ with⟨-,h⟩| ⟨az,cz,zs,e,l3,e8,hi⟩
  ·exact Or.inl h
  rw[e,HT.out]at cD;have hz1:zs=[k.getD 0 0]:=by simpa using cD
  subst hz1;have hcz:=hi.capI.2;obtain⟨bz,oz,haz,-,-,uz,-⟩:=Ai (k:=0) hi (by simp);exact Or.inr ⟨l3,az,cz,bz,oz,k.getD 0 0,e8,hcz,haz,uz,by simp⟩
 obtain⟨_,_,e,-,gk2,uk2,i2⟩:=Ai (k:=2) HK.out (by have:=LK.out;omega);obtain⟨rfl,rfl⟩:=by simpa using e
 obtain⟨_,_,e,-,gk3,uk3,i3⟩:=Ai (k:=3) HK.out (by have:=LK.out;omega);obtain⟨rfl,rfl⟩:=by simpa using e
 have hdr:k.drop 2=[k.getD 2 0,k.getD 3 0]:=by
  have:=LK.out
  match k,this with
  | [_,_,_,_],_=>rfl
 have s2:=HSk.out.at (k:=2) (by have:=LK.out;omega);have s3:=HSk.out.at (k:=3) (by have:=LK.out;omega);have HCN:=hid (fun(e:AQ n x [k.getD 2 0,k.getD 3 0]=none)=>HCW.out.trans (K8 (by rw[hdr];exact e)));have HCY:=hid (fun p q (e:AQ n x [k.getD 2 0,k.getD 3 0]=some (p,q))=>HCW.out.trans (Ms (by rw[hdr];exact e)));have uk2:=(HB4.out.cell gk2).trans uk2;have uk3:=(HB4.out.cell gk3).trans uk3;clear hZ cD hdr hak' HCW;generalize k.getD 2 0=K2 at uk2 i2 s2 HCN HCY;generalize k.getD 3 0=K3 at uk3 i3 s3 HCN HCY;generalize hK0:k.getD 0 0=K0 at uk0 hQ;have HK0:=hid hK0;clear hK0;have hQ:((ins.length:Int)==3)=false∨(((ins.length:Int)==3)=true∧(2:Int)<(ins.length:Int)∧∃az cz bz oz u,w4.cell? ⟨bi,oi+8,none⟩=some (.slice az 1 cz)∧1≤cz∧az=some ⟨bz,oz,none⟩∧w4.cell? ⟨bz,oz,none⟩=some (.int .i64 u)∧(u != K0)=false):=by
  rcases hQ with q| ⟨q,r⟩
  ·exact Or.inl (by simpa using q)
  ·exact Or.inr ⟨by simpa using q,by omega,r⟩
 rcases hQ with q1| ⟨q1,q3,az,cz,bz,oz,u,e8,hcz,rfl,uz,q2⟩
 all_goals
  go_wp2_with fail
  go_quiet (fail)
  have B5:=HD.out nq;have D1:=hid (D1.out.below' B5);have HW5:=hid (HW4.out.trans (B5.mono HW4.out.size));have uk2:=(B5.cell (Al uk2)).trans uk2;have uk3:=(B5.cell (Al uk3)).trans uk3;clear HB4 HW4 HD B5 q1
  try clear q2 q3 uz e8
  generalize w4.drewN nq=w5 at*;go_wp2_with fail
  refine Ae 12 [0,1,2,3,4,5,6,8,7,9,10,11] (fun W'=>Below w5.heap.size w5 W') (by kernel_rfl) (by kernel_rfl) (fun _ d _ _ _ h=>by cases d<;>exact h) (Below.refl _ _).drew ?_;have B6:Hid (Below w5.heap.size w5 w5.drew):=hid (Below.refl _ _).drew;have HFw:Hid (∀W,Below w5.heap.size w5 W→Below W1.heap.size W1 W):=hid fun W h=>HW5.out.trans (h.mono HW5.out.size);clear k0 k1 k2 k3 k4 k5 z0 z1 z2 z3 z4 z5 uk0;generalize w5.drew=w6 at B6⊢;have l2:(2:Int)<(k.length:Int):=by omega
  have l3:(3:Int)<(k.length:Int):=by omega
  repeat
   refine Ah (v:=?_) rfl rfl (Or.inl ⟨by rfl,?_⟩) ?_;rotate_left
   ·intro W' hSw;obtain⟨f0,f1,f2,f3,f4⟩:=HF.out _ (HFw.out _ hSw);have uk2:=(hSw.cell (Al uk2)).trans uk2;have uk3:=(hSw.cell (Al uk3)).trans uk3;go_simp
    try with_reducible rfl
   try simp only[Act.put,List.getElem_toArray,List.getElem_cons_zero,List.getElem_cons_succ,List.setIfInBounds_toArray,List.set_cons_zero,List.set_cons_succ]
  refine Av rfl rfl (fun K' hK=>?_);go_simp
  have B7:=hid (B6.out.alloc B6.out.size (Obj.cells #[.int .i64 K2,.int .i64 K3] 3));have HIk:Hid (Aa (w6.alloc (Obj.cells #[.int .i64 K2,.int .i64 K3] 3)) (.slice (some ⟨w6.heap.size,0,none⟩) 2 2) [K2,K3]):=hid ((Db (zs:=[K2,K3]) (Ac.new _ _ _) (Nat.zero_le _) rfl (by simp)).ints (by simp) (by simpa using⟨i2,i3⟩));refine hK.out _ _ B7.out ?_;clear hK K';generalize w6.alloc _=w7 at*;refine Av rfl rfl (fun K' hK=>?_);go_simp
  refine(Jx (HN.out _ (HFw.out _ B7.out)) (HX.out.below (HB1.out.trans ((HFw.out _ B7.out).mono HB1.out.size))) HIk.out LX.out rfl HSx.out.2 (fun z hz=>by
   simp only[List.mem_cons,List.not_mem_nil,or_false]at hz;rcases hz with rfl|rfl<;>omega)).mono ?_
  rintro e w8⟨B8,b0,m0,d0,b1,m1,d1,b2,m2,d2,b3,m3,d3,p,q,b,rfl,hno,hye⟩;have B8:=hid (B7.out.trans (B8.mono B7.out.size));refine hK.out _ _ B8.out ?_;clear hK K'
  repeat
   refine Ah (v:=?_) rfl rfl (Or.inl ⟨by rfl,?_⟩) ?_;rotate_left
   ·intro W' hSw;go_simp
    try with_reducible rfl
   try simp only[Act.put,List.getElem_toArray,List.getElem_cons_zero,List.getElem_cons_succ,List.setIfInBounds_toArray,List.set_cons_zero,List.set_cons_succ]
  refine Aq rfl ?_;simp only[List.toList_toArray,List.drop_succ_cons,List.drop_zero];have D1:=hid (D1.out.below' B8.out);have HB8:=hid (HB1.out.trans ((HFw.out _ B8.out).mono HB1.out.size));obtain⟨k0,k1,k2,k3,k4,k5⟩:=D1.out.six;have z0:=D1.out.frozen 0;have z1:=D1.out.frozen 1;have z2:=D1.out.frozen 2;have z3:=D1.out.frozen 3;have z4:=D1.out.frozen 4;have z5:=D1.out.frozen 5;cases b with
  | false=>
   have N:=hid (HCN.out (hno rfl));clear hno hye;go_wp2_with fail
   exact CL rfl (D1.out.put6 _ _ _ _ _ _) rfl rfl rfl (P1.no N.out (HB8.out.trans (Bz (by omega) _ _ _ _ _ _)))
  | true=>
   have Y:=hid (HCY.out p q (hye rfl).1);clear hno hye;go_wp2_with fail
   exact CL rfl (D1.out.put6 _ _ _ _ _ _) rfl rfl rfl (P1.yes Y.out (HB8.out.trans (Bz (by omega) _ _ _ _ _ _)))
end
section
namespace Fl
open Ieee Go.RowKit
theorem Z0:single.binade≤single.infRung:=by decide
theorem VT(a:Nat):(single.order a a != some .eq)=Bk single a:=by
 cases h:Bk single a
 ·rw[Oy Z0 h h];simp
 ·rw[Gi Z0 h];rfl
theorem VU(a:Nat):(single.order a a=some .eq)=(Bk single a=false):=by
 have h:=VT a;cases g:Bk single a<;>rw[g]at h<;>simpa using h
theorem VV{x:Nat}:(x&&& 2139095040=2139095040)↔x/8388608%256=255:=by
 have e1:(x&&& 2139095040)%2^23=0:=by rw[Nat.and_mod_two_pow];simp
 have e2:(x&&& 2139095040)/2^23=x/2^23%256:=by
  rw[Nat.and_div_two_pow];exact Nat.and_two_pow_sub_one_eq_mod _ 8
 have h2:=Nat.div_add_mod (x&&& 2139095040) (2^23);rw[e1,e2]at h2;constructor
 ·intro h;omega
 ·intro h;rw[show(8388608:Nat)=2^23 from rfl]at h;rw[h]at h2;omega
theorem VW{x:Nat}:Bk single x=(decide (x/8388608%256=255)&&decide (x%8388608≠0)):=by
 unfold Bk;rw[show single.infRung=2139095040 by decide,show single.signWeight=2147483648 by decide,Bool.eq_iff_iff];simp only[decide_eq_true_eq,Bool.and_eq_true];omega
theorem Ra(n:Int)(h₀:0≤n)(h₁:n<2^63):IntKind.i64.wrap n=n:=by rw[IntKind.wrap_i64];omega
theorem ME{a b:Nat}(ha:a<2^63)(hb:b<2^63):bits .and .i64 (a:Int) (b:Int)=((a&&& b:Nat):Int):=
 (bits_nat .i64 63 (by decide) Ra a b ha hb).1
theorem Xz(x:Int):ZI x=(decide (0≤x)&&decide (x<4294967296)&&(!Bk single (x%4294967296).toNat ||x==2143289344)):=by
 unfold ZI;by_cases h:x/4294967296=0
 ·obtain⟨n,rfl⟩:=Int.eq_ofNat_of_zero_le (show 0≤x by omega);have hn:n<4294967296:=by omega
  have e1:bits .and .i64 (n:Int) 2139095040=((n&&& 2139095040:Nat):Int):=ME (b:=2139095040) (by omega) (by decide);have e2:bits .and .i64 (n:Int) 8388607=((n&&& 8388607:Nat):Int):=ME (b:=8388607) (by omega) (by decide);rw[e1,e2,show n&&& 8388607=n%8388608 from Nat.and_two_pow_sub_one_eq_mod _ 23];have e3:((n:Int)%4294967296).toNat=n:=by omega
  rw[e3,VW];have h3:=VV (x:=n);have h4:(((n&&& 2139095040:Nat):Int)=2139095040)↔n/8388608%256=255:=by rw[←h3];omega
  have h5:(((n%8388608:Nat):Int)=0)↔n%8388608=0:=by omega
  have h6:(0:Int)≤(n:Int):=by omega
  have h7:(n:Int)<4294967296:=by omega
  rw[Bool.eq_iff_iff];simp only[Bool.and_eq_true,Bool.or_eq_true,Bool.not_eq_true',decide_eq_true_eq,Bool.and_eq_false_iff,decide_eq_false_iff_not,h4,h5,h,h6,h7,beq_iff_eq,Bool.not_eq_false',true_and,and_true,ne_eq];constructor
  ·intro g;exact g.imp (fun g=>g.imp id (fun g=>by simpa using g)) id
  ·intro g;exact g.imp (fun g=>g.imp id (fun g=>by simpa using g)) id
 ·have h1:¬(0≤x∧x<4294967296):=by omega
  rcases(by omega:¬0≤x∨¬x<4294967296)with g|g<;>simp[g,h]
theorem Yx{k:FloatKind}{a b:Nat}(h:a=b):Value.float k a=Value.float k b:=by rw[h]
theorem Rb(n:Int)(w:World):(callFunc 175 #[.int .u32 n]).run Tryz.prog w=.ok (.value (.float .f32 n.toNat)) w:=by
 rw[run_callFunc_extern (e:=Extern.MathFloatBits.float32frombits) Tryz.func175 (by kernel_rfl) (by kernel_rfl) (by kernel_rfl) (by kernel_rfl)];rfl
attribute [local go_sem] Rb
theorem Hm(x:Int)(w:World) :
  Calls Tryz.prog 127 #[.int .i64 x] w fun e w'=>e=.returned (.float .f32 (x%4294967296).toNat)∧w=w':=by
 go_enter Tryz.func127,Tryz.ntmps127
 go_wp2
 go_ret
 go_light
 exact⟨Ab (Yx (by simp)),rfl⟩
attribute [local irreducible] Bk sv mg ZI
theorem Gt(t x:Int)(w:World) :
  Calls Tryz.prog 60 #[.int .i64 t,.int .i64 x] w fun e w'=>e=.returned (.bool (Go.Proofs.YtkkeehnldcdccaaGreatDoor.Cz t x))∧w=w':=by
 have HR:=hid (Xz x);have HN:=hid fun n=>show(FloatKind.f32.format.order n n=some .eq)=(Bk single n=false)from VU n;go_enter Tryz.func60,Tryz.ntmps60
 go_wp2_with (go_at_call 127;refine(Hm _ _).mono ?_;rintro e w'⟨rfl,rfl⟩)
 all_goals (go_ret;go_light;refine⟨Ab (Ar ?_),rfl⟩)
 all_goals (have hr:=HR.out;have hn:=HN.out;clear HR HN;(try simp only[hn,Bool.beq_eq_decide_eq]at*);unfold Go.Proofs.YtkkeehnldcdccaaGreatDoor.Cz;grind)
end Fl
end
end Go.Proofs.YtkkeehnldcdccaaGreatDoor
