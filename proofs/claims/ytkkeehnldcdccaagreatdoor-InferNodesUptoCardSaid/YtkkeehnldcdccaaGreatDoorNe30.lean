import Derived.Handy
import Derived.BigQuiet
import Derived.Deep.QuietTactic
import Derived.Test.YtkkeehnldcdccaaGreatDoorNe29
set_option linter.unusedVariables false
set_option linter.unusedSimpArgs false
set_option maxRecDepth 100000
set_option maxHeartbeats 16000000
namespace Go.Proofs.YtkkeehnldcdccaaGreatDoor
open Go.Lib (hid)
open Go.RowKit
section
theorem Xt{a b c d:Int}(h:c=a)(k:d=b):(.returned (.tuple #[.int .i64 a,.int .i64 b]):Ending)=.returned (.tuple #[.int .i64 c,.int .i64 d]):=by rw[h,k]
theorem VH(s e d:Int)(hs:Bf s)(he:Bf e)(hd:1≤d∧d≤65536)(w:World):Calls Tryz.prog 179 #[.int .i64 s,.int .i64 e,.int .i64 d] w fun r w'=>r=.returned (.tuple #[.int .i64 (BO s d),.int .i64 (BO e d)])∧Below w.heap.size w w':=by
 obtain⟨s0,s1⟩:=hs;obtain⟨e0,e1⟩:=he;obtain⟨d0,d1⟩:=hd;have HB:∀a:Int,Hid (BO a d=max 0 (min d (if a<0 then a+d else a))):=fun a=>hid (by unfold BO;rw[Int.min_comm]);have HS:=HB s;have HE:=HB e;clear HB;by_cases c1:s<0
 all_goals by_cases c2:e<0
 all_goals
  go_enter Tryz.func179,Tryz.ntmps179
  go_wp2
  go_rounds 3
  go_quiet (fail)
  go_wp2
  go_ret2
  exact⟨Xt (by rw[HS.out];omega) (by rw[HE.out];omega),below_drewN ((Below.refl _ _).alloc (Nat.le_refl _) _) _⟩
def Ze(n:Nd)(r:Nat):Option (List Int):=By (Af n.attrs AF (Cn (Af n.attrs Fv []).length)) r
attribute [local irreducible] Af By Cn BO Mj BY Ag BI
theorem Eg.base{w0 w w':World}{x y:Option (List Int)}{e:Ending}(h:Eg w x e w')(hx:y=x)(hB:Below w0.heap.size w0 w):Eg w0 y e w':=by
 subst hx;refine⟨hB.trans (h.1.mono hB.size),?_⟩;have h2:=h.2;cases y with
 | none=>
  obtain⟨v,zs,e1,e2,e3⟩:=h2;exact⟨v,zs,e1,e2.base hB.size,e3⟩
 | some zs=>
  obtain⟨v,e1,e2⟩:=h2;exact⟨v,e1,e2.base hB.size⟩
theorem Eg.uni{w w':World}{x:Option (List Int)}{e:Ending}(h:Eg w x e w'):∃v b,e=.returned (.tuple #[v,.bool b])∧Hid (Eg w x (.returned (.tuple #[v,.bool b])) w'):=by
 have h2:=h.2;cases x with
 | none=>
  obtain⟨v,zs,e1,-,-⟩:=h2;exact⟨v,false,e1,hid (e1 ▸ h)⟩
 | some zs=>
  obtain⟨v,e1,-⟩:=h2;exact⟨v,true,e1,hid (e1 ▸ h)⟩
theorem TD{w:World}{v:Value}{n:Nd}{r:Nat}(h:Ba w v n)(hr:r≤1125899906842624) :
  Calls Tryz.prog 178 #[v,.int .i64 (r:Int)] w fun e w'=>Eg w (Ze n r) e w':=by
 have hok:=(BS h (nm:=Fv) (other:=[]) (by simp) (by simp)).1;have hAx:Ze n r=By (Af n.attrs AF (Cn (Af n.attrs Fv []).length)) r:=rfl;obtain⟨s,hs⟩:∃s,Af n.attrs Fv []=s:=⟨_,rfl⟩;rw[hs]at hok hAx;obtain⟨a1,c1,a2,c2,rfl,HN⟩:=Cr h;have hs:=hid hs;have hAx:=hid hAx;clear h;go_enter Tryz.func178,Tryz.ntmps178
 go_wp2_with fail
 generalize hW1:w.alloc _=W1;obtain⟨HB1,HF,HN⟩:=HN.out W1 hW1;clear hW1;go_loopw [6,7] (fun ov i wr=>∃(k:Nat),k≤s.length∧i=.int .i64 (k:Int)∧Hid (BI wr W1.heap.size ov (Cn k))∧Hid (Below W1.heap.size W1 wr)) (fun _ i _=>s.length-(intOf i).toNat)
 case atStart=>exact⟨0,Nat.zero_le _,rfl,hid (by rw[show Cn 0=[] by unfold Cn;rfl];exact BI.nil _ _),hid (Below.refl _ _)⟩
 case round=>
  obtain⟨k,hk,rfl,hO,hW⟩:=hrel;obtain⟨ao,co,hov⟩:=hO.out.form;rw[CE]at hov;subst hov;have hsw:=hW.out.size;obtain⟨k0,k1,k2,k3,k4⟩:=HF.out _ hW.out;go_wp2_with fail
  refine(Gq (HN.out _ hW.out) Fv (.empty none 0) hs.out).mono ?_;rintro e w3⟨a3,c3,rfl,-,B3⟩;have hW3:=hid (hW.out.trans (B3.mono hsw));have hO3:=hid (hO.out.below B3);have hs3:=hW3.out.size;clear k0 k1 k2 k3 k4 B3;by_cases hkm:k<s.length
  ·have hki:(k:Int)<(s.length:Int):=by omega
   go_wp2_with (at_builtin;refine X7 (W:=W1) (B:=W1.heap.size) hO3.out (CE k) hW3.out (by omega) (Nat.le_refl _) hs3 rfl rfl rfl rfl ?_)
   intro v' w4 ho4 hb4;rw[←Kt]at ho4;go_wp2_with fail
   go_roundw
   case rel=>exact⟨k+1,by omega,by go_num,ho4,hb4⟩
   case measure=>simp[intOf];omega
  ·have hki:¬(k:Int)<(s.length:Int):=by omega
   obtain rfl:k=s.length:=by omega
   obtain⟨k0,k1,k2,k3,k4⟩:=HF.out _ hW3.out;have HI3:=hO3.out.ints (by rw[CE];exact hok) (Fa _ (by omega));obtain⟨l,hl⟩:∃l,Af n.attrs AF (Cn s.length)=l:=⟨_,rfl⟩;rw[hl]at hAx;go_wp2_with fail
   refine(Gq (HN.out _ hW3.out) AF HI3 hl).mono ?_;rintro e w4⟨a4,c4,rfl,HI4,B4⟩;clear k0 k1 k2 k3 k4 hl;have hB4:=hid (HB1.out.trans ((hW3.out.trans (B4.mono hs3)).mono HB1.out.size));have HA:=hid (GA (r:=r) HI4 HI4.wf.1 hr);clear HI4 B4 HI3;go_wp2_with fail
   refine HA.out.mono ?_;rintro e w5 h5;obtain⟨v5,b5,rfl,h6⟩:=(h5.base hAx.out hB4.out).uni;go_wp2
   go_ret2
   exact h6.out
theorem Q1{w:World}{v vx:Value}{n:Nd}{x:List Int}(h:Ba w v n)(hx:Aa w vx x)(hsm:Sm x) :
  Calls Tryz.prog 141 #[v,vx] w fun e w'=>Hw w (BY n x) e w':=by
 have hS:BY n x=match Ze n x.length with |none=>none|some l=>if(Af n.attrs Fv []).length=(Af n.attrs KY []).length∧(Af n.attrs Fv []).length=l.length then Mj x (Af n.attrs Fv []) (Af n.attrs KY []) 0 x l else none:=by unfold BY Ze;rfl
 have hP:=fun l (e:Ze n x.length=some l)=>(A8 e).1;have HGd:=hid (fun zs (e:BY n x=some zs)=>(Pe hsm e).2);obtain⟨s,hs⟩:∃s,Af n.attrs Fv []=s:=⟨_,rfl⟩;obtain⟨t,ht⟩:∃t,Af n.attrs KY []=t:=⟨_,rfl⟩;rw[hs,ht]at hS;obtain⟨a1,c1,a2,c2,rfl,HN⟩:=Cr h;obtain⟨a4,c4,rfl⟩:=hx.shape;have hxl:=hx.wf.1;have hxc:=hx.capI.2;have HX:=hid hx;have HSm:=hid hsm;have HS:=hid hS;have HP:=hid hP;clear hx hsm h hS hP;go_enter Tryz.func141,Tryz.ntmps141
 go_wp2_with fail
 generalize hW1:w.alloc _=W1;obtain⟨HB1,HF,HN⟩:=HN.out W1 hW1;clear hW1;refine(Gq (HN.out _ (Below.refl _ _)) Fv (.empty none 0) hs).mono ?_;rintro e w2⟨a5,c5,rfl,HIs,B2⟩;obtain⟨k0,k1,k2,k3,k4⟩:=HF.out _ B2;go_wp2_with fail
 clear k0 k1 k2 k3 k4;refine(Gq (HN.out _ B2) KY (.empty none 0) ht).mono ?_;rintro e w3⟨a6,c6,rfl,HIt,B3⟩;have HIs:=HIs.below B3;have B3:=B2.trans (B3.mono B2.size);obtain⟨k0,k1,k2,k3,k4⟩:=HF.out _ B3;have hsl:=HIs.wf.1;have htl:=HIt.wf.1;have HIs:=hid HIs;have HIt:=hid HIt;clear hs ht B2;go_wp2_with fail
 clear k0 k1 k2 k3 k4;refine(TD (HN.out _ B3) (by omega)).mono ?_;rintro e w4 h4;have HIs:=hid (HIs.out.below h4.1);have HIt:=hid (HIt.out.below h4.1);have HB4:=hid (HB1.out.trans ((B3.trans (h4.1.mono B3.size)).mono HB1.out.size));clear B3;have h5:=h4.2;clear h4;generalize Ze n x.length=ax at*;cases ax with
 | none=>
  obtain⟨v4,zs,rfl,-,-⟩:=h5;go_wp2_with fail
  go_ret2
  exact Hw.no HS.out HB4.out
 | some l=>
  obtain⟨v4,rfl,hr4⟩:=h5;have HP:=HP.out l rfl;by_cases g:s.length=t.length∧s.length=l.length
  case neg=>
   have HS:BY n x=none:=HS.out.trans (if_neg g);have HS:=hid HS;obtain⟨al,cl,rfl⟩:=hr4.form;have g2:¬(s.length:Int)=(t.length:Int)∨((s.length:Int)=(t.length:Int)∧¬(s.length:Int)=(l.length:Int)):=by omega
   rcases g2 with g2| ⟨g2,g3⟩
   all_goals
    go_wp2_with fail
    go_ret2
    exact Hw.no HS.out HB4.out
  have HS:=hid (HS.out.trans (if_pos g));obtain⟨g1,g2⟩:=g;have HIl:=hr4.ints (by omega) (fun z hz=>DO (HP z hz) (by omega));obtain⟨al,cl,rfl⟩:=hr4.form;have HIl:=hid HIl;have HP:=hid HP;have e1:(s.length:Int)=(t.length:Int):=by omega
  have e2:(s.length:Int)=(l.length:Int):=by omega
  have HL1:=hid g1;have HL2:=hid g2;clear g1 g2 hr4;go_wp2_with fail
  refine(Fx (HX.out.below HB4.out)).mono ?_;rintro e w5⟨v5,rfl,hr5,B5⟩;have hf5:Hid (Vb.Bj w4.heap.size w5 v5 x):=hid hr5;obtain⟨a7,c7,rfl⟩:=hf5.out.form;have HB5:=hid B5;clear hr5 B5;go_wp2_with fail
  go_loopw [11,12,13] (fun i _ _ wr=>∃(k:Nat) (out:List Int),k≤l.length∧i=.int .i64 (k:Int)∧Hid (out.length=x.length)∧Hid (Mj x s t 0 x l=Mj x s t k out (l.drop k))∧Hid (Vb.Bj w4.heap.size wr (.slice a7 x.length c7) out)∧Hid (Below w4.heap.size w4 wr)) (fun i _ _ _=>l.length-(intOf i).toNat)
  case atStart=>exact⟨0,x,Nat.zero_le _,rfl,hid rfl,hid rfl,hf5,HB5⟩
  case round=>
   obtain⟨k,out,hk,rfl,HOL,hF,hO,hW⟩:=hrel;by_cases hkl:k<l.length
   case neg=>
    have hki:¬(k:Int)<(l.length:Int):=by omega
    obtain rfl:k=l.length:=by omega
    have G:=hid (HS.out.trans (hF.out.trans (U9 (Nat.lt_irrefl _))));have hi:Aa wr (.slice a7 x.length c7) out:=by
     have h1:Ag wr w4.heap.size (.slice a7 x.length c7) out:=by unfold Ag;exact hO.out
     exact h1.ints (by have:=HOL.out;omega) (HGd.out _ G.out)
    have HR:=hid (Hw.yes G.out (HB4.out.trans (hW.out.mono HB4.out.size)) hi);clear hi;go_wp2_with fail
    go_ret2
    exact HR.out
   have hki:(k:Int)<(l.length:Int):=by omega
   have hzr:=HP.out _ (Am (zs:=l) hkl);obtain⟨j,hj⟩:∃j:Nat,l.getD k 0=(j:Int):=⟨(l.getD k 0).toNat,by omega⟩;have hjx:j<x.length:=by omega
   have hji:(j:Int)<(x.length:Int):=by omega
   obtain⟨b0,o0,hal,-,gl,ul,-⟩:=Ai HIl.out hkl;subst hal;have ul:=(hW.out.cell (p:=⟨b0,o0+k,none⟩) gl).trans ul;rw[hj]at ul;have hjt:(l.getD k 0).toNat=j:=by rw[hj];rfl
   have F1:=hid (fun v h1 h2=>Va (x:=x) (s:=s) (e:=t) (out:=out) (v:=v) hkl hjt h1 h2);have F2:=hid (fun v h1 h2=>R0 (x:=x) (s:=s) (e:=t) (out:=out) (v:=v) hkl hjt h1 h2);obtain⟨g,hg,hgB,d0,z0,hst⟩:=hO.out.at HOL.out hjx;subst hg;obtain⟨bx,ox,hax,-,gx,ux,-⟩:=Ai HX.out hjx;subst hax;have HBr:=HB4.out.trans (hW.out.mono HB4.out.size);have ux:=(HBr.cell (p:=⟨bx,ox+j,none⟩) gx).trans ux;have HBr:=hid HBr;obtain⟨bs,os,has,-,gs,us,is0⟩:=Ai (k:=k) HIs.out (by have:=HL2.out;omega);subst has;have us:=(hW.out.cell (p:=⟨bs,os+k,none⟩) gs).trans us;obtain⟨bt,ot,hat,-,gt,ut,it0⟩:=Ai (k:=k) HIt.out (by have:=HL1.out;have:=HL2.out;omega);subst hat
   have ut:=(hW.out.cell (p:=⟨bt,ot+k,none⟩) gt).trans ut;have rx:=HSm.out.at hjx;have hks:(k:Int)<(s.length:Int):=by have:=HL2.out;omega
   have hkt:(k:Int)<(t.length:Int):=by have:=HL1.out;have:=HL2.out;omega
   have HSp:=hid (fun(W:World)=>VH (s.getD k 0) (t.getD k 0) (x.getD j 0) is0 it0 rx W);have r1:=En (a:=t.getD k 0) rx;have r2:=En (a:=s.getD k 0) rx;have F1:=hid (fun h=>F1.out _ rfl h);have F2:=hid (fun h=>F2.out _ rfl h);clear hst is0 it0 hj hjt hzr;generalize BO (t.getD k 0) (x.getD j 0)=q1 at*;generalize BO (s.getD k 0) (x.getD j 0)=q2 at*;generalize x.getD j 0=xj at*;generalize t.getD k 0=tk at*;generalize s.getD k 0=sk at*;have bk:(0:Int)≤(k:Int)∧(k:Int)<(s.length:Int):=⟨by omega,hks⟩;have bk':(0:Int)≤(k:Int)∧(k:Int)<(t.length:Int):=⟨by omega,hkt⟩;have bl':(0:Int)≤(k:Int)∧(k:Int)<(l.length:Int):=⟨by omega,hki⟩;have bj:(0:Int)≤(j:Int)∧(j:Int)<(x.length:Int):=⟨by omega,hji⟩;go_wp2_with fail
   refine Ae 20 [0,1,2,3,4,5,6,7,8,9,10,11,12,13,14,15,16,17,18,19] (fun W'=>Below wr.heap.size wr W') (by kernel_rfl) (by kernel_rfl) (fun _ d _ _ _ h=>by cases d<;>exact h) (Below.refl _ _).drew ?_;have HBD:=hid ((Below.refl wr.heap.size wr).drew);have HWk:=hid (fun W (hB:Below wr.heap.size wr W)=>And.intro (hW.out.trans (hB.mono hW.out.size)) (HBr.out.trans (hB.mono HBr.out.size)));generalize wr.drew=wD at*
   repeat
    refine Ah (v:=?_) rfl rfl (Or.inl ⟨by rfl,?_⟩) ?_;rotate_left
    ·intro W' hSw;have ul:=(hSw.cell (Al ul)).trans ul;have us:=(hSw.cell (Al us)).trans us;have ut:=(hSw.cell (Al ut)).trans ut;have ux:=(hSw.cell (Al ux)).trans ux;go_simp
     try with_reducible rfl
    try simp only[Act.put,List.getElem_toArray,List.getElem_cons_zero,List.getElem_cons_succ,List.setIfInBounds_toArray,List.set_cons_zero,List.set_cons_succ]
   refine Av rfl rfl (fun K' hK=>?_);go_simp
   refine(HSp.out _).mono ?_;rintro e w9⟨rfl,B9⟩;have B9:=HBD.out.trans (B9.mono HBD.out.size);refine hK.out _ _ B9 ?_;clear hK K'
   repeat
    refine Ah (v:=?_) rfl rfl (Or.inl ⟨by rfl,?_⟩) ?_;rotate_left
    ·intro W' hSw;have ul:=(hSw.cell (Al ul)).trans ul;have us:=(hSw.cell (Al us)).trans us;have ut:=(hSw.cell (Al ut)).trans ut;have ux:=(hSw.cell (Al ux)).trans ux;go_simp
     try with_reducible rfl
    try simp only[Act.put,List.getElem_toArray,List.getElem_cons_zero,List.getElem_cons_succ,List.setIfInBounds_toArray,List.set_cons_zero,List.set_cons_succ]
   refine Aq rfl ?_;simp only[List.toList_toArray,List.drop_succ_cons,List.drop_zero];obtain⟨HW9,HB9⟩:=HWk.out _ B9;obtain⟨g',hg',hgB',d1,z1,hst⟩:=(hO.out.below B9).at HOL.out hjx;obtain rfl:g=g':=by simpa using hg'
   have ul:=(B9.cell (Al ul)).trans ul;by_cases hq:0<q1-q2
   ·have G:=hid (hF.out.trans (F2.out hq));have HST:=hid (hst (q1-q2));have HWS:=hid (HW9.setCell (p:=⟨g,j,none⟩) hgB (.int .i64 (q1-q2)));have HB9:=hid HB9;clear F1 F2 hst;go_wp2_with fail
    go_roundw
    case rel=>exact⟨k+1,out.set j (q1-q2),by omega,by go_num,hid (by rw[List.length_set];exact HOL.out),G,HST,HWS⟩
    case measure=>simp[intOf];omega
   ·have G:=hid (HS.out.trans (hF.out.trans (F1.out (by omega))));have HB9:=hid HB9;clear F1 F2 hst;go_wp2_with fail
    go_ret2
    exact Hw.no G.out HB9.out
end
section
theorem Xu{x p:List Int}{m k:Nat}(hk:k<m)(hm:m≤x.length):(EG x p m).getD k 0=x.getD k 0+(p.getD k 0+p.getD (x.length+k) 0):=by
 have h:k<x.length:=by omega
 unfold EG;simp[List.getD,h,hk]
attribute [local irreducible] Af AN Ag Ej EG
def Q2(w:World)(x:Option (List Int))(e:Ending)(w':World):Prop:=Below w.heap.size w w'∧match x with |none=>∃u v,e=.returned (.tuple #[u,v,.bool false])|some zs=>∃u v,e=.returned (.tuple #[u,v,.bool true])∧Aa w' v zs
theorem Q2.no{w w':World}{x:Option (List Int)}{u v:Value}(h:x=Option.none)(hB:Below w.heap.size w w'):Q2 w x (.returned (.tuple #[u,v,.bool false])) w':=by subst h;exact⟨hB,u,v,rfl⟩
theorem Q2.yes{w w':World}{x:Option (List Int)}{zs:List Int}{u v:Value}(h:x=Option.some zs)(hB:Below w.heap.size w w')(hi:Aa w' v zs):Q2 w x (.returned (.tuple #[u,v,.bool true])) w':=by subst h;exact⟨hB,u,v,rfl,hi⟩
theorem TE{w:World}{v vx:Value}{n:Nd}{x:List Int}(h:Ba w v n)(hx:Aa w vx x)(hsm:Sm x) :
  Calls Tryz.prog 142 #[v,vx] w fun e w'=>Q2 w (Ej n x) e w':=by
 have HGd:=hid (fun zs (e:Ej n x=some zs)=>(Vf hsm e).2);have hno:=hid (fun e=>U3 (n:=n) (x:=x) e);have hye:=hid (fun p e=>RV (n:=n) (x:=x) (p:=p) e);obtain⟨a1,c1,a2,c2,rfl,HN⟩:=Cr h;obtain⟨a4,c4,rfl⟩:=hx.shape;have hxl:=hx.wf.1;have hxc:=hx.capI.2;have hx6:=hsm.1;have HX:=hid hx;have HSm:=hid hsm;clear hx hsm h;go_enter Tryz.func142,Tryz.ntmps142
 go_wp2_with fail
 generalize hW1:w.alloc _=W1;obtain⟨HB1,HF,HN⟩:=HN.out W1 hW1;clear hW1;refine(CF (HN.out _ (Below.refl _ _)) BG (.empty none 0) (2*(x.length:Int)) 0 65536).mono ?_;rintro e w2⟨B2,h2⟩;have HB2:=hid (HB1.out.trans (B2.mono HB1.out.size));cases hp:AN (Af n.attrs BG []) (2*x.length) 0 65536 with
 | none=>
  rw[hp]at h2;obtain⟨v2,zs,rfl,-,-⟩:∃v zs,e=.returned (.tuple #[v,.bool false])∧Ag w2 _ v zs∧Aa w2 v zs:=h2;have hno:=hid (hno.out hp);clear hp;go_wp2_with fail
  go_ret3
  exact Q2.no hno.out HB2.out
 | some p=>
  rw[hp]at h2;obtain⟨v2,rfl,hr2⟩:∃v,e=.returned (.tuple #[v,.bool true])∧Ag w2 _ v p:=h2;obtain⟨hpl,hpz⟩:=AT hp;have hye:=hid (hye.out p hp);have HIp:=hid (hr2.ints (by omega) (fun z hz=>Cg (by have:=hpz z hz;omega)));have HPz:=hid hpz;obtain⟨a5,c5,rfl⟩:=hr2.form;have hl2:p.length=2*x.length:=by omega
  clear hp hr2 hpz hpl;have HL2:=hid hl2;clear hl2;have HT:=hid (fun k (hk:k<x.length)=>II (l:=EG x p x.length) (k:=k) (by rw[Fu];exact hk));have HA:=hid (fun k (hk:k<x.length)=>Xu (x:=x) (p:=p) hk (Nat.le_refl _));go_wp2_with fail
  go_loopw [9,10] (fun ov i wr=>∃(k:Nat),k≤x.length∧i=.int .i64 (k:Int)∧Hid (Ag wr w2.heap.size ov ((EG x p x.length).take k))∧Hid (Below w2.heap.size w2 wr)) (fun _ i _=>x.length-(intOf i).toNat)
  case atStart=>exact⟨0,Nat.zero_le _,rfl,hid (by rw[List.take_zero];exact Ag.nil _ _),hid (Below.refl _ _)⟩
  case round=>
   obtain⟨k,hk,rfl,hO,hW⟩:=hrel;have HOL:Hid (((EG x p x.length).take k).length=k):=hid (by rw[List.length_take,Fu];omega);obtain⟨ao,co,hov⟩:=hO.out.form;rw[HOL.out]at hov;subst hov;have hsw:=hW.out.size;have HBr:=hid (HB2.out.trans (hW.out.mono HB2.out.size));by_cases hkx:k<x.length
   ·have hki:(k:Int)<(x.length:Int):=by omega
    obtain⟨bx,ox,hax,-,gx,ux,-⟩:=Ai HX.out hkx;subst hax;have ux:=(HBr.out.cell (p:=⟨bx,ox+k,none⟩) gx).trans ux;obtain⟨bp,op',hap,-,gp,up,-⟩:=Ai (k:=k) HIp.out (by have:=HL2.out;omega);obtain⟨bq,oq,hap',-,gq,uq,-⟩:=Ai (k:=x.length+k) HIp.out (by have:=HL2.out;omega);rw[hap]at hap';obtain⟨rfl,rfl⟩:bp=bq∧op'=oq:=by simpa using hap'
    subst hap;have up:=(hW.out.cell (p:=⟨bp,op'+k,none⟩) gp).trans up;have uq:=(hW.out.cell (p:=⟨bp,op'+(x.length+k),none⟩) gq).trans uq;have r1:=HSm.out.at hkx;have r2:=HPz.out _ (Am (zs:=p) (k:=k) (by have:=HL2.out;omega));have r3:=HPz.out _ (Am (zs:=p) (k:=x.length+k) (by have:=HL2.out;omega));have HT:=hid (HT.out k hkx);have HA:=hid (HA.out k hkx);generalize x.getD k 0=xk at*;generalize p.getD k 0=pk at*;generalize p.getD (x.length+k) 0=qk at*;have HPE:(EG x p x.length).getD k 0=pk+xk+qk:=by rw[HA.out];omega
    rw[HPE]at HT;clear HPE;have bk:(0:Int)≤(k:Int)∧(k:Int)<(x.length:Int):=⟨by omega,hki⟩;have bp1:(0:Int)≤(k:Int)∧(k:Int)<(p.length:Int):=⟨by omega,by have:=HL2.out;omega⟩;have bp2:(0:Int)≤(x.length:Int)+k∧(x.length:Int)+k<(p.length:Int):=⟨by omega,by have:=HL2.out;omega⟩;go_wp2_with fail
    have wA:IntKind.i64.wrap (pk+xk)=pk+xk:=by rw[IntKind.wrap_i64];omega
    have wB:IntKind.i64.wrap (pk+xk+qk)=pk+xk+qk:=by rw[IntKind.wrap_i64];omega
    have wC:IntKind.i64.wrap ((x.length:Int)+k)=(x.length:Int)+k:=by rw[IntKind.wrap_i64];omega
    have wD:((x.length:Int)+k).toNat=x.length+k:=by omega
    refine Ae 19 [0,1,2,3,4,5,6,7,8,9,10,11,12,13,14,15,16,17,18] (fun W'=>Below wr.heap.size wr W') (by kernel_rfl) (by kernel_rfl) (fun _ d _ _ _ h=>by cases d<;>exact h) (Below.refl _ _).drew ?_;have hOd:=hid (hO.out.below (Below.refl _ _).drew);have hWd:=hid hW.out.drew;have HBD:=hid ((Below.refl wr.heap.size wr).drew);have hsd:w2.heap.size≤wr.drew.heap.size:=hsw;generalize wr.drew=wD at*
    repeat
     refine Ah (v:=?_) rfl rfl (Or.inl ⟨by rfl,?_⟩) ?_;rotate_left
     ·intro W' hSw;have ux:=(hSw.cell (Al ux)).trans ux;have up:=(hSw.cell (Al up)).trans up;have uq:=(hSw.cell (Al uq)).trans uq;go_simp
      try with_reducible rfl
     try simp only[Act.put,List.getElem_toArray,List.getElem_cons_zero,List.getElem_cons_succ,List.setIfInBounds_toArray,List.set_cons_zero,List.set_cons_succ]
    refine Av rfl rfl (fun K' hK=>?_);go_simp
    refine hK.out _ _ (HBD.out.alloc HBD.out.size _) ?_;clear hK K';refine Aq rfl ?_;simp only[List.toList_toArray,List.drop_succ_cons,List.drop_zero];go_wp2_with (at_builtin;refine Ps (W:=w2) (B:=w2.heap.size) hOd.out HOL.out hWd.out (by omega) (Nat.le_refl _) hsd rfl rfl rfl rfl ?_)
    intro v' w4 ho4 hb4;rw[←HT.out]at ho4;go_wp2_with fail
    go_roundw
    case rel=>exact⟨k+1,by omega,by go_num,ho4,hb4⟩
    case measure=>simp[intOf];omega
   ·have hki:¬(k:Int)<(x.length:Int):=by omega
    obtain rfl:k=x.length:=by omega
    have hi:=hO.out;rw[List.take_of_length_le (by rw[Fu];omega)]at hi;have HI:=hid (hi.ints (by rw[Fu];omega) (HGd.out _ hye.out));clear hi;go_wp2_with fail
    go_ret3
    exact Q2.yes hye.out HBr.out HI.out
end
def Ff(w:World)(o:Int×List Int)(e:Ending)(w':World):Prop:=Below w.heap.size w w'∧((o.1≠0∧∃a k c,e=.returned (.tuple #[.slice a k c,.int .i64 o.1]))∨(o.1=0∧∃a c,e=.returned (.tuple #[.slice a o.2.length c,.int .i64 0])∧Aa w' (.slice a o.2.length c) o.2))
theorem Ff.no{w w':World}{o:Int×List Int}{k:Int}{a:Option Addr}{m c:Nat}(h:o.1=k)(hk:k≠0)(hB:Below w.heap.size w w'):Ff w o (.returned (.tuple #[.slice a m c,.int .i64 k])) w':=by subst h;exact⟨hB,Or.inl ⟨hk,_,_,_,rfl⟩⟩
theorem Ff.yes{w w':World}{o:Int×List Int}{zs:List Int}{v:Value}(h:o=(0,zs))(hB:Below w.heap.size w w')(hi:Aa w' v zs):Ff w o (.returned (.tuple #[v,.int .i64 0])) w':=by
 subst h;obtain⟨a,c,rfl⟩:=hi.shape;exact⟨hB,Or.inr ⟨rfl,_,_,rfl,hi⟩⟩
theorem Ff.form{w w':World}{o:Int×List Int}{e:Ending}(h:Ff w o e w'):∃a k c,e=.returned (.tuple #[.slice a k c,.int .i64 o.1])∧Hid (Below w.heap.size w w')∧Hid (o.1=0→k=o.2.length∧Aa w' (.slice a o.2.length c) o.2):=by
 obtain⟨B,⟨h0,a,k,c,rfl⟩| ⟨h0,a,c,rfl,hi⟩⟩:=h
 ·exact⟨a,k,c,rfl,hid B,hid fun e=>absurd e h0⟩
 ·exact⟨a,_,c,by rw[h0],hid B,hid fun _=>⟨rfl,hi⟩⟩
theorem Hw.uni{w w':World}{x:Option (List Int)}{e:Ending}(h:Hw w x e w'):∃v b,e=.returned (.tuple #[v,.bool b])∧Hid (Below w.heap.size w w')∧Hid (b=x.isSome)∧Hid (∀zs,x=some zs→Aa w' v zs):=by
 obtain⟨B,h⟩:=h;cases x with
 | none=>obtain⟨v,rfl⟩:=h;exact⟨v,false,rfl,hid B,hid rfl,hid fun _ e=>by cases e⟩
 | some zs=>obtain⟨v,rfl,hi⟩:=h;exact⟨v,true,rfl,hid B,hid rfl,hid fun _ e=>by cases e;exact hi⟩
theorem VI{ins:List Vl}{t:Int}{k:Nat}{x:Vl}(h:Ci (ins.take k) t=true)(hk:ins[k]?=some x)(e:x.typ=t):Ci (ins.take (k+1)) t=true:=by
 unfold Ci at h⊢;rw[List.take_add_one,hk];simp only[Bool.not_eq_true',List.any_eq_false]at h⊢;intro y hy;rcases List.mem_append.1 hy with hy|hy
 ·exact h y hy
 ·obtain rfl:y=x:=by simpa using hy
  simp[e]
theorem Xv{ins:List Vl}{t:Int}{k:Nat}{x:Vl}(hk:ins[k]?=some x)(e:x.typ≠t):Ci ins t=false:=by
 unfold Ci;simp only[Bool.not_eq_false',List.any_eq_true];exact⟨x,List.mem_of_getElem? hk,by simpa using e⟩
theorem Pt{w:World}{vv:Value}{ins:List Vl}(t:Int)(hs:BJ 3 AM w vv ins) :
  Calls Tryz.prog 64 #[vv,.int .i64 t] w fun e w'=>e=.returned (.bool (Ci ins t))∧Below w.heap.size w w':=by
 obtain⟨a3,c3,rfl⟩:=hs.form;have hl:=hs.len;have HS:=hid hs;clear hs;go_enter Tryz.func64,Tryz.ntmps64
 go_wp2_with fail
 go_loopw [5] (fun i wr=>∃(k:Nat),k≤ins.length∧i=.int .i64 (k:Int)∧Hid (Ci (ins.take k) t=true)∧Hid (Below w.heap.size w wr)) (fun i _=>ins.length-(intOf i).toNat)
 case atStart=>exact⟨0,Nat.zero_le _,rfl,hid (by simp[Ci]),hid (Below.refl _ _)⟩
 case round=>
  obtain⟨k,hk,rfl,hA,hW⟩:=hrel;by_cases hkl:k<ins.length
  ·have hki:(k:Int)<(ins.length:Int):=by omega
   obtain⟨x,hx⟩:∃x,ins[k]?=some x:=⟨_,List.getElem?_eq_getElem hkl⟩;obtain⟨b,o,cc,vd,hv,-,-,g1,-,-⟩:=Bm HS.out hx;obtain⟨e1,-,-⟩:=Value.slice.inj hv;subst e1;have g1:=(hW.out.cell (Al g1)).trans g1;by_cases e:x.typ=t
   ·have A:=hid (VI hA.out hx e);subst e;clear hv hx;go_wp2_with fail
    go_roundw
    case rel=>exact⟨k+1,by omega,by go_num,A,hW⟩
    case measure=>simp[intOf];omega
   ·have A:=hid (Xv hx e);have e2:(x.typ==t)=false:=by simpa using e
    clear hv hx;go_wp2_with fail
    go_ret
    exact⟨Ab (Ar A.out.symm),hW.out⟩
  ·have hki:¬(k:Int)<(ins.length:Int):=by omega
   have A:Hid (Ci ins t=true):=hid (by have:=hA.out;rwa [List.take_of_length_le (by omega)]at this);go_wp2_with fail
   go_ret
   exact⟨Ab (Ar A.out.symm),hW.out⟩
theorem CQ{w:World}{x:Option (List Int)}{v:Value}{b:Bool}(hb:b=x.isSome)(hi:∀zs,x=some zs→Aa w v zs):Calls Tryz.prog 69 #[v,.bool b] w fun e w'=>Ff w (AX x) e w':=by
 have HI:=hid hi;clear hi;go_enter Tryz.func69,Tryz.ntmps69
 cases x with
 | none=>
  subst hb;go_wp2_with fail
  go_ret2
  exact Ff.no rfl (by decide) (Below.refl _ _)
 | some zs=>
  subst hb;go_wp2_with fail
  go_ret2
  exact Ff.yes rfl (Below.refl _ _) (HI.out _ rfl)
def Jt(z:Int)(r:Nat):Option Nat:=if-(r:Int)≤z∧z≤(r:Int)then some (if z<0 then z+r else z).toNat else none
theorem Pu{z:Int}{r:Nat}(h:z< -(r:Int)∨(-(r:Int)≤z∧(r:Int)<z)):Jt z r=none:=if_neg (by omega)
theorem Mx{z:Int}{r:Nat}(h:-(r:Int)≤z)(h0:z<0):Jt z r=some (z+r).toNat:=by unfold Jt;rw[if_pos (by omega),if_pos h0]
theorem My{z:Int}{r:Nat}(h:z≤(r:Int))(h0:¬z<0):Jt z r=some z.toNat:=by unfold Jt;rw[if_pos (by omega),if_neg h0]
theorem Sn{n:Nd}{x:List Int}:Dm n x=(Jt (AH n.attrs AB 1) x.length).map fun k=>[(AK (x.take k)).1,(AK (x.drop k)).1]:=by
 obtain⟨z,hz⟩:∃z,AH n.attrs AB 1=z:=⟨_,rfl⟩;rw[hz];by_cases h:-(x.length:Int)≤z∧z≤(x.length:Int)
 ·by_cases h0:z<0
  ·rw[Mx h.1 h0,OV hz h.1 h0 (k:=(z+x.length).toNat) (by omega)];rfl
  ·rw[My h.2 h0,OW hz h.2 h0 (k:=z.toNat) (by omega)];rfl
 ·rw[Pu (by omega),Nl hz h];rfl
theorem TF{w:World}{v:Value}{n:Nd}{r:Nat}(h:Ba w v n)(hr:r≤1125899906842624) :
  Calls Tryz.prog 143 #[v,.int .i64 (r:Int)] w fun e w'=>Below w.heap.size w w'∧∃(k:Nat) (b:Bool),e=.returned (.tuple #[.int .i64 (k:Int),.bool b])∧k≤r∧Jt (AH n.attrs AB 1) r=if b=true then some k else none:=by
 obtain⟨a1,c1,a2,c2,rfl,HN⟩:=Cr h;go_enter Tryz.func143,Tryz.ntmps143
 have hz:=C7 (nm:=AB) (other:=1) h FK;clear h;go_wp2_with fail
 generalize hW1:w.alloc _=W1;obtain⟨HB1,-,HN⟩:=HN.out W1 hW1;clear hW1;refine(DD (HN.out _ (Below.refl _ _)) AB 1).mono ?_;rintro e w2⟨rfl,B2⟩;have HB2:=hid (HB1.out.trans (B2.mono HB1.out.size));obtain⟨z,hze⟩:∃z,AH n.attrs AB 1=z:=⟨_,rfl⟩;rw[hze]at hz⊢;have HZ:=hid hze;obtain⟨y0,y1⟩:=hz;clear B2 hze;by_cases h:-(r:Int)≤z∧z≤(r:Int)
 case neg=>
  have hA:z< -(r:Int)∨(-(r:Int)≤z∧(r:Int)<z):=by omega
  have E:=hid (Pu hA);clear h;rcases hA with h| ⟨h1,h2⟩
  all_goals
   go_wp2_with fail
   go_ret2
   exact⟨HB2.out,0,false,rfl,by omega,by rw[HZ.out];exact E.out⟩
 obtain⟨h1,h2⟩:=h;by_cases h0:z<0
 ·obtain⟨k,hk⟩:∃k:Nat,z+r=(k:Int):=⟨(z+r).toNat,by omega⟩;have E:=hid (Mx h1 h0);have hkr:k≤r:=by omega
  rw[hk,Int.toNat_natCast]at E;go_wp2_with fail
  go_ret2
  exact⟨HB2.out,k,true,rfl,hkr,by rw[HZ.out];exact E.out⟩
 ·obtain⟨k,rfl⟩:∃k:Nat,z=(k:Int):=⟨z.toNat,by omega⟩;have E:=hid (My h2 h0);have hkr:k≤r:=by omega
  rw[Int.toNat_natCast]at E;go_wp2_with fail
  go_ret2
  exact⟨HB2.out,k,true,rfl,hkr,by rw[HZ.out];exact E.out⟩
end Go.Proofs.YtkkeehnldcdccaaGreatDoor
