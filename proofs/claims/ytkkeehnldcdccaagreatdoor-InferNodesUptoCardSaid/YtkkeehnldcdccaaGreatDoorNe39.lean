import Derived.Test.YtkkeehnldcdccaaGreatDoorNe34
import Derived.Test.YtkkeehnldcdccaaGreatDoorNe38
set_option linter.unusedVariables false
set_option linter.unusedSimpArgs false
set_option maxRecDepth 100000
set_option maxHeartbeats 32000000
namespace Go.Proofs.YtkkeehnldcdccaaGreatDoor
open Go.Lib (hid)
open Go.RowKit
section
theorem V9{op:List UInt8}(h:AC op=if op=cE∨op=cL∨op=cG then 2 else 3):(op==[67,108,105,112])=false∧(op==[67,97,115,116])=false:=by
 constructor
 all_goals
  rw[beq_eq_false_iff_ne];intro e;rw[e]at h
  revert h
  decide+kernel
theorem Wa{n:Nd}{x k zs:List Int}{z:Option (List Int)}(h:CD n x k z=some zs):x.length=4∧k.length=4:=by
 by_cases c:Gm x k (AH n.attrs F4 1)
 ·exact⟨c.1,c.2.1⟩
 ·rw[IW rfl c]at h;cases h
theorem Wb{n:Nd}{x zs:List Int}(h:BZ n x=some zs):x.length=4:=by
 cases hk:AN (Af n.attrs GV []) 2 1 100 with
 | none=>rw[QW hk]at h;cases h
 | some k=>
  by_cases c:x.length=4
  ·exact c
  ·rw[QX hk c]at h;cases h
def Rg(x:List Int)(l:List Vl)(k:Nat):Bool:=decide (2≤x.length∧∀v∈l.take k,v.dims=(x.drop 1).take 1)
theorem Wc{x:List Int}{l:List Vl}{k:Nat}{v:Vl}(h:l[k]?=some v)(g:Rg x l k=true):Rg x l (k+1)=decide (v.dims=(x.drop 1).take 1):=by
 unfold Rg at g⊢;rw[decide_eq_true_eq]at g;rw[decide_eq_decide,List.take_add_one,h];constructor
 ·intro q;exact q.2 v (by simp)
 ·intro q;refine⟨g.1,fun u hu=>?_⟩;rcases List.mem_append.1 hu with hu|hu
  ·exact g.2 u hu
  ·obtain rfl:u=v:=by simpa using hu
   exact q
theorem Z8{x:List Int}{l:List Vl}{k:Nat}(g:Rg x l k=false):Nz x l=none:=by
 unfold Rg at g;rw[decide_eq_false_iff_not]at g;exact if_neg fun c=>g ⟨c.1,fun v hv=>c.2 v (List.mem_of_mem_take hv)⟩
theorem YA{x:List Int}{l:List Vl}{k:Nat}(hk:l.length≤k)(g:Rg x l k=true):Nz x l=some x:=by
 unfold Rg at g;rw[decide_eq_true_eq,List.take_of_length_le hk]at g;exact if_pos g
theorem YB{x:List Int}(h:2≤x.length):(x.drop 1).take 1=[x.getD 1 0]:=by
 match x,h with
 | _::_::_,_=>rfl
theorem YC{d:List Int}(h:d.length=1):d=[d.getD 0 0]:=by
 match d,h with
 | [_],_=>rfl
theorem Wd{n:Nd}{x:List Int}:FY n x=AX ((Bq (AH n.attrs AB (-1)) x.length).map fun _=>x):=by
 unfold FY;cases Bq (AH n.attrs AB (-1)) x.length<;>rfl
attribute [local irreducible] AH Af Bq By AN A9 Vb.Bx Ag Bg Fe Au CC CD BZ Hl Nz A7 FY Rg
theorem TU{w:World}{v vv:Value}{n:Nd}{ins:List Vl}(h:Ba w v n)(hs:BJ 3 AM w vv ins)(hc:AA n=0)(hl:ins.length=n.ins.length)(hall:∀u∈ins,Sm u.dims)(hax:(Af n.attrs AF []).length *8+48≤140737488351232) :
  Calls Tryz.prog 28 #[v,vv] w fun e w'=>Ff w (A9 n ins) e w':=by
 have hcl:=V8 hc;have HCa:=hid (fun ho=>EI hc ho);have hzs:=C7 (nm:=AB) (other:=-1) h (by unfold Bf;omega);obtain⟨a1,c1,a2,c2,rfl,HN⟩:=Cr h;obtain⟨a3,c3,rfl⟩:=hs.form;have HS:=hid hs;have HL:=hid hl;have HAll:=hid hall;have HAx:=hid hax;have HZs:=hid hzs;clear hs h hc hl hall hax hzs;go_enter Tryz.func28,Tryz.ntmps28
 obtain⟨W1,hW1⟩:∃W1,w.alloc (Obj.cells #[.string n.op,.string n.name,.slice a1 n.ins.length c1,.string n.out,.slice a2 n.attrs.length c2] 25)=W1:=⟨_,rfl⟩;obtain⟨HB1,HF,HN⟩:=HN.out W1 hW1;obtain⟨f0,f1,f2,f3,f4⟩:=HF.out _ (Below.refl _ _);rcases hcl with⟨ho,hk⟩|hcl
 ·obtain⟨a,ha,-,hf⟩:=HCa.out ho;have E:Hid (A9 n ins=(0,((Az n.attrs ⟨#[118,97,108,117,101]⟩ 4).getD At.zero).dims)):=hid (by unfold A9;rw[hk];unfold cA;rw[ha,show(⟨#[118,97,108,117,101]⟩:ByteArray)=EF from rfl,hf];rfl);clear ha hf hk;unfold cC at ho;go_wp2_with fail
  refine(Hp (HN.out _ (Below.refl _ _))).mono ?_;rintro e w2⟨B2,vd,vx,rfl,hd,-⟩;generalize (Az n.attrs ⟨#[118,97,108,117,101]⟩ 4).getD At.zero=t at*;have HD:=hid hd;have hfd:∀W:World,(Instr.field 41 (.agg #[.int .i64 t.typ,vd,vx]) 1).run Tryz.prog W=.ok vd W:=fun _=>by kernel_rfl
  clear hd;go_wp2_with fail
  go_ret2
  exact Ff.yes E.out (HB1.out.trans (B2.mono HB1.out.size)) HD.out
 obtain⟨x,hx⟩:∃x,ins[0]?=some x:=⟨_,List.getElem?_eq_getElem (by
  have hl:=HL.out;rcases hcl with⟨-,-,-,h⟩| ⟨-,-,-,-,h⟩| ⟨-,-,-,r,hr,-,-,h,-⟩
  ·omega
  ·omega
  ·have:∀r∈MG,1≤r.2.2.1:=by decide+kernel
   have:=this r hr;omega)⟩
 have hne:¬n.op.toList=cC:=by rcases hcl with⟨h,-⟩| ⟨h,-⟩| ⟨h,-⟩<;>exact h
 obtain⟨bi,oi,vd,hai,gi,d0,HX⟩:=Di HS.out hx;have HX0:=hid hx;have hi0:(0:Int)<(ins.length:Int):=by have:=(List.getElem?_eq_some_iff.1 hx).1;omega
 obtain⟨ax,cx,rfl⟩:=HX.shape;have hxl:=HX.wf.1;have HX:=hid HX;have HSm:=hid (HAll.out _ (List.mem_of_getElem? hx));have d0:w.cell? ⟨bi,oi+2,none⟩=some (.slice ax x.dims.length cx):=by simpa using d0
 have d0:=(HB1.out.cell gi).trans d0;subst hai;have HY:=hid (fun(j:Nat) y (h:ins[j]?=some y)=>show ∃a c,w.cell? ⟨bi,oi+j*3+2,none⟩=some (.slice a y.dims.length c)∧Aa w (.slice a y.dims.length c) y.dims from by
  obtain⟨b',o',vy,e,-,d,hi⟩:=Di HS.out h;obtain⟨rfl,rfl⟩:bi=b'∧oi=o':=by simpa using e
  obtain⟨a,c,rfl⟩:=hi.shape;exact⟨a,c,d,hi⟩)
 clear hx;unfold cC at hne;have hne:(n.op.toList==[67,111,110,115,116,97,110,116])=false:=by simpa using hne
 have HOn:=hid (fun W=>AO n.op W);have HTw:=hid (fun W=>AW n.op W);rcases hcl with⟨-,h1,hk,-⟩| ⟨-,h1,h2,hk,hn2⟩| ⟨-,h1,h2,r,hr,hop,hk,ha,hb⟩
 ·have E:Hid (A9 n ins=(0,x.dims)):=hid (by unfold A9;rw[hk];simp only[gv HX0.out]);rw[h1]at HOn;clear hk;go_wp2_with fail
  refine(HOn.out _).mono ?_;rintro e w2⟨rfl,B2⟩;have HB2:=hid (HB1.out.trans (B2.mono HB1.out.size));clear f0 f1 f2 f3 f4 B2;go_wp2_with fail
  go_ret2
  exact Ff.yes E.out HB2.out (HX.out.below HB2.out)
 ·obtain⟨y,hy⟩:∃y,ins[1]?=some y:=⟨_,List.getElem?_eq_getElem (by have:=HL.out;omega)⟩;obtain⟨ay,cy,d1,HY1⟩:=HY.out 1 y hy;have E:Hid (A9 n ins=Vb.Bx x.dims y.dims):=hid (by
   by_cases c:n.op.toList=cE∨n.op.toList=cL∨n.op.toList=cG
   ·rw[if_pos c]at hk;unfold A9;rw[hk];simp only[gv HX0.out,gv hy]
   ·rw[if_neg c]at hk;unfold A9;rw[hk];simp only[gv HX0.out,gv hy])
  have hi1:(1:Int)<(ins.length:Int):=by have:=(List.getElem?_eq_some_iff.1 hy).1;omega
  have d1:w.cell? ⟨bi,oi+5,none⟩=some (.slice ay y.dims.length cy):=d1;have HY1:=hid HY1;obtain⟨q1,q2⟩:=V9 hk;rw[h1]at HOn;rw[h2]at HTw;clear hk hy;go_wp2_with fail
  refine(HOn.out _).mono ?_;rintro e w2⟨rfl,B2⟩;obtain⟨f0,f1,f2,f3,f4⟩:=HF.out _ B2;go_wp2_with fail
  refine(HTw.out _).mono ?_;rintro e w3⟨rfl,B3⟩;have B3:=B2.trans (B3.mono B2.size);have HB3:=hid (HB1.out.trans (B3.mono HB1.out.size));have d1:=(HB3.out.cell gi).trans d1;clear f0 f1 f2 f3 f4 B2 B3;go_wp2_with fail
  refine(GL (HX.out.below HB3.out) (HY1.out.below HB3.out)).mono ?_;rintro e w4⟨h4,-⟩;obtain⟨a7,k7,c7,rfl,B4,-⟩:=h4.form;have H4:=hid (h4.base HB3.out);clear h4;go_wp2_with fail
  go_ret2
  rw[E.out];exact H4.out
 rw[h1]at HOn;rw[h2]at HTw;have HOp:=hid hop;have HK:=hid hk;clear h1 h2 hop hk;go_wp2_with fail
 refine(HOn.out _).mono ?_;rintro e w2⟨rfl,B2⟩;obtain⟨f0,f1,f2,f3,f4⟩:=HF.out _ B2;have HB2:=hid (HB1.out.trans (B2.mono HB1.out.size));have HB2':=hid B2;clear B2 d0 HOn hne;simp only[MG,List.mem_cons,List.not_mem_nil,or_false]at hr;rcases hr with rfl|rfl|rfl|rfl|rfl|rfl|rfl|rfl|rfl|rfl|rfl|rfl|rfl|rfl|rfl|rfl|rfl|rfl|rfl|rfl|rfl|rfl|rfl|rfl|rfl
 all_goals
  have hop:=HOp.out;have hk:=HK.out;dsimp only at hop hk ha hb;go_wp2_with fail
 all_goals first|(go_ret2;exact Ff.yes (by unfold A9;rw[hk];simp only[gv HX0.out]) HB2.out (HX.out.below HB2.out))|skip
 all_goals
  refine(HTw.out _).mono ?_;rintro e w3⟨rfl,B3⟩;have HB3':=hid (HB2'.out.trans (B3.mono HB2'.out.size));have HB3:=hid (HB1.out.trans (HB3'.out.mono HB1.out.size));obtain⟨f0,f1,f2,f3,f4⟩:=HF.out _ HB3'.out;have HX3:=hid (HX.out.below HB3.out);have HS3:=hid (HS.out.below (AZ HB3.out) HB3.out);clear B3;have HYA:=hid (fun(h:1<ins.length)=>show ∃y ay cy,ins[1]?=some y∧w3.cell? ⟨bi,oi+5,none⟩=some (.slice ay y.dims.length cy)∧Aa w3 (.slice ay y.dims.length cy) y.dims from by
   have hy:ins[1]?=some ins[1]:=List.getElem?_eq_getElem h;obtain⟨ay,cy,d1,h1⟩:=HY.out 1 _ hy;exact⟨_,ay,cy,hy,(HB3.out.cell gi).trans d1,h1.below HB3.out⟩)
 ·--Where
  have hl:=HL.out;have hi1:(1:Int)<(ins.length:Int):=by omega
  have hi2:(2:Int)<(ins.length:Int):=by omega
  obtain⟨y,ay,cy,hy,d1,HY1⟩:=HYA.out (by omega);obtain⟨z,hz⟩:=BH ins 2 (by omega);obtain⟨az,cz,d2,HZ1⟩:=HY.out 2 z hz;have d2:w.cell? ⟨bi,oi+8,none⟩=some (.slice az z.dims.length cz):=d2;have D2:=hid d2;have E:Hid (A9 n ins=Fe x.dims y.dims z.dims):=hid (by unfold A9;rw[hk];simp only[gv HX0.out,gv hy,gv hz]);have HY1:=hid HY1;have HZ1:=hid HZ1;clear hl hy hz d2;go_wp2_with fail
  refine(GL HX3.out HY1.out).mono ?_;rintro e w4⟨h4,-⟩;obtain⟨a7,k7,c7,rfl,B4,I4⟩:=h4.form;have HB4:=hid (HB3.out.trans (B4.out.mono HB3.out.size));clear h4 d1;by_cases q:(Vb.Bx x.dims y.dims).1=0
  case neg=>
   have Q:=hid q;have E:=hid (E.out.trans (Pp q));have hb:((Vb.Bx x.dims y.dims).1 != 0)=true:=by simpa using q
   clear q;go_wp2_with fail
   go_ret2
   exact Ff.no (by rw[E.out]) Q.out HB4.out
  obtain⟨rfl,J4⟩:=I4.out q;have J4:=hid J4;have E:=hid (E.out.trans (Mu q));rw[q];have d2:=(HB4.out.cell gi).trans D2.out;clear q I4;go_wp2_with fail
  refine(GL J4.out (HZ1.out.below HB4.out)).mono ?_;rintro e w5⟨h5,-⟩;obtain⟨a8,k8,c8,rfl,B5,-⟩:=h5.form;have H5:=hid (h5.base HB4.out);clear h5;go_wp2_with fail
  go_ret2
  rw[E.out];exact H5.out
 rotate_left 3
 iterate 10
  ·go_wp2_with fail
   refine(Q6 (HN.out _ HB3'.out) HS3.out HX0.out HAll.out (by rw[hk,hop];decide) (fun e=>by have:=HL.out;rw[hk]at e;omega) HAx.out).mono ?_;rintro e w4 h4;obtain⟨a7,k7,c7,rfl,B4,-⟩:=h4.form;have H4:=hid (h4.base HB3.out);clear h4;go_wp2_with fail
   go_ret2
   exact H4.out
 ·--Softmax
  have E:Hid (A9 n ins=AX ((Bq (AH n.attrs AB (-1)) x.dims.length).map fun _=>x.dims)):=hid ((show A9 n ins=FY n x.dims by unfold A9;rw[hk];simp only[gv HX0.out]).trans Wd);have hx6:=HSm.out.1;go_wp2_with fail
  refine(DD (HN.out _ HB3'.out) AB (-1)).mono ?_;rintro e w4⟨rfl,B4⟩;have HB4:=hid (HB3.out.trans (B4.mono HB3.out.size));have hz:=HZs.out;obtain⟨z,hze⟩:∃z,AH n.attrs AB (-1)=z:=⟨_,rfl⟩;rw[hze]at hz E⊢;have HAi:=hid (Gz z x.dims.length hz (by omega) w4);obtain⟨o,ho⟩:∃o,Bq z x.dims.length=o:=⟨_,rfl⟩;rw[ho]at HAi E;clear B4 hz hze ho f0 f1 f2 f3 f4;go_wp2_with fail
  refine HAi.out.mono ?_;rintro e w5⟨rfl,rfl⟩;have hN:=fun(v:Value)=>CQ (w:=w5) (v:=v) (b:=false) (x:=none) rfl (fun _ e=>by cases e);have hS:=fun(k:Nat)=>CQ (b:=true) (x:=some x.dims) rfl (fun _ e=>by cases e;exact HX.out.below HB4.out);cases o
  all_goals
   unfold GR;dsimp only;go_wp2_with fail
   first
   | with_reducible refine(hN _).mono ?_
   | with_reducible refine(hS 0).mono ?_
   rintro e w6 h6;obtain⟨a7,k7,c7,rfl,B6,-⟩:=h6.form;have H6:=hid (h6.base HB4.out);clear h6;go_wp2_with fail
   go_ret2
   rw[E.out];exact H6.out
 rotate_left 1
 ·--MatMul
  have hi1:(1:Int)<(ins.length:Int):=by have:=HL.out;omega
  obtain⟨y,ay,cy,hy,d1,HY1⟩:=HYA.out (by omega);have E:Hid (A9 n ins=Au x.dims y.dims):=hid (by unfold A9;rw[hk];simp only[gv HX0.out,gv hy]);have HY1:=hid HY1;clear hy;go_wp2_with fail
  refine(Jv HX3.out HY1.out).mono ?_;rintro e w4 h4;obtain⟨a7,k7,c7,rfl,B4,-⟩:=h4.form;have H4:=hid (h4.base HB3.out);clear h4;go_wp2_with fail
  go_ret2
  rw[E.out];exact H4.out
 ·--Gemm
  obtain⟨y,ay,cy,hy,-,-⟩:=HYA.out (by have:=HL.out;omega);have E:Hid (A9 n ins=CC n x.dims y.dims ((ins[2]?).map Vl.dims)):=hid (by unfold A9;rw[hk];simp only[gv HX0.out,gv hy]);have hy:=hid hy;go_wp2_with fail
  refine(TN (HN.out _ HB3'.out) HS3.out HX0.out hy.out (by have:=HL.out;omega)).mono ?_;rintro e w4 h4;obtain⟨a7,k7,c7,rfl,B4,-⟩:=h4.form;have H4:=hid (h4.base HB3.out);clear h4;go_wp2_with fail
  go_ret2
  rw[E.out];exact H4.out
 ·--Conv
  have hi1:(1:Int)<(ins.length:Int):=by have:=HL.out;omega
  obtain⟨y,ay,cy,hy,d1,HY1⟩:=HYA.out (by omega);have E:Hid (A9 n ins=AX (CD n x.dims y.dims ((ins[2]?).map Vl.dims))):=hid (by unfold A9;rw[hk];simp only[gv HX0.out,gv hy]);have HYm:=hid (HAll.out _ (List.mem_of_getElem? hy));have HY1:=hid HY1;have hy:=hid hy;have d1:=hid d1;go_wp2_with fail
  refine(TQ (HN.out _ HB3'.out) HS3.out HX0.out hy.out HAll.out (by have:=HL.out;omega)).mono ?_;rintro e w4⟨B4,b0,m0,d0',b1,m1,d1',b2,m2,d2',b3,m3,d3',p,q,b,rfl,hno,hye⟩;have B4:=hid B4;have B5:=(Below.refl w4.heap.size w4).alloc (Nat.le_refl _) (Obj.cells #[.slice b0 m0 d0',.slice b1 m1 d1',.slice b2 m2 d2',.slice b3 m3 d3',.int .i64 p,.int .i64 q] 102);have D8:=hid (Ac.new w4 #[.slice b0 m0 d0',.slice b1 m1 d1',.slice b2 m2 d2',.slice b3 m3 d3',.int .i64 p,.int .i64 q] 102);have HB5:=hid (HB3.out.trans ((B4.out.trans (B5.mono B4.out.size)).mono HB3.out.size));clear f0 f1 f2 f3 f4;cases b with
  | false=>
   have E:=hid (E.out.trans (show AX (CD n x.dims y.dims ((ins[2]?).map Vl.dims))=(4,[]) by rw[hno rfl];rfl));clear hno hye B5;go_wp2_with fail
   go_ret2
   exact Ff.no (by rw[E.out]) (by decide) HB5.out
  | true=>
   have hY:=hye rfl;have HGd:=hid (Sj HSm.out HYm.out hY);have E:=hid (E.out.trans (show AX (CD n x.dims y.dims ((ins[2]?).map Vl.dims))=(0,_) by rw[hY];rfl));have hl4:=Wa hY;clear hno hye hY;obtain⟨l0,l1,l2,l3,l4,l5⟩:=D8.out.six;have d1:=((B4.out.cell (Al d1.out)).trans d1.out);have d1:=(B5.cell (Al d1)).trans d1;obtain⟨bx,ox,hax,-,gx,u0,-⟩:=Ai (k:=0) HX.out (by omega);obtain⟨b9,o9,hay,-,g9,v0,-⟩:=Ai (k:=0) HY1.out (by omega);subst hax hay;have u0:=(HB5.out.cell gx).trans u0;have v0:=(B4.out.cell g9).trans v0;have v0:=(B5.cell (Al v0)).trans v0;have x0:0<x.dims.length:=by omega
   have x1:(0:Int)<(x.dims.length:Int):=by omega
   have y0:0<y.dims.length:=by omega
   have y1:(0:Int)<(y.dims.length:Int):=by omega
   clear hl4 B5;go_wp2_with fail
   generalize w4.alloc _=w5 at*;have u0:w5.cell? ⟨bx,ox,none⟩=some (.int .i64 (x.dims.getD 0 0)):=u0;have v0:w5.cell? ⟨b9,o9,none⟩=some (.int .i64 (y.dims.getD 0 0)):=v0;generalize x.dims.getD 0 0=X0 at*;generalize y.dims.getD 0 0=Y0 at*;refine Ae 16 [0,1,2,3,4,5,6,7,8,9,10,11,12,13,14,15] (fun W'=>Below w5.heap.size w5 W') (by kernel_rfl) (by kernel_rfl) (fun _ d _ _ _ h=>by cases d<;>exact h) (Below.refl _ _).drew ?_;have BD:Hid (Below w5.heap.size w5 w5.drew):=hid (Below.refl _ _).drew;generalize w5.drew=wD at BD⊢
   repeat
    refine Ah (v:=?_) rfl rfl (Or.inl ⟨by rfl,?_⟩) ?_;rotate_left
    ·intro W' hSw;have u0:=(hSw.cell (Al u0)).trans u0;have v0:=(hSw.cell (Al v0)).trans v0;have d1:=(hSw.cell (Al d1)).trans d1;have l4:=(hSw.cell (Al l4)).trans l4;have l5:=(hSw.cell (Al l5)).trans l5;go_simp
     try with_reducible rfl
    try simp only[Act.put,List.getElem_toArray,List.getElem_cons_zero,List.getElem_cons_succ,List.setIfInBounds_toArray,List.set_cons_zero,List.set_cons_succ]
   refine Av rfl rfl (fun K' hK=>?_);go_simp
   refine hK.out _ _ (BD.out.alloc BD.out.size _) ?_;clear hK K';refine Aq rfl ?_;simp only[List.toList_toArray,List.drop_succ_cons,List.drop_zero];go_wp2_with fail
   go_ret2
   exact Ff.yes E.out (HB5.out.trans ((BD.out.alloc BD.out.size _).mono HB5.out.size)) ((Db (zs:=[X0,Y0,p,q]) (Ac.new _ _ _) (Nat.zero_le _) rfl (by simp)).ints HGd.out.1 HGd.out.2)
 iterate 2
  ·have E:Hid (A9 n ins=AX (BZ n x.dims)):=hid (by unfold A9;rw[hk];simp only[gv HX0.out]);go_wp2_with fail
   refine(TP (HN.out _ HB3'.out) HX3.out HSm.out).mono ?_;rintro e w4⟨B4,b0,m0,d0',b1,m1,d1',b2,m2,d2',b3,m3,d3',p,q,b,rfl,hno,hye⟩;have B4:=hid B4;have B5:=(Below.refl w4.heap.size w4).alloc (Nat.le_refl _) (Obj.cells #[.slice b0 m0 d0',.slice b1 m1 d1',.slice b2 m2 d2',.slice b3 m3 d3',.int .i64 p,.int .i64 q] 102);have D8:=hid (Ac.new w4 #[.slice b0 m0 d0',.slice b1 m1 d1',.slice b2 m2 d2',.slice b3 m3 d3',.int .i64 p,.int .i64 q] 102);have HB5:=hid (HB3.out.trans ((B4.out.trans (B5.mono B4.out.size)).mono HB3.out.size));clear f0 f1 f2 f3 f4;cases b with
   | false=>
    have E:=hid (E.out.trans (show AX (BZ n x.dims)=(4,[]) by rw[hno rfl];rfl));clear hno hye B5;go_wp2_with fail
    go_ret2
    exact Ff.no (by rw[E.out]) (by decide) HB5.out
   | true=>
    have hY:=hye rfl;have HGd:=hid (Sk HSm.out hY);have E:=hid (E.out.trans (show AX (BZ n x.dims)=(0,_) by rw[hY];rfl));have hl4:=Wb hY;clear hno hye hY;obtain⟨l0,l1,l2,l3,l4,l5⟩:=D8.out.six;obtain⟨bx,ox,hax,-,gx,u0,-⟩:=Ai (k:=0) HX.out (by omega);obtain⟨b9,o9,hay,-,-,u1,-⟩:=Ai (k:=1) HX.out (by omega);rw[hax]at hay;obtain⟨rfl,rfl⟩:bx=b9∧ox=o9:=by simpa using hay
    subst hax;have u0:=(HB5.out.cell gx).trans u0;have u1:=(HB5.out.cell gx).trans u1;have x0:0<x.dims.length:=by omega
    have x1:(0:Int)<(x.dims.length:Int):=by omega
    have x2:(1:Int)<(x.dims.length:Int):=by omega
    clear hl4 B5 hay;go_wp2_with fail
    generalize w4.alloc _=w5 at*;have u0:w5.cell? ⟨bx,ox,none⟩=some (.int .i64 (x.dims.getD 0 0)):=u0;generalize x.dims.getD 0 0=X0 at*;generalize x.dims.getD 1 0=X1 at*;refine Ae 13 [0,1,2,3,4,5,6,7,8,9,10,11,12] (fun W'=>Below w5.heap.size w5 W') (by kernel_rfl) (by kernel_rfl) (fun _ d _ _ _ h=>by cases d<;>exact h) (Below.refl _ _).drew ?_;have BD:Hid (Below w5.heap.size w5 w5.drew):=hid (Below.refl _ _).drew;generalize w5.drew=wD at BD⊢
    repeat
     refine Ah (v:=?_) rfl rfl (Or.inl ⟨by rfl,?_⟩) ?_;rotate_left
     ·intro W' hSw;have u0:=(hSw.cell (Al u0)).trans u0;have u1:=(hSw.cell (Al u1)).trans u1;have l4:=(hSw.cell (Al l4)).trans l4;have l5:=(hSw.cell (Al l5)).trans l5;go_simp
      try with_reducible rfl
     try simp only[Act.put,List.getElem_toArray,List.getElem_cons_zero,List.getElem_cons_succ,List.setIfInBounds_toArray,List.set_cons_zero,List.set_cons_succ]
    refine Av rfl rfl (fun K' hK=>?_);go_simp
    refine hK.out _ _ (BD.out.alloc BD.out.size _) ?_;clear hK K';refine Aq rfl ?_;simp only[List.toList_toArray,List.drop_succ_cons,List.drop_zero];go_wp2_with fail
    go_ret2
    exact Ff.yes E.out (HB5.out.trans ((BD.out.alloc BD.out.size _).mono HB5.out.size)) ((Db (zs:=[X0,X1,p,q]) (Ac.new _ _ _) (Nat.zero_le _) rfl (by simp)).ints HGd.out.1 HGd.out.2)
 ·--GAP
  have E:Hid (A9 n ins=AX (Hl x.dims)):=hid (by unfold A9;rw[hk];simp only[gv HX0.out]);by_cases l4:x.dims.length=4
  case neg=>
   have E:=hid (E.out.trans (show AX (Hl x.dims)=(4,[]) by unfold Hl;rw[if_neg l4];rfl));have l4:¬(x.dims.length:Int)=4:=by omega
   go_wp2_with fail
   go_ret2
   exact Ff.no (by rw[E.out]) (by decide) HB3.out
  case pos=>
   have E:=hid (E.out.trans (show AX (Hl x.dims)=(0,[x.dims.getD 0 0,x.dims.getD 1 0,1,1]) by unfold Hl;rw[if_pos l4];rfl));obtain⟨bx,ox,hax,-,gx,u0,i0⟩:=Ai (k:=0) HX.out (by omega);obtain⟨b9,o9,hay,-,-,u1,i1⟩:=Ai (k:=1) HX.out (by omega);rw[hax]at hay;obtain⟨rfl,rfl⟩:bx=b9∧ox=o9:=by simpa using hay
   subst hax;have u0:=(HB3.out.cell gx).trans u0;have u1:=(HB3.out.cell gx).trans u1;have x0:0<x.dims.length:=by omega
   have x1:(0:Int)<(x.dims.length:Int):=by omega
   have x2:(1:Int)<(x.dims.length:Int):=by omega
   have l5:(x.dims.length:Int)=4:=by omega
   clear l4 hay;go_wp2_with fail
   clear f0 f1 f2 f3 f4;have u0:w3.cell? ⟨bx,ox,none⟩=some (.int .i64 (x.dims.getD 0 0)):=u0;generalize x.dims.getD 0 0=X0 at*;generalize x.dims.getD 1 0=X1 at*;clear l5;refine Ae 7 [0,1,2,3,4,5,6] (fun W'=>Below w3.heap.size w3 W') (by kernel_rfl) (by kernel_rfl) (fun _ d _ _ _ h=>by cases d<;>exact h) (Below.refl _ _).drew ?_;have BD:Hid (Below w3.heap.size w3 w3.drew):=hid (Below.refl _ _).drew;generalize w3.drew=wD at BD⊢
   repeat
    refine Ah (v:=?_) rfl rfl (Or.inl ⟨by rfl,?_⟩) ?_;rotate_left
    ·intro W' hSw;have u0:=(hSw.cell (Al u0)).trans u0;have u1:=(hSw.cell (Al u1)).trans u1;go_simp
     try with_reducible rfl
    try simp only[Act.put,List.getElem_toArray,List.getElem_cons_zero,List.getElem_cons_succ,List.setIfInBounds_toArray,List.set_cons_zero,List.set_cons_succ]
   refine Av rfl rfl (fun K' hK=>?_);go_simp
   refine hK.out _ _ (BD.out.alloc BD.out.size _) ?_;clear hK K';refine Aq rfl ?_;simp only[List.toList_toArray,List.drop_succ_cons,List.drop_zero];go_wp2_with fail
   go_ret2
   exact Ff.yes E.out (HB3.out.trans ((BD.out.alloc BD.out.size _).mono HB3.out.size)) ((Db (zs:=[X0,X1,1,1]) (Ac.new _ _ _) (Nat.zero_le _) rfl (by simp)).ints (by simp) (by simpa using⟨i0,i1,FK⟩))
 ·--BN
  have E:Hid (A9 n ins=AX (Nz x.dims (ins.drop 1))):=hid (by unfold A9;rw[hk];simp only[gv HX0.out]);have hl5:ins.length=5:=by have:=HL.out;omega
  have HL5:=hid hl5;clear hl5;have hB0:Rg x.dims (ins.drop 1) 0=decide ((2:Int)≤(x.dims.length:Int)):=by
   unfold Rg;rw[decide_eq_decide];simp;omega
  go_wp2_with fail
  clear f0 f1 f2 f3 f4;go_loopw [18,19] (fun ov i wr=>∃(k:Nat) (ok:Bool),1≤k∧k≤5∧i=.int .i64 (k:Int)∧ov=.bool ok∧Hid (ok=Rg x.dims (ins.drop 1) (k-1))∧Hid (Below w3.heap.size w3 wr)) (fun _ i _=>5-(intOf i).toNat)
  case atStart=>exact⟨1,_,by omega,by omega,rfl,rfl,hid hB0.symm,hid (Below.refl _ _)⟩
  case round=>
   obtain⟨k,ok,hk1,hk5,rfl,rfl,hO,hW⟩:=hrel;have HBr:=hid (HB3.out.trans (hW.out.mono HB3.out.size));have hN:=fun(v:Value)=>CQ (w:=wr) (v:=v) (b:=false) (x:=none) rfl (fun _ e=>by cases e);have hS:=fun(k:Nat)=>CQ (w:=wr) (b:=true) (x:=some x.dims) rfl (fun _ e=>by cases e;exact HX.out.below HBr.out);cases ok with
   | false=>
    have E:=hid (E.out.trans (show AX (Nz x.dims (ins.drop 1))=AX none by rw[Z8 hO.out.symm]));by_cases c:(k:Int)<5
    all_goals
     go_wp2_with fail
     with_reducible refine(hN _).mono ?_
     rintro e w6 h6;obtain⟨a7,k7,c7,rfl,B6,-⟩:=h6.form;have H6:=hid (h6.base HBr.out);clear h6;go_wp2_with fail
     go_ret2
     rw[E.out];exact H6.out
   | true=>
    by_cases hk4:k<5
    case neg=>
     have c:¬(k:Int)<5:=by omega
     have E:=hid (E.out.trans (show AX (Nz x.dims (ins.drop 1))=AX (some x.dims) by rw[YA (k:=k-1) (by rw[List.length_drop,HL5.out];omega) hO.out.symm]));go_wp2_with fail
     with_reducible refine(hS 0).mono ?_
     rintro e w6 h6;obtain⟨a7,k7,c7,rfl,B6,-⟩:=h6.form;have H6:=hid (h6.base HBr.out);clear h6;go_wp2_with fail
     go_ret2
     rw[E.out];exact H6.out
    have c:(k:Int)<5:=by omega
    clear hN hS;obtain⟨v,hv⟩:∃v,ins[k]?=some v:=⟨_,List.getElem?_eq_getElem (by rw[HL5.out];exact hk4)⟩;obtain⟨av,cv,dv,HV⟩:=HY.out k v hv;have dv:=(HBr.out.cell gi).trans dv;have hki:(0:Int)≤(k:Int)∧(k:Int)<(ins.length:Int):=⟨by omega,by have:=HL5.out;omega⟩;have hx2:2≤x.dims.length:=by
     have:=hO.out.symm;unfold Rg at this;rw[decide_eq_true_eq]at this;exact this.1
    have HN2:Hid (Rg x.dims (ins.drop 1) (k+1-1)=decide (v.dims=[x.dims.getD 1 0])):=hid (by
     rw[←YB hx2,←Wc (x:=x.dims) (l:=ins.drop 1) (k:=k-1) (v:=v) (by rw[List.getElem?_drop,show 1+(k-1)=k by omega];exact hv) hO.out.symm]
     congr 1
     omega)
    have HDw:=hid (fun nq=>below_drewN (Below.refl wr.heap.size wr) nq);have hvl:=HV.wf.1;by_cases lv:v.dims.length=1
    ·obtain⟨b5,o5,ha5,-,g5,u5,-⟩:=Ai (k:=0) HV (by omega);obtain⟨b6,o6,ha6,-,g6,u6,-⟩:=Ai (k:=1) HX.out (by omega);subst ha5 ha6;have u5:wr.cell? ⟨b5,o5,none⟩=some (.int .i64 (v.dims.getD 0 0)):=(HBr.out.cell g5).trans u5;have u6:=(HBr.out.cell g6).trans u6;have G:Hid ((v.dims.getD 0 0==x.dims.getD 1 0)=Rg x.dims (ins.drop 1) (k+1-1)):=hid (by
      rw[HN2.out];have h1:=YC lv;generalize v.dims.getD 0 0=a at*;rw[h1];rw[Bool.eq_iff_iff];simp)
     have l1:((v.dims.length:Int)==1)=true:=by simp;omega
     have v0:0<v.dims.length:=by omega
     have v1:(0:Int)<(v.dims.length:Int):=by omega
     have x2:(1:Int)<(x.dims.length:Int):=by omega
     clear lv hx2 hv HV;generalize v.dims.getD 0 0=va at*;generalize x.dims.getD 1 0=xa at*;go_wp2_with fail
     go_quiet (fail)
     have B:=HDw.out nq;go_wp2_with fail
     go_roundw
     case rel=>exact⟨k+1,(va==xa),by omega,by omega,by go_num,by first|rfl|simp,G,hid (hW.out.trans (B.mono hW.out.size))⟩
     case measure=>simp[intOf];omega
    ·have G:Hid (false=Rg x.dims (ins.drop 1) (k+1-1)):=hid (by
      rw[HN2.out]
      symm
      rw[decide_eq_false_iff_not];intro e;rw[e]at lv;exact lv rfl)
     have l1:((v.dims.length:Int)==1)=false:=by simp;omega
     clear lv hx2 hv HV;go_wp2_with fail
     go_quiet (fail)
     have B:=HDw.out nq;go_wp2_with fail
     go_roundw
     case rel=>exact⟨k+1,false,by omega,by omega,by go_num,rfl,G,hid (hW.out.trans (B.mono hW.out.size))⟩
     case measure=>simp[intOf];omega
 iterate 4
  ·have E:Hid (A9 n ins=Hf n x.dims):=hid (by unfold A9;rw[hk];simp only[gv HX0.out]);go_wp2_with fail
   refine(NC (HN.out _ HB3'.out) hxl).mono ?_;rintro e w4⟨B4,v4,zs,okb,rfl,hi4,hr4⟩;have HB4:=hid (HB3.out.trans (B4.mono HB3.out.size));have HR:=hid (hr4 x.dims rfl);have HI4:=hid hi4;clear B4 hi4 hr4;go_wp2_with fail
   refine(Js _ (HX.out.below HB4.out) HI4.out).mono ?_;rintro e w5⟨B5,v5,rfl,hr5⟩;have HB5:=hid (HB4.out.trans (B5.mono HB4.out.size));have HI5:=hid (hr5.ints (by have:=ER x.dims zs (decide (AH n.attrs CT 1=1)) x.dims.length;omega) (Nb HX.out.wf.2 _ (Nat.le_refl _)));clear B5 hr5;go_wp2_with fail
   refine(CQ (x:=A7 n x.dims) (by rw[HR.out];cases okb<;>rfl) (fun ws e=>by
    rw[HR.out]at e;cases okb with
    | false=>cases e
    | true=>cases e;exact HI5.out)).mono ?_
   rintro e w6 h6;obtain⟨a7,k7,c7,rfl,B6,-⟩:=h6.form;have H6:=hid (h6.base HB5.out);clear h6;go_wp2_with fail
   go_ret2
   rw[E.out];exact H6.out
end
end Go.Proofs.YtkkeehnldcdccaaGreatDoor
