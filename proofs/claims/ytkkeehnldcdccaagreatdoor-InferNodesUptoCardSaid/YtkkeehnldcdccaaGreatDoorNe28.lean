import Derived.Test.YtkkeehnldcdccaaGreatDoorNe27
set_option linter.unusedVariables false
set_option linter.unusedSimpArgs false
set_option maxRecDepth 100000
set_option maxHeartbeats 4000000
namespace Go.Proofs.YtkkeehnldcdccaaGreatDoor
open Go.RowKit
section
def VC:List (List UInt8×Nat×Nat×Nat):=[([67,111,110,115,116,97,110,116],0,0,0),([73,100,101,110,116,105,116,121],1,1,1),([78,101,103],1,1,1),([65,98,115],1,1,1),([78,111,116],1,1,1),([82,101,108,117],1,1,1),([83,113,114,116],1,1,1),([70,108,111,111,114],1,1,1),([69,120,112],1,1,1),([83,105,103,109,111,105,100],1,1,1),([84,97,110,104],1,1,1),([69,113,117,97,108],2,2,2),([76,101,115,115],2,2,2),([71,114,101,97,116,101,114],2,2,2),([65,100,100],3,2,2),([83,117,98],3,2,2),([77,117,108],3,2,2),([68,105,118],3,2,2),([77,97,120],3,2,2),([77,105,110],3,2,2),([65,110,100],3,2,2),([79,114],3,2,2),([88,111,114],3,2,2),([87,104,101,114,101],4,3,3),([67,97,115,116],5,1,1),([82,101,100,117,99,101,83,117,109],6,1,1),([82,101,100,117,99,101,77,97,120],6,1,1),([65,114,103,77,97,120],7,1,1),([67,111,110,99,97,116],8,1,20),([71,97,116,104,101,114],9,2,2),([82,101,115,104,97,112,101],10,1,1),([69,120,112,97,110,100],11,1,1),([84,114,97,110,115,112,111,115,101],12,1,1),([83,108,105,99,101],13,1,1),([83,113,117,101,101,122,101],14,1,1),([85,110,115,113,117,101,101,122,101],15,1,1),([70,108,97,116,116,101,110],16,1,1),([80,97,100],17,1,1),([67,108,105,112],18,1,1),([83,111,102,116,109,97,120],19,1,1),([82,101,100,117,99,101,77,101,97,110],20,1,1),([77,97,116,77,117,108],21,2,2),([71,101,109,109],22,2,3),([67,111,110,118],23,2,3),([77,97,120,80,111,111,108],24,1,1),([65,118,101,114,97,103,101,80,111,111,108],24,1,1),([71,108,111,98,97,108,65,118,101,114,97,103,101,80,111,111,108],25,1,1),([66,97,116,99,104,78,111,114,109,97,108,105,122,97,116,105,111,110],26,5,5)]
def AC(op:List UInt8):Nat:=match VC.find? (fun q=>q.1==op)with |some q=>q.2.1|none=>99
def Dy:Vl:=⟨⟨#[]⟩,0,[]⟩
theorem gv{ins:List Vl}{j:Nat}{x:Vl}(h:ins[j]?=some x):ins.getD j Dy=x:=by simp[List.getD,h]
def cA(n:Nd):At:=(n.attrs.find? DT).getD At.zero
def Bt(n:Nd)(ins:List Vl):Int×Int:=match AC n.op.toList with
 | 0=>(0,(cA n).typ)
 | 1=>CH (Fl.un n.op.toList (ins.getD 0 Dy).typ 0).2 (ins.getD 0 Dy).typ
 | 2=>Fc (Fl.Eh n.op.toList (ins.getD 0 Dy).typ 0 0).2 (Ci ins (ins.getD 0 Dy).typ)
 | 3=>Dg (Fl.Eh n.op.toList (ins.getD 0 Dy).typ 0 0).2 (Ci ins (ins.getD 0 Dy).typ) (ins.getD 0 Dy).typ
 | 4=>IT (ins.getD 0 Dy).typ (ins.getD 1 Dy).typ (ins.getD 2 Dy).typ
 | 5=>JK (AH n.attrs JL 0)
 | 6=>DF (ins.getD 0 Dy).typ (ins.getD 0 Dy).typ
 | 7=>DF (ins.getD 0 Dy).typ 7
 | 8=>Dh (Ci ins (ins.getD 0 Dy).typ) (ins.getD 0 Dy).typ
 | 9=>Hh (ins.getD 1 Dy).typ (ins.getD 0 Dy).typ
 | 10=>(0,(ins.getD 0 Dy).typ)
 | 11=>(0,(ins.getD 0 Dy).typ)
 | 12=>(0,(ins.getD 0 Dy).typ)
 | 13=>(0,(ins.getD 0 Dy).typ)
 | 14=>(0,(ins.getD 0 Dy).typ)
 | 15=>(0,(ins.getD 0 Dy).typ)
 | 16=>(0,(ins.getD 0 Dy).typ)
 | _=>Dh (Ci ins 1) (ins.getD 0 Dy).typ
def A9(n:Nd)(ins:List Vl):Int×List Int:=match AC n.op.toList with
 | 0=>(0,(cA n).dims)
 | 1=>(0,(ins.getD 0 Dy).dims)
 | 2=>Vb.Bx (ins.getD 0 Dy).dims (ins.getD 1 Dy).dims
 | 3=>Vb.Bx (ins.getD 0 Dy).dims (ins.getD 1 Dy).dims
 | 4=>Fe (ins.getD 0 Dy).dims (ins.getD 1 Dy).dims (ins.getD 2 Dy).dims
 | 5=>(0,(ins.getD 0 Dy).dims)
 | 6=>Hf n (ins.getD 0 Dy).dims
 | 7=>Hf n (ins.getD 0 Dy).dims
 | 8=>AX (BV n (ins.getD 0 Dy).dims (ins.drop 1))
 | 9=>LH n (ins.getD 0 Dy).dims (ins.getD 1 Dy).dims
 | 10=>AX (Bv n (ins.getD 0 Dy).dims)
 | 11=>LG n (ins.getD 0 Dy).dims
 | 12=>AX (Cb n (ins.getD 0 Dy).dims)
 | 13=>AX (BY n (ins.getD 0 Dy).dims)
 | 14=>AX (Bn n (ins.getD 0 Dy).dims)
 | 15=>AX (Dd n (ins.getD 0 Dy).dims)
 | 16=>AX (Dm n (ins.getD 0 Dy).dims)
 | 17=>AX (Ej n (ins.getD 0 Dy).dims)
 | 18=>(0,(ins.getD 0 Dy).dims)
 | 19=>FY n (ins.getD 0 Dy).dims
 | 20=>Hf n (ins.getD 0 Dy).dims
 | 21=>Au (ins.getD 0 Dy).dims (ins.getD 1 Dy).dims
 | 22=>CC n (ins.getD 0 Dy).dims (ins.getD 1 Dy).dims ((ins[2]?).map Vl.dims)
 | 23=>AX (CD n (ins.getD 0 Dy).dims (ins.getD 1 Dy).dims ((ins[2]?).map Vl.dims))
 | 24=>AX (BZ n (ins.getD 0 Dy).dims)
 | 25=>AX (Hl (ins.getD 0 Dy).dims)
 | _=>AX (Nz (ins.getD 0 Dy).dims (ins.drop 1))
theorem Xq:∀q∈ID,∃r∈VC,q.1=r.1∧q.2.least=(r.2.2.1:Int)∧q.2.most=(r.2.2.2:Int):=by decide+kernel
theorem VD:∀s∈Es,∃r∈VC,s.data.toList=r.1∧r.2.2.1=1∧r.2.2.2=1:=by decide+kernel
theorem K9{n:Nd}(h:AA n=0):∃r∈VC,n.op.toList=r.1∧r.2.2.1≤n.ins.length∧n.ins.length≤r.2.2.2:=by
 unfold AA at h;split at h
 ·omega
 split at h
 ·omega
 split at h
 ·omega
 rename_i h0 h1 h3
 clear h;unfold BR at h0 h1 h3;split at h0
 ·rename_i r hr
  rw[hr]at h1 h3;obtain⟨q,hq,e1,e2,e3⟩:=Xq _ (Ta _ hr);dsimp only at e1 e2 e3 h1 h3;exact⟨q,hq,e1,by omega,by omega⟩
 ·rename_i hr
  rw[hr]at h1 h3;have ho:Cq n.op=true:=by simpa using h0
  obtain⟨s,hs,e⟩:=List.any_eq_true.1 (show Es.any (fun s=>decide (s=n.op))=true from ho);have e:=of_decide_eq_true e;subst e;obtain⟨q,hq,e1,e2,e3⟩:=VD _ hs;dsimp only at h1 h3;exact⟨q,hq,by rw[←e1,ByteArray.toList_eq],by omega,by omega⟩
theorem JY:∀ {l:List Vl},CP l=0→∀v∈l,Cz v.typ 0=true∧(AK v.dims).2=0
 | [],_,v,hv=>by cases hv
 | x::l,h,v,hv=>by
  rw[CP]at h;split at h
  ·omega
  rename_i h1
  split at h
  ·rename_i h2;exact absurd h h2
  rename_i h2
  rcases List.mem_cons.1 hv with rfl|hv
  ·exact⟨by simpa using h1,by simpa using h2⟩
  ·exact JY h v hv
theorem VE{l:List Vl}(h:CP l=0):∀v∈l,Sm v.dims:=fun v hv=>XZ (JY h v hv).2
theorem Mv{ws:List ByteArray}{ats:List At}:∀ {l:List At} {k:Nat},CN ws ats k l=0→∀a∈l,∃j,E9 ws ats j a=0
 | [],k,h,a,ha=>by cases ha
 | b::l,k,h,a,ha=>by
  unfold CN at h;split at h
  ·rename_i h1
   rcases List.mem_cons.1 ha with rfl|ha
   ·exact⟨k,h1⟩
   ·exact Mv h a ha
  ·rename_i h1;exact absurd h h1
def NA:ByteArray:=⟨#[67,111,110,115,116,97,110,116]⟩
def NB:ByteArray:=⟨#[118,97,108,117,101,32,116,42]⟩
def X5:ByteArray:=⟨#[116,104,101,110,32,120]⟩
theorem Pq:Ca (CU (BR NA).1)=[NB,X5]:=by decide+kernel
theorem Xr:Fp EF NB=true:=by decide+kernel
theorem VF:Cc (Bo NB (EF.size+1))=4:=by decide+kernel
theorem La:Lib.hasSuffix (BU NB).data.toList [42]=true∧Ev NB=EF∧Cc (Bo (BU NB++(⟨#[32]⟩:ByteArray)) 0)=4:=by decide+kernel
theorem IY{a:At}:DT a=true↔a.name=EF:=by
 unfold DT;rw[beq_iff_eq];constructor
 ·intro h;exact AP (by rw[h];unfold EF;rw[ByteArray.toList_eq])
 ·intro h;rw[h];unfold EF;rw[ByteArray.toList_eq]
theorem EI{n:Nd}(h:AA n=0)(ho:n.op.toList=[67,111,110,115,116,97,110,116]):∃a,n.attrs.find? DT=some a∧JT a.typ a.dims a.data=0∧Az n.attrs EF 4=some a:=by
 have hop:n.op=NA:=AP (by rw[ho];unfold NA;rw[ByteArray.toList_eq]);unfold AA at h;split at h
 ·omega
 split at h
 ·omega
 split at h
 ·omega
 split at h
 ·omega
 split at h
 ·omega
 split at h
 ·rename_i c;exact absurd h c
 rename_i hA
 split at h
 ·rename_i c;exact absurd h c
 have hA:BW n.attrs (Ca (CU (BR n.op).1))=0:=by simpa using hA
 rw[hop,Pq]at hA;unfold BW at hA;split at hA
 ·rename_i hL
  unfold DA at hA;have hW:Dz n.attrs NB=0:=by
   split at hA
   ·assumption
   ·exact hA
  unfold Dz at hW;have hf:(Az n.attrs EF 4).isSome=true:=by
   rw[La.2.1,La.2.2]at hW;cases hs:(Az n.attrs EF 4).isSome with
   | true=>rfl
   | false=>rw[if_pos ⟨La.1,hs⟩]at hW;omega
  obtain⟨a,ha⟩:=Option.isSome_iff_exists.1 hf;have ham:=List.mem_of_find?_eq_some ha;have hap:=List.find?_some ha;have hn:DT a=true:=by
   unfold Lp at hap;rw[Bool.and_eq_true]at hap;exact IY.2 (of_decide_eq_true hap.1)
  obtain⟨b,hb⟩:∃b,n.attrs.find? DT=some b:=by
   cases e:n.attrs.find? DT with
   | some b=>exact⟨b,rfl⟩
   | none=>exact absurd hn (by simpa using List.find?_eq_none.1 e a ham)
  have hbm:=List.mem_of_find?_eq_some hb;have hbn:=IY.1 (List.find?_some hb);obtain⟨j,hj⟩:=Mv hL b hbm;have hk:b.kind=4:=by
   unfold E9 at hj;rw[hbn,show([NB,X5]:List ByteArray).find? (Fp EF)=some NB by rw[List.find?_cons,Xr]]at hj;dsimp only at hj;rw[VF]at hj;split at hj
   ·omega
   ·rename_i c;have c:=Decidable.not_not.1 c;exact c.symm
  have hab:a=b:=by
   have e2:Az n.attrs EF 4=some b:=by
    unfold Az;rw[List.find?_eq_some_iff_append]at hb⊢;obtain⟨h1,l1,l2,h2,h3⟩:=hb;refine⟨by unfold Lp;rw[hbn,hk];rfl,l1,l2,h2,fun c hc=>?_⟩;have:=h3 c hc;cases e:Lp EF 4 c with
    | false=>rfl
    | true=>
     unfold Lp at e;rw[Bool.and_eq_true]at e;rw[IY.2 (of_decide_eq_true e.1)]at this;cases this
   rw[ha]at e2;exact Option.some.inj e2
  subst hab;refine⟨a,hb,?_,ha⟩;rw[show(⟨#[118,97,108,117,101]⟩:ByteArray)=EF from rfl,ha]at h;dsimp only at h;rw[if_pos (by rw[hop];rfl)]at h;exact h
 ·rename_i c;exact absurd hA c
attribute [local irreducible] Vb.Bx CH Fc Dg DF Dh IT JK Hh Ci Fl.un Fl.Eh Fe Hf FY Au CC LH LG AX BV Bv Cb BY Bn Dd Dm Ej CD BZ Hl Nz AH
theorem Dj{ins:List Vl}{j:Nat}{x:Vl}(h:ins[j]?=some x):x∈ins:=List.mem_of_getElem? h
theorem Xs{w:World}{v:Value}{n:Nd}{ins:List Vl}(h:BF w v n ins)(hc:AA n=0)(hl:ins.length=n.ins.length) :
  Calls Tryz.prog 19 #[v] w fun e w'=>CB (Bt n ins) e∧Below w.heap.size w w':=by
 obtain⟨r,hr,ho,h1,h2⟩:=K9 hc;simp only[VC,List.mem_cons,List.not_mem_nil,or_false]at hr;rcases hr with rfl|rfl|rfl|rfl|rfl|rfl|rfl|rfl|rfl|rfl|rfl|rfl|rfl|rfl|rfl|rfl|rfl|rfl|rfl|rfl|rfl|rfl|rfl|rfl|rfl|rfl|rfl|rfl|rfl|rfl|rfl|rfl|rfl|rfl|rfl|rfl|rfl|rfl|rfl|rfl|rfl|rfl|rfl|rfl|rfl|rfl|rfl|rfl
 ·--Constant
  dsimp only at ho h1 h2;have hk:AC n.op.toList=0:=by rw[ho];rfl
  obtain⟨a,ha,-⟩:=EI hc ho;have e:Bt n ins=(0,a.typ):=by unfold Bt;rw[hk];unfold cA;rw[ha];rfl
  rw[e];exact Nn h ha ho
 ·--Identity
  dsimp only at ho h1 h2;have hk:AC n.op.toList=1:=by rw[ho];rfl
  obtain⟨x,hx⟩:=BH ins 0 (by omega);have e:Bt n ins=CH (Fl.un n.op.toList x.typ 0).2 x.typ:=by unfold Bt;rw[hk];simp only[gv hx]
  rw[e];exact Nj h hx ho
 ·--Neg
  dsimp only at ho h1 h2;have hk:AC n.op.toList=1:=by rw[ho];rfl
  obtain⟨x,hx⟩:=BH ins 0 (by omega);have e:Bt n ins=CH (Fl.un n.op.toList x.typ 0).2 x.typ:=by unfold Bt;rw[hk];simp only[gv hx]
  rw[e];exact Xf h hx ho
 ·--Abs
  dsimp only at ho h1 h2;have hk:AC n.op.toList=1:=by rw[ho];rfl
  obtain⟨x,hx⟩:=BH ins 0 (by omega);have e:Bt n ins=CH (Fl.un n.op.toList x.typ 0).2 x.typ:=by unfold Bt;rw[hk];simp only[gv hx]
  rw[e];exact Xg h hx ho
 ·--Not
  dsimp only at ho h1 h2;have hk:AC n.op.toList=1:=by rw[ho];rfl
  obtain⟨x,hx⟩:=BH ins 0 (by omega);have e:Bt n ins=CH (Fl.un n.op.toList x.typ 0).2 x.typ:=by unfold Bt;rw[hk];simp only[gv hx]
  rw[e];exact Xd h hx ho
 ·--Relu
  dsimp only at ho h1 h2;have hk:AC n.op.toList=1:=by rw[ho];rfl
  obtain⟨x,hx⟩:=BH ins 0 (by omega);have e:Bt n ins=CH (Fl.un n.op.toList x.typ 0).2 x.typ:=by unfold Bt;rw[hk];simp only[gv hx]
  rw[e];exact OR h hx ho
 ·--Sqrt
  dsimp only at ho h1 h2;have hk:AC n.op.toList=1:=by rw[ho];rfl
  obtain⟨x,hx⟩:=BH ins 0 (by omega);have e:Bt n ins=CH (Fl.un n.op.toList x.typ 0).2 x.typ:=by unfold Bt;rw[hk];simp only[gv hx]
  rw[e];exact UX h hx ho
 ·--Floor
  dsimp only at ho h1 h2;have hk:AC n.op.toList=1:=by rw[ho];rfl
  obtain⟨x,hx⟩:=BH ins 0 (by omega);have e:Bt n ins=CH (Fl.un n.op.toList x.typ 0).2 x.typ:=by unfold Bt;rw[hk];simp only[gv hx]
  rw[e];exact Tf h hx ho
 ·--Exp
  dsimp only at ho h1 h2;have hk:AC n.op.toList=1:=by rw[ho];rfl
  obtain⟨x,hx⟩:=BH ins 0 (by omega);have e:Bt n ins=CH (Fl.un n.op.toList x.typ 0).2 x.typ:=by unfold Bt;rw[hk];simp only[gv hx]
  rw[e];exact Xh h hx ho
 ·--Sigmoid
  dsimp only at ho h1 h2;have hk:AC n.op.toList=1:=by rw[ho];rfl
  obtain⟨x,hx⟩:=BH ins 0 (by omega);have e:Bt n ins=CH (Fl.un n.op.toList x.typ 0).2 x.typ:=by unfold Bt;rw[hk];simp only[gv hx]
  rw[e];exact OT h hx ho
 ·--Tanh
  dsimp only at ho h1 h2;have hk:AC n.op.toList=1:=by rw[ho];rfl
  obtain⟨x,hx⟩:=BH ins 0 (by omega);have e:Bt n ins=CH (Fl.un n.op.toList x.typ 0).2 x.typ:=by unfold Bt;rw[hk];simp only[gv hx]
  rw[e];exact UY h hx ho
 ·--Equal
  dsimp only at ho h1 h2;have hk:AC n.op.toList=2:=by rw[ho];rfl
  obtain⟨x,hx⟩:=BH ins 0 (by omega);have e:Bt n ins=Fc (Fl.Eh n.op.toList x.typ 0 0).2 (Ci ins x.typ):=by unfold Bt;rw[hk];simp only[gv hx]
  rw[e];exact Tb h hx ho
 ·--Less
  dsimp only at ho h1 h2;have hk:AC n.op.toList=2:=by rw[ho];rfl
  obtain⟨x,hx⟩:=BH ins 0 (by omega);have e:Bt n ins=Fc (Fl.Eh n.op.toList x.typ 0 0).2 (Ci ins x.typ):=by unfold Bt;rw[hk];simp only[gv hx]
  rw[e];exact UL h hx ho
 ·--Greater
  dsimp only at ho h1 h2;have hk:AC n.op.toList=2:=by rw[ho];rfl
  obtain⟨x,hx⟩:=BH ins 0 (by omega);have e:Bt n ins=Fc (Fl.Eh n.op.toList x.typ 0 0).2 (Ci ins x.typ):=by unfold Bt;rw[hk];simp only[gv hx]
  rw[e];exact OL h hx ho
 ·--Add
  dsimp only at ho h1 h2;have hk:AC n.op.toList=3:=by rw[ho];rfl
  obtain⟨x,hx⟩:=BH ins 0 (by omega);have e:Bt n ins=Dg (Fl.Eh n.op.toList x.typ 0 0).2 (Ci ins x.typ) x.typ:=by unfold Bt;rw[hk];simp only[gv hx]
  rw[e];exact WW h hx ho
 ·--Sub
  dsimp only at ho h1 h2;have hk:AC n.op.toList=3:=by rw[ho];rfl
  obtain⟨x,hx⟩:=BH ins 0 (by omega);have e:Bt n ins=Dg (Fl.Eh n.op.toList x.typ 0 0).2 (Ci ins x.typ) x.typ:=by unfold Bt;rw[hk];simp only[gv hx]
  rw[e];exact WX h hx ho
 ·--Mul
  dsimp only at ho h1 h2;have hk:AC n.op.toList=3:=by rw[ho];rfl
  obtain⟨x,hx⟩:=BH ins 0 (by omega);have e:Bt n ins=Dg (Fl.Eh n.op.toList x.typ 0 0).2 (Ci ins x.typ) x.typ:=by unfold Bt;rw[hk];simp only[gv hx]
  rw[e];exact WY h hx ho
 ·--Div
  dsimp only at ho h1 h2;have hk:AC n.op.toList=3:=by rw[ho];rfl
  obtain⟨x,hx⟩:=BH ins 0 (by omega);have e:Bt n ins=Dg (Fl.Eh n.op.toList x.typ 0 0).2 (Ci ins x.typ) x.typ:=by unfold Bt;rw[hk];simp only[gv hx]
  rw[e];exact WZ h hx ho
 ·--Max
  dsimp only at ho h1 h2;have hk:AC n.op.toList=3:=by rw[ho];rfl
  obtain⟨x,hx⟩:=BH ins 0 (by omega);have e:Bt n ins=Dg (Fl.Eh n.op.toList x.typ 0 0).2 (Ci ins x.typ) x.typ:=by unfold Bt;rw[hk];simp only[gv hx]
  rw[e];exact W9 h hx ho
 ·--Min
  dsimp only at ho h1 h2;have hk:AC n.op.toList=3:=by rw[ho];rfl
  obtain⟨x,hx⟩:=BH ins 0 (by omega);have e:Bt n ins=Dg (Fl.Eh n.op.toList x.typ 0 0).2 (Ci ins x.typ) x.typ:=by unfold Bt;rw[hk];simp only[gv hx]
  rw[e];exact Xa h hx ho
 ·--And
  dsimp only at ho h1 h2;have hk:AC n.op.toList=3:=by rw[ho];rfl
  obtain⟨x,hx⟩:=BH ins 0 (by omega);have e:Bt n ins=Dg (Fl.Eh n.op.toList x.typ 0 0).2 (Ci ins x.typ) x.typ:=by unfold Bt;rw[hk];simp only[gv hx]
  rw[e];exact Xb h hx ho
 ·--Or
  dsimp only at ho h1 h2;have hk:AC n.op.toList=3:=by rw[ho];rfl
  obtain⟨x,hx⟩:=BH ins 0 (by omega);have e:Bt n ins=Dg (Fl.Eh n.op.toList x.typ 0 0).2 (Ci ins x.typ) x.typ:=by unfold Bt;rw[hk];simp only[gv hx]
  rw[e];exact Yn h hx ho
 ·--Xor
  dsimp only at ho h1 h2;have hk:AC n.op.toList=3:=by rw[ho];rfl
  obtain⟨x,hx⟩:=BH ins 0 (by omega);have e:Bt n ins=Dg (Fl.Eh n.op.toList x.typ 0 0).2 (Ci ins x.typ) x.typ:=by unfold Bt;rw[hk];simp only[gv hx]
  rw[e];exact Xc h hx ho
 ·--Where
  dsimp only at ho h1 h2;have hk:AC n.op.toList=4:=by rw[ho];rfl
  obtain⟨x,hx⟩:=BH ins 0 (by omega);obtain⟨y,hy⟩:=BH ins 1 (by omega);obtain⟨z,hz⟩:=BH ins 2 (by omega);have e:Bt n ins=IT x.typ y.typ z.typ:=by unfold Bt;rw[hk];simp only[gv hx,gv hy,gv hz]
  rw[e];exact Ti h hx hy hz ho
 ·--Cast
  dsimp only at ho h1 h2;have hk:AC n.op.toList=5:=by rw[ho];rfl
  obtain⟨x,hx⟩:=BH ins 0 (by omega);have e:Bt n ins=JK (AH n.attrs JL 0):=by unfold Bt;simp only[hk]
  rw[e];exact U1 h hx ho
 ·--ReduceSum
  dsimp only at ho h1 h2;have hk:AC n.op.toList=6:=by rw[ho];rfl
  obtain⟨x,hx⟩:=BH ins 0 (by omega);have e:Bt n ins=DF x.typ x.typ:=by unfold Bt;rw[hk];simp only[gv hx]
  rw[e];exact Ly h hx ho
 ·--ReduceMax
  dsimp only at ho h1 h2;have hk:AC n.op.toList=6:=by rw[ho];rfl
  obtain⟨x,hx⟩:=BH ins 0 (by omega);have e:Bt n ins=DF x.typ x.typ:=by unfold Bt;rw[hk];simp only[gv hx]
  rw[e];exact Lz h hx ho
 ·--ArgMax
  dsimp only at ho h1 h2;have hk:AC n.op.toList=7:=by rw[ho];rfl
  obtain⟨x,hx⟩:=BH ins 0 (by omega);have e:Bt n ins=DF x.typ 7:=by unfold Bt;rw[hk];simp only[gv hx]
  rw[e];exact QF h hx ho
 ·--Concat
  dsimp only at ho h1 h2;have hk:AC n.op.toList=8:=by rw[ho];rfl
  obtain⟨x,hx⟩:=BH ins 0 (by omega);have e:Bt n ins=Dh (Ci ins x.typ) x.typ:=by unfold Bt;rw[hk];simp only[gv hx]
  rw[e];exact QH h hx ho
 ·--Gather
  dsimp only at ho h1 h2;have hk:AC n.op.toList=9:=by rw[ho];rfl
  obtain⟨x,hx⟩:=BH ins 0 (by omega);obtain⟨y,hy⟩:=BH ins 1 (by omega);have e:Bt n ins=Hh y.typ x.typ:=by unfold Bt;rw[hk];simp only[gv hx,gv hy]
  rw[e];exact QJ h hx hy ho
 ·--Reshape
  dsimp only at ho h1 h2;have hk:AC n.op.toList=10:=by rw[ho];rfl
  obtain⟨x,hx⟩:=BH ins 0 (by omega);have e:Bt n ins=(0,x.typ):=by unfold Bt;rw[hk];simp only[gv hx]
  rw[e];exact OZ h hx ho
 ·--Expand
  dsimp only at ho h1 h2;have hk:AC n.op.toList=11:=by rw[ho];rfl
  obtain⟨x,hx⟩:=BH ins 0 (by omega);have e:Bt n ins=(0,x.typ):=by unfold Bt;rw[hk];simp only[gv hx]
  rw[e];exact QI h hx ho
 ·--Transpose
  dsimp only at ho h1 h2;have hk:AC n.op.toList=12:=by rw[ho];rfl
  obtain⟨x,hx⟩:=BH ins 0 (by omega);have e:Bt n ins=(0,x.typ):=by unfold Bt;rw[hk];simp only[gv hx]
  rw[e];exact LA h hx ho
 ·--Slice
  dsimp only at ho h1 h2;have hk:AC n.op.toList=13:=by rw[ho];rfl
  obtain⟨x,hx⟩:=BH ins 0 (by omega);have e:Bt n ins=(0,x.typ):=by unfold Bt;rw[hk];simp only[gv hx]
  rw[e];exact Th h hx ho
 ·--Squeeze
  dsimp only at ho h1 h2;have hk:AC n.op.toList=14:=by rw[ho];rfl
  obtain⟨x,hx⟩:=BH ins 0 (by omega);have e:Bt n ins=(0,x.typ):=by unfold Bt;rw[hk];simp only[gv hx]
  rw[e];exact O0 h hx ho
 ·--Unsqueeze
  dsimp only at ho h1 h2;have hk:AC n.op.toList=15:=by rw[ho];rfl
  obtain⟨x,hx⟩:=BH ins 0 (by omega);have e:Bt n ins=(0,x.typ):=by unfold Bt;rw[hk];simp only[gv hx]
  rw[e];exact LB h hx ho
 ·--Flatten
  dsimp only at ho h1 h2;have hk:AC n.op.toList=16:=by rw[ho];rfl
  obtain⟨x,hx⟩:=BH ins 0 (by omega);have e:Bt n ins=(0,x.typ):=by unfold Bt;rw[hk];simp only[gv hx]
  rw[e];exact O1 h hx ho
 ·--Pad
  dsimp only at ho h1 h2;have hk:AC n.op.toList=17:=by rw[ho];rfl
  obtain⟨x,hx⟩:=BH ins 0 (by omega);have e:Bt n ins=Dh (Ci ins 1) x.typ:=by unfold Bt;rw[hk];simp only[gv hx]
  rw[e];exact C3 h hx (by rw[ho];decide)
 ·--Clip
  dsimp only at ho h1 h2;have hk:AC n.op.toList=18:=by rw[ho];rfl
  obtain⟨x,hx⟩:=BH ins 0 (by omega);have e:Bt n ins=Dh (Ci ins 1) x.typ:=by unfold Bt;rw[hk];simp only[gv hx]
  rw[e];exact C3 h hx (by rw[ho];decide)
 ·--Softmax
  dsimp only at ho h1 h2;have hk:AC n.op.toList=19:=by rw[ho];rfl
  obtain⟨x,hx⟩:=BH ins 0 (by omega);have e:Bt n ins=Dh (Ci ins 1) x.typ:=by unfold Bt;rw[hk];simp only[gv hx]
  rw[e];exact C3 h hx (by rw[ho];decide)
 ·--ReduceMean
  dsimp only at ho h1 h2;have hk:AC n.op.toList=20:=by rw[ho];rfl
  obtain⟨x,hx⟩:=BH ins 0 (by omega);have e:Bt n ins=Dh (Ci ins 1) x.typ:=by unfold Bt;rw[hk];simp only[gv hx]
  rw[e];exact C3 h hx (by rw[ho];decide)
 ·--MatMul
  dsimp only at ho h1 h2;have hk:AC n.op.toList=21:=by rw[ho];rfl
  obtain⟨x,hx⟩:=BH ins 0 (by omega);have e:Bt n ins=Dh (Ci ins 1) x.typ:=by unfold Bt;rw[hk];simp only[gv hx]
  rw[e];exact C3 h hx (by rw[ho];decide)
 ·--Gemm
  dsimp only at ho h1 h2;have hk:AC n.op.toList=22:=by rw[ho];rfl
  obtain⟨x,hx⟩:=BH ins 0 (by omega);have e:Bt n ins=Dh (Ci ins 1) x.typ:=by unfold Bt;rw[hk];simp only[gv hx]
  rw[e];exact C3 h hx (by rw[ho];decide)
 ·--Conv
  dsimp only at ho h1 h2;have hk:AC n.op.toList=23:=by rw[ho];rfl
  obtain⟨x,hx⟩:=BH ins 0 (by omega);have e:Bt n ins=Dh (Ci ins 1) x.typ:=by unfold Bt;rw[hk];simp only[gv hx]
  rw[e];exact C3 h hx (by rw[ho];decide)
 ·--MaxPool
  dsimp only at ho h1 h2;have hk:AC n.op.toList=24:=by rw[ho];rfl
  obtain⟨x,hx⟩:=BH ins 0 (by omega);have e:Bt n ins=Dh (Ci ins 1) x.typ:=by unfold Bt;rw[hk];simp only[gv hx]
  rw[e];exact C3 h hx (by rw[ho];decide)
 ·--AveragePool
  dsimp only at ho h1 h2;have hk:AC n.op.toList=24:=by rw[ho];rfl
  obtain⟨x,hx⟩:=BH ins 0 (by omega);have e:Bt n ins=Dh (Ci ins 1) x.typ:=by unfold Bt;rw[hk];simp only[gv hx]
  rw[e];exact C3 h hx (by rw[ho];decide)
 ·--GlobalAveragePool
  dsimp only at ho h1 h2;have hk:AC n.op.toList=25:=by rw[ho];rfl
  obtain⟨x,hx⟩:=BH ins 0 (by omega);have e:Bt n ins=Dh (Ci ins 1) x.typ:=by unfold Bt;rw[hk];simp only[gv hx]
  rw[e];exact C3 h hx (by rw[ho];decide)
 ·--BatchNormalization
  dsimp only at ho h1 h2;have hk:AC n.op.toList=26:=by rw[ho];rfl
  obtain⟨x,hx⟩:=BH ins 0 (by omega);have e:Bt n ins=Dh (Ci ins 1) x.typ:=by unfold Bt;rw[hk];simp only[gv hx]
  rw[e];exact C3 h hx (by rw[ho];decide)
theorem VG{w:World}{v:Value}{n:Nd}{ins:List Vl}(h:BF w v n ins)(hc:AA n=0)(hl:ins.length=n.ins.length)(hi:CP ins=0)(hax:(Af n.attrs AF []).length *8+48≤140737488351232) :
  Calls Tryz.prog 20 #[v] w fun e w'=>AV w (A9 n ins) e w':=by
 obtain⟨r,hr,ho,h1,h2⟩:=K9 hc;have hsm:=VE hi;simp only[VC,List.mem_cons,List.not_mem_nil,or_false]at hr;rcases hr with rfl|rfl|rfl|rfl|rfl|rfl|rfl|rfl|rfl|rfl|rfl|rfl|rfl|rfl|rfl|rfl|rfl|rfl|rfl|rfl|rfl|rfl|rfl|rfl|rfl|rfl|rfl|rfl|rfl|rfl|rfl|rfl|rfl|rfl|rfl|rfl|rfl|rfl|rfl|rfl|rfl|rfl|rfl|rfl|rfl|rfl|rfl|rfl
 ·--Constant
  dsimp only at ho h1 h2;have hk:AC n.op.toList=0:=by rw[ho];rfl
  obtain⟨a,ha,-⟩:=EI hc ho;have e:A9 n ins=(0,a.dims):=by unfold A9;rw[hk];unfold cA;rw[ha];rfl
  rw[e];exact LM h ha ho
 ·--Identity
  dsimp only at ho h1 h2;have hk:AC n.op.toList=1:=by rw[ho];rfl
  obtain⟨x,hx⟩:=BH ins 0 (by omega);have e:A9 n ins=(0,x.dims):=by unfold A9;rw[hk];simp only[gv hx]
  rw[e];exact LL h hx ho
 ·--Neg
  dsimp only at ho h1 h2;have hk:AC n.op.toList=1:=by rw[ho];rfl
  obtain⟨x,hx⟩:=BH ins 0 (by omega);have e:A9 n ins=(0,x.dims):=by unfold A9;rw[hk];simp only[gv hx]
  rw[e];exact Vz h hx ho
 ·--Abs
  dsimp only at ho h1 h2;have hk:AC n.op.toList=1:=by rw[ho];rfl
  obtain⟨x,hx⟩:=BH ins 0 (by omega);have e:A9 n ins=(0,x.dims):=by unfold A9;rw[hk];simp only[gv hx]
  rw[e];exact VA h hx ho
 ·--Not
  dsimp only at ho h1 h2;have hk:AC n.op.toList=1:=by rw[ho];rfl
  obtain⟨x,hx⟩:=BH ins 0 (by omega);have e:A9 n ins=(0,x.dims):=by unfold A9;rw[hk];simp only[gv hx]
  rw[e];exact UN h hx ho
 ·--Relu
  dsimp only at ho h1 h2;have hk:AC n.op.toList=1:=by rw[ho];rfl
  obtain⟨x,hx⟩:=BH ins 0 (by omega);have e:A9 n ins=(0,x.dims):=by unfold A9;rw[hk];simp only[gv hx]
  rw[e];exact Tt h hx ho
 ·--Sqrt
  dsimp only at ho h1 h2;have hk:AC n.op.toList=1:=by rw[ho];rfl
  obtain⟨x,hx⟩:=BH ins 0 (by omega);have e:A9 n ins=(0,x.dims):=by unfold A9;rw[hk];simp only[gv hx]
  rw[e];exact Tu h hx ho
 ·--Floor
  dsimp only at ho h1 h2;have hk:AC n.op.toList=1:=by rw[ho];rfl
  obtain⟨x,hx⟩:=BH ins 0 (by omega);have e:A9 n ins=(0,x.dims):=by unfold A9;rw[hk];simp only[gv hx]
  rw[e];exact QZ h hx ho
 ·--Exp
  dsimp only at ho h1 h2;have hk:AC n.op.toList=1:=by rw[ho];rfl
  obtain⟨x,hx⟩:=BH ins 0 (by omega);have e:A9 n ins=(0,x.dims):=by unfold A9;rw[hk];simp only[gv hx]
  rw[e];exact VB h hx ho
 ·--Sigmoid
  dsimp only at ho h1 h2;have hk:AC n.op.toList=1:=by rw[ho];rfl
  obtain⟨x,hx⟩:=BH ins 0 (by omega);have e:A9 n ins=(0,x.dims):=by unfold A9;rw[hk];simp only[gv hx]
  rw[e];exact Nx h hx ho
 ·--Tanh
  dsimp only at ho h1 h2;have hk:AC n.op.toList=1:=by rw[ho];rfl
  obtain⟨x,hx⟩:=BH ins 0 (by omega);have e:A9 n ins=(0,x.dims):=by unfold A9;rw[hk];simp only[gv hx]
  rw[e];exact Tv h hx ho
 ·--Equal
  dsimp only at ho h1 h2;have hk:AC n.op.toList=2:=by rw[ho];rfl
  obtain⟨x,hx⟩:=BH ins 0 (by omega);obtain⟨y,hy⟩:=BH ins 1 (by omega);have e:A9 n ins=Vb.Bx x.dims y.dims:=by unfold A9;rw[hk];simp only[gv hx,gv hy]
  rw[e];exact QC h hx hy ho
 ·--Less
  dsimp only at ho h1 h2;have hk:AC n.op.toList=2:=by rw[ho];rfl
  obtain⟨x,hx⟩:=BH ins 0 (by omega);obtain⟨y,hy⟩:=BH ins 1 (by omega);have e:A9 n ins=Vb.Bx x.dims y.dims:=by unfold A9;rw[hk];simp only[gv hx,gv hy]
  rw[e];exact Td h hx hy ho
 ·--Greater
  dsimp only at ho h1 h2;have hk:AC n.op.toList=2:=by rw[ho];rfl
  obtain⟨x,hx⟩:=BH ins 0 (by omega);obtain⟨y,hy⟩:=BH ins 1 (by omega);have e:A9 n ins=Vb.Bx x.dims y.dims:=by unfold A9;rw[hk];simp only[gv hx,gv hy]
  rw[e];exact Nc h hx hy ho
 ·--Add
  dsimp only at ho h1 h2;have hk:AC n.op.toList=3:=by rw[ho];rfl
  obtain⟨x,hx⟩:=BH ins 0 (by omega);obtain⟨y,hy⟩:=BH ins 1 (by omega);have e:A9 n ins=Vb.Bx x.dims y.dims:=by unfold A9;rw[hk];simp only[gv hx,gv hy]
  rw[e];exact UP h hx hy ho
 ·--Sub
  dsimp only at ho h1 h2;have hk:AC n.op.toList=3:=by rw[ho];rfl
  obtain⟨x,hx⟩:=BH ins 0 (by omega);obtain⟨y,hy⟩:=BH ins 1 (by omega);have e:A9 n ins=Vb.Bx x.dims y.dims:=by unfold A9;rw[hk];simp only[gv hx,gv hy]
  rw[e];exact UQ h hx hy ho
 ·--Mul
  dsimp only at ho h1 h2;have hk:AC n.op.toList=3:=by rw[ho];rfl
  obtain⟨x,hx⟩:=BH ins 0 (by omega);obtain⟨y,hy⟩:=BH ins 1 (by omega);have e:A9 n ins=Vb.Bx x.dims y.dims:=by unfold A9;rw[hk];simp only[gv hx,gv hy]
  rw[e];exact UR h hx hy ho
 ·--Div
  dsimp only at ho h1 h2;have hk:AC n.op.toList=3:=by rw[ho];rfl
  obtain⟨x,hx⟩:=BH ins 0 (by omega);obtain⟨y,hy⟩:=BH ins 1 (by omega);have e:A9 n ins=Vb.Bx x.dims y.dims:=by unfold A9;rw[hk];simp only[gv hx,gv hy]
  rw[e];exact US h hx hy ho
 ·--Max
  dsimp only at ho h1 h2;have hk:AC n.op.toList=3:=by rw[ho];rfl
  obtain⟨x,hx⟩:=BH ins 0 (by omega);obtain⟨y,hy⟩:=BH ins 1 (by omega);have e:A9 n ins=Vb.Bx x.dims y.dims:=by unfold A9;rw[hk];simp only[gv hx,gv hy]
  rw[e];exact UT h hx hy ho
 ·--Min
  dsimp only at ho h1 h2;have hk:AC n.op.toList=3:=by rw[ho];rfl
  obtain⟨x,hx⟩:=BH ins 0 (by omega);obtain⟨y,hy⟩:=BH ins 1 (by omega);have e:A9 n ins=Vb.Bx x.dims y.dims:=by unfold A9;rw[hk];simp only[gv hx,gv hy]
  rw[e];exact UU h hx hy ho
 ·--And
  dsimp only at ho h1 h2;have hk:AC n.op.toList=3:=by rw[ho];rfl
  obtain⟨x,hx⟩:=BH ins 0 (by omega);obtain⟨y,hy⟩:=BH ins 1 (by omega);have e:A9 n ins=Vb.Bx x.dims y.dims:=by unfold A9;rw[hk];simp only[gv hx,gv hy]
  rw[e];exact UV h hx hy ho
 ·--Or
  dsimp only at ho h1 h2;have hk:AC n.op.toList=3:=by rw[ho];rfl
  obtain⟨x,hx⟩:=BH ins 0 (by omega);obtain⟨y,hy⟩:=BH ins 1 (by omega);have e:A9 n ins=Vb.Bx x.dims y.dims:=by unfold A9;rw[hk];simp only[gv hx,gv hy]
  rw[e];exact Xe h hx hy ho
 ·--Xor
  dsimp only at ho h1 h2;have hk:AC n.op.toList=3:=by rw[ho];rfl
  obtain⟨x,hx⟩:=BH ins 0 (by omega);obtain⟨y,hy⟩:=BH ins 1 (by omega);have e:A9 n ins=Vb.Bx x.dims y.dims:=by unfold A9;rw[hk];simp only[gv hx,gv hy]
  rw[e];exact UW h hx hy ho
 ·--Where
  dsimp only at ho h1 h2;have hk:AC n.op.toList=4:=by rw[ho];rfl
  obtain⟨x,hx⟩:=BH ins 0 (by omega);obtain⟨y,hy⟩:=BH ins 1 (by omega);obtain⟨z,hz⟩:=BH ins 2 (by omega);have e:A9 n ins=Fe x.dims y.dims z.dims:=by unfold A9;rw[hk];simp only[gv hx,gv hy,gv hz]
  rw[e];exact Q0 h hx hy hz ho
 ·--Cast
  dsimp only at ho h1 h2;have hk:AC n.op.toList=5:=by rw[ho];rfl
  obtain⟨x,hx⟩:=BH ins 0 (by omega);have e:A9 n ins=(0,x.dims):=by unfold A9;rw[hk];simp only[gv hx]
  rw[e];exact Tx h hx ho
 ·--ReduceSum
  dsimp only at ho h1 h2;have hk:AC n.op.toList=6:=by rw[ho];rfl
  obtain⟨x,hx⟩:=BH ins 0 (by omega);have e:A9 n ins=Hf n x.dims:=by unfold A9;rw[hk];simp only[gv hx]
  rw[e];exact KR h hx ho
 ·--ReduceMax
  dsimp only at ho h1 h2;have hk:AC n.op.toList=6:=by rw[ho];rfl
  obtain⟨x,hx⟩:=BH ins 0 (by omega);have e:A9 n ins=Hf n x.dims:=by unfold A9;rw[hk];simp only[gv hx]
  rw[e];exact KS h hx ho
 ·--ArgMax
  dsimp only at ho h1 h2;have hk:AC n.op.toList=7:=by rw[ho];rfl
  obtain⟨x,hx⟩:=BH ins 0 (by omega);have e:A9 n ins=Hf n x.dims:=by unfold A9;rw[hk];simp only[gv hx]
  rw[e];exact OS h hx ho
 ·--Concat
  dsimp only at ho h1 h2;have hk:AC n.op.toList=8:=by rw[ho];rfl
  obtain⟨x,hx⟩:=BH ins 0 (by omega);have e:A9 n ins=AX (BV n x.dims (ins.drop 1)):=by unfold A9;rw[hk];simp only[gv hx]
  rw[e];exact CS h hx (fun W u vx hB hm hv=>Nr hm hv (hsm _ (Dj hx)) (by omega) hsm (by omega) ho) (by rw[ho];decide)
 ·--Gather
  dsimp only at ho h1 h2;have hk:AC n.op.toList=9:=by rw[ho];rfl
  obtain⟨x,hx⟩:=BH ins 0 (by omega);obtain⟨y,hy⟩:=BH ins 1 (by omega);have e:A9 n ins=LH n x.dims y.dims:=by unfold A9;rw[hk];simp only[gv hx,gv hy]
  rw[e];exact CS h hx (fun W u vx hB hm hv=>Nt hm hv (hsm _ (Dj hx)) hy (hsm _ (Dj hy)) ho) (by rw[ho];decide)
 ·--Reshape
  dsimp only at ho h1 h2;have hk:AC n.op.toList=10:=by rw[ho];rfl
  obtain⟨x,hx⟩:=BH ins 0 (by omega);have e:A9 n ins=AX (Bv n x.dims):=by unfold A9;rw[hk];simp only[gv hx]
  rw[e];exact CS h hx (fun W u vx hB hm hv=>LI hm hv (hsm _ (Dj hx)) ho) (by rw[ho];decide)
 ·--Expand
  dsimp only at ho h1 h2;have hk:AC n.op.toList=11:=by rw[ho];rfl
  obtain⟨x,hx⟩:=BH ins 0 (by omega);have e:A9 n ins=LG n x.dims:=by unfold A9;rw[hk];simp only[gv hx]
  rw[e];exact CS h hx (fun W u vx hB hm hv=>Ns hm hv (hsm _ (Dj hx)) ho) (by rw[ho];decide)
 ·--Transpose
  dsimp only at ho h1 h2;have hk:AC n.op.toList=12:=by rw[ho];rfl
  obtain⟨x,hx⟩:=BH ins 0 (by omega);have e:A9 n ins=AX (Cb n x.dims):=by unfold A9;rw[hk];simp only[gv hx]
  rw[e];exact CS h hx (fun W u vx hB hm hv=>JN hm hv (hsm _ (Dj hx)) ho) (by rw[ho];decide)
 ·--Slice
  dsimp only at ho h1 h2;have hk:AC n.op.toList=13:=by rw[ho];rfl
  obtain⟨x,hx⟩:=BH ins 0 (by omega);have e:A9 n ins=AX (BY n x.dims):=by unfold A9;rw[hk];simp only[gv hx]
  rw[e];exact CS h hx (fun W u vx hB hm hv=>Ph hm hv (hsm _ (Dj hx)) ho) (by rw[ho];decide)
 ·--Squeeze
  dsimp only at ho h1 h2;have hk:AC n.op.toList=14:=by rw[ho];rfl
  obtain⟨x,hx⟩:=BH ins 0 (by omega);have e:A9 n ins=AX (Bn n x.dims):=by unfold A9;rw[hk];simp only[gv hx]
  rw[e];exact CS h hx (fun W u vx hB hm hv=>LJ hm hv (hsm _ (Dj hx)) ho) (by rw[ho];decide)
 ·--Unsqueeze
  dsimp only at ho h1 h2;have hk:AC n.op.toList=15:=by rw[ho];rfl
  obtain⟨x,hx⟩:=BH ins 0 (by omega);have e:A9 n ins=AX (Dd n x.dims):=by unfold A9;rw[hk];simp only[gv hx]
  rw[e];exact CS h hx (fun W u vx hB hm hv=>JO hm hv (hsm _ (Dj hx)) hax ho) (by rw[ho];decide)
 ·--Flatten
  dsimp only at ho h1 h2;have hk:AC n.op.toList=16:=by rw[ho];rfl
  obtain⟨x,hx⟩:=BH ins 0 (by omega);have e:A9 n ins=AX (Dm n x.dims):=by unfold A9;rw[hk];simp only[gv hx]
  rw[e];exact CS h hx (fun W u vx hB hm hv=>QS hm hv (by rw[ho];decide)) (by rw[ho];decide)
 ·--Pad
  dsimp only at ho h1 h2;have hk:AC n.op.toList=17:=by rw[ho];rfl
  obtain⟨x,hx⟩:=BH ins 0 (by omega);have e:A9 n ins=AX (Ej n x.dims):=by unfold A9;rw[hk];simp only[gv hx]
  rw[e];exact CS h hx (fun W u vx hB hm hv=>Ts hm hv (hsm _ (Dj hx)) ho) (by rw[ho];decide)
 ·--Clip
  dsimp only at ho h1 h2;have hk:AC n.op.toList=18:=by rw[ho];rfl
  obtain⟨x,hx⟩:=BH ins 0 (by omega);have e:A9 n ins=(0,x.dims):=by unfold A9;rw[hk];simp only[gv hx]
  rw[e];exact Tw h hx ho
 ·--Softmax
  dsimp only at ho h1 h2;have hk:AC n.op.toList=19:=by rw[ho];rfl
  obtain⟨x,hx⟩:=BH ins 0 (by omega);have e:A9 n ins=FY n x.dims:=by unfold A9;rw[hk];simp only[gv hx]
  rw[e];exact Nf h hx ho
 ·--ReduceMean
  dsimp only at ho h1 h2;have hk:AC n.op.toList=20:=by rw[ho];rfl
  obtain⟨x,hx⟩:=BH ins 0 (by omega);have e:A9 n ins=Hf n x.dims:=by unfold A9;rw[hk];simp only[gv hx]
  rw[e];exact JJ h hx ho
 ·--MatMul
  dsimp only at ho h1 h2;have hk:AC n.op.toList=21:=by rw[ho];rfl
  obtain⟨x,hx⟩:=BH ins 0 (by omega);obtain⟨y,hy⟩:=BH ins 1 (by omega);have e:A9 n ins=Au x.dims y.dims:=by unfold A9;rw[hk];simp only[gv hx,gv hy]
  rw[e];exact Jn h hx hy ho
 ·--Gemm
  dsimp only at ho h1 h2;have hk:AC n.op.toList=22:=by rw[ho];rfl
  obtain⟨x,hx⟩:=BH ins 0 (by omega);obtain⟨y,hy⟩:=BH ins 1 (by omega);have e:A9 n ins=CC n x.dims y.dims ((ins[2]?).map Vl.dims):=by unfold A9;rw[hk];simp only[gv hx,gv hy]
  rw[e];exact Ty h hx hy rfl (by omega) ho
 ·--Conv
  dsimp only at ho h1 h2;have hk:AC n.op.toList=23:=by rw[ho];rfl
  obtain⟨x,hx⟩:=BH ins 0 (by omega);obtain⟨y,hy⟩:=BH ins 1 (by omega);have e:A9 n ins=AX (CD n x.dims y.dims ((ins[2]?).map Vl.dims)):=by unfold A9;rw[hk];simp only[gv hx,gv hy]
  rw[e];exact Tz h hx hy rfl (by omega) (hsm _ (Dj hx)) (hsm _ (Dj hy)) ho
 ·--MaxPool
  dsimp only at ho h1 h2;have hk:AC n.op.toList=24:=by rw[ho];rfl
  obtain⟨x,hx⟩:=BH ins 0 (by omega);have e:A9 n ins=AX (BZ n x.dims):=by unfold A9;rw[hk];simp only[gv hx]
  rw[e];exact Ny h hx (hsm _ (Dj hx)) ho
 ·--AveragePool
  dsimp only at ho h1 h2;have hk:AC n.op.toList=24:=by rw[ho];rfl
  obtain⟨x,hx⟩:=BH ins 0 (by omega);have e:A9 n ins=AX (BZ n x.dims):=by unfold A9;rw[hk];simp only[gv hx]
  rw[e];exact IX h hx (hsm _ (Dj hx)) ho
 ·--GlobalAveragePool
  dsimp only at ho h1 h2;have hk:AC n.op.toList=25:=by rw[ho];rfl
  obtain⟨x,hx⟩:=BH ins 0 (by omega);have e:A9 n ins=AX (Hl x.dims):=by unfold A9;rw[hk];simp only[gv hx]
  rw[e];exact FU h hx (hsm _ (Dj hx)) ho
 ·--BatchNormalization
  dsimp only at ho h1 h2;have hk:AC n.op.toList=26:=by rw[ho];rfl
  obtain⟨x,hx⟩:=BH ins 0 (by omega);have e:A9 n ins=AX (Nz x.dims (ins.drop 1)):=by unfold A9;rw[hk];simp only[gv hx]
  rw[e];exact Fw h hx (hsm _ (Dj hx)) (by omega) ho
def BL(n:Nd)(ins:List Vl):Int×Int×List Int:=EM n ins (Bt n ins) (A9 n ins)
theorem TA{w:World}{vn vv:Value}{n:Nd}{ins:List Vl}(hn:Ba w vn n)(hs:BJ 3 AM w vv ins)(hG:Eu w)(hax:(Af n.attrs AF []).length *8+48≤140737488351232) :
  Calls Tryz.prog 6 #[vn,vv] w fun e w'=>Dx w n (BL n ins) e w':=
 Nh hn hs hG (fun hc hl _ W v _ hm=>Xs hm hc hl) (fun hc hl hi _ W v _ hm=>VG hm hc hl hi hax)
end
theorem Pr{n:Nd}{ins:List Vl}(h:(BL n ins).1=0):AA n=0∧ins.length=n.ins.length∧CP ins=0∧(Bt n ins).1=0∧(A9 n ins).1=0∧(AK (A9 n ins).2).2=0∧FO (AU n.attrs).1 (Bt n ins).2=true∧BL n ins=(0,(Bt n ins).2,(A9 n ins).2):=by
 unfold BL at h⊢;by_cases a1:AA n=0
 case neg=>rw[He a1]at h;exact absurd h a1
 by_cases a2:ins.length=n.ins.length
 case neg=>rw[KM a1 a2]at h;exact absurd h (by decide)
 by_cases a3:CP ins=0
 case neg=>rw[Il a1 a2 a3]at h;exact absurd h a3
 by_cases a4:(Bt n ins).1=0
 case neg=>rw[Im a1 a2 a3 a4]at h;exact absurd h a4
 by_cases a5:(A9 n ins).1=0
 case neg=>rw[IS a1 a2 a3 a4 a5]at h;exact absurd h a5
 by_cases a6:(AK (A9 n ins).2).2=0
 case neg=>rw[KN a1 a2 a3 a4 a5 a6]at h;exact absurd h a6
 cases a7:FO (AU n.attrs).1 (Bt n ins).2 with
 | false=>rw[KO a1 a2 a3 a4 a5 a6 a7]at h;exact absurd h (by decide)
 | true=>exact⟨a1,a2,a3,a4,a5,a6,rfl,M9 a1 a2 a3 a4 a5 a6 a7⟩
theorem Sl:∀r∈VC,AC r.1=r.2.1∧(r.2.1≠0→1≤r.2.2.1)∧(r.2.1=4→3≤r.2.2.1):=by decide+kernel
theorem getD_in{ins:List Vl}{j:Nat}(h:j<ins.length):ins.getD j Dy∈ins:=by
 rw[List.getD,List.getElem?_eq_getElem h];exact List.getElem_mem h
theorem Ir(t:Int):Cz t 0=Fl.Cz t 0:=by
 unfold Cz Fl.Cz
 repeat' split
 all_goals first|rfl|decide|(simp_all)
theorem TB{t:Int}{d x:List Int}(h:JT t d x=0):Cz t 0=true:=by
 cases e:Cz t 0 with
 | true=>rfl
 | false=>rw[Kf e]at h;exact absurd h (by decide)
theorem Mw{n:Nd}{ins:List Vl}(hc:AA n=0)(hl:ins.length=n.ins.length)(hi:CP ins=0)(ht:(Bt n ins).1=0):Cz (Bt n ins).2 0=true:=by
 obtain⟨r,hr,ho,h1,h2⟩:=K9 hc;obtain⟨g1,g2,g3⟩:=Sl r hr;rw[←ho]at g1;have h9:Cz 9 0=true:=rfl;have h7:Cz 7 0=true:=rfl;by_cases c0:AC n.op.toList=0
 ·have hr0:r.2.1=0:=by rw[←g1];exact c0
  have ho':n.op.toList=[67,111,110,115,116,97,110,116]:=by
   rw[ho];have:∀q∈VC,q.2.1=0→q.1=[67,111,110,115,116,97,110,116]:=by decide+kernel
   exact this r hr hr0
  obtain⟨a,ha,hb,-⟩:=EI hc ho';unfold Bt;rw[c0];unfold cA;rw[ha];exact(TB hb)
 ·have hx0:0<ins.length:=by have:=g2 (by rw[←g1];exact c0);omega
  have hx:=(JY hi _ (getD_in hx0)).1;unfold Bt at ht⊢;split at ht<;>rename_i hk<;>try dsimp only at ht⊢
  all_goals first
   | exact hx
   | (exfalso;exact c0 hk)
   | (unfold CH at ht⊢;split at ht<;>rename_i c<;>first|(rw[if_pos c];exact hx)|exact absurd ht (by decide))
   | (unfold Fc at ht⊢;split at ht<;>rename_i c<;>first|(rw[if_pos c];exact h9)|exact absurd ht (by decide))
   | (unfold Dg at ht⊢;split at ht<;>rename_i c<;>first|(rw[if_pos c];exact hx)|exact absurd ht (by decide))
   | (unfold JK at ht⊢;split at ht<;>rename_i c<;>first|(rw[if_pos c];rw[Ir];exact c)|exact absurd ht (by decide))
   | (unfold DF at ht⊢;split at ht<;>rename_i c<;>first|(rw[if_pos c];exact hx)|(rw[if_pos c];exact h7)|exact absurd ht (by decide))
   | (unfold Dh at ht⊢;split at ht<;>rename_i c<;>first|(rw[if_pos c];exact hx)|exact absurd ht (by decide))
   | (unfold Hh at ht⊢;split at ht<;>rename_i c<;>first|(rw[if_pos c];exact hx)|exact absurd ht (by decide))
   | skip
  unfold IT at ht⊢;split at ht<;>rename_i c
  ·rw[if_pos c];have:=g3 (by rw[←g1];exact hk);exact(JY hi _ (getD_in (by omega))).1
  ·exact absurd ht (by decide)
theorem TC{n:Nd}{ins:List Vl}{t:Int}{ds:List Int}(h:BL n ins=(0,t,ds)):(AK ds).2=0∧Cz t 0=true:=by
 obtain⟨a1,a2,a3,a4,a5,a6,-,e⟩:=Pr (congrArg Prod.fst h);rw[e]at h;obtain⟨-,h2⟩:=Prod.mk.inj h;obtain⟨rfl,rfl⟩:=Prod.mk.inj h2;exact⟨a6,Mw a1 a2 a3 a4⟩
theorem Yt{n:Nd}(h:∀a∈n.attrs,a.ints.length≤1048575):(Af n.attrs AF []).length *8+48≤140737488351232:=by
 unfold Af;split
 ·simp
 ·rename_i a ha
  have:=h a (List.mem_of_find?_eq_some ha);omega
end Go.Proofs.YtkkeehnldcdccaaGreatDoor
