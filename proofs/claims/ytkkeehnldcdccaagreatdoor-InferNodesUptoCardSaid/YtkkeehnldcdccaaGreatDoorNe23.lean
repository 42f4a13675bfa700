import Derived.Test.YtkkeehnldcdccaaGreatDoorNe18
set_option linter.unusedVariables false
set_option linter.unusedSimpArgs false
set_option maxRecDepth 100000
set_option maxHeartbeats 16000000
namespace Go.Proofs.YtkkeehnldcdccaaGreatDoor
open Go.Lib (hid)
open Go.RowKit
section
def De(n:Nd)(nm:ByteArray)(x:List Int):Option (List Int):=
 if x.length=2∧(AH n.attrs nm 0=0∨AH n.attrs nm 0=1)then some (if AH n.attrs nm 0=1 then [x.getD 1 0,x.getD 0 0]else x)else none
theorem Nu{n:Nd}{nm:ByteArray}{x:List Int}{z:Int}(e:AH n.attrs nm 0=z)(h:¬(x.length=2∧(z=0∨z=1))):De n nm x=none:=by subst e;exact if_neg h
theorem Mo{n:Nd}{nm:ByteArray}{x:List Int}(e:AH n.attrs nm 0=0)(h:x.length=2):De n nm x=some x:=by
 unfold De;rw[e,if_pos ⟨h,Or.inl rfl⟩];rfl
theorem Pi{n:Nd}{nm:ByteArray}{x:List Int}(e:AH n.attrs nm 0=1)(h:x.length=2):De n nm x=some [x.getD 1 0,x.getD 0 0]:=by
 unfold De;rw[e,if_pos ⟨h,Or.inr rfl⟩];rfl
theorem AV.none{w w':World}{o:Option (List Int)}(h:o=none)(hB:Below w.heap.size w w'):AV w (AX o) (Em 4) w':=by
 subst h;exact⟨hB,Or.inl ⟨(show(4:Int)≠0 by decide),rfl⟩⟩
theorem AV.some{w w':World}{o:Option (List Int)}{zs:List Int}{v:Value}(h:o=some zs)(hB:Below w.heap.size w w')(hi:Aa w' v zs):AV w (AX o) (.returned v) w':=by
 subst h;exact⟨hB,Or.inr ⟨rfl,v,rfl,hi⟩⟩
attribute [local irreducible] AH De
theorem K5{w:World}{v vx:Value}{n:Nd}{ins:List Vl}{x:List Int}(nm:ByteArray)(h:BF w v n ins)(hx:Aa w vx x) :
  Calls Tryz.prog 113 #[v,.string nm,vx] w fun e w'=>AV w (AX (De n nm x)) e w':=by
 obtain⟨i0,hi,hz0,hz1,hz2⟩:=info_parts AI;obtain⟨vin,vat,vv,rfl,hm⟩:=h;obtain⟨a1,c1,rfl⟩:=hm.node.is.form;obtain⟨a2,c2,rfl⟩:=hm.node.ia.form;obtain⟨a3,c3,rfl⟩:=hm.ins.form;have HM:=hid hm;clear hm;obtain⟨a4,c4,rfl⟩:=hx.shape;have hxl:=hx.wf.1;have hxc:=hx.capI.2;have HX:=hid hx;clear hx;have HY:=hid (fun(W:World)=>Ao W);have HNo:=hid (fun(W:World)=>Aw W);have HB1:=hid ((Below.refl w.heap.size w).alloc (Nat.le_refl _) (Obj.cells #[.string n.op,.string n.name,.slice a1 n.ins.length c1,.string n.out,.slice a2 n.attrs.length c2,.slice a3 ins.length c3] 55));have HA1:=hid (Ac.new w #[.string n.op,.string n.name,.slice a1 n.ins.length c1,.string n.out,.slice a2 n.attrs.length c2,.slice a3 ins.length c3] 55);go_enter Tryz.func113,Tryz.ntmps113
 go_wp2_with fail
 generalize World.alloc w (Obj.cells #[.string n.op,.string n.name,.slice a1 n.ins.length c1,.string n.out,.slice a2 n.attrs.length c2,.slice a3 ins.length c3] 55)=W1 at HB1 HA1⊢;refine(DC (n:=n) ⟨_,_,rfl,(HM.out.below HB1.out).node⟩ nm 0).mono ?_;rintro e w2⟨rfl,B2⟩;have HB2:=hid (HB1.out.trans (B2.mono HB1.out.size));obtain⟨z,hze⟩:∃z,AH n.attrs nm 0=z:=⟨_,rfl⟩;rw[hze];have HZ:=hid hze;clear B2 hze HA1;by_cases h1:x.length=2
 case neg=>
  have E:=hid (Nu (nm:=nm) (x:=x) HZ.out (fun c=>h1 c.1));have hb:((x.length:Int)==2)=false:=by simp;omega
  clear h1;go_wp2_with fail
  refine(HNo.out _).mono ?_;rintro e w'⟨rfl,rfl⟩;exact⟨rfl,AV.none E.out HB2.out⟩
 have HL:=hid h1;have hb:((x.length:Int)==2)=true:=by simp;omega
 by_cases h0:z=0
 ·subst h0;have E:=hid (Mo (nm:=nm) (x:=x) HZ.out h1);clear h1;go_wp2_with fail
  refine(HY.out _).mono ?_;rintro e w'⟨rfl,rfl⟩;go_wp2
  go_ret
  exact AV.some E.out HB2.out (HX.out.below HB2.out)
 have hb0:(z==0)=false:=by simpa using h0
 by_cases hz1:z=1
 case neg=>
  have E:=hid (Nu (nm:=nm) (x:=x) HZ.out (fun c=>c.2.elim h0 hz1));have hbb:(z==1)=false:=by simpa using hz1
  clear h1 hz1 h0;go_wp2_with fail
  refine(HNo.out _).mono ?_;rintro e w'⟨rfl,rfl⟩;exact⟨rfl,AV.none E.out HB2.out⟩
 subst hz1;have E:=hid (Pi (nm:=nm) (x:=x) HZ.out h1);obtain⟨bx,ox,hax,-,hbx,x0,i0'⟩:=Ai (k:=0) HX.out (by omega);subst hax;obtain⟨bx',ox',e1,-,-,x1,i1'⟩:=Ai (k:=1) HX.out (by omega);obtain⟨e2,e3⟩:bx=bx'∧ox=ox':=by simpa using e1
 subst e2 e3;have HIn:=hid (And.intro i0' i1');clear e1 i0' i1';have x0:=(HB2.out.cell (p:=⟨bx,ox+0,none⟩) hbx).trans x0;have x1:=(HB2.out.cell (p:=⟨bx,ox+1,none⟩) hbx).trans x1;rw[Nat.add_zero]at x0;rw[h1];have hbx:bx<w2.heap.size:=Al x0;clear h1 hb h0;generalize x.getD 0 0=q0 at*;generalize x.getD 1 0=q1 at*;go_wp2_with fail
 refine(HY.out _).mono ?_;rintro e w'⟨rfl,rfl⟩;go_wp2_with fail
 refine Ae 6 [0,1,2,3,4,5] (fun W'=>Below w'.heap.size w' W') (by kernel_rfl) (by kernel_rfl) (fun _ d _ _ _ h=>by cases d<;>exact h) (Below.refl _ _).drew ?_;have B0:Hid (Below w'.heap.size w' w'.drew):=hid (Below.refl _ _).drew;generalize w'.drew=wD at B0⊢
 repeat
  refine Ah (v:=?_) rfl rfl (Or.inl ⟨by rfl,?_⟩) ?_;rotate_left
  ·intro W' hSw;have x0:=(hSw.cell (p:=⟨bx,ox,none⟩) hbx).trans x0;have x1:=(hSw.cell (p:=⟨bx,ox+1,none⟩) hbx).trans x1;go_simp
   try with_reducible rfl
  try simp only[Act.put,List.getElem_toArray,List.getElem_cons_zero,List.getElem_cons_succ,List.setIfInBounds_toArray,List.set_cons_zero,List.set_cons_succ]
 refine Aq rfl ?_;simp only[List.toList_toArray,List.drop_succ_cons,List.drop_zero];have HBD:=hid (HB2.out.trans (B0.out.mono HB2.out.size));have HBF:=hid (HBD.out.alloc HBD.out.size (Obj.cells #[.int .i64 q1,.int .i64 q0] 3));have HRw:Hid (Aa (wD.alloc (Obj.cells #[.int .i64 q1,.int .i64 q0] 3)) (.slice (some ⟨wD.heap.size,0,none⟩) 2 2) [q1,q0]):=hid ((Db (zs:=[q1,q0]) (Ac.new wD _ _) (Nat.le_refl _) rfl (by simp)).ints (by simp) (fun z hz=>by simp at hz;rcases hz with rfl|rfl;exact HIn.out.2;exact HIn.out.1));go_wp2
 go_ret
 exact AV.some E.out HBF.out HRw.out
end
section
theorem Hk{w:World}{u v:Value}{xs ys:List Int}(h1:Aa w u xs)(h2:Aa w v ys) :
  Calls Tryz.prog 53 #[u,v] w fun e w'=>e=.returned (.bool (decide (xs=ys)))∧Below w.heap.size w w':=by
 have hl1:=h1.wf.1;have hl2:=h2.wf.1;cases h1 with
 | empty a0 c0=>
  obtain⟨a3,c3,rfl⟩:=h2.form;refine(Tryz.slices_Equal_int_empty a0 a3 c0 ys.length c3 w (by omega)).mono ?_;rintro e w'⟨rfl,rfl⟩;refine⟨Ab (Ar ?_),Below.refl _ _⟩;cases ys<;>simp
 | row b1 o1 c1 _ n0 hc hb hr hlen hw=>
  cases h2 with
  | empty a0 c0=>
   refine(Tryz.slices_Equal_int_lens (some ⟨b1,o1,none⟩) a0 xs.length c1 0 c0 w (by intro e;exact n0 (List.eq_nil_of_length_eq_zero e))).mono ?_;rintro e w'⟨rfl,rfl⟩;exact⟨Ab (Ar (decide_eq_false n0).symm),Below.refl _ _⟩
  | row b2 o2 c2 _ n0' hc' hb' hr' hlen' hw'=>
   refine(Tryz.slices_Equal_int b1 o1 xs.length c1 b2 o2 ys.length c2 xs ys w (Nat.le_refl _) (Nat.le_refl _) (by omega) (by omega) hr hr').mono ?_;rintro e w'⟨rfl,q,rfl⟩;refine⟨Ab (Ar ?_),below_drewN (Below.refl _ _) q⟩;rw[List.take_length,List.take_length];by_cases e:xs=ys
   ·simp[e]
   ·simp[e]
def Pj:ByteArray:=⟨#[116,114,97,110,115,65]⟩
def QT:ByteArray:=⟨#[116,114,97,110,115,66]⟩
def Ed(o:Int×List Int)(z:Option (List Int)):Int×List Int:=
 if o.1≠0 then(o.1,[])else match z with
  | none=>(0,o.2)
  | some c=>if(Vb.Bx c o.2).1≠0 then((Vb.Bx c o.2).1,[])else if(Vb.Bx c o.2).2=o.2 then(0,o.2)else(4,[])
def CC(n:Nd)(x y:List Int)(z:Option (List Int)):Int×List Int:=
 match De n Pj x with
 | none=>(4,[])
 | some a=>match De n QT y with
  | none=>(4,[])
  | some b=>Ed (Au a b) z
theorem QU{n:Nd}{x y:List Int}{z:Option (List Int)}(h:De n Pj x=none):CC n x y z=(4,[]):=by unfold CC;rw[h]
theorem QV{n:Nd}{x y a:List Int}{z:Option (List Int)}(h:De n Pj x=some a)(g:De n QT y=none):CC n x y z=(4,[]):=by unfold CC;rw[h];simp only[];rw[g]
theorem Vo{n:Nd}{x y a b:List Int}{z:Option (List Int)}(h:De n Pj x=some a)(g:De n QT y=some b):CC n x y z=Ed (Au a b) z:=by unfold CC;rw[h];simp only[];rw[g]
theorem Sc{o:Int×List Int}{z:Option (List Int)}(h:o.1≠0):Ed o z=(o.1,[]):=if_pos h
theorem Sd{o:Int×List Int}(h:o.1=0):Ed o none=(0,o.2):=if_neg (fun c=>c h)
theorem Vp{o:Int×List Int}{c:List Int}(h:o.1=0)(g:(Vb.Bx c o.2).1≠0):Ed o (some c)=((Vb.Bx c o.2).1,[]):=by
 unfold Ed;rw[if_neg (fun c=>c h)];exact if_pos g
theorem Vq{o:Int×List Int}{c:List Int}(h:o.1=0)(g:(Vb.Bx c o.2).1=0)(k:(Vb.Bx c o.2).2≠o.2):Ed o (some c)=(4,[]):=by
 unfold Ed;rw[if_neg (fun c=>c h)];simp only[];rw[if_neg (fun c=>c g)];exact if_neg k
theorem Se{o:Int×List Int}{c:List Int}(h:o.1=0)(g:(Vb.Bx c o.2).1=0)(k:(Vb.Bx c o.2).2=o.2):Ed o (some c)=(0,o.2):=by
 unfold Ed;rw[if_neg (fun c=>c h)];simp only[];rw[if_neg (fun c=>c g)];exact if_pos k
theorem Di{w:World}{a:Option Addr}{c j:Nat}{x:Vl}{ins:List Vl}(h:BJ 3 AM w (.slice a ins.length c) ins)(hi:ins[j]?=some x):∃b off vd,a=some ⟨b,off,none⟩∧b<w.heap.size∧w.cell? ⟨b,off+j*3+2,none⟩=some vd∧Aa w vd x.dims:=by
 obtain⟨b,off,cap,vd,hv,hb,_,_,c2,_,_,hd⟩:=Bm h (j:=j) (x:=x) hi;obtain⟨rfl,-,-⟩:=Value.slice.inj hv;exact⟨b,off,vd,rfl,hb,c2,hd⟩
attribute [local irreducible] AH De Au Vb.Bx CC Ed Ag
theorem Vr{w:World}{v:Value}{n:Nd}{ins:List Vl}{x y:Vl}{z:Option Vl}(h:BF w v n ins)(hx:ins[0]?=some x)(hy:ins[1]?=some y)(hz:ins[2]?=z)(hl:ins.length≤3) :
  Calls Tryz.prog 50 #[v] w fun e w'=>AV w (CC n x.dims y.dims (z.map Vl.dims)) e w':=by
 obtain⟨i0,hi,hz0,hz1,hz2⟩:=info_parts AI;obtain⟨vin,vat,vv,rfl,hm⟩:=h;obtain⟨a1,c1,rfl⟩:=hm.node.is.form;obtain⟨a2,c2,rfl⟩:=hm.node.ia.form;obtain⟨a3,c3,rfl⟩:=hm.ins.form;have HM:=hid hm;clear hm;have HY:=hid (fun(W:World)=>Ao W);have HNo:=hid (fun(W:World)=>Aw W);obtain⟨bx,ox,vd,hax,hbx,x2,hd⟩:=Di HM.out.ins hx;subst hax;obtain⟨by',oy,ve,hay,-,y2,he⟩:=Di HM.out.ins hy;obtain⟨e1,e2⟩:bx=by'∧ox=oy:=by simpa using hay
 subst e1 e2;clear hay;rw[Nat.zero_mul,Nat.add_zero]at x2;rw[Nat.one_mul]at y2;have hlen:1<ins.length:=(List.getElem?_eq_some_iff.1 hy).1;have hlen0:0<ins.length:=by omega
 have hlen1:(1:Int)<(ins.length:Int):=by omega
 have HD:=hid hd;have HE:=hid he;have HZ:=hid hz;obtain⟨ad,cd,rfl⟩:=hd.shape;obtain⟨ae,ce,rfl⟩:=he.shape;clear hd he hx hy hz;have HB1:=hid ((Below.refl w.heap.size w).alloc (Nat.le_refl _) (Obj.cells #[.string n.op,.string n.name,.slice a1 n.ins.length c1,.string n.out,.slice a2 n.attrs.length c2,.slice (some ⟨bx,ox,none⟩) ins.length c3] 55));have HA1:=hid (Ac.new w #[.string n.op,.string n.name,.slice a1 n.ins.length c1,.string n.out,.slice a2 n.attrs.length c2,.slice (some ⟨bx,ox,none⟩) ins.length c3] 55);go_enter Tryz.func50,Tryz.ntmps50
 go_wp2_with fail
 generalize World.alloc w (Obj.cells #[.string n.op,.string n.name,.slice a1 n.ins.length c1,.string n.out,.slice a2 n.attrs.length c2,.slice (some ⟨bx,ox,none⟩) ins.length c3] 55)=W1 at HB1 HA1⊢;refine Ae 14 [0,1,2,3,4,5,7,8,9,10,11,12,6,13] (fun W'=>Below W1.heap.size W1 W') (by kernel_rfl) (by kernel_rfl) (fun _ d _ _ _ h=>by cases d<;>exact h) (Below.refl _ _).drew ?_;have B0:Hid (Below W1.heap.size W1 W1.drew):=hid (Below.refl _ _).drew;generalize W1.drew=wD at B0⊢;have HF:Hid (∀W',Below W1.heap.size W1 W'→Ac W' w.heap.size #[.string n.op,.string n.name,.slice a1 n.ins.length c1,.string n.out,.slice a2 n.attrs.length c2,.slice (some ⟨bx,ox,none⟩) ins.length c3] 55∧W'.cell? ⟨bx,ox+2,none⟩=some (.slice ad x.dims.length cd)∧W'.cell? ⟨bx,ox+3+2,none⟩=some (.slice ae y.dims.length ce)):=hid fun W' hB=>⟨HA1.out.below' hB,((HB1.out.trans (hB.mono HB1.out.size)).cell (p:=⟨bx,ox+2,none⟩) hbx).trans x2,((HB1.out.trans (hB.mono HB1.out.size)).cell (p:=⟨bx,ox+3+2,none⟩) hbx).trans y2⟩;have HMk:Hid (∀W,Below W1.heap.size W1 W→BF W (.agg #[.string n.op,.string n.name,.slice a1 n.ins.length c1,.string n.out,.slice a2 n.attrs.length c2,.slice (some ⟨bx,ox,none⟩) ins.length c3]) n ins):=hid fun W hB=>⟨_,_,_,rfl,HM.out.below (HB1.out.trans (hB.mono HB1.out.size))⟩;have HBw:Hid (∀W,Below W1.heap.size W1 W→Below w.heap.size w W):=hid fun W hB=>HB1.out.trans (hB.mono HB1.out.size)
 repeat
  refine Ah (v:=?_) rfl rfl (Or.inl ⟨by rfl,?_⟩) ?_;rotate_left
  ·intro W' hSw;obtain⟨hb6,x2,y2⟩:=HF.out W' hSw;obtain⟨k0,k1,k2,k3,k4,k5⟩:=hb6.six;go_simp
   try with_reducible rfl
  try simp only[Act.put,List.getElem_toArray,List.getElem_cons_zero,List.getElem_cons_succ,List.setIfInBounds_toArray,List.set_cons_zero,List.set_cons_succ]
 refine Av rfl rfl (fun K' hK=>?_);go_simp
 refine(K5 Pj (HMk.out _ B0.out) (HD.out.below (HBw.out _ B0.out))).mono ?_;rintro e w2⟨B2,hc⟩;have HB2:=hid (B0.out.trans (B2.mono B0.out.size));cases hta:De n Pj x.dims with
 | none=>
  rw[hta]at hc;rcases hc with⟨-,rfl⟩| ⟨h0,-⟩
  ·exact⟨rfl,HBw.out _ HB2.out,Or.inl ⟨by rw[QU hta];decide,by rw[QU hta];rfl⟩⟩
  ·exact absurd h0 (show ¬((4:Int)=0) by decide)
 | some pa=>
 rw[hta]at hc;rcases hc with⟨h0,-⟩| ⟨-,v2,rfl,hi2⟩
 ·exact absurd rfl h0
 have HTa:=hid hta;have HI2:Hid (Aa w2 v2 pa):=hid hi2;obtain⟨a5,c5,rfl⟩:=HI2.out.shape;clear hta B2 hi2;refine hK.out _ _ HB2.out ?_;clear hK K';refine Av rfl rfl (fun K' hK=>?_);go_simp
 refine(K5 QT (HMk.out _ HB2.out) (HE.out.below (HBw.out _ HB2.out))).mono ?_;rintro e w3⟨B3,hc⟩;have HB3:=hid (HB2.out.trans (B3.mono HB2.out.size));cases htb:De n QT y.dims with
 | none=>
  rw[htb]at hc;rcases hc with⟨-,rfl⟩| ⟨h0,-⟩
  ·exact⟨rfl,HBw.out _ HB3.out,Or.inl ⟨by rw[QV HTa.out htb];decide,by rw[QV HTa.out htb];rfl⟩⟩
  ·exact absurd h0 (show ¬((4:Int)=0) by decide)
 | some pb=>
 rw[htb]at hc;rcases hc with⟨h0,-⟩| ⟨-,v3,rfl,hi3⟩
 ·exact absurd rfl h0
 have HG:=hid (Vo (z:=z.map Vl.dims) HTa.out htb);have HI3:Hid (Aa w3 v3 pb):=hid hi3;have HI23:=hid (HI2.out.below B3);obtain⟨a6,c6,rfl⟩:=HI3.out.shape;clear htb B3 hi3 HI2;refine hK.out _ _ HB3.out ?_;clear hK K';refine Aq rfl ?_;simp only[List.toList_toArray,List.drop_succ_cons,List.drop_zero];go_wp2_with fail
 refine(Jk HI23.out HI3.out).mono ?_;rintro e w4 hR;have hX:AV w3 (Au pa pb) e w4:=hR.dim (Below.refl _ _) (fun h0=>Jm h0 HI23.out.wf.1 HI3.out.wf.1) (Jl HI23.out.wf.2 HI3.out.wf.2);obtain⟨B4,hc⟩:=hX;clear hR;have HB4:=hid (HB3.out.trans (B4.mono HB3.out.size));rcases hc with⟨h0,rfl⟩| ⟨h0,v4,rfl,hi4⟩
 ·have E:=hid (HG.out.trans (Sc h0));exact⟨rfl,HBw.out _ HB4.out,Or.inl ⟨by rw[E.out];exact h0,by rw[E.out]⟩⟩
 have HI4:=hid hi4;have HP0:=hid h0;obtain⟨a7,c7,rfl⟩:=HI4.out.shape;clear B4 hi4 h0;obtain⟨hb6,x2,y2⟩:=HF.out _ HB4.out;obtain⟨k0,k1,k2,k3,k4,k5⟩:=hb6.six;cases z with
 | none=>
  have hl3:((ins.length:Int)==3)=false:=by
   have:=List.getElem?_eq_none_iff.1 HZ.out;simp;omega
  have E:=hid (HG.out.trans (Sd HP0.out));go_wp2
  go_ret
  exact⟨HBw.out _ HB4.out,Or.inr ⟨by rw[show(Option.map Vl.dims none:Option (List Int))=none from rfl]at E;rw[show(Option.map Vl.dims none:Option (List Int))=none from rfl,E.out],_,rfl,by rw[show(Option.map Vl.dims none:Option (List Int))=none from rfl]at E;rw[show(Option.map Vl.dims none:Option (List Int))=none from rfl,E.out];exact HI4.out⟩⟩
 | some zz=>
  have hl3':=(List.getElem?_eq_some_iff.1 HZ.out).1;have hl3:((ins.length:Int)==3)=true:=by simp;omega
  have hl4:2<ins.length:=by omega
  obtain⟨bz,oz,vz,haz,hbz,z2,hzd⟩:=Di HM.out.ins HZ.out;obtain⟨e1,e2⟩:bx=bz∧ox=oz:=by simpa using haz
  subst e1 e2;have HZD:=hid (hzd.below (HBw.out _ HB4.out));have z2:=((HBw.out _ HB4.out).cell (p:=⟨bx,ox+2*3+2,none⟩) hbx).trans z2;obtain⟨az,cz,rfl⟩:=hzd.shape;clear haz hzd x2 y2 hbz hl3';have HG:Hid (CC n x.dims y.dims (some zz.dims)=Ed (Au pa pb) (some zz.dims)):=HG;go_wp2_with fail
  clear k0 k1 k2 k3 k4 k5 z2;refine(C0 HZD.out HI4.out).mono ?_;rintro e w5 hR;have hX:AV w4 (Vb.Bx zz.dims (Au pa pb).2) e w5:=hR.dim (Below.refl _ _) (fun h0=>by have:=ED h0;have:=HZD.out.wf.1;have:=HI4.out.wf.1;omega) (FP HZD.out.wf.2 HI4.out.wf.2);obtain⟨B5,hc⟩:=hX;clear hR;have HB5:=hid (HB4.out.trans (B5.mono HB4.out.size));rcases hc with⟨h0,rfl⟩| ⟨h0,v5,rfl,hi5⟩
  ·have E:=hid (HG.out.trans (Vp HP0.out h0));exact⟨rfl,HBw.out _ HB5.out,Or.inl ⟨by show(CC n x.dims y.dims (some zz.dims)).1≠0;rw[E.out];exact h0,by show _=Em (CC n x.dims y.dims (some zz.dims)).1;rw[E.out]⟩⟩
  have HI5:=hid hi5;have HI45:=hid (HI4.out.below B5);have HQ0:=hid h0;obtain⟨a8,c8,rfl⟩:=HI5.out.shape;clear B5 hi5 h0;go_wp2_with fail
  refine(Hk HI5.out HI45.out).mono ?_;rintro e w6⟨rfl,B6⟩;have HB6:=hid (HB5.out.trans (B6.mono HB5.out.size));have HI46:=hid (HI45.out.below B6);clear B6;by_cases hq:(Vb.Bx zz.dims (Au pa pb).2).2=(Au pa pb).2
  ·have E:=hid (HG.out.trans (Se HP0.out HQ0.out hq));rw[decide_eq_true hq];clear hq;go_wp2_with fail
   refine(HY.out _).mono ?_;rintro e w'⟨rfl,rfl⟩;go_wp2
   go_ret
   exact⟨HBw.out _ HB6.out,Or.inr ⟨by show(CC n x.dims y.dims (some zz.dims)).1=0;rw[E.out],_,rfl,by show Aa _ _ (CC n x.dims y.dims (some zz.dims)).2;rw[E.out];exact HI46.out⟩⟩
  ·have E:=hid (HG.out.trans (Vq HP0.out HQ0.out hq));rw[decide_eq_false hq];clear hq;go_wp2_with fail
   refine(HNo.out _).mono ?_;rintro e w'⟨rfl,rfl⟩;exact⟨rfl,HBw.out _ HB6.out,Or.inl ⟨by show(CC n x.dims y.dims (some zz.dims)).1≠0;rw[E.out];decide,by show _=Em (CC n x.dims y.dims (some zz.dims)).1;rw[E.out]⟩⟩
end
def Df(x k s p d:List Int)(i:Nat):Option Int:=
 if 0≤x.getD (2+i) 0+p.getD i 0+p.getD (2+i) 0-d.getD i 0*(k.getD i 0-1)-1 then
  some ((x.getD (2+i) 0+p.getD i 0+p.getD (2+i) 0-d.getD i 0*(k.getD i 0-1)-1)/s.getD i 0+1)else none
theorem Pk{w:World}{i:Nat}(hi:i<2){Ax Ap Ad Ak As:Addr}{vx vp vd vk vs:Value}{x p d k s:List Int}
  (cx:w.cell? Ax=some vx) (cp:w.cell? Ap=some vp) (cd:w.cell? Ad=some vd) (ck:w.cell? Ak=some vk) (cs:w.cell? As=some vs)
  (hx:Aa w vx x) (hp:Aa w vp p) (hd:Aa w vd d) (hk:Aa w vk k) (hs:Aa w vs s)
  (lx:x.length=4) (lp:p.length=4) (ld:d.length=2) (lk:k.length=2) (ls:s.length=2)
  (bx:∀z∈x,1≤z∧z≤65536) (bp:∀z∈p,0≤z∧z≤100) (bd:∀z∈d,1≤z∧z≤100) (bk:∀z∈k,1≤z∧z≤65536) (bs:∀z∈s,1≤z∧z≤100) :
  Calls Tryz.prog 166 #[.int .i64 (i:Int),.pointer (some Ax),.pointer (some Ap),.pointer (some Ad),.pointer (some Ak),.pointer (some As)] w fun e w'=>FV (Df x k s p d i) e∧Below w.heap.size w w':=by
 have HY:=hid (fun(W:World)=>Ao W);have HNo:=hid (fun(W:World)=>Aw W);obtain⟨yx,cx',rfl⟩:=hx.shape;obtain⟨bx',ox,hax,-,gx,ux,-⟩:=Ai (k:=2+i) hx (by omega);subst hax;have rx:=bx _ (Am (zs:=x) (k:=2+i) (by omega));obtain⟨yp,cp',rfl⟩:=hp.shape;obtain⟨bp',op,hap,-,gp,up,-⟩:=Ai (k:=i) hp (by omega);subst hap;have rp:=bp _ (Am (zs:=p) (k:=i) (by omega));obtain⟨yd,cd',rfl⟩:=hd.shape;obtain⟨bd',od,had,-,gd,ud,-⟩:=Ai (k:=i) hd (by omega);subst had;have rd:=bd _ (Am (zs:=d) (k:=i) (by omega));obtain⟨yk,ck',rfl⟩:=hk.shape;obtain⟨bk',ok,hak,-,gk,uk,-⟩:=Ai (k:=i) hk (by omega);subst hak;have rk:=bk _ (Am (zs:=k) (k:=i) (by omega));obtain⟨ys,cs',rfl⟩:=hs.shape;obtain⟨bs',os,has,-,gs,us,-⟩:=Ai (k:=i) hs (by omega);subst has;have rs:=bs _ (Am (zs:=s) (k:=i) (by omega));obtain⟨bp'',op'',hap,-,-,up2,-⟩:=Ai (k:=2+i) hp (by omega);obtain⟨e1,e2⟩:bp'=bp''∧op=op'':=by simpa using hap
 subst e1 e2;clear hap;have rp2:=bp _ (Am (zs:=p) (k:=2+i) (by omega));rw[lx]at cx;rw[lp]at cp;rw[ld]at cd;rw[lk]at ck;rw[ls]at cs;have E:Hid (Df x k s p d i=if 0≤x.getD (2+i) 0+p.getD i 0+p.getD (2+i) 0-d.getD i 0*(k.getD i 0-1)-1 then
  some ((x.getD (2+i) 0+p.getD i 0+p.getD (2+i) 0-d.getD i 0*(k.getD i 0-1)-1)/s.getD i 0+1)else none):=hid rfl
 have hm:0≤d.getD i 0*(k.getD i 0-1)∧d.getD i 0*(k.getD i 0-1)≤6553500:=by
  refine⟨Int.mul_nonneg (by omega) (by omega),?_⟩;have:=Int.mul_le_mul rd.2 (show k.getD i 0-1≤65535 by omega) (by omega) (by omega);omega
 clear hx hp hd hk hs bx bp bd bk bs lx lp ld lk ls;generalize x.getD (2+i) 0=X at*;generalize p.getD i 0=P at*;generalize p.getD (2+i) 0=Q at*;generalize d.getD i 0=D at*;generalize k.getD i 0=K at*;generalize s.getD i 0=S at*;have wi:IntKind.i64.wrap (2+(i:Int))=2+(i:Int):=by rw[IntKind.wrap_i64];omega
 have ti:(2+(i:Int)).toNat=2+i:=by omega
 have b4:(0:Int)≤2+(i:Int)∧2+(i:Int)<4:=⟨by omega,by omega⟩;have b2:(0:Int)≤(i:Int)∧(i:Int)<2:=⟨by omega,by omega⟩;have b40:(0:Int)≤(i:Int)∧(i:Int)<4:=⟨by omega,by omega⟩;have i2:(i:Int)<2:=by omega
 have i4:(i:Int)<4:=by omega
 have w1:IntKind.i64.wrap (X+P)=X+P:=by rw[IntKind.wrap_i64];omega
 have w2:IntKind.i64.wrap (X+P+Q)=X+P+Q:=by rw[IntKind.wrap_i64];omega
 have w3:IntKind.i64.wrap (K-1)=K-1:=by rw[IntKind.wrap_i64];omega
 have w4:IntKind.i64.wrap (D*(K-1))=D*(K-1):=by rw[IntKind.wrap_i64];omega
 have w5:IntKind.i64.wrap (X+P+Q-D*(K-1))=X+P+Q-D*(K-1):=by rw[IntKind.wrap_i64];omega
 have w6:IntKind.i64.wrap (X+P+Q-D*(K-1)-1)=X+P+Q-D*(K-1)-1:=by rw[IntKind.wrap_i64];omega
 have hAx:=Al cx;have hAp:=Al cp;have hAd:=Al cd;have hAk:=Al ck;have hAs:=Al cs;go_enter Tryz.func166,Tryz.ntmps166
 go_wp2_with fail
 refine Ae 28 [0,1,2,3,4,5,6,7,8,9,10,11,12,13,14,15,16,17,18,19,20,21,22,23,24,25,26,27] (fun W'=>Below w.heap.size w W') (by kernel_rfl) (by kernel_rfl) (fun _ d _ _ _ h=>by cases d<;>exact h) (Below.refl _ _).drew ?_;have B0:Hid (Below w.heap.size w w.drew):=hid (Below.refl _ _).drew;generalize w.drew=wD at B0⊢
 repeat
  refine Ah (v:=?_) rfl rfl (Or.inl ⟨by rfl,?_⟩) ?_;rotate_left
  ·intro W' hSw;have cx:=(hSw.cell hAx).trans cx;have cp:=(hSw.cell hAp).trans cp;have cd:=(hSw.cell hAd).trans cd;have ck:=(hSw.cell hAk).trans ck;have ux:=(hSw.cell (p:=⟨bx',ox+(2+i),none⟩) gx).trans ux;have up:=(hSw.cell (p:=⟨bp',op+i,none⟩) gp).trans up;have up2:=(hSw.cell (p:=⟨bp',op+(2+i),none⟩) gp).trans up2;have ud:=(hSw.cell (p:=⟨bd',od+i,none⟩) gd).trans ud;have uk:=(hSw.cell (p:=⟨bk',ok+i,none⟩) gk).trans uk;clear hSw;go_simp
   try with_reducible rfl
  try simp only[Act.put,List.getElem_toArray,List.getElem_cons_zero,List.getElem_cons_succ,List.setIfInBounds_toArray,List.set_cons_zero,List.set_cons_succ]
 refine Aq rfl ?_;simp only[List.toList_toArray,List.drop_succ_cons,List.drop_zero];clear wi ti b4 w1 w2 w3 w4 w5 w6 cx cp cd ck ux up up2 ud uk;have hR0:X+P+Q-D*(K-1)-1≤200000:=by omega
 obtain⟨R,hR⟩:∃R,X+P+Q-D*(K-1)-1=R:=⟨_,rfl⟩;rw[hR]at E hR0⊢;clear hR hm;have us:=(B0.out.cell (p:=⟨bs',os+i,none⟩) gs).trans us;have cs:=(B0.out.cell hAs).trans cs;by_cases h0:0≤R
 ·have E:=hid (E.out.trans (if_pos h0));have hS:¬S=0:=by omega
  have hS1:1≤S:=rs.1;have hq:0≤R/S∧R/S≤200000:=⟨Int.ediv_nonneg h0 (by omega),by
   have:=Int.ediv_le_self S h0;omega⟩
  go_wp2_with fail
  refine(HY.out _).mono ?_;rintro e w'⟨rfl,rfl⟩;go_wp2
  go_ret
  exact⟨FV.yes E.out,B0.out⟩
 ·have E:=hid (E.out.trans (if_neg h0));go_wp2_with fail
  refine(HNo.out _).mono ?_;rintro e w'⟨rfl,rfl⟩;exact⟨rfl,FV.no E.out,B0.out⟩
end Go.Proofs.YtkkeehnldcdccaaGreatDoor
