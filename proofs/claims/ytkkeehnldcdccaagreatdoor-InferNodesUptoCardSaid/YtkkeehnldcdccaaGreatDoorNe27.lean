import Derived.Test.YtkkeehnldcdccaaGreatDoorNe26
set_option linter.unusedVariables false
set_option linter.unusedSimpArgs false
set_option maxRecDepth 100000
set_option maxHeartbeats 4000000
namespace Go.Proofs.YtkkeehnldcdccaaGreatDoor
open Go.Lib (hid)
open Go.RowKit
section
def Fe(x y z:List Int):Int×List Int:=if(Vb.Bx x y).1≠0 then((Vb.Bx x y).1,[])else Vb.Bx (Vb.Bx x y).2 z
theorem Pp{x y z:List Int}(h:(Vb.Bx x y).1≠0):Fe x y z=((Vb.Bx x y).1,[]):=if_pos h
theorem Mu{x y z:List Int}(h:(Vb.Bx x y).1=0):Fe x y z=Vb.Bx (Vb.Bx x y).2 z:=if_neg (fun c=>c h)
def Hl(x:List Int):Option (List Int):=if x.length=4 then some [x.getD 0 0,x.getD 1 0,1,1]else none
def Nz(x:List Int)(rest:List Vl):Option (List Int):=if 2≤x.length∧∀v∈rest,v.dims=(x.drop 1).take 1 then some x else none
attribute [local irreducible] Vb.Bx Au A7 Bq AH Ag Fe Hl Nz
theorem Q0{w:World}{v:Value}{n:Nd}{x:Vl}{y:Vl}{ins:List Vl}(h:BF w v n ins)(hi:ins[0]?=some x)(hj:ins[1]?=some y){z:Vl}(hk:ins[2]?=some z)(hl:n.op.toList=[87,104,101,114,101]) :
  Calls Tryz.prog 20 #[v] w fun e w'=>AV w (Fe x.dims y.dims z.dims) e w':=by
 obtain⟨vin,vat,vv,rfl,hm⟩:=h;obtain⟨a1,c1,rfl⟩:=hm.node.is.form;obtain⟨a2,c2,rfl⟩:=hm.node.ia.form;obtain⟨a3,c3,rfl⟩:=hm.ins.form;have HM:=hid hm;obtain⟨bx,ox,vd,rfl,g0,hd,hy⟩:=CW hm.ins hi;clear hm;obtain⟨b3,o3,cc3,vf,hv3,-,-,-,g4,-,-,hf⟩:=Bm HM.out.ins hk;obtain⟨e3,-,-⟩:=Value.slice.inj hv3;obtain⟨rfl,rfl⟩:bx=b3∧ox=o3:=by simpa using e3
 have g4:w.cell? ⟨bx,ox+8,none⟩=some vf:=g4;have hlen2:2<ins.length:=(List.getElem?_eq_some_iff.1 hk).1;have HF:=hid hf;clear hf hv3 e3 hk;obtain⟨ve,g2,he⟩:=hy _ hj;have HE:=hid he;clear he;have hlen:1<ins.length:=(List.getElem?_eq_some_iff.1 hj).1;clear hi hj;clear hy;have HD:=hid hd;clear hd;have HY:=hid (fun(W:World)=>Ao W);have HNo:=hid (fun(W:World)=>Aw W);have g1:=Aj g0 (.cells #[.string n.op,.string n.name,.slice a1 n.ins.length c1,.string n.out,.slice a2 n.attrs.length c2,.slice (some ⟨bx,ox,none⟩) ins.length c3] 55);have g3:=Aj g2 (.cells #[.string n.op,.string n.name,.slice a1 n.ins.length c1,.string n.out,.slice a2 n.attrs.length c2,.slice (some ⟨bx,ox,none⟩) ins.length c3] 55);have HB1:=hid ((Below.refl w.heap.size w).alloc (Nat.le_refl _) (.cells #[.string n.op,.string n.name,.slice a1 n.ins.length c1,.string n.out,.slice a2 n.attrs.length c2,.slice (some ⟨bx,ox,none⟩) ins.length c3] 55));have HA1:=hid (Ac.new w #[.string n.op,.string n.name,.slice a1 n.ins.length c1,.string n.out,.slice a2 n.attrs.length c2,.slice (some ⟨bx,ox,none⟩) ins.length c3] 55);obtain⟨ad,cd,rfl⟩:=HD.out.shape;obtain⟨ae,ce,rfl⟩:=HE.out.shape;go_enter Tryz.func20,Tryz.ntmps20
 go_wp2_with fail
 have g5:=Aj g4 (.cells #[.string n.op,.string n.name,.slice a1 n.ins.length c1,.string n.out,.slice a2 n.attrs.length c2,.slice (some ⟨bx,ox,none⟩) ins.length c3] 55);obtain⟨af,cf,rfl⟩:=HF.out.shape;have hbx:bx<w.heap.size:=Al g0;have hl1:(1:Int)<(ins.length:Int):=by omega
 have hl2:(2:Int)<(ins.length:Int):=by omega
 have HSr:Hid (∀W',Below (w.heap.size+1) (w.alloc (.cells #[.string n.op,.string n.name,.slice a1 n.ins.length c1,.string n.out,.slice a2 n.attrs.length c2,.slice (some ⟨bx,ox,none⟩) ins.length c3] 55)) W'→W'.cell? ⟨w.heap.size,5,none⟩=some (.slice (some ⟨bx,ox,none⟩) ins.length c3)∧W'.cell? ⟨bx,ox+5,none⟩=some (.slice ae y.dims.length ce)∧W'.cell? ⟨bx,ox+8,none⟩=some (.slice af z.dims.length cf)):=hid fun W' h=>⟨(h.cell (p:=⟨w.heap.size,5,none⟩) (Nat.lt_succ_self _)).trans HA1.out.six.2.2.2.2.2,(h.cell (p:=⟨bx,ox+5,none⟩) (Nat.lt_succ_of_lt hbx)).trans g3,(h.cell (p:=⟨bx,ox+8,none⟩) (Nat.lt_succ_of_lt hbx)).trans g5⟩;have HBs:Hid (∀W',Below (w.heap.size+1) (w.alloc (.cells #[.string n.op,.string n.name,.slice a1 n.ins.length c1,.string n.out,.slice a2 n.attrs.length c2,.slice (some ⟨bx,ox,none⟩) ins.length c3] 55)) W'→Below w.heap.size w W'):=hid fun W' h=>HB1.out.trans (h.mono (Nat.le_succ _));refine Ae 13 [0,1,2,3,4,5,7,8,9,10,11,6,12] (fun W'=>Below (w.heap.size+1) (w.alloc (.cells #[.string n.op,.string n.name,.slice a1 n.ins.length c1,.string n.out,.slice a2 n.attrs.length c2,.slice (some ⟨bx,ox,none⟩) ins.length c3] 55)) W') (by kernel_rfl) (by kernel_rfl) (fun _ d _ _ _ h=>by cases d<;>exact h) (Below.refl _ _).drew ?_;have B0:Hid (Below (w.heap.size+1) (w.alloc (.cells #[.string n.op,.string n.name,.slice a1 n.ins.length c1,.string n.out,.slice a2 n.attrs.length c2,.slice (some ⟨bx,ox,none⟩) ins.length c3] 55)) (w.alloc (.cells #[.string n.op,.string n.name,.slice a1 n.ins.length c1,.string n.out,.slice a2 n.attrs.length c2,.slice (some ⟨bx,ox,none⟩) ins.length c3] 55)).drew):=hid (Below.refl _ _).drew;have hsz:w.heap.size+1≤(w.alloc (.cells #[.string n.op,.string n.name,.slice a1 n.ins.length c1,.string n.out,.slice a2 n.attrs.length c2,.slice (some ⟨bx,ox,none⟩) ins.length c3] 55)).drew.heap.size:=by simp[World.drew]
 generalize (w.alloc (.cells #[.string n.op,.string n.name,.slice a1 n.ins.length c1,.string n.out,.slice a2 n.attrs.length c2,.slice (some ⟨bx,ox,none⟩) ins.length c3] 55)).drew=wD at B0 hsz⊢
 repeat
  refine Ah (v:=?_) rfl rfl (Or.inl ⟨by rfl,?_⟩) ?_;rotate_left
  ·intro W' hSw;obtain⟨s0,s1,s2⟩:=HSr.out W' hSw;go_simp
   try with_reducible rfl
  try simp only[Act.put,List.getElem_toArray,List.getElem_cons_zero,List.getElem_cons_succ,List.setIfInBounds_toArray,List.set_cons_zero,List.set_cons_succ]
 refine Av rfl rfl (fun K' hK=>?_);go_simp
 have HBD:=hid (HBs.out _ B0.out);refine(C0 (HD.out.below HBD.out) (HE.out.below HBD.out)).mono ?_;rintro e w2⟨B2,⟨hne,rfl⟩| ⟨h0,v2,rfl,hr2⟩⟩
 ·have E:=hid (Pp (z:=z.dims) hne);exact⟨rfl,HBD.out.trans (B2.mono HBD.out.size),Or.inl ⟨by rw[E.out];exact hne,by rw[E.out]⟩⟩
 have E:=hid (Mu (z:=z.dims) h0);have HL2:Hid ((Vb.Bx x.dims y.dims).2.length *8≤140737488351232):=hid (by have:=ED h0;have:=HD.out.wf.1;have:=HE.out.wf.1;omega);have HI2:Hid (Aa w2 v2 (Vb.Bx x.dims y.dims).2):=hid (hr2.ints HL2.out (FP HD.out.wf.2 HE.out.wf.2));have B1:Hid (Below (w.heap.size+1) (w.alloc (.cells #[.string n.op,.string n.name,.slice a1 n.ins.length c1,.string n.out,.slice a2 n.attrs.length c2,.slice (some ⟨bx,ox,none⟩) ins.length c3] 55)) w2):=hid (B0.out.trans (B2.mono hsz));have HB2:=hid (HBs.out _ B1.out);clear hr2 B2 h0;generalize (Vb.Bx x.dims y.dims).2=q at*;refine hK.out _ _ B1.out ?_;clear hK K'
 try simp only[Act.put,List.getElem_toArray,List.getElem_cons_zero,List.getElem_cons_succ,List.setIfInBounds_toArray,List.set_cons_zero,List.set_cons_succ]
 refine Av rfl rfl (fun K' hK=>?_);go_simp
 refine(C0 HI2.out (HF.out.below HB2.out)).mono ?_;rintro e w3 hR;have hX:AV w (Vb.Bx q z.dims) e w3:=hR.dim HB2.out (fun h0=>by have:=ED h0;have:=HL2.out;have:=HF.out.wf.1;omega) (FP HI2.out.wf.2 HF.out.wf.2);have HX:Hid (AV w (Fe x.dims y.dims z.dims) e w3):=hid (by rw[E.out];exact hX);clear hX;rcases hR with⟨B3,⟨_,rfl⟩| ⟨_,v3,rfl,hr3⟩⟩
 ·exact⟨rfl,HX.out⟩
 have hsz2:=B1.out.size;refine hK.out _ _ (B1.out.trans (B3.mono (Nat.le_trans (by simp) hsz2))) ?_;clear hK K' hr3;refine Aq rfl ?_;simp only[List.toList_toArray,List.drop_succ_cons,List.drop_zero];go_wp2
 go_ret
 exact HX.out
theorem FU{w:World}{v:Value}{n:Nd}{x:Vl}{ins:List Vl}(h:BF w v n ins)(hi:ins[0]?=some x)(hsm:Sm x.dims)(hl:n.op.toList=[71,108,111,98,97,108,65,118,101,114,97,103,101,80,111,111,108]) :
  Calls Tryz.prog 20 #[v] w fun e w'=>AV w (AX (Hl x.dims)) e w':=by
 obtain⟨vin,vat,vv,rfl,hm⟩:=h;obtain⟨a1,c1,rfl⟩:=hm.node.is.form;obtain⟨a2,c2,rfl⟩:=hm.node.ia.form;obtain⟨a3,c3,rfl⟩:=hm.ins.form;have HM:=hid hm;obtain⟨bx,ox,vd,rfl,g0,hd,hy⟩:=CW hm.ins hi;clear hm;have hlen:0<ins.length:=(List.getElem?_eq_some_iff.1 hi).1;have HS1:=hid hsm;clear hi hsm;clear hy;have HD:=hid hd;clear hd;have HY:=hid (fun(W:World)=>Ao W);have HNo:=hid (fun(W:World)=>Aw W);have g1:=Aj g0 (.cells #[.string n.op,.string n.name,.slice a1 n.ins.length c1,.string n.out,.slice a2 n.attrs.length c2,.slice (some ⟨bx,ox,none⟩) ins.length c3] 55);have HB1:=hid ((Below.refl w.heap.size w).alloc (Nat.le_refl _) (.cells #[.string n.op,.string n.name,.slice a1 n.ins.length c1,.string n.out,.slice a2 n.attrs.length c2,.slice (some ⟨bx,ox,none⟩) ins.length c3] 55));have HA1:=hid (Ac.new w #[.string n.op,.string n.name,.slice a1 n.ins.length c1,.string n.out,.slice a2 n.attrs.length c2,.slice (some ⟨bx,ox,none⟩) ins.length c3] 55);obtain⟨ad,cd,rfl⟩:=HD.out.shape;by_cases h4:x.dims.length=4
 case neg=>
  have E:Hid (Hl x.dims=none):=hid (by unfold Hl;exact if_neg h4);have hb:((x.dims.length:Int)==4)=false:=by simp;omega
  clear h4;go_enter Tryz.func20,Tryz.ntmps20
  go_wp2_with fail
  refine(HNo.out _).mono ?_;rintro e w'⟨rfl,rfl⟩;exact⟨rfl,HB1.out,Or.inl ⟨by rw[E.out];decide,by rw[E.out];rfl⟩⟩
 have E:Hid (Hl x.dims=some [x.dims.getD 0 0,x.dims.getD 1 0,1,1]):=hid (by unfold Hl;exact if_pos h4);have hb:((x.dims.length:Int)==4)=true:=by simp;omega
 have H4:=hid h4;have h40:(0:Int)<(x.dims.length:Int):=by omega
 have h41:(1:Int)<(x.dims.length:Int):=by omega
 have h40n:0<x.dims.length:=by omega
 have h41n:1<x.dims.length:=by omega
 clear h4;obtain⟨b0,o0,ha0,-,l0,u0,-⟩:=Ai (k:=0) HD.out (by have:=H4.out;omega);obtain⟨b1,o1,ha1,-,-,u1,-⟩:=Ai (k:=1) HD.out (by have:=H4.out;omega);subst ha0;obtain⟨rfl,rfl⟩:b0=b1∧o0=o1:=by simpa using ha1
 clear ha1;have HGd:Hid (Gd [x.dims.getD 0 0,x.dims.getD 1 0,1,1]):=hid (Nw (GK HS1.out 0) (GK HS1.out 1) (by decide) (by decide));generalize x.dims.getD 0 0=q0 at*;generalize x.dims.getD 1 0=q1 at*;go_enter Tryz.func20,Tryz.ntmps20
 go_wp2_with fail
 refine(HY.out _).mono ?_;rintro e wq⟨rfl,rfl⟩;go_wp2_with fail
 have HSr:Hid (∀W',Below w.heap.size w W'→W'.cell? ⟨b0,o0,none⟩=some (.int .i64 q0)∧W'.cell? ⟨b0,o0+1,none⟩=some (.int .i64 q1)):=hid fun W' h=>⟨(h.cell (p:=⟨b0,o0,none⟩) l0).trans u0,(h.cell (p:=⟨b0,o0+1,none⟩) l0).trans u1⟩;refine Ae 7 [0,1,2,3,4,5,6] (fun W'=>Below w.heap.size w W') (by kernel_rfl) (by kernel_rfl) (fun _ d _ _ _ h=>by cases d<;>exact h) HB1.out.drew ?_;have B0:Hid (Below w.heap.size w (w.alloc (.cells #[.string n.op,.string n.name,.slice a1 n.ins.length c1,.string n.out,.slice a2 n.attrs.length c2,.slice (some ⟨bx,ox,none⟩) ins.length c3] 55)).drew):=hid HB1.out.drew;have hsz:w.heap.size≤(w.alloc (.cells #[.string n.op,.string n.name,.slice a1 n.ins.length c1,.string n.out,.slice a2 n.attrs.length c2,.slice (some ⟨bx,ox,none⟩) ins.length c3] 55)).drew.heap.size:=B0.out.size;generalize (w.alloc (.cells #[.string n.op,.string n.name,.slice a1 n.ins.length c1,.string n.out,.slice a2 n.attrs.length c2,.slice (some ⟨bx,ox,none⟩) ins.length c3] 55)).drew=wD at B0 hsz⊢
 repeat
  refine Ah (v:=?_) rfl rfl (Or.inl ⟨by rfl,?_⟩) ?_;rotate_left
  ·intro W' hSw;obtain⟨s0,s1⟩:=HSr.out W' hSw;go_simp
   try with_reducible rfl
  try simp only[Act.put,List.getElem_toArray,List.getElem_cons_zero,List.getElem_cons_succ,List.setIfInBounds_toArray,List.set_cons_zero,List.set_cons_succ]
 refine Av rfl rfl (fun K' hK=>?_);go_simp
 have HBF:Hid (Below w.heap.size w (wD.alloc (Obj.cells #[.int .i64 q0,.int .i64 q1,.int .i64 1,.int .i64 1] 3))):=hid (B0.out.alloc hsz _);have HRw:Hid (Aa (wD.alloc (Obj.cells #[.int .i64 q0,.int .i64 q1,.int .i64 1,.int .i64 1] 3)) (.slice (some ⟨wD.heap.size,0,none⟩) 4 4) [q0,q1,1,1]):=hid ((Db (B:=w.heap.size) (zs:=[q0,q1,1,1]) (Ac.new _ _ _) hsz rfl (by simp)).ints HGd.out.1 HGd.out.2);refine hK.out _ _ HBF.out ?_;clear hK K';refine Aq rfl ?_;simp only[List.toList_toArray,List.drop_succ_cons,List.drop_zero];go_wp2
 go_ret
 rw[E.out];exact⟨HBF.out,Or.inr ⟨rfl,_,rfl,HRw.out⟩⟩
theorem LM{w:World}{v:Value}{n:Nd}{a:At}{ins:List Vl}(h:BF w v n ins)(hf:n.attrs.find? DT=some a)(hl:n.op.toList=[67,111,110,115,116,97,110,116]) :
  Calls Tryz.prog 20 #[v] w fun e w'=>AV w (0,a.dims) e w':=by
 obtain⟨vin,vat,vv,rfl,hm⟩:=h;obtain⟨a1,c1,rfl⟩:=hm.node.is.form;obtain⟨a2,c2,rfl⟩:=hm.node.ia.form;obtain⟨a3,c3,rfl⟩:=hm.ins.form;have HM:=hid hm;have HF:=hid hf;clear hm hf;have HB1:=hid ((Below.refl w.heap.size w).alloc (Nat.le_refl _) (.cells #[.string n.op,.string n.name,.slice a1 n.ins.length c1,.string n.out,.slice a2 n.attrs.length c2,.slice a3 ins.length c3] 55));go_enter Tryz.func20,Tryz.ntmps20
 go_wp2_with fail
 generalize World.alloc w _=W1 at HB1⊢;refine(Ip (n:=n) (ins:=ins) ⟨_,_,_,rfl,HM.out.below HB1.out⟩ HF.out).mono ?_;rintro e w2⟨vd,vx,rfl,hvd,hvx,B2⟩;obtain⟨ad,cd,rfl⟩:=hvd.shape;obtain⟨ax,cx,rfl⟩:=hvx.shape;have HVD:=hid hvd;clear hvd hvx;have hfd:∀W:World,(Instr.field 41 (.agg #[.int .i64 a.typ,.slice ad a.dims.length cd,.slice ax a.data.length cx]) 1).run Tryz.prog W=.ok (.slice ad a.dims.length cd) W:=fun _=>by kernel_rfl
 have HB2:=hid (HB1.out.trans (B2.mono HB1.out.size));clear B2;go_wp2
 go_ret
 exact⟨HB2.out,Or.inr ⟨rfl,_,rfl,HVD.out⟩⟩
theorem Fw{w:World}{v:Value}{n:Nd}{x:Vl}{ins:List Vl}(h:BF w v n ins)(hi:ins[0]?=some x)(hsm:Sm x.dims)(hn:2≤ins.length)(hl:n.op.toList=[66,97,116,99,104,78,111,114,109,97,108,105,122,97,116,105,111,110]) :
  Calls Tryz.prog 20 #[v] w fun e w'=>AV w (AX (Nz x.dims (ins.drop 1))) e w':=by
 obtain⟨vin,vat,vv,rfl,hm⟩:=h;obtain⟨a1,c1,rfl⟩:=hm.node.is.form;obtain⟨a2,c2,rfl⟩:=hm.node.ia.form;obtain⟨a3,c3,rfl⟩:=hm.ins.form;have HM:=hid hm;obtain⟨bx,ox,vd,rfl,g0,hd,hy⟩:=CW hm.ins hi;clear hm;have hlen:0<ins.length:=(List.getElem?_eq_some_iff.1 hi).1;have HS1:=hid hsm;have hic:=HM.out.ins.cap;have hil:=HM.out.ins.len;clear hi hsm;clear hy;have HD:=hid hd;clear hd;have HY:=hid (fun(W:World)=>Ao W);have HNo:=hid (fun(W:World)=>Aw W);have g1:=Aj g0 (.cells #[.string n.op,.string n.name,.slice a1 n.ins.length c1,.string n.out,.slice a2 n.attrs.length c2,.slice (some ⟨bx,ox,none⟩) ins.length c3] 55);have HB1:=hid ((Below.refl w.heap.size w).alloc (Nat.le_refl _) (.cells #[.string n.op,.string n.name,.slice a1 n.ins.length c1,.string n.out,.slice a2 n.attrs.length c2,.slice (some ⟨bx,ox,none⟩) ins.length c3] 55));have HA1:=hid (Ac.new w #[.string n.op,.string n.name,.slice a1 n.ins.length c1,.string n.out,.slice a2 n.attrs.length c2,.slice (some ⟨bx,ox,none⟩) ins.length c3] 55);obtain⟨ad,cd,rfl⟩:=HD.out.shape;by_cases h2:2≤x.dims.length
 case neg=>
  have E:Hid (Nz x.dims (ins.drop 1)=none):=hid (by unfold Nz;exact if_neg (fun c=>h2 c.1));have hb:¬(2:Int)≤(x.dims.length:Int):=by omega
  clear h2;go_enter Tryz.func20,Tryz.ntmps20
  go_wp2_with fail
  refine(HNo.out _).mono ?_;rintro e w'⟨rfl,rfl⟩;exact⟨rfl,HB1.out,Or.inl ⟨by rw[E.out];decide,by rw[E.out];rfl⟩⟩
 have hb:(2:Int)≤(x.dims.length:Int):=by omega
 have H2:=hid h2;have E0:Hid (∀v∈ins.drop 1,¬v.dims=(x.dims.drop 1).take 1→Nz x.dims (ins.drop 1)=none):=hid (fun v hv hne=>by unfold Nz;exact if_neg (fun c=>hne (c.2 v hv)));have E1:Hid ((∀v∈ins.drop 1,v.dims=(x.dims.drop 1).take 1)→Nz x.dims (ins.drop 1)=some x.dims):=hid (fun h=>by unfold Nz;exact if_pos ⟨h2,h⟩);have hxc:=HD.out.capI.2;have hcd1:¬cd=1:=by omega
 have hcd2:2≤cd:=by omega
 have hc31:¬c3=1:=by omega
 have hi1i:(1:Int)≤(ins.length:Int):=by omega
 obtain⟨b0,o0,ha0,-,l0,u0,-⟩:=Ai (k:=0) HD.out (by omega);subst ha0;clear u0 h2;have HI1:Hid (Aa w (.slice (some ⟨b0,o0+1,none⟩) 1 (cd-1)) ((x.dims.drop 1).take 1)):=hid (by
  have h:=Ds (k:=1) HD.out (by have:=H2.out;omega);rw[if_neg hcd1,Option.map_some,Addr.add_lit]at h;exact h.take (k:=1) (by rw[List.length_drop];have:=H2.out;omega))
 generalize hq1:(x.dims.drop 1).take 1=q1 at*;clear hq1;go_enter Tryz.func20,Tryz.ntmps20
 go_wp2_with fail
 refine(HY.out _).mono ?_;rintro e wq⟨rfl,rfl⟩;obtain⟨k0,k1,k2,k3,k4,k5⟩:=HA1.out.six;go_wp2_with fail
 clear k0 k1 k2 k3 k4 k5 g1;generalize hW1:World.alloc w _=W1 at HB1 HA1⊢;clear hW1;go_loopw [134] (fun i wr=>∃(k:Nat),k≤ins.length-1∧i=.int .i64 (k:Int)∧Hid (∀(j:Nat) v,j<k→ins[j+1]?=some v→v.dims=q1)∧Hid (Below w.heap.size w wr)) (fun i _=>ins.length-1-(intOf i).toNat)
 case atStart=>exact⟨0,Nat.zero_le _,rfl,hid (fun j v hj=>by omega),HB1⟩
 obtain⟨k,hk,rfl,hA,hW⟩:=hrel;by_cases hkl:k<ins.length-1
 case neg=>
  have hki:¬(k:Int)<((ins.length-1:Nat):Int):=by omega
  have E:Hid (Nz x.dims (ins.drop 1)=some x.dims):=hid (E1.out (fun v hv=>by
   obtain⟨j,hj⟩:=List.mem_iff_getElem?.1 hv;rw[List.getElem?_drop,Nat.add_comm]at hj;exact hA.out j v (by have:=(List.getElem?_eq_some_iff.1 hj).1;omega) hj))
  go_wp2
  go_ret
  first|rw[E.out]|rw[←List.drop_one,E.out]
  exact⟨hW.out,Or.inr ⟨rfl,_,rfl,HD.out.below hW.out⟩⟩
 have hki:(k:Int)<((ins.length-1:Nat):Int):=by omega
 obtain⟨v,hv⟩:=BH ins (k+1) (by omega);obtain⟨b',o',cap',vd,hvs,hb',u0,u1,u2,-,-,hd⟩:=Bm HM.out.ins hv;obtain⟨e1,-,-⟩:=Value.slice.inj hvs;obtain⟨e1,e2⟩:bx=b'∧ox=o':=by simpa using e1
 subst e1 e2;have hof:ox+(k+1)*3=ox+3+k*3:=by omega
 rw[hof]at u0 u1 u2;have u0:=(hW.out.cell (p:=⟨bx,ox+3+k*3,none⟩) hb').trans u0;have u1:=(hW.out.cell (p:=⟨bx,ox+3+k*3+1,none⟩) hb').trans u1;have u2:=(hW.out.cell (p:=⟨bx,ox+3+k*3+2,none⟩) hb').trans u2;have HDv:=hid hd;obtain⟨av,cv,rfl⟩:=hd.shape;have HV:=hid hv;clear hof hv hvs hd;go_wp2_with fail
 clear u0 u1 u2;have HP8:=hid (Ac.new wr #[.string v.name,.int .i64 v.typ,.slice av v.dims.length cv] 31);have HB8:Hid (Below w.heap.size w (wr.alloc (Obj.cells #[.string v.name,.int .i64 v.typ,.slice av v.dims.length cv] 31))):=hid (hW.out.alloc hW.out.size _);generalize wr.alloc _=w8 at HP8 HB8⊢;generalize wr.heap.size=P8 at HP8⊢;have hx2c:(2:Int)≤(cd:Int):=by omega
 have HSr:Hid (∀W',Below w8.heap.size w8 W'→W'.cell? ⟨P8,2,none⟩=some (.slice av v.dims.length cv)):=hid fun W' h=>(HP8.out.below' h).cell 2 rfl;refine DP [0,1,2,3,4,5] (fun W'=>Below w8.heap.size w8 W') (by kernel_rfl) (by kernel_rfl) (fun _ d _ _ _ h=>by cases d<;>exact h) (Below.refl _ _).drew ?_;have B0:Hid (Below w8.heap.size w8 w8.drew):=hid (Below.refl _ _).drew;generalize w8.drew=wD at B0⊢
 repeat
  refine Ah (v:=?_) rfl rfl (Or.inl ⟨by rfl,?_⟩) ?_;rotate_left
  ·intro W' hSw;have s0:=HSr.out W' hSw;go_simp
   try with_reducible rfl
  try simp only[Act.put,List.getElem_toArray,List.getElem_cons_zero,List.getElem_cons_succ,List.setIfInBounds_toArray,List.set_cons_zero,List.set_cons_succ]
 refine Av rfl rfl (fun K' hK=>?_);go_simp
 have HBD:=hid (HB8.out.trans (B0.out.mono HB8.out.size));refine(Hk (HDv.out.below HBD.out) (HI1.out.below HBD.out)).mono ?_;rintro e w9⟨rfl,B9⟩;have B1:=hid (B0.out.trans (B9.mono B0.out.size));have HB9:=hid (HB8.out.trans (B1.out.mono HB8.out.size));refine hK.out _ _ B1.out ?_;clear hK K' B9
 try simp only[Act.put,List.getElem_toArray,List.getElem_cons_zero,List.getElem_cons_succ,List.setIfInBounds_toArray,List.set_cons_zero,List.set_cons_succ]
 refine Av rfl rfl (fun K' hK=>?_);go_simp
 by_cases hvq:v.dims=q1
 ·try rw[decide_eq_true hvq]
  refine(HY.out _).mono ?_;rintro e w'⟨rfl,rfl⟩;refine hK.out _ _ B1.out ?_;clear hK K';refine O2 ?_;have hA2:Hid (∀(j:Nat) u,j<k+1→ins[j+1]?=some u→u.dims=q1):=hid (fun j u hj hu=>by
   by_cases e:j=k
   ·subst e;rw[HV.out]at hu;cases hu
    exact hvq
   ·exact hA.out j u (by omega) hu)
  clear hvq;go_wp2_with fail
  go_roundw
  case rel=>exact⟨k+1,by omega,by go_num,hA2,HB9⟩
  case measure=>simp[intOf];omega
 ·try rw[decide_eq_false hvq]
  have E:Hid (Nz x.dims (ins.drop 1)=none):=hid (E0.out v (List.mem_iff_getElem?.2 ⟨k,by rw[List.getElem?_drop,Nat.add_comm];exact HV.out⟩) hvq);refine(HNo.out _).mono ?_;rintro e w'⟨rfl,rfl⟩;exact⟨rfl,HB9.out,Or.inl (by first|(rw[E.out];exact⟨by decide,rfl⟩)|(rw[←List.drop_one,E.out];exact⟨by decide,rfl⟩))⟩
end
end Go.Proofs.YtkkeehnldcdccaaGreatDoor
