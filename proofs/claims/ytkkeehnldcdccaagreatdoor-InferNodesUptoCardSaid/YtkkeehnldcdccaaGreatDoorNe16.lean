import Derived.Test.YtkkeehnldcdccaaGreatDoorNe15
set_option linter.unusedVariables false
set_option linter.unusedSimpArgs false
set_option maxRecDepth 100000
set_option maxHeartbeats 36000000
namespace Go.Proofs.YtkkeehnldcdccaaGreatDoor
open Go.Lib (hid)
open Go.RowKit
section
attribute [local irreducible] Fc Dg CH DF Dh Ci Fl.Eh Fl.un
theorem Me{w:World}{v:Value}{n:Nd}{x:Vl}{ins:List Vl}(h:BF w v n ins)(hi:ins[0]?=some x)(hl:n.op.toList=[78,111,116]∨n.op.toList=[82,101,108,117]) :
  Calls Tryz.prog 19 #[v] w fun e w'=>CB (CH (Fl.un n.op.toList x.typ 0).2 x.typ) e∧Below w.heap.size w w':=by
 rcases hl with hl|hl
 all_goals
  obtain⟨vin,vat,vv,rfl,hm⟩:=h;obtain⟨a1,c1,rfl⟩:=hm.node.is.form;obtain⟨a2,c2,rfl⟩:=hm.node.ia.form;obtain⟨a3,c3,rfl⟩:=hm.ins.form;have HM:=hid hm;obtain⟨bx,ox,rfl,g0⟩:=DK hm.ins hi;have hlen:0<ins.length:=(List.getElem?_eq_some_iff.1 hi).1;clear hm hi;have HY:=hid (fun(W:World)=>Ao W);have HNo:=hid (fun(W:World)=>Aw W);have g1:=Aj g0 (.cells #[.string n.op,.string n.name,.slice a1 n.ins.length c1,.string n.out,.slice a2 n.attrs.length c2,.slice (some ⟨bx,ox,none⟩) ins.length c3] 55);have HB1:=hid ((Below.refl w.heap.size w).alloc (Nat.le_refl _) (.cells #[.string n.op,.string n.name,.slice a1 n.ins.length c1,.string n.out,.slice a2 n.attrs.length c2,.slice (some ⟨bx,ox,none⟩) ins.length c3] 55));have HA1:=hid (Ac.new w #[.string n.op,.string n.name,.slice a1 n.ins.length c1,.string n.out,.slice a2 n.attrs.length c2,.slice (some ⟨bx,ox,none⟩) ins.length c3] 55);obtain⟨b6,d6⟩:∃b,(x.typ==6)=b:=⟨_,rfl⟩;cases b6
  all_goals
   go_enter Tryz.func19,Tryz.ntmps19
   go_wp2_with fail
   have HBi:=hid (fun(W:World)=>Nm.Hd n.op x.typ W);generalize World.alloc w _=W1 at g1 HB1 HA1⊢
   with_reducible refine(HBi.out _).mono ?_
   rintro e w2⟨r1,rfl,B2⟩;have B2:Below W1.heap.size W1 w2:=B2;have HB2:=hid (HB1.out.trans (B2.mono HB1.out.size));clear B2 HBi HA1 HB1 g1 g0;obtain⟨r2,hr2⟩:∃r2,(Fl.un n.op.toList x.typ 0).2=r2:=⟨_,rfl⟩;have HR2:=hid hr2;rw[hr2];clear hr2;by_cases hr:r2=0
   ·have HR:=hid hr;have hb:(r2==0)=true:=by simp[hr]
    clear hr;go_wp2_with fail
    refine(HY.out _).mono ?_;rintro e w'⟨rfl,rfl⟩;go_wp2
    go_ret
    exact⟨CB.yes (OK (by rw[HR2.out];exact HR.out)),HB2.out⟩
   ·have HR:=hid hr;have hb:(r2==0)=false:=by simpa using hr
    clear hr;go_wp2_with fail
    refine(HNo.out _).mono ?_;rintro e w'⟨rfl,rfl⟩;exact⟨rfl,CB.no (OJ (by rw[HR2.out];exact HR.out)),HB2.out⟩
theorem Xd{w:World}{v:Value}{n:Nd}{x:Vl}{ins:List Vl}(h:BF w v n ins)(hi:ins[0]?=some x)(hl:n.op.toList=[78,111,116]) :
  Calls Tryz.prog 19 #[v] w fun e w'=>CB (CH (Fl.un n.op.toList x.typ 0).2 x.typ) e∧Below w.heap.size w w':=
 Me h hi (Or.inl hl)
theorem OR{w:World}{v:Value}{n:Nd}{x:Vl}{ins:List Vl}(h:BF w v n ins)(hi:ins[0]?=some x)(hl:n.op.toList=[82,101,108,117]) :
  Calls Tryz.prog 19 #[v] w fun e w'=>CB (CH (Fl.un n.op.toList x.typ 0).2 x.typ) e∧Below w.heap.size w w':=
 Me h hi (Or.inr hl)
theorem FZ{w:World}{v:Value}{n:Nd}{x:Vl}{ins:List Vl}(h:BF w v n ins)(hi:ins[0]?=some x)(hl:n.op.toList=[82,101,100,117,99,101,83,117,109]∨n.op.toList=[82,101,100,117,99,101,77,97,120]) :
  Calls Tryz.prog 19 #[v] w fun e w'=>CB (DF x.typ x.typ) e∧Below w.heap.size w w':=by
 rcases hl with hl|hl
 all_goals
  obtain⟨vin,vat,vv,rfl,hm⟩:=h;obtain⟨a1,c1,rfl⟩:=hm.node.is.form;obtain⟨a2,c2,rfl⟩:=hm.node.ia.form;obtain⟨a3,c3,rfl⟩:=hm.ins.form;have HM:=hid hm;obtain⟨bx,ox,rfl,g0⟩:=DK hm.ins hi;have hlen:0<ins.length:=(List.getElem?_eq_some_iff.1 hi).1;clear hm hi;have HY:=hid (fun(W:World)=>Ao W);have HNo:=hid (fun(W:World)=>Aw W);have g1:=Aj g0 (.cells #[.string n.op,.string n.name,.slice a1 n.ins.length c1,.string n.out,.slice a2 n.attrs.length c2,.slice (some ⟨bx,ox,none⟩) ins.length c3] 55);have HB1:=hid ((Below.refl w.heap.size w).alloc (Nat.le_refl _) (.cells #[.string n.op,.string n.name,.slice a1 n.ins.length c1,.string n.out,.slice a2 n.attrs.length c2,.slice (some ⟨bx,ox,none⟩) ins.length c3] 55));have HA1:=hid (Ac.new w #[.string n.op,.string n.name,.slice a1 n.ins.length c1,.string n.out,.slice a2 n.attrs.length c2,.slice (some ⟨bx,ox,none⟩) ins.length c3] 55);by_cases ht:x.typ=6∨x.typ=7∨x.typ=1
  ·have E:Hid (DF x.typ x.typ=(0,x.typ)):=hid (by unfold DF;exact if_pos ht);have d6:(x.typ==6)=decide (x.typ=6):=rfl;have d7:(x.typ==7)=decide (x.typ=7):=rfl;have d1:(x.typ==1)=decide (x.typ=1):=rfl;generalize x.typ=tt at*;rcases ht with rfl|rfl|rfl
   all_goals
    go_enter Tryz.func19,Tryz.ntmps19
    go_wp2_with fail
    refine(HY.out _).mono ?_;rintro e w'⟨rfl,rfl⟩;go_wp2
    go_ret
    exact⟨CB.yes E.out,HB1.out⟩
  ·have E:Hid (DF x.typ x.typ=(4,0)):=hid (by unfold DF;exact if_neg ht);have d6:(x.typ==6)=false:=by simp;omega
   have d7:(x.typ==7)=false:=by simp;omega
   have d1:(x.typ==1)=false:=by simp;omega
   clear ht;go_enter Tryz.func19,Tryz.ntmps19
   go_wp2_with fail
   refine(HNo.out _).mono ?_;rintro e w'⟨rfl,rfl⟩;exact⟨rfl,CB.no E.out,HB1.out⟩
theorem Ly{w:World}{v:Value}{n:Nd}{x:Vl}{ins:List Vl}(h:BF w v n ins)(hi:ins[0]?=some x)(hl:n.op.toList=[82,101,100,117,99,101,83,117,109]) :
  Calls Tryz.prog 19 #[v] w fun e w'=>CB (DF x.typ x.typ) e∧Below w.heap.size w w':=
 FZ h hi (Or.inl hl)
theorem Lz{w:World}{v:Value}{n:Nd}{x:Vl}{ins:List Vl}(h:BF w v n ins)(hi:ins[0]?=some x)(hl:n.op.toList=[82,101,100,117,99,101,77,97,120]) :
  Calls Tryz.prog 19 #[v] w fun e w'=>CB (DF x.typ x.typ) e∧Below w.heap.size w w':=
 FZ h hi (Or.inr hl)
theorem QF{w:World}{v:Value}{n:Nd}{x:Vl}{ins:List Vl}(h:BF w v n ins)(hi:ins[0]?=some x)(hl:n.op.toList=[65,114,103,77,97,120]) :
  Calls Tryz.prog 19 #[v] w fun e w'=>CB (DF x.typ 7) e∧Below w.heap.size w w':=by
 obtain⟨vin,vat,vv,rfl,hm⟩:=h;obtain⟨a1,c1,rfl⟩:=hm.node.is.form;obtain⟨a2,c2,rfl⟩:=hm.node.ia.form;obtain⟨a3,c3,rfl⟩:=hm.ins.form;have HM:=hid hm;obtain⟨bx,ox,rfl,g0⟩:=DK hm.ins hi;have hlen:0<ins.length:=(List.getElem?_eq_some_iff.1 hi).1;clear hm hi;have HY:=hid (fun(W:World)=>Ao W);have HNo:=hid (fun(W:World)=>Aw W);have g1:=Aj g0 (.cells #[.string n.op,.string n.name,.slice a1 n.ins.length c1,.string n.out,.slice a2 n.attrs.length c2,.slice (some ⟨bx,ox,none⟩) ins.length c3] 55);have HB1:=hid ((Below.refl w.heap.size w).alloc (Nat.le_refl _) (.cells #[.string n.op,.string n.name,.slice a1 n.ins.length c1,.string n.out,.slice a2 n.attrs.length c2,.slice (some ⟨bx,ox,none⟩) ins.length c3] 55));have HA1:=hid (Ac.new w #[.string n.op,.string n.name,.slice a1 n.ins.length c1,.string n.out,.slice a2 n.attrs.length c2,.slice (some ⟨bx,ox,none⟩) ins.length c3] 55);by_cases ht:x.typ=6∨x.typ=7∨x.typ=1
 ·have E:Hid (DF x.typ 7=(0,7)):=hid (by unfold DF;exact if_pos ht);have d6:(x.typ==6)=decide (x.typ=6):=rfl;have d7:(x.typ==7)=decide (x.typ=7):=rfl;have d1:(x.typ==1)=decide (x.typ=1):=rfl;generalize x.typ=tt at*;rcases ht with rfl|rfl|rfl
  all_goals
   go_enter Tryz.func19,Tryz.ntmps19
   go_wp2_with fail
   refine(HY.out _).mono ?_;rintro e w'⟨rfl,rfl⟩;go_wp2
   go_ret
   exact⟨CB.yes E.out,HB1.out⟩
 ·have E:Hid (DF x.typ 7=(4,0)):=hid (by unfold DF;exact if_neg ht);have d6:(x.typ==6)=false:=by simp;omega
  have d7:(x.typ==7)=false:=by simp;omega
  have d1:(x.typ==1)=false:=by simp;omega
  clear ht;go_enter Tryz.func19,Tryz.ntmps19
  go_wp2_with fail
  refine(HNo.out _).mono ?_;rintro e w'⟨rfl,rfl⟩;exact⟨rfl,CB.no E.out,HB1.out⟩
theorem Ni{w:World}{v:Value}{n:Nd}{x:Vl}{ins:List Vl}(h:BF w v n ins)(hi:ins[0]?=some x)(hl:n.op.toList=[77,97,116,77,117,108]∨n.op.toList=[82,101,100,117,99,101,77,101,97,110]∨n.op.toList=[83,111,102,116,109,97,120]) :
  Calls Tryz.prog 19 #[v] w fun e w'=>CB (Dh (Ci ins 1) x.typ) e∧Below w.heap.size w w':=by
 rcases hl with hl|hl|hl
 all_goals
  obtain⟨vin,vat,vv,rfl,hm⟩:=h;obtain⟨a1,c1,rfl⟩:=hm.node.is.form;obtain⟨a2,c2,rfl⟩:=hm.node.ia.form;obtain⟨a3,c3,rfl⟩:=hm.ins.form;have HM:=hid hm;obtain⟨bx,ox,rfl,g0⟩:=DK hm.ins hi;have hlen:0<ins.length:=(List.getElem?_eq_some_iff.1 hi).1;clear hm hi;have HY:=hid (fun(W:World)=>Ao W);have HNo:=hid (fun(W:World)=>Aw W);have g1:=Aj g0 (.cells #[.string n.op,.string n.name,.slice a1 n.ins.length c1,.string n.out,.slice a2 n.attrs.length c2,.slice (some ⟨bx,ox,none⟩) ins.length c3] 55);have HB1:=hid ((Below.refl w.heap.size w).alloc (Nat.le_refl _) (.cells #[.string n.op,.string n.name,.slice a1 n.ins.length c1,.string n.out,.slice a2 n.attrs.length c2,.slice (some ⟨bx,ox,none⟩) ins.length c3] 55));have HA1:=hid (Ac.new w #[.string n.op,.string n.name,.slice a1 n.ins.length c1,.string n.out,.slice a2 n.attrs.length c2,.slice (some ⟨bx,ox,none⟩) ins.length c3] 55);obtain⟨b6,d6⟩:∃b,(x.typ==6)=b:=⟨_,rfl⟩;cases b6
  all_goals
   go_enter Tryz.func19,Tryz.ntmps19
   go_wp2_with fail
   have HAl:=hid (fun(W:World) (hW:Below w.heap.size w W)=>Fs (w:=W) (v:=.agg #[.string n.op,.string n.name,.slice a1 n.ins.length c1,.string n.out,.slice a2 n.attrs.length c2,.slice (some ⟨bx,ox,none⟩) ins.length c3]) 1 ⟨_,_,_,rfl,HM.out.below hW⟩);generalize World.alloc w _=W1 at g1 HB1 HA1⊢;refine(HAl.out _ HB1.out).mono ?_;rintro e w3⟨rfl,B3⟩;have HB3:=hid (HB1.out.trans (B3.mono HB1.out.size));clear B3 HA1 HB1 g1 g0;rw[show(!(ins.any fun y=>y.typ != 1))=Ci ins 1 by unfold Ci;rfl];cases hal:Ci ins 1 with
   | false=>
    have E1:=hid hal;clear hal;go_wp2_with fail
    refine(HNo.out _).mono ?_;rintro e w'⟨rfl,rfl⟩;exact⟨rfl,CB.no (Na E1.out),HB3.out⟩
   | true=>
    have E1:=hid hal;clear hal;go_wp2_with fail
    refine(HY.out _).mono ?_;rintro e w'⟨rfl,rfl⟩;go_wp2
    go_ret
    exact⟨CB.yes (KP E1.out),HB3.out⟩
theorem QG{w:World}{v:Value}{n:Nd}{x:Vl}{ins:List Vl}(h:BF w v n ins)(hi:ins[0]?=some x)(hl:n.op.toList=[77,97,116,77,117,108]) :
  Calls Tryz.prog 19 #[v] w fun e w'=>CB (Dh (Ci ins 1) x.typ) e∧Below w.heap.size w w':=
 Ni h hi (Or.inl hl)
end
section
attribute [local irreducible] Vb.Bx Au A7 Bq AH Ag
theorem CJ{w:World}{v:Value}{n:Nd}{x:Vl}{y:Vl}{ins:List Vl}(h:BF w v n ins)(hi:ins[0]?=some x)(hj:ins[1]?=some y)(hl:n.op.toList=[65,100,100]∨n.op.toList=[83,117,98]∨n.op.toList=[77,117,108]∨n.op.toList=[68,105,118]∨n.op.toList=[77,97,120]∨n.op.toList=[77,105,110]∨n.op.toList=[65,110,100]∨n.op.toList=[79,114]∨n.op.toList=[88,111,114]) :
  Calls Tryz.prog 20 #[v] w fun e w'=>AV w (Vb.Bx x.dims y.dims) e w':=by
 rcases hl with hl|hl|hl|hl|hl|hl|hl|hl|hl
 all_goals
  obtain⟨vin,vat,vv,rfl,hm⟩:=h;obtain⟨a1,c1,rfl⟩:=hm.node.is.form;obtain⟨a2,c2,rfl⟩:=hm.node.ia.form;obtain⟨a3,c3,rfl⟩:=hm.ins.form;have HM:=hid hm;obtain⟨bx,ox,vd,rfl,g0,hd,hy⟩:=CW hm.ins hi;clear hm;obtain⟨ve,g2,he⟩:=hy _ hj;have HE:=hid he;clear he;have hlen:1<ins.length:=(List.getElem?_eq_some_iff.1 hj).1;clear hi hj;clear hy;have HD:=hid hd;clear hd;have HY:=hid (fun(W:World)=>Ao W);have HNo:=hid (fun(W:World)=>Aw W);have g1:=Aj g0 (.cells #[.string n.op,.string n.name,.slice a1 n.ins.length c1,.string n.out,.slice a2 n.attrs.length c2,.slice (some ⟨bx,ox,none⟩) ins.length c3] 55);have g3:=Aj g2 (.cells #[.string n.op,.string n.name,.slice a1 n.ins.length c1,.string n.out,.slice a2 n.attrs.length c2,.slice (some ⟨bx,ox,none⟩) ins.length c3] 55);have HB1:=hid ((Below.refl w.heap.size w).alloc (Nat.le_refl _) (.cells #[.string n.op,.string n.name,.slice a1 n.ins.length c1,.string n.out,.slice a2 n.attrs.length c2,.slice (some ⟨bx,ox,none⟩) ins.length c3] 55));have HA1:=hid (Ac.new w #[.string n.op,.string n.name,.slice a1 n.ins.length c1,.string n.out,.slice a2 n.attrs.length c2,.slice (some ⟨bx,ox,none⟩) ins.length c3] 55);obtain⟨ad,cd,rfl⟩:=HD.out.shape;obtain⟨ae,ce,rfl⟩:=HE.out.shape;go_enter Tryz.func20,Tryz.ntmps20
  go_wp2_with fail
  generalize World.alloc w _=W1 at g1 g3 HB1 HA1⊢;refine(C0 (HD.out.below HB1.out) (HE.out.below HB1.out)).mono ?_;rintro e w2 hR;have hX:AV w (Vb.Bx x.dims y.dims) e w2:=hR.dim HB1.out (fun h0=>by have:=ED h0;have:=HD.out.wf.1;have:=HE.out.wf.1;omega) (FP HD.out.wf.2 HE.out.wf.2);have HX:=hid hX;clear hX;rcases hR with⟨_,⟨_,rfl⟩| ⟨_,v2,rfl,hr2⟩⟩
  ·exact⟨rfl,HX.out⟩
  ·clear hr2;go_wp2
   go_ret
   exact HX.out
theorem UP{w:World}{v:Value}{n:Nd}{x:Vl}{y:Vl}{ins:List Vl}(h:BF w v n ins)(hi:ins[0]?=some x)(hj:ins[1]?=some y)(hl:n.op.toList=[65,100,100]) :
  Calls Tryz.prog 20 #[v] w fun e w'=>AV w (Vb.Bx x.dims y.dims) e w':=
 CJ h hi hj (Or.inl hl)
theorem UQ{w:World}{v:Value}{n:Nd}{x:Vl}{y:Vl}{ins:List Vl}(h:BF w v n ins)(hi:ins[0]?=some x)(hj:ins[1]?=some y)(hl:n.op.toList=[83,117,98]) :
  Calls Tryz.prog 20 #[v] w fun e w'=>AV w (Vb.Bx x.dims y.dims) e w':=
 CJ h hi hj (Or.inr (Or.inl hl))
theorem UR{w:World}{v:Value}{n:Nd}{x:Vl}{y:Vl}{ins:List Vl}(h:BF w v n ins)(hi:ins[0]?=some x)(hj:ins[1]?=some y)(hl:n.op.toList=[77,117,108]) :
  Calls Tryz.prog 20 #[v] w fun e w'=>AV w (Vb.Bx x.dims y.dims) e w':=
 CJ h hi hj (Or.inr (Or.inr (Or.inl hl)))
theorem US{w:World}{v:Value}{n:Nd}{x:Vl}{y:Vl}{ins:List Vl}(h:BF w v n ins)(hi:ins[0]?=some x)(hj:ins[1]?=some y)(hl:n.op.toList=[68,105,118]) :
  Calls Tryz.prog 20 #[v] w fun e w'=>AV w (Vb.Bx x.dims y.dims) e w':=
 CJ h hi hj (Or.inr (Or.inr (Or.inr (Or.inl hl))))
theorem UT{w:World}{v:Value}{n:Nd}{x:Vl}{y:Vl}{ins:List Vl}(h:BF w v n ins)(hi:ins[0]?=some x)(hj:ins[1]?=some y)(hl:n.op.toList=[77,97,120]) :
  Calls Tryz.prog 20 #[v] w fun e w'=>AV w (Vb.Bx x.dims y.dims) e w':=
 CJ h hi hj (Or.inr (Or.inr (Or.inr (Or.inr (Or.inl hl)))))
theorem UU{w:World}{v:Value}{n:Nd}{x:Vl}{y:Vl}{ins:List Vl}(h:BF w v n ins)(hi:ins[0]?=some x)(hj:ins[1]?=some y)(hl:n.op.toList=[77,105,110]) :
  Calls Tryz.prog 20 #[v] w fun e w'=>AV w (Vb.Bx x.dims y.dims) e w':=
 CJ h hi hj (Or.inr (Or.inr (Or.inr (Or.inr (Or.inr (Or.inl hl))))))
theorem UV{w:World}{v:Value}{n:Nd}{x:Vl}{y:Vl}{ins:List Vl}(h:BF w v n ins)(hi:ins[0]?=some x)(hj:ins[1]?=some y)(hl:n.op.toList=[65,110,100]) :
  Calls Tryz.prog 20 #[v] w fun e w'=>AV w (Vb.Bx x.dims y.dims) e w':=
 CJ h hi hj (Or.inr (Or.inr (Or.inr (Or.inr (Or.inr (Or.inr (Or.inl hl)))))))
theorem Xe{w:World}{v:Value}{n:Nd}{x:Vl}{y:Vl}{ins:List Vl}(h:BF w v n ins)(hi:ins[0]?=some x)(hj:ins[1]?=some y)(hl:n.op.toList=[79,114]) :
  Calls Tryz.prog 20 #[v] w fun e w'=>AV w (Vb.Bx x.dims y.dims) e w':=
 CJ h hi hj (Or.inr (Or.inr (Or.inr (Or.inr (Or.inr (Or.inr (Or.inr (Or.inl hl))))))))
theorem UW{w:World}{v:Value}{n:Nd}{x:Vl}{y:Vl}{ins:List Vl}(h:BF w v n ins)(hi:ins[0]?=some x)(hj:ins[1]?=some y)(hl:n.op.toList=[88,111,114]) :
  Calls Tryz.prog 20 #[v] w fun e w'=>AV w (Vb.Bx x.dims y.dims) e w':=
 CJ h hi hj (Or.inr (Or.inr (Or.inr (Or.inr (Or.inr (Or.inr (Or.inr (Or.inr hl))))))))
theorem Jn{w:World}{v:Value}{n:Nd}{x:Vl}{y:Vl}{ins:List Vl}(h:BF w v n ins)(hi:ins[0]?=some x)(hj:ins[1]?=some y)(hl:n.op.toList=[77,97,116,77,117,108]) :
  Calls Tryz.prog 20 #[v] w fun e w'=>AV w (Au x.dims y.dims) e w':=by
 obtain⟨vin,vat,vv,rfl,hm⟩:=h;obtain⟨a1,c1,rfl⟩:=hm.node.is.form;obtain⟨a2,c2,rfl⟩:=hm.node.ia.form;obtain⟨a3,c3,rfl⟩:=hm.ins.form;have HM:=hid hm;obtain⟨bx,ox,vd,rfl,g0,hd,hy⟩:=CW hm.ins hi;clear hm;obtain⟨ve,g2,he⟩:=hy _ hj;have HE:=hid he;clear he;have hlen:1<ins.length:=(List.getElem?_eq_some_iff.1 hj).1;clear hi hj;clear hy;have HD:=hid hd;clear hd;have HY:=hid (fun(W:World)=>Ao W);have HNo:=hid (fun(W:World)=>Aw W);have g1:=Aj g0 (.cells #[.string n.op,.string n.name,.slice a1 n.ins.length c1,.string n.out,.slice a2 n.attrs.length c2,.slice (some ⟨bx,ox,none⟩) ins.length c3] 55);have g3:=Aj g2 (.cells #[.string n.op,.string n.name,.slice a1 n.ins.length c1,.string n.out,.slice a2 n.attrs.length c2,.slice (some ⟨bx,ox,none⟩) ins.length c3] 55);have HB1:=hid ((Below.refl w.heap.size w).alloc (Nat.le_refl _) (.cells #[.string n.op,.string n.name,.slice a1 n.ins.length c1,.string n.out,.slice a2 n.attrs.length c2,.slice (some ⟨bx,ox,none⟩) ins.length c3] 55));have HA1:=hid (Ac.new w #[.string n.op,.string n.name,.slice a1 n.ins.length c1,.string n.out,.slice a2 n.attrs.length c2,.slice (some ⟨bx,ox,none⟩) ins.length c3] 55);obtain⟨ad,cd,rfl⟩:=HD.out.shape;obtain⟨ae,ce,rfl⟩:=HE.out.shape;go_enter Tryz.func20,Tryz.ntmps20
 go_wp2_with fail
 generalize World.alloc w _=W1 at g1 g3 HB1 HA1⊢;refine(Jk (HD.out.below HB1.out) (HE.out.below HB1.out)).mono ?_;rintro e w2 hR;have hX:AV w (Au x.dims y.dims) e w2:=hR.dim HB1.out (fun h0=>Jm h0 HD.out.wf.1 HE.out.wf.1) (Jl HD.out.wf.2 HE.out.wf.2);have HX:=hid hX;clear hX;rcases hR with⟨_,⟨_,rfl⟩| ⟨_,v2,rfl,hr2⟩⟩
 ·exact⟨rfl,HX.out⟩
 ·clear hr2;go_wp2
  go_ret
  exact HX.out
end
section
attribute [local irreducible] Vb.Bx Au A7 Bq AH Ag
theorem Da{w:World}{v:Value}{n:Nd}{x:Vl}{ins:List Vl}(h:BF w v n ins)(hi:ins[0]?=some x)(hl:n.op.toList=[82,101,100,117,99,101,83,117,109]∨n.op.toList=[82,101,100,117,99,101,77,97,120]∨n.op.toList=[82,101,100,117,99,101,77,101,97,110]∨n.op.toList=[65,114,103,77,97,120]) :
  Calls Tryz.prog 20 #[v] w fun e w'=>AV w (Hf n x.dims) e w':=by
 rcases hl with hl|hl|hl|hl
 all_goals
  obtain⟨vin,vat,vv,rfl,hm⟩:=h;obtain⟨a1,c1,rfl⟩:=hm.node.is.form;obtain⟨a2,c2,rfl⟩:=hm.node.ia.form;obtain⟨a3,c3,rfl⟩:=hm.ins.form;have HM:=hid hm;obtain⟨bx,ox,vd,rfl,g0,hd,hy⟩:=CW hm.ins hi;clear hm;have hlen:0<ins.length:=(List.getElem?_eq_some_iff.1 hi).1;clear hi;clear hy;have HD:=hid hd;clear hd;have HY:=hid (fun(W:World)=>Ao W);have HNo:=hid (fun(W:World)=>Aw W);have g1:=Aj g0 (.cells #[.string n.op,.string n.name,.slice a1 n.ins.length c1,.string n.out,.slice a2 n.attrs.length c2,.slice (some ⟨bx,ox,none⟩) ins.length c3] 55);have HB1:=hid ((Below.refl w.heap.size w).alloc (Nat.le_refl _) (.cells #[.string n.op,.string n.name,.slice a1 n.ins.length c1,.string n.out,.slice a2 n.attrs.length c2,.slice (some ⟨bx,ox,none⟩) ins.length c3] 55));have HA1:=hid (Ac.new w #[.string n.op,.string n.name,.slice a1 n.ins.length c1,.string n.out,.slice a2 n.attrs.length c2,.slice (some ⟨bx,ox,none⟩) ins.length c3] 55);obtain⟨ad,cd,rfl⟩:=HD.out.shape;go_enter Tryz.func20,Tryz.ntmps20
  go_wp2_with fail
  generalize hW1:World.alloc w _=W1 at g1 HB1 HA1⊢;refine(Ow (n:=n) (ins:=ins) ⟨_,_,_,rfl,HM.out.below HB1.out⟩ (HD.out.below HB1.out)).mono ?_;rintro e w2 hR;have hX:AV w (Hf n x.dims) e w2:=hR.dim HB1.out (fun zs h=>ON HD.out.wf.2 HD.out.wf.1 h);have HX:=hid hX;clear hX hW1;obtain⟨_,hc⟩:=hR;cases hx:A7 n x.dims with
  | none=>
   rw[hx]at hc;obtain rfl:e=Em 4:=hc;clear hx;exact⟨rfl,HX.out⟩
  | some zs=>
   rw[hx]at hc;obtain⟨v2,rfl,hr2⟩:=hc;clear hx hr2;go_wp2
   go_ret
   exact HX.out
theorem KR{w:World}{v:Value}{n:Nd}{x:Vl}{ins:List Vl}(h:BF w v n ins)(hi:ins[0]?=some x)(hl:n.op.toList=[82,101,100,117,99,101,83,117,109]) :
  Calls Tryz.prog 20 #[v] w fun e w'=>AV w (Hf n x.dims) e w':=
 Da h hi (Or.inl hl)
theorem KS{w:World}{v:Value}{n:Nd}{x:Vl}{ins:List Vl}(h:BF w v n ins)(hi:ins[0]?=some x)(hl:n.op.toList=[82,101,100,117,99,101,77,97,120]) :
  Calls Tryz.prog 20 #[v] w fun e w'=>AV w (Hf n x.dims) e w':=
 Da h hi (Or.inr (Or.inl hl))
theorem JJ{w:World}{v:Value}{n:Nd}{x:Vl}{ins:List Vl}(h:BF w v n ins)(hi:ins[0]?=some x)(hl:n.op.toList=[82,101,100,117,99,101,77,101,97,110]) :
  Calls Tryz.prog 20 #[v] w fun e w'=>AV w (Hf n x.dims) e w':=
 Da h hi (Or.inr (Or.inr (Or.inl hl)))
theorem OS{w:World}{v:Value}{n:Nd}{x:Vl}{ins:List Vl}(h:BF w v n ins)(hi:ins[0]?=some x)(hl:n.op.toList=[65,114,103,77,97,120]) :
  Calls Tryz.prog 20 #[v] w fun e w'=>AV w (Hf n x.dims) e w':=
 Da h hi (Or.inr (Or.inr (Or.inr hl)))
end
section
attribute [local irreducible] Fc Dg CH DF Dh Ci Fl.Eh Fl.un
theorem BX{w:World}{v:Value}{n:Nd}{x:Vl}{ins:List Vl}(h:BF w v n ins)(hi:ins[0]?=some x)(hl:n.op.toList=[73,100,101,110,116,105,116,121]∨n.op.toList=[78,101,103]∨n.op.toList=[65,98,115]∨n.op.toList=[83,113,114,116]∨n.op.toList=[70,108,111,111,114]∨n.op.toList=[69,120,112]∨n.op.toList=[83,105,103,109,111,105,100]∨n.op.toList=[84,97,110,104]) :
  Calls Tryz.prog 19 #[v] w fun e w'=>CB (CH (Fl.un n.op.toList x.typ 0).2 x.typ) e∧Below w.heap.size w w':=by
 rcases hl with hl|hl|hl|hl|hl|hl|hl|hl
 all_goals
  obtain⟨vin,vat,vv,rfl,hm⟩:=h;obtain⟨a1,c1,rfl⟩:=hm.node.is.form;obtain⟨a2,c2,rfl⟩:=hm.node.ia.form;obtain⟨a3,c3,rfl⟩:=hm.ins.form;have HM:=hid hm;obtain⟨bx,ox,rfl,g0⟩:=DK hm.ins hi;have hlen:0<ins.length:=(List.getElem?_eq_some_iff.1 hi).1;clear hm hi;have HY:=hid (fun(W:World)=>Ao W);have HNo:=hid (fun(W:World)=>Aw W);have g1:=Aj g0 (.cells #[.string n.op,.string n.name,.slice a1 n.ins.length c1,.string n.out,.slice a2 n.attrs.length c2,.slice (some ⟨bx,ox,none⟩) ins.length c3] 55);have HB1:=hid ((Below.refl w.heap.size w).alloc (Nat.le_refl _) (.cells #[.string n.op,.string n.name,.slice a1 n.ins.length c1,.string n.out,.slice a2 n.attrs.length c2,.slice (some ⟨bx,ox,none⟩) ins.length c3] 55));have HA1:=hid (Ac.new w #[.string n.op,.string n.name,.slice a1 n.ins.length c1,.string n.out,.slice a2 n.attrs.length c2,.slice (some ⟨bx,ox,none⟩) ins.length c3] 55);obtain⟨b6,d6⟩:∃b,(x.typ==6)=b:=⟨_,rfl⟩;cases b6
  all_goals
   go_enter Tryz.func19,Tryz.ntmps19
   go_wp2_with fail
   have HBi:=hid (fun(W:World)=>Nm.Hd n.op x.typ W);generalize World.alloc w _=W1 at g1 HB1 HA1⊢
   with_reducible refine(HBi.out _).mono ?_
   rintro e w2⟨r1,rfl,B2⟩;have B2:Below W1.heap.size W1 w2:=B2;have HB2:=hid (HB1.out.trans (B2.mono HB1.out.size));clear B2 HBi HA1 HB1 g1 g0;obtain⟨r2,hr2⟩:∃r2,(Fl.un n.op.toList x.typ 0).2=r2:=⟨_,rfl⟩;have HR2:=hid hr2;rw[hr2];clear hr2;by_cases hr:r2=0
   ·have HR:=hid hr;have hb:(r2==0)=true:=by simp[hr]
    clear hr;go_wp2_with fail
    refine(HY.out _).mono ?_;rintro e w'⟨rfl,rfl⟩;go_wp2
    go_ret
    exact⟨CB.yes (OK (by rw[HR2.out];exact HR.out)),HB2.out⟩
   ·have HR:=hid hr;have hb:(r2==0)=false:=by simpa using hr
    clear hr;go_wp2_with fail
    refine(HNo.out _).mono ?_;rintro e w'⟨rfl,rfl⟩;exact⟨rfl,CB.no (OJ (by rw[HR2.out];exact HR.out)),HB2.out⟩
theorem Nj{w:World}{v:Value}{n:Nd}{x:Vl}{ins:List Vl}(h:BF w v n ins)(hi:ins[0]?=some x)(hl:n.op.toList=[73,100,101,110,116,105,116,121]) :
  Calls Tryz.prog 19 #[v] w fun e w'=>CB (CH (Fl.un n.op.toList x.typ 0).2 x.typ) e∧Below w.heap.size w w':=
 BX h hi (Or.inl hl)
theorem Xf{w:World}{v:Value}{n:Nd}{x:Vl}{ins:List Vl}(h:BF w v n ins)(hi:ins[0]?=some x)(hl:n.op.toList=[78,101,103]) :
  Calls Tryz.prog 19 #[v] w fun e w'=>CB (CH (Fl.un n.op.toList x.typ 0).2 x.typ) e∧Below w.heap.size w w':=
 BX h hi (Or.inr (Or.inl hl))
theorem Xg{w:World}{v:Value}{n:Nd}{x:Vl}{ins:List Vl}(h:BF w v n ins)(hi:ins[0]?=some x)(hl:n.op.toList=[65,98,115]) :
  Calls Tryz.prog 19 #[v] w fun e w'=>CB (CH (Fl.un n.op.toList x.typ 0).2 x.typ) e∧Below w.heap.size w w':=
 BX h hi (Or.inr (Or.inr (Or.inl hl)))
theorem UX{w:World}{v:Value}{n:Nd}{x:Vl}{ins:List Vl}(h:BF w v n ins)(hi:ins[0]?=some x)(hl:n.op.toList=[83,113,114,116]) :
  Calls Tryz.prog 19 #[v] w fun e w'=>CB (CH (Fl.un n.op.toList x.typ 0).2 x.typ) e∧Below w.heap.size w w':=
 BX h hi (Or.inr (Or.inr (Or.inr (Or.inl hl))))
theorem Tf{w:World}{v:Value}{n:Nd}{x:Vl}{ins:List Vl}(h:BF w v n ins)(hi:ins[0]?=some x)(hl:n.op.toList=[70,108,111,111,114]) :
  Calls Tryz.prog 19 #[v] w fun e w'=>CB (CH (Fl.un n.op.toList x.typ 0).2 x.typ) e∧Below w.heap.size w w':=
 BX h hi (Or.inr (Or.inr (Or.inr (Or.inr (Or.inl hl)))))
theorem Xh{w:World}{v:Value}{n:Nd}{x:Vl}{ins:List Vl}(h:BF w v n ins)(hi:ins[0]?=some x)(hl:n.op.toList=[69,120,112]) :
  Calls Tryz.prog 19 #[v] w fun e w'=>CB (CH (Fl.un n.op.toList x.typ 0).2 x.typ) e∧Below w.heap.size w w':=
 BX h hi (Or.inr (Or.inr (Or.inr (Or.inr (Or.inr (Or.inl hl))))))
theorem OT{w:World}{v:Value}{n:Nd}{x:Vl}{ins:List Vl}(h:BF w v n ins)(hi:ins[0]?=some x)(hl:n.op.toList=[83,105,103,109,111,105,100]) :
  Calls Tryz.prog 19 #[v] w fun e w'=>CB (CH (Fl.un n.op.toList x.typ 0).2 x.typ) e∧Below w.heap.size w w':=
 BX h hi (Or.inr (Or.inr (Or.inr (Or.inr (Or.inr (Or.inr (Or.inl hl)))))))
theorem UY{w:World}{v:Value}{n:Nd}{x:Vl}{ins:List Vl}(h:BF w v n ins)(hi:ins[0]?=some x)(hl:n.op.toList=[84,97,110,104]) :
  Calls Tryz.prog 19 #[v] w fun e w'=>CB (CH (Fl.un n.op.toList x.typ 0).2 x.typ) e∧Below w.heap.size w w':=
 BX h hi (Or.inr (Or.inr (Or.inr (Or.inr (Or.inr (Or.inr (Or.inr hl)))))))
end
section
theorem OU:∀(l:List Int) (n:Int),1≤n→n≤65536→(∀d∈l,1≤d)→0≤(A0 n l).1∧(A0 n l).1≤65536
 | [],n,h1,h2,_=>by unfold A0;exact⟨by omega,h2⟩
 | d::l,n,h1,h2,h=>by
  unfold A0;split
  ·decide
  ·rename_i g
   have hd:=h d (List.mem_cons_self ..);have:1≤n*d:=by
    have:=Int.mul_le_mul h1 hd (by decide) (by omega);omega
   exact OU l (n*d) this (by omega) (fun e he=>h e (List.mem_cons_of_mem _ he))
theorem JW(zs:List Int):0≤(AK zs).1∧(AK zs).1≤65536:=by
 unfold AK;split
 ·decide
 ·rename_i g
  split
  ·decide
  ·refine OU zs 1 (by decide) (by decide) (fun d hd=>?_);have h2:¬(decide (d<1)=true):=fun c=>g (List.any_eq_true.2 ⟨d,hd,c⟩);simp at h2;omega
theorem Nk(zs:List Int):Bf (AK zs).1:=by have:=JW zs;unfold Bf;omega
attribute [local irreducible] AK
theorem EE{w:World}{v:Value}{zs:List Int}(h:Aa w v zs) :
  Calls Tryz.prog 167 #[v] w fun e w'=>e=.returned (.int .i64 (AK zs).1)∧Below w.heap.size w w':=by
 obtain⟨a,c,rfl⟩:=h.shape;have HI:=hid h;clear h;go_enter Tryz.func167,Tryz.ntmps167
 go_wp2_with fail
 refine(C6 HI.out).mono ?_;rintro e w2⟨rfl,B2⟩;have HB2:=hid B2;clear B2;go_wp2
 go_ret
 exact⟨rfl,HB2.out⟩
def Dm(n:Nd)(x:List Int):Option (List Int):=
 if-(x.length:Int)≤AH n.attrs AB 1∧AH n.attrs AB 1≤(x.length:Int)then
  some [(AK (x.take (if AH n.attrs AB 1<0 then AH n.attrs AB 1+x.length else AH n.attrs AB 1).toNat)).1,(AK (x.drop (if AH n.attrs AB 1<0 then AH n.attrs AB 1+x.length else AH n.attrs AB 1).toNat)).1]
 else none
theorem Nl{n:Nd}{x:List Int}{a:Int}(e:AH n.attrs AB 1=a)(h:¬(-(x.length:Int)≤a∧a≤(x.length:Int))):Dm n x=none:=by subst e;exact if_neg h
theorem OV{n:Nd}{x:List Int}{a:Int}{k:Nat}(e:AH n.attrs AB 1=a)(h:-(x.length:Int)≤a)(h0:a<0)(hk:(k:Int)=a+x.length):Dm n x=some [(AK (x.take k)).1,(AK (x.drop k)).1]:=by
 subst e;unfold Dm;rw[if_pos ⟨h,by omega⟩,if_pos h0,←hk,Int.toNat_natCast]
theorem OW{n:Nd}{x:List Int}{a:Int}{k:Nat}(e:AH n.attrs AB 1=a)(h:a≤(x.length:Int))(h0:¬a<0)(hk:(k:Int)=a):Dm n x=some [(AK (x.take k)).1,(AK (x.drop k)).1]:=by
 subst e;unfold Dm;rw[if_pos ⟨by omega,h⟩,if_neg h0,←hk,Int.toNat_natCast]
theorem Ds{w:World}{a:Option Addr}{c k:Nat}{zs:List Int}(h:Aa w (.slice a zs.length c) zs)(hk:k≤zs.length):Aa w (.slice (if c=k then a else Option.map (fun x=>x.add k) a) (zs.length-k) (c-k)) (zs.drop k):=by
 generalize hv:Value.slice a zs.length c=v at h;cases h with
 | empty a0 cap=>simp only[List.drop_nil,List.length_nil,Nat.zero_sub];exact .empty _ _
 | row b off cap _ h0 hc hb hr hlen hw=>
  obtain⟨rfl,-,rfl⟩:=Value.slice.inj hv;by_cases hkz:k=zs.length
  ·subst hkz;rw[List.drop_length,Nat.sub_self];exact .empty _ _
  ·have hne:c≠k:=by omega
   rw[if_neg hne,Option.map_some,Fo,show zs.length-k=(zs.drop k).length by rw[List.length_drop]];exact .row b (off+k) (c-k) (zs.drop k) (by intro e;have:=congrArg List.length e;simp at this;omega) (by rw[List.length_drop];omega) hb (fun j hj=>by
    rw[List.length_drop]at hj;have:=hr (k+j) (by omega);rw[←Nat.add_assoc]at this;rw[this];simp[List.getD,List.getElem?_drop]) (by rw[List.length_drop];omega) (fun z hz=>hw z (List.mem_of_mem_drop hz))
theorem Db{W:World}{b B:Nat}{cs:Array Value}{zs:List Int}(h:Ac W b cs 3)(hb:B≤b)(e:cs.toList=zs.map (Value.int .i64))(hl:zs.length≤1000):Ag W B (.slice (some ⟨b,0,none⟩) zs.length zs.length) zs:=by
 have hs:cs.size=zs.length:=by rw[←Array.length_toList,e,List.length_map]
 refine⟨by simp,.inr ⟨b,zs.length,cs,rfl,hb,h,Nat.le_refl _,?_,by omega,?_⟩⟩
 ·unfold maxLen;omega
 ·rw[e,Nat.mul_one,List.take_of_length_le (by simp)]
attribute [local irreducible] AH Ag Dm
theorem OX{w:World}{v vx:Value}{n:Nd}{ins:List Vl}{x:List Int}(h:BF w v n ins)(hx:Aa w vx x) :
  Calls Tryz.prog 124 #[v,vx] w fun e w'=>AY w (Dm n x) e w':=by
 obtain⟨i0,hi,hz0,hz1,hz2⟩:=info_parts AI;obtain⟨vin,vat,vv,rfl,hm⟩:=h;obtain⟨a1,c1,rfl⟩:=hm.node.is.form;obtain⟨a2,c2,rfl⟩:=hm.node.ia.form;obtain⟨a3,c3,rfl⟩:=hm.ins.form;have HM:=hid hm;clear hm;obtain⟨a4,c4,rfl⟩:=hx.shape;have hxl:=hx.wf.1;have hxc:=hx.capI.2;have HX:=hid hx;clear hx;have HY:=hid (fun(W:World)=>Ao W);have HNo:=hid (fun(W:World)=>Aw W);have HB1:=hid ((Below.refl w.heap.size w).alloc (Nat.le_refl _) (Obj.cells #[.string n.op,.string n.name,.slice a1 n.ins.length c1,.string n.out,.slice a2 n.attrs.length c2,.slice a3 ins.length c3] 55));have HA1:=hid (Ac.new w #[.string n.op,.string n.name,.slice a1 n.ins.length c1,.string n.out,.slice a2 n.attrs.length c2,.slice a3 ins.length c3] 55);go_enter Tryz.func124,Tryz.ntmps124
 go_wp2_with fail
 generalize World.alloc w (Obj.cells #[.string n.op,.string n.name,.slice a1 n.ins.length c1,.string n.out,.slice a2 n.attrs.length c2,.slice a3 ins.length c3] 55)=W1 at HB1 HA1⊢;refine(DC (n:=n) ⟨_,_,rfl,(HM.out.below HB1.out).node⟩ AB 1).mono ?_;rintro e w2⟨rfl,B2⟩;have HB2:=hid (HB1.out.trans (B2.mono HB1.out.size));have hz:=C7 (nm:=AB) (other:=1) ⟨_,_,rfl,HM.out.node⟩ FK;obtain⟨z,hze⟩:∃z,AH n.attrs AB 1=z:=⟨_,rfl⟩;rw[hze]at hz⊢;have HZ:=hid hze;obtain⟨y0,y1⟩:=hz;clear B2 hze HA1;by_cases h1:-(x.length:Int)≤z
 case neg=>
  have E:=hid (Nl (x:=x) HZ.out (fun c=>h1 c.1));go_wp2_with fail
  refine(HNo.out _).mono ?_;rintro e w'⟨rfl,rfl⟩;exact⟨rfl,AY.no E.out HB2.out⟩
 by_cases h2:z≤(x.length:Int)
 case neg=>
  have E:=hid (Nl (x:=x) HZ.out (fun c=>h2 c.2));have hb:decide (z≤(x.length:Int))=false:=by simp;omega
  go_wp2_with fail
  refine(HNo.out _).mono ?_;rintro e w'⟨rfl,rfl⟩;exact⟨rfl,AY.no E.out HB2.out⟩
 go_wp2_with fail
 refine(HY.out _).mono ?_;rintro e w'⟨rfl,rfl⟩;by_cases h0:z<0
 ·obtain⟨k,hk⟩:∃k:Nat,(k:Int)=z+x.length:=⟨(z+x.length).toNat,by omega⟩;have E:=hid (OV HZ.out h1 h0 hk);have hkl:k≤x.length:=by omega
  have lk:k≤c4:=by omega
  go_wp2_with fail
  rw[←hk];clear hk h0 h1 h2 y0 y1 HZ;refine Ae 8 [0,1,2,4,5,6,3,7] (fun W'=>Below w'.heap.size w' W') (by kernel_rfl) (by kernel_rfl) (fun _ d _ _ _ h=>by cases d<;>exact h) (Below.refl _ _).drew ?_;have B0:Hid (Below w'.heap.size w' w'.drew):=hid (Below.refl _ _).drew;generalize w'.drew=wD at B0⊢
  repeat
   refine Ah (v:=?_) rfl rfl (Or.inl ⟨by rfl,?_⟩) ?_;rotate_left
   ·intro W' hSw
    skip
    go_simp
    try with_reducible rfl
   try simp only[Act.put,List.getElem_toArray,List.getElem_cons_zero,List.getElem_cons_succ,List.setIfInBounds_toArray,List.set_cons_zero,List.set_cons_succ]
  refine Av rfl rfl (fun K' hK=>?_);go_simp
  have HBD:=hid (HB2.out.trans (B0.out.mono HB2.out.size));refine(EE ((HX.out.below HBD.out).take hkl)).mono ?_;rintro e w3⟨rfl,B3⟩;have HW3:=hid (B0.out.trans (B3.mono B0.out.size));clear B3;refine hK.out _ _ HW3.out ?_;clear hK K';refine Av rfl rfl (fun K' hK=>?_);go_simp
  have HBE:=hid (HB2.out.trans (HW3.out.mono HB2.out.size));refine(EE (Ds (HX.out.below HBE.out) hkl)).mono ?_;rintro e w4⟨rfl,B4⟩;have HW4:=hid (HW3.out.trans (B4.mono HW3.out.size));clear B4;refine hK.out _ _ HW4.out ?_;clear hK K';have HBF:=hid (HB2.out.trans (HW4.out.mono HB2.out.size));generalize (AK (x.take k)).1=q1 at*;generalize (AK (x.drop k)).1=q2 at*;refine Aq rfl ?_;simp only[List.toList_toArray,List.drop_succ_cons,List.drop_zero];have HBG:=hid (HBF.out.alloc HBF.out.size (Obj.cells #[.int .i64 q1,.int .i64 q2] 3));have HRw:Hid (Ag (w4.alloc (Obj.cells #[.int .i64 q1,.int .i64 q2] 3)) w.heap.size (.slice (some ⟨w4.heap.size,0,none⟩) 2 2) [q1,q2]):=hid (Db (zs:=[q1,q2]) (Ac.new _ _ _) HBF.out.size rfl (by simp));go_wp2
  all_goals
   go_ret
   exact AY.yes E.out HBG.out HRw.out
 ·obtain⟨k,hk⟩:∃k:Nat,(k:Int)=z:=⟨z.toNat,by omega⟩;have E:=hid (OW HZ.out h2 h0 hk);have hkl:k≤x.length:=by omega
  have lk:k≤c4:=by omega
  have hb:decide (z<0)=false:=by simp;omega
  go_wp2_with fail
  rw[←hk];clear hk h0 h1 h2 y0 y1 HZ hb;refine Ae 8 [0,1,2,4,5,6,3,7] (fun W'=>Below w'.heap.size w' W') (by kernel_rfl) (by kernel_rfl) (fun _ d _ _ _ h=>by cases d<;>exact h) (Below.refl _ _).drew ?_;have B0:Hid (Below w'.heap.size w' w'.drew):=hid (Below.refl _ _).drew;generalize w'.drew=wD at B0⊢
  repeat
   refine Ah (v:=?_) rfl rfl (Or.inl ⟨by rfl,?_⟩) ?_;rotate_left
   ·intro W' hSw
    skip
    go_simp
    try with_reducible rfl
   try simp only[Act.put,List.getElem_toArray,List.getElem_cons_zero,List.getElem_cons_succ,List.setIfInBounds_toArray,List.set_cons_zero,List.set_cons_succ]
  refine Av rfl rfl (fun K' hK=>?_);go_simp
  have HBD:=hid (HB2.out.trans (B0.out.mono HB2.out.size));refine(EE ((HX.out.below HBD.out).take hkl)).mono ?_;rintro e w3⟨rfl,B3⟩;have HW3:=hid (B0.out.trans (B3.mono B0.out.size));clear B3;refine hK.out _ _ HW3.out ?_;clear hK K';refine Av rfl rfl (fun K' hK=>?_);go_simp
  have HBE:=hid (HB2.out.trans (HW3.out.mono HB2.out.size));refine(EE (Ds (HX.out.below HBE.out) hkl)).mono ?_;rintro e w4⟨rfl,B4⟩;have HW4:=hid (HW3.out.trans (B4.mono HW3.out.size));clear B4;refine hK.out _ _ HW4.out ?_;clear hK K';have HBF:=hid (HB2.out.trans (HW4.out.mono HB2.out.size));generalize (AK (x.take k)).1=q1 at*;generalize (AK (x.drop k)).1=q2 at*;refine Aq rfl ?_;simp only[List.toList_toArray,List.drop_succ_cons,List.drop_zero];have HBG:=hid (HBF.out.alloc HBF.out.size (Obj.cells #[.int .i64 q1,.int .i64 q2] 3));have HRw:Hid (Ag (w4.alloc (Obj.cells #[.int .i64 q1,.int .i64 q2] 3)) w.heap.size (.slice (some ⟨w4.heap.size,0,none⟩) 2 2) [q1,q2]):=hid (Db (zs:=[q1,q2]) (Ac.new _ _ _) HBF.out.size rfl (by simp));go_wp2
  all_goals
   go_ret
   exact AY.yes E.out HBG.out HRw.out
end
end Go.Proofs.YtkkeehnldcdccaaGreatDoor
