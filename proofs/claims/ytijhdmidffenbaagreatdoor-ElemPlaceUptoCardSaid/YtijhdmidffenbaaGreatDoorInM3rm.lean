import Derived.Test.YtijhdmidffenbaaGreatDoorInM2rm
open Go.Lib (hid)
set_option linter.unusedVariables false
set_option linter.unusedSimpArgs false
namespace Go.Proofs.YtijhdmidffenbaaGreatDoor
section
open Go.RowKit
set_option maxRecDepth 100000
attribute [local irreducible] typC typA typU typS typD alB Fl.bin Fl.un
set_option maxHeartbeats 36000000 in
theorem g_typ_Add {w:World} {v:Value} {n:Nd} {x:Vl} {ins:List Vl} (h:MkV w v n ins) (hi:ins[0]?=some x) (hl:n.op.toList=[65,100,100]∨n.op.toList=[83,117,98]∨n.op.toList=[77,117,108]∨n.op.toList=[68,105,118]∨n.op.toList=[77,97,120]∨n.op.toList=[77,105,110]∨n.op.toList=[65,110,100]∨n.op.toList=[79,114]∨n.op.toList=[88,111,114]) :
  Calls Tryz.prog 32 #[v] w fun e w'=>TyR (typA (Fl.bin n.op.toList x.typ 0 0).2 (alB ins x.typ) x.typ) e∧Below w.heap.size w w':=by
 rcases hl with hl | hl | hl | hl | hl | hl | hl | hl | hl
 all_goals
  obtain ⟨vin,vat,vv,rfl,hm⟩:=h;obtain ⟨a1,c1,rfl⟩:=hm.node.is.form;obtain ⟨a2,c2,rfl⟩:=hm.node.ia.form;obtain ⟨a3,c3,rfl⟩:=hm.ins.form;have HM:=hid hm;obtain ⟨bx,ox,rfl,g0⟩:=typ_at hm.ins hi;have hlen:0 < ins.length:=(List.getElem?_eq_some_iff.1 hi).1;clear hm hi;have HY:=hid (fun (W:World)=>rule_yes W);have HNo:=hid (fun (W:World)=>rule_no W);have g1:=cell_alloc g0 (.cells #[.string n.op,.string n.name,.slice a1 n.ins.length c1,.string n.out,.slice a2 n.attrs.length c2,.slice (some ⟨bx,ox,none⟩) ins.length c3] 63);have HB1:=hid ((Below.refl w.heap.size w).alloc (Nat.le_refl _) (.cells #[.string n.op,.string n.name,.slice a1 n.ins.length c1,.string n.out,.slice a2 n.attrs.length c2,.slice (some ⟨bx,ox,none⟩) ins.length c3] 63));have HA1:=hid (BoxN.new w #[.string n.op,.string n.name,.slice a1 n.ins.length c1,.string n.out,.slice a2 n.attrs.length c2,.slice (some ⟨bx,ox,none⟩) ins.length c3] 63);obtain ⟨b6,d6⟩:∃ b,(x.typ==6)=b:=⟨_,rfl⟩;cases b6
  all_goals
   go_enter Tryz.func32,Tryz.ntmps32
   go_wp2_with fail
   have HBi:=hid (fun (W:World)=>Nm.binary_any n.op x.typ 0 0 (by decide) (by decide) (by decide) (by decide) W);have HAl:=hid (fun (W:World) (hW:Below w.heap.size w W)=>alike_any (w:=W) (v:=.agg #[.string n.op,.string n.name,.slice a1 n.ins.length c1,.string n.out,.slice a2 n.attrs.length c2,.slice (some ⟨bx,ox,none⟩) ins.length c3]) x.typ ⟨_,_,_,rfl,HM.out.below hW⟩);generalize World.alloc w _=W1 at g1 HB1 HA1 ⊢
   with_reducible refine (HBi.out _).mono ?_
   rintro e w2 ⟨rfl,B2⟩;have B2:Below W1.heap.size W1 w2:=B2;have HB2:=hid (HB1.out.trans (B2.mono HB1.out.size));obtain ⟨k0,k1,k2,k3,k4,k5⟩:=(HA1.out.below' B2).six;clear B2 HBi HA1 HB1 g1 g0;generalize (Fl.bin n.op.toList x.typ 0 0).1=r1;obtain ⟨r2,hr2⟩:∃ r2,(Fl.bin n.op.toList x.typ 0 0).2=r2:=⟨_,rfl⟩;have HR2:=hid hr2;rw [hr2];clear hr2;by_cases hr:r2=1
   ·skip
    have HR:=hid hr;have hb:(r2 != 1)=false:=by simp [hr]
    clear hr;go_wp2_with fail
    refine (HNo.out _).mono ?_;rintro e w' ⟨rfl,rfl⟩;exact ⟨rfl,TyR.no (typA_bad (by rw [HR2.out];exact HR.out)),HB2.out⟩
   ·skip
    have HR:=hid hr;have hb:(r2 != 1)=true:=by simpa using hr
    clear hr;go_wp2_with fail
    refine (HAl.out _ HB2.out).mono ?_;rintro e w3 ⟨rfl,B3⟩;have HB3:=hid (HB2.out.trans (B3.mono HB2.out.size));clear B3 k0 k1 k2 k3 k4 k5;rw [show (!(ins.any fun y=>y.typ != x.typ))=alB ins x.typ by unfold alB;rfl];cases hal:alB ins x.typ with
    | false =>
     have HL:=hid hal;clear hal;go_wp2_with fail
     refine (HNo.out _).mono ?_;rintro e w' ⟨rfl,rfl⟩;exact ⟨rfl,TyR.no (typA_no HL.out),HB3.out⟩
    | true =>
     have HL:=hid hal;clear hal;go_wp2_with fail
     refine (HY.out _).mono ?_;rintro e w' ⟨rfl,rfl⟩;go_wp2
     go_ret
     exact ⟨TyR.yes (typA_yes (by rw [HR2.out];exact HR.out) HL.out),HB3.out⟩
theorem typ_Add {w:World} {v:Value} {n:Nd} {x:Vl} {ins:List Vl} (h:MkV w v n ins) (hi:ins[0]?=some x) (hl:n.op.toList=[65,100,100]) :
  Calls Tryz.prog 32 #[v] w fun e w'=>TyR (typA (Fl.bin n.op.toList x.typ 0 0).2 (alB ins x.typ) x.typ) e∧Below w.heap.size w w' :=
 g_typ_Add h hi (Or.inl hl)
theorem typ_Sub {w:World} {v:Value} {n:Nd} {x:Vl} {ins:List Vl} (h:MkV w v n ins) (hi:ins[0]?=some x) (hl:n.op.toList=[83,117,98]) :
  Calls Tryz.prog 32 #[v] w fun e w'=>TyR (typA (Fl.bin n.op.toList x.typ 0 0).2 (alB ins x.typ) x.typ) e∧Below w.heap.size w w' :=
 g_typ_Add h hi (Or.inr (Or.inl hl))
theorem typ_Mul {w:World} {v:Value} {n:Nd} {x:Vl} {ins:List Vl} (h:MkV w v n ins) (hi:ins[0]?=some x) (hl:n.op.toList=[77,117,108]) :
  Calls Tryz.prog 32 #[v] w fun e w'=>TyR (typA (Fl.bin n.op.toList x.typ 0 0).2 (alB ins x.typ) x.typ) e∧Below w.heap.size w w' :=
 g_typ_Add h hi (Or.inr (Or.inr (Or.inl hl)))
theorem typ_Div {w:World} {v:Value} {n:Nd} {x:Vl} {ins:List Vl} (h:MkV w v n ins) (hi:ins[0]?=some x) (hl:n.op.toList=[68,105,118]) :
  Calls Tryz.prog 32 #[v] w fun e w'=>TyR (typA (Fl.bin n.op.toList x.typ 0 0).2 (alB ins x.typ) x.typ) e∧Below w.heap.size w w' :=
 g_typ_Add h hi (Or.inr (Or.inr (Or.inr (Or.inl hl))))
theorem typ_Max {w:World} {v:Value} {n:Nd} {x:Vl} {ins:List Vl} (h:MkV w v n ins) (hi:ins[0]?=some x) (hl:n.op.toList=[77,97,120]) :
  Calls Tryz.prog 32 #[v] w fun e w'=>TyR (typA (Fl.bin n.op.toList x.typ 0 0).2 (alB ins x.typ) x.typ) e∧Below w.heap.size w w' :=
 g_typ_Add h hi (Or.inr (Or.inr (Or.inr (Or.inr (Or.inl hl)))))
theorem typ_Min {w:World} {v:Value} {n:Nd} {x:Vl} {ins:List Vl} (h:MkV w v n ins) (hi:ins[0]?=some x) (hl:n.op.toList=[77,105,110]) :
  Calls Tryz.prog 32 #[v] w fun e w'=>TyR (typA (Fl.bin n.op.toList x.typ 0 0).2 (alB ins x.typ) x.typ) e∧Below w.heap.size w w' :=
 g_typ_Add h hi (Or.inr (Or.inr (Or.inr (Or.inr (Or.inr (Or.inl hl))))))
theorem typ_And {w:World} {v:Value} {n:Nd} {x:Vl} {ins:List Vl} (h:MkV w v n ins) (hi:ins[0]?=some x) (hl:n.op.toList=[65,110,100]) :
  Calls Tryz.prog 32 #[v] w fun e w'=>TyR (typA (Fl.bin n.op.toList x.typ 0 0).2 (alB ins x.typ) x.typ) e∧Below w.heap.size w w' :=
 g_typ_Add h hi (Or.inr (Or.inr (Or.inr (Or.inr (Or.inr (Or.inr (Or.inl hl)))))))
theorem typ_Or {w:World} {v:Value} {n:Nd} {x:Vl} {ins:List Vl} (h:MkV w v n ins) (hi:ins[0]?=some x) (hl:n.op.toList=[79,114]) :
  Calls Tryz.prog 32 #[v] w fun e w'=>TyR (typA (Fl.bin n.op.toList x.typ 0 0).2 (alB ins x.typ) x.typ) e∧Below w.heap.size w w' :=
 g_typ_Add h hi (Or.inr (Or.inr (Or.inr (Or.inr (Or.inr (Or.inr (Or.inr (Or.inl hl))))))))
theorem typ_Xor {w:World} {v:Value} {n:Nd} {x:Vl} {ins:List Vl} (h:MkV w v n ins) (hi:ins[0]?=some x) (hl:n.op.toList=[88,111,114]) :
  Calls Tryz.prog 32 #[v] w fun e w'=>TyR (typA (Fl.bin n.op.toList x.typ 0 0).2 (alB ins x.typ) x.typ) e∧Below w.heap.size w w' :=
 g_typ_Add h hi (Or.inr (Or.inr (Or.inr (Or.inr (Or.inr (Or.inr (Or.inr (Or.inr hl))))))))
end
section
open Go.RowKit
set_option maxRecDepth 100000
attribute [local irreducible] typC typA typU typS typD alB Fl.bin Fl.un
set_option maxHeartbeats 8000000 in
theorem g_typ_Not {w:World} {v:Value} {n:Nd} {x:Vl} {ins:List Vl} (h:MkV w v n ins) (hi:ins[0]?=some x) (hl:n.op.toList=[78,111,116]∨n.op.toList=[82,101,108,117]) :
  Calls Tryz.prog 32 #[v] w fun e w'=>TyR (typU (Fl.un n.op.toList x.typ 0).2 x.typ) e∧Below w.heap.size w w':=by
 rcases hl with hl | hl
 all_goals
  obtain ⟨vin,vat,vv,rfl,hm⟩:=h;obtain ⟨a1,c1,rfl⟩:=hm.node.is.form;obtain ⟨a2,c2,rfl⟩:=hm.node.ia.form;obtain ⟨a3,c3,rfl⟩:=hm.ins.form;have HM:=hid hm;obtain ⟨bx,ox,rfl,g0⟩:=typ_at hm.ins hi;have hlen:0 < ins.length:=(List.getElem?_eq_some_iff.1 hi).1;clear hm hi;have HY:=hid (fun (W:World)=>rule_yes W);have HNo:=hid (fun (W:World)=>rule_no W);have g1:=cell_alloc g0 (.cells #[.string n.op,.string n.name,.slice a1 n.ins.length c1,.string n.out,.slice a2 n.attrs.length c2,.slice (some ⟨bx,ox,none⟩) ins.length c3] 63);have HB1:=hid ((Below.refl w.heap.size w).alloc (Nat.le_refl _) (.cells #[.string n.op,.string n.name,.slice a1 n.ins.length c1,.string n.out,.slice a2 n.attrs.length c2,.slice (some ⟨bx,ox,none⟩) ins.length c3] 63));have HA1:=hid (BoxN.new w #[.string n.op,.string n.name,.slice a1 n.ins.length c1,.string n.out,.slice a2 n.attrs.length c2,.slice (some ⟨bx,ox,none⟩) ins.length c3] 63);obtain ⟨b6,d6⟩:∃ b,(x.typ==6)=b:=⟨_,rfl⟩;cases b6
  all_goals
   go_enter Tryz.func32,Tryz.ntmps32
   go_wp2_with fail
   have HBi:=hid (fun (W:World)=>Nm.unary_any n.op x.typ 0 (by decide) (by decide) W);generalize World.alloc w _=W1 at g1 HB1 HA1 ⊢
   with_reducible refine (HBi.out _).mono ?_
   rintro e w2 ⟨rfl,B2⟩;have B2:Below W1.heap.size W1 w2:=B2;have HB2:=hid (HB1.out.trans (B2.mono HB1.out.size));clear B2 HBi HA1 HB1 g1 g0;generalize (Fl.un n.op.toList x.typ 0).1=r1;obtain ⟨r2,hr2⟩:∃ r2,(Fl.un n.op.toList x.typ 0).2=r2:=⟨_,rfl⟩;have HR2:=hid hr2;rw [hr2];clear hr2;by_cases hr:r2=0
   ·have HR:=hid hr;have hb:(r2==0)=true:=by simp [hr]
    clear hr;go_wp2_with fail
    refine (HY.out _).mono ?_;rintro e w' ⟨rfl,rfl⟩;go_wp2
    go_ret
    exact ⟨TyR.yes (typU_yes (by rw [HR2.out];exact HR.out)),HB2.out⟩
   ·have HR:=hid hr;have hb:(r2==0)=false:=by simpa using hr
    clear hr;go_wp2_with fail
    refine (HNo.out _).mono ?_;rintro e w' ⟨rfl,rfl⟩;exact ⟨rfl,TyR.no (typU_bad (by rw [HR2.out];exact HR.out)),HB2.out⟩
theorem typ_Not {w:World} {v:Value} {n:Nd} {x:Vl} {ins:List Vl} (h:MkV w v n ins) (hi:ins[0]?=some x) (hl:n.op.toList=[78,111,116]) :
  Calls Tryz.prog 32 #[v] w fun e w'=>TyR (typU (Fl.un n.op.toList x.typ 0).2 x.typ) e∧Below w.heap.size w w' :=
 g_typ_Not h hi (Or.inl hl)
theorem typ_Relu {w:World} {v:Value} {n:Nd} {x:Vl} {ins:List Vl} (h:MkV w v n ins) (hi:ins[0]?=some x) (hl:n.op.toList=[82,101,108,117]) :
  Calls Tryz.prog 32 #[v] w fun e w'=>TyR (typU (Fl.un n.op.toList x.typ 0).2 x.typ) e∧Below w.heap.size w w' :=
 g_typ_Not h hi (Or.inr hl)
set_option maxHeartbeats 8000000 in
theorem g_typ_ReduceSum {w:World} {v:Value} {n:Nd} {x:Vl} {ins:List Vl} (h:MkV w v n ins) (hi:ins[0]?=some x) (hl:n.op.toList=[82,101,100,117,99,101,83,117,109]∨n.op.toList=[82,101,100,117,99,101,77,97,120]) :
  Calls Tryz.prog 32 #[v] w fun e w'=>TyR (typS x.typ x.typ) e∧Below w.heap.size w w':=by
 rcases hl with hl | hl
 all_goals
  obtain ⟨vin,vat,vv,rfl,hm⟩:=h;obtain ⟨a1,c1,rfl⟩:=hm.node.is.form;obtain ⟨a2,c2,rfl⟩:=hm.node.ia.form;obtain ⟨a3,c3,rfl⟩:=hm.ins.form;have HM:=hid hm;obtain ⟨bx,ox,rfl,g0⟩:=typ_at hm.ins hi;have hlen:0 < ins.length:=(List.getElem?_eq_some_iff.1 hi).1;clear hm hi;have HY:=hid (fun (W:World)=>rule_yes W);have HNo:=hid (fun (W:World)=>rule_no W);have g1:=cell_alloc g0 (.cells #[.string n.op,.string n.name,.slice a1 n.ins.length c1,.string n.out,.slice a2 n.attrs.length c2,.slice (some ⟨bx,ox,none⟩) ins.length c3] 63);have HB1:=hid ((Below.refl w.heap.size w).alloc (Nat.le_refl _) (.cells #[.string n.op,.string n.name,.slice a1 n.ins.length c1,.string n.out,.slice a2 n.attrs.length c2,.slice (some ⟨bx,ox,none⟩) ins.length c3] 63));have HA1:=hid (BoxN.new w #[.string n.op,.string n.name,.slice a1 n.ins.length c1,.string n.out,.slice a2 n.attrs.length c2,.slice (some ⟨bx,ox,none⟩) ins.length c3] 63);by_cases ht:x.typ=6∨x.typ=7∨x.typ=1
  ·have E:Hid (typS x.typ x.typ=(0,x.typ)):=hid (by unfold typS;exact if_pos ht);have d6:(x.typ==6)=decide (x.typ=6):=rfl;have d7:(x.typ==7)=decide (x.typ=7):=rfl;have d1:(x.typ==1)=decide (x.typ=1):=rfl;generalize x.typ=tt at *;rcases ht with rfl | rfl | rfl
   all_goals
    go_enter Tryz.func32,Tryz.ntmps32
    go_wp2_with fail
    refine (HY.out _).mono ?_;rintro e w' ⟨rfl,rfl⟩;go_wp2
    go_ret
    exact ⟨TyR.yes E.out,HB1.out⟩
  ·have E:Hid (typS x.typ x.typ=(4,0)):=hid (by unfold typS;exact if_neg ht);have d6:(x.typ==6)=false:=by simp;omega
   have d7:(x.typ==7)=false:=by simp;omega
   have d1:(x.typ==1)=false:=by simp;omega
   clear ht;go_enter Tryz.func32,Tryz.ntmps32
   go_wp2_with fail
   refine (HNo.out _).mono ?_;rintro e w' ⟨rfl,rfl⟩;exact ⟨rfl,TyR.no E.out,HB1.out⟩
theorem typ_ReduceSum {w:World} {v:Value} {n:Nd} {x:Vl} {ins:List Vl} (h:MkV w v n ins) (hi:ins[0]?=some x) (hl:n.op.toList=[82,101,100,117,99,101,83,117,109]) :
  Calls Tryz.prog 32 #[v] w fun e w'=>TyR (typS x.typ x.typ) e∧Below w.heap.size w w' :=
 g_typ_ReduceSum h hi (Or.inl hl)
theorem typ_ReduceMax {w:World} {v:Value} {n:Nd} {x:Vl} {ins:List Vl} (h:MkV w v n ins) (hi:ins[0]?=some x) (hl:n.op.toList=[82,101,100,117,99,101,77,97,120]) :
  Calls Tryz.prog 32 #[v] w fun e w'=>TyR (typS x.typ x.typ) e∧Below w.heap.size w w' :=
 g_typ_ReduceSum h hi (Or.inr hl)
set_option maxHeartbeats 4000000 in
theorem typ_ArgMax {w:World} {v:Value} {n:Nd} {x:Vl} {ins:List Vl} (h:MkV w v n ins) (hi:ins[0]?=some x) (hl:n.op.toList=[65,114,103,77,97,120]) :
  Calls Tryz.prog 32 #[v] w fun e w'=>TyR (typS x.typ 7) e∧Below w.heap.size w w':=by
 obtain ⟨vin,vat,vv,rfl,hm⟩:=h;obtain ⟨a1,c1,rfl⟩:=hm.node.is.form;obtain ⟨a2,c2,rfl⟩:=hm.node.ia.form;obtain ⟨a3,c3,rfl⟩:=hm.ins.form;have HM:=hid hm;obtain ⟨bx,ox,rfl,g0⟩:=typ_at hm.ins hi;have hlen:0 < ins.length:=(List.getElem?_eq_some_iff.1 hi).1;clear hm hi;have HY:=hid (fun (W:World)=>rule_yes W);have HNo:=hid (fun (W:World)=>rule_no W);have g1:=cell_alloc g0 (.cells #[.string n.op,.string n.name,.slice a1 n.ins.length c1,.string n.out,.slice a2 n.attrs.length c2,.slice (some ⟨bx,ox,none⟩) ins.length c3] 63);have HB1:=hid ((Below.refl w.heap.size w).alloc (Nat.le_refl _) (.cells #[.string n.op,.string n.name,.slice a1 n.ins.length c1,.string n.out,.slice a2 n.attrs.length c2,.slice (some ⟨bx,ox,none⟩) ins.length c3] 63));have HA1:=hid (BoxN.new w #[.string n.op,.string n.name,.slice a1 n.ins.length c1,.string n.out,.slice a2 n.attrs.length c2,.slice (some ⟨bx,ox,none⟩) ins.length c3] 63);by_cases ht:x.typ=6∨x.typ=7∨x.typ=1
 ·have E:Hid (typS x.typ 7=(0,7)):=hid (by unfold typS;exact if_pos ht);have d6:(x.typ==6)=decide (x.typ=6):=rfl;have d7:(x.typ==7)=decide (x.typ=7):=rfl;have d1:(x.typ==1)=decide (x.typ=1):=rfl;generalize x.typ=tt at *;rcases ht with rfl | rfl | rfl
  all_goals
   go_enter Tryz.func32,Tryz.ntmps32
   go_wp2_with fail
   refine (HY.out _).mono ?_;rintro e w' ⟨rfl,rfl⟩;go_wp2
   go_ret
   exact ⟨TyR.yes E.out,HB1.out⟩
 ·have E:Hid (typS x.typ 7=(4,0)):=hid (by unfold typS;exact if_neg ht);have d6:(x.typ==6)=false:=by simp;omega
  have d7:(x.typ==7)=false:=by simp;omega
  have d1:(x.typ==1)=false:=by simp;omega
  clear ht;go_enter Tryz.func32,Tryz.ntmps32
  go_wp2_with fail
  refine (HNo.out _).mono ?_;rintro e w' ⟨rfl,rfl⟩;exact ⟨rfl,TyR.no E.out,HB1.out⟩
set_option maxHeartbeats 12000000 in
theorem g_typ_MatMul {w:World} {v:Value} {n:Nd} {x:Vl} {ins:List Vl} (h:MkV w v n ins) (hi:ins[0]?=some x) (hl:n.op.toList=[77,97,116,77,117,108]∨n.op.toList=[82,101,100,117,99,101,77,101,97,110]∨n.op.toList=[83,111,102,116,109,97,120]) :
  Calls Tryz.prog 32 #[v] w fun e w'=>TyR (typD (alB ins 1) x.typ) e∧Below w.heap.size w w':=by
 rcases hl with hl | hl | hl
 all_goals
  obtain ⟨vin,vat,vv,rfl,hm⟩:=h;obtain ⟨a1,c1,rfl⟩:=hm.node.is.form;obtain ⟨a2,c2,rfl⟩:=hm.node.ia.form;obtain ⟨a3,c3,rfl⟩:=hm.ins.form;have HM:=hid hm;obtain ⟨bx,ox,rfl,g0⟩:=typ_at hm.ins hi;have hlen:0 < ins.length:=(List.getElem?_eq_some_iff.1 hi).1;clear hm hi;have HY:=hid (fun (W:World)=>rule_yes W);have HNo:=hid (fun (W:World)=>rule_no W);have g1:=cell_alloc g0 (.cells #[.string n.op,.string n.name,.slice a1 n.ins.length c1,.string n.out,.slice a2 n.attrs.length c2,.slice (some ⟨bx,ox,none⟩) ins.length c3] 63);have HB1:=hid ((Below.refl w.heap.size w).alloc (Nat.le_refl _) (.cells #[.string n.op,.string n.name,.slice a1 n.ins.length c1,.string n.out,.slice a2 n.attrs.length c2,.slice (some ⟨bx,ox,none⟩) ins.length c3] 63));have HA1:=hid (BoxN.new w #[.string n.op,.string n.name,.slice a1 n.ins.length c1,.string n.out,.slice a2 n.attrs.length c2,.slice (some ⟨bx,ox,none⟩) ins.length c3] 63);obtain ⟨b6,d6⟩:∃ b,(x.typ==6)=b:=⟨_,rfl⟩;cases b6
  all_goals
   go_enter Tryz.func32,Tryz.ntmps32
   go_wp2_with fail
   have HAl:=hid (fun (W:World) (hW:Below w.heap.size w W)=>alike_any (w:=W) (v:=.agg #[.string n.op,.string n.name,.slice a1 n.ins.length c1,.string n.out,.slice a2 n.attrs.length c2,.slice (some ⟨bx,ox,none⟩) ins.length c3]) 1 ⟨_,_,_,rfl,HM.out.below hW⟩);generalize World.alloc w _=W1 at g1 HB1 HA1 ⊢;refine (HAl.out _ HB1.out).mono ?_;rintro e w3 ⟨rfl,B3⟩;have HB3:=hid (HB1.out.trans (B3.mono HB1.out.size));clear B3 HA1 HB1 g1 g0;rw [show (!(ins.any fun y=>y.typ != 1))=alB ins 1 by unfold alB;rfl];cases hal:alB ins 1 with
   | false =>
    have E1:=hid hal;clear hal;go_wp2_with fail
    refine (HNo.out _).mono ?_;rintro e w' ⟨rfl,rfl⟩;exact ⟨rfl,TyR.no (typD_no E1.out),HB3.out⟩
   | true =>
    have E1:=hid hal;clear hal;go_wp2_with fail
    refine (HY.out _).mono ?_;rintro e w' ⟨rfl,rfl⟩;go_wp2
    go_ret
    exact ⟨TyR.yes (typD_yes E1.out),HB3.out⟩
theorem typ_ReduceMean {w:World} {v:Value} {n:Nd} {x:Vl} {ins:List Vl} (h:MkV w v n ins) (hi:ins[0]?=some x) (hl:n.op.toList=[82,101,100,117,99,101,77,101,97,110]) :
  Calls Tryz.prog 32 #[v] w fun e w'=>TyR (typD (alB ins 1) x.typ) e∧Below w.heap.size w w' :=
 g_typ_MatMul h hi (Or.inr (Or.inl hl))
theorem typ_Softmax {w:World} {v:Value} {n:Nd} {x:Vl} {ins:List Vl} (h:MkV w v n ins) (hi:ins[0]?=some x) (hl:n.op.toList=[83,111,102,116,109,97,120]) :
  Calls Tryz.prog 32 #[v] w fun e w'=>TyR (typD (alB ins 1) x.typ) e∧Below w.heap.size w w' :=
 g_typ_MatMul h hi (Or.inr (Or.inr hl))
end
section
open Go.RowKit
set_option maxRecDepth 100000
attribute [local irreducible] Vb.bcO productP reducedP axisP intP RowI
set_option maxHeartbeats 36000000 in
theorem g_dims_Add {w:World} {v:Value} {n:Nd} {x:Vl} {y:Vl} {ins:List Vl} (h:MkV w v n ins) (hi:ins[0]?=some x) (hj:ins[1]?=some y) (hl:n.op.toList=[65,100,100]∨n.op.toList=[83,117,98]∨n.op.toList=[77,117,108]∨n.op.toList=[68,105,118]∨n.op.toList=[77,97,120]∨n.op.toList=[77,105,110]∨n.op.toList=[65,110,100]∨n.op.toList=[79,114]∨n.op.toList=[88,111,114]) :
  Calls Tryz.prog 33 #[v] w fun e w'=>DimR w (Vb.bcO x.dims y.dims) e w':=by
 rcases hl with hl | hl | hl | hl | hl | hl | hl | hl | hl
 all_goals
  obtain ⟨vin,vat,vv,rfl,hm⟩:=h;obtain ⟨a1,c1,rfl⟩:=hm.node.is.form;obtain ⟨a2,c2,rfl⟩:=hm.node.ia.form;obtain ⟨a3,c3,rfl⟩:=hm.ins.form;have HM:=hid hm;obtain ⟨bx,ox,vd,rfl,g0,hd,hy⟩:=dims_at hm.ins hi;clear hm;obtain ⟨ve,g2,he⟩:=hy _ hj;have HE:=hid he;clear he;have hlen:1 < ins.length:=(List.getElem?_eq_some_iff.1 hj).1;clear hi hj;clear hy;have HD:=hid hd;clear hd;have HY:=hid (fun (W:World)=>rule_yes W);have HNo:=hid (fun (W:World)=>rule_no W);have g1:=cell_alloc g0 (.cells #[.string n.op,.string n.name,.slice a1 n.ins.length c1,.string n.out,.slice a2 n.attrs.length c2,.slice (some ⟨bx,ox,none⟩) ins.length c3] 63);have g3:=cell_alloc g2 (.cells #[.string n.op,.string n.name,.slice a1 n.ins.length c1,.string n.out,.slice a2 n.attrs.length c2,.slice (some ⟨bx,ox,none⟩) ins.length c3] 63);have HB1:=hid ((Below.refl w.heap.size w).alloc (Nat.le_refl _) (.cells #[.string n.op,.string n.name,.slice a1 n.ins.length c1,.string n.out,.slice a2 n.attrs.length c2,.slice (some ⟨bx,ox,none⟩) ins.length c3] 63));have HA1:=hid (BoxN.new w #[.string n.op,.string n.name,.slice a1 n.ins.length c1,.string n.out,.slice a2 n.attrs.length c2,.slice (some ⟨bx,ox,none⟩) ins.length c3] 63);obtain ⟨ad,cd,rfl⟩:=HD.out.shape;obtain ⟨ae,ce,rfl⟩:=HE.out.shape;go_enter Tryz.func33,Tryz.ntmps33
  go_wp2_with fail
  generalize World.alloc w _=W1 at g1 g3 HB1 HA1 ⊢;refine (spread_any (HD.out.below HB1.out) (HE.out.below HB1.out)).mono ?_;rintro e w2 hR;have hX:DimR w (Vb.bcO x.dims y.dims) e w2:=hR.dim HB1.out (fun h0=>by have:=bc_len h0;have:=HD.out.wf.1;have:=HE.out.wf.1;omega) (bc_inI HD.out.wf.2 HE.out.wf.2);have HX:=hid hX;clear hX;rcases hR with ⟨_,⟨_,rfl⟩ | ⟨_,v2,rfl,hr2⟩⟩
  ·exact ⟨rfl,HX.out⟩
  ·clear hr2;go_wp2
   go_ret
   exact HX.out
theorem dims_Add {w:World} {v:Value} {n:Nd} {x:Vl} {y:Vl} {ins:List Vl} (h:MkV w v n ins) (hi:ins[0]?=some x) (hj:ins[1]?=some y) (hl:n.op.toList=[65,100,100]) :
  Calls Tryz.prog 33 #[v] w fun e w'=>DimR w (Vb.bcO x.dims y.dims) e w' :=
 g_dims_Add h hi hj (Or.inl hl)
theorem dims_Sub {w:World} {v:Value} {n:Nd} {x:Vl} {y:Vl} {ins:List Vl} (h:MkV w v n ins) (hi:ins[0]?=some x) (hj:ins[1]?=some y) (hl:n.op.toList=[83,117,98]) :
  Calls Tryz.prog 33 #[v] w fun e w'=>DimR w (Vb.bcO x.dims y.dims) e w' :=
 g_dims_Add h hi hj (Or.inr (Or.inl hl))
theorem dims_Mul {w:World} {v:Value} {n:Nd} {x:Vl} {y:Vl} {ins:List Vl} (h:MkV w v n ins) (hi:ins[0]?=some x) (hj:ins[1]?=some y) (hl:n.op.toList=[77,117,108]) :
  Calls Tryz.prog 33 #[v] w fun e w'=>DimR w (Vb.bcO x.dims y.dims) e w' :=
 g_dims_Add h hi hj (Or.inr (Or.inr (Or.inl hl)))
theorem dims_Div {w:World} {v:Value} {n:Nd} {x:Vl} {y:Vl} {ins:List Vl} (h:MkV w v n ins) (hi:ins[0]?=some x) (hj:ins[1]?=some y) (hl:n.op.toList=[68,105,118]) :
  Calls Tryz.prog 33 #[v] w fun e w'=>DimR w (Vb.bcO x.dims y.dims) e w' :=
 g_dims_Add h hi hj (Or.inr (Or.inr (Or.inr (Or.inl hl))))
theorem dims_Max {w:World} {v:Value} {n:Nd} {x:Vl} {y:Vl} {ins:List Vl} (h:MkV w v n ins) (hi:ins[0]?=some x) (hj:ins[1]?=some y) (hl:n.op.toList=[77,97,120]) :
  Calls Tryz.prog 33 #[v] w fun e w'=>DimR w (Vb.bcO x.dims y.dims) e w' :=
 g_dims_Add h hi hj (Or.inr (Or.inr (Or.inr (Or.inr (Or.inl hl)))))
theorem dims_Min {w:World} {v:Value} {n:Nd} {x:Vl} {y:Vl} {ins:List Vl} (h:MkV w v n ins) (hi:ins[0]?=some x) (hj:ins[1]?=some y) (hl:n.op.toList=[77,105,110]) :
  Calls Tryz.prog 33 #[v] w fun e w'=>DimR w (Vb.bcO x.dims y.dims) e w' :=
 g_dims_Add h hi hj (Or.inr (Or.inr (Or.inr (Or.inr (Or.inr (Or.inl hl))))))
theorem dims_And {w:World} {v:Value} {n:Nd} {x:Vl} {y:Vl} {ins:List Vl} (h:MkV w v n ins) (hi:ins[0]?=some x) (hj:ins[1]?=some y) (hl:n.op.toList=[65,110,100]) :
  Calls Tryz.prog 33 #[v] w fun e w'=>DimR w (Vb.bcO x.dims y.dims) e w' :=
 g_dims_Add h hi hj (Or.inr (Or.inr (Or.inr (Or.inr (Or.inr (Or.inr (Or.inl hl)))))))
theorem dims_Or {w:World} {v:Value} {n:Nd} {x:Vl} {y:Vl} {ins:List Vl} (h:MkV w v n ins) (hi:ins[0]?=some x) (hj:ins[1]?=some y) (hl:n.op.toList=[79,114]) :
  Calls Tryz.prog 33 #[v] w fun e w'=>DimR w (Vb.bcO x.dims y.dims) e w' :=
 g_dims_Add h hi hj (Or.inr (Or.inr (Or.inr (Or.inr (Or.inr (Or.inr (Or.inr (Or.inl hl))))))))
theorem dims_Xor {w:World} {v:Value} {n:Nd} {x:Vl} {y:Vl} {ins:List Vl} (h:MkV w v n ins) (hi:ins[0]?=some x) (hj:ins[1]?=some y) (hl:n.op.toList=[88,111,114]) :
  Calls Tryz.prog 33 #[v] w fun e w'=>DimR w (Vb.bcO x.dims y.dims) e w' :=
 g_dims_Add h hi hj (Or.inr (Or.inr (Or.inr (Or.inr (Or.inr (Or.inr (Or.inr (Or.inr hl))))))))
set_option maxHeartbeats 4000000 in
theorem dims_MatMul {w:World} {v:Value} {n:Nd} {x:Vl} {y:Vl} {ins:List Vl} (h:MkV w v n ins) (hi:ins[0]?=some x) (hj:ins[1]?=some y) (hl:n.op.toList=[77,97,116,77,117,108]) :
  Calls Tryz.prog 33 #[v] w fun e w'=>DimR w (productP x.dims y.dims) e w':=by
 obtain ⟨vin,vat,vv,rfl,hm⟩:=h;obtain ⟨a1,c1,rfl⟩:=hm.node.is.form;obtain ⟨a2,c2,rfl⟩:=hm.node.ia.form;obtain ⟨a3,c3,rfl⟩:=hm.ins.form;have HM:=hid hm;obtain ⟨bx,ox,vd,rfl,g0,hd,hy⟩:=dims_at hm.ins hi;clear hm;obtain ⟨ve,g2,he⟩:=hy _ hj;have HE:=hid he;clear he;have hlen:1 < ins.length:=(List.getElem?_eq_some_iff.1 hj).1;clear hi hj;clear hy;have HD:=hid hd;clear hd;have HY:=hid (fun (W:World)=>rule_yes W);have HNo:=hid (fun (W:World)=>rule_no W);have g1:=cell_alloc g0 (.cells #[.string n.op,.string n.name,.slice a1 n.ins.length c1,.string n.out,.slice a2 n.attrs.length c2,.slice (some ⟨bx,ox,none⟩) ins.length c3] 63);have g3:=cell_alloc g2 (.cells #[.string n.op,.string n.name,.slice a1 n.ins.length c1,.string n.out,.slice a2 n.attrs.length c2,.slice (some ⟨bx,ox,none⟩) ins.length c3] 63);have HB1:=hid ((Below.refl w.heap.size w).alloc (Nat.le_refl _) (.cells #[.string n.op,.string n.name,.slice a1 n.ins.length c1,.string n.out,.slice a2 n.attrs.length c2,.slice (some ⟨bx,ox,none⟩) ins.length c3] 63));have HA1:=hid (BoxN.new w #[.string n.op,.string n.name,.slice a1 n.ins.length c1,.string n.out,.slice a2 n.attrs.length c2,.slice (some ⟨bx,ox,none⟩) ins.length c3] 63);obtain ⟨ad,cd,rfl⟩:=HD.out.shape;obtain ⟨ae,ce,rfl⟩:=HE.out.shape;go_enter Tryz.func33,Tryz.ntmps33
 go_wp2_with fail
 generalize World.alloc w _=W1 at g1 g3 HB1 HA1 ⊢;refine (product_any (HD.out.below HB1.out) (HE.out.below HB1.out)).mono ?_;rintro e w2 hR;have hX:DimR w (productP x.dims y.dims) e w2:=hR.dim HB1.out (fun h0=>product_len h0 HD.out.wf.1 HE.out.wf.1) (product_inI HD.out.wf.2 HE.out.wf.2);have HX:=hid hX;clear hX;rcases hR with ⟨_,⟨_,rfl⟩ | ⟨_,v2,rfl,hr2⟩⟩
 ·exact ⟨rfl,HX.out⟩
 ·clear hr2;go_wp2
  go_ret
  exact HX.out
end
section
open Go.RowKit
set_option maxRecDepth 100000
attribute [local irreducible] Vb.bcO productP reducedP axisP intP RowI
set_option maxHeartbeats 16000000 in
theorem g_dims_ReduceSum {w:World} {v:Value} {n:Nd} {x:Vl} {ins:List Vl} (h:MkV w v n ins) (hi:ins[0]?=some x) (hl:n.op.toList=[82,101,100,117,99,101,83,117,109]∨n.op.toList=[82,101,100,117,99,101,77,97,120]∨n.op.toList=[82,101,100,117,99,101,77,101,97,110]∨n.op.toList=[65,114,103,77,97,120]) :
  Calls Tryz.prog 33 #[v] w fun e w'=>DimR w (redO n x.dims) e w':=by
 rcases hl with hl | hl | hl | hl
 all_goals
  obtain ⟨vin,vat,vv,rfl,hm⟩:=h;obtain ⟨a1,c1,rfl⟩:=hm.node.is.form;obtain ⟨a2,c2,rfl⟩:=hm.node.ia.form;obtain ⟨a3,c3,rfl⟩:=hm.ins.form;have HM:=hid hm;obtain ⟨bx,ox,vd,rfl,g0,hd,hy⟩:=dims_at hm.ins hi;clear hm;have hlen:0 < ins.length:=(List.getElem?_eq_some_iff.1 hi).1;clear hi;clear hy;have HD:=hid hd;clear hd;have HY:=hid (fun (W:World)=>rule_yes W);have HNo:=hid (fun (W:World)=>rule_no W);have g1:=cell_alloc g0 (.cells #[.string n.op,.string n.name,.slice a1 n.ins.length c1,.string n.out,.slice a2 n.attrs.length c2,.slice (some ⟨bx,ox,none⟩) ins.length c3] 63);have HB1:=hid ((Below.refl w.heap.size w).alloc (Nat.le_refl _) (.cells #[.string n.op,.string n.name,.slice a1 n.ins.length c1,.string n.out,.slice a2 n.attrs.length c2,.slice (some ⟨bx,ox,none⟩) ins.length c3] 63));have HA1:=hid (BoxN.new w #[.string n.op,.string n.name,.slice a1 n.ins.length c1,.string n.out,.slice a2 n.attrs.length c2,.slice (some ⟨bx,ox,none⟩) ins.length c3] 63);obtain ⟨ad,cd,rfl⟩:=HD.out.shape;go_enter Tryz.func33,Tryz.ntmps33
  go_wp2_with fail
  generalize hW1:World.alloc w _=W1 at g1 HB1 HA1 ⊢;refine (reduced_any (n:=n) (ins:=ins) ⟨_,_,_,rfl,HM.out.below HB1.out⟩ (HD.out.below HB1.out)).mono ?_;rintro e w2 hR;have hX:DimR w (redO n x.dims) e w2:=hR.dim HB1.out (fun zs h=>reduced_inI HD.out.wf.2 HD.out.wf.1 h);have HX:=hid hX;clear hX hW1;obtain ⟨_,hc⟩:=hR;cases hx:reducedP n x.dims with
  | none =>
   rw [hx] at hc;obtain rfl:e=brk 4:=hc;clear hx;exact ⟨rfl,HX.out⟩
  | some zs =>
   rw [hx] at hc;obtain ⟨v2,rfl,hr2⟩:=hc;clear hx hr2;go_wp2
   go_ret
   exact HX.out
theorem dims_ReduceSum {w:World} {v:Value} {n:Nd} {x:Vl} {ins:List Vl} (h:MkV w v n ins) (hi:ins[0]?=some x) (hl:n.op.toList=[82,101,100,117,99,101,83,117,109]) :
  Calls Tryz.prog 33 #[v] w fun e w'=>DimR w (redO n x.dims) e w' :=
 g_dims_ReduceSum h hi (Or.inl hl)
theorem dims_ReduceMax {w:World} {v:Value} {n:Nd} {x:Vl} {ins:List Vl} (h:MkV w v n ins) (hi:ins[0]?=some x) (hl:n.op.toList=[82,101,100,117,99,101,77,97,120]) :
  Calls Tryz.prog 33 #[v] w fun e w'=>DimR w (redO n x.dims) e w' :=
 g_dims_ReduceSum h hi (Or.inr (Or.inl hl))
theorem dims_ReduceMean {w:World} {v:Value} {n:Nd} {x:Vl} {ins:List Vl} (h:MkV w v n ins) (hi:ins[0]?=some x) (hl:n.op.toList=[82,101,100,117,99,101,77,101,97,110]) :
  Calls Tryz.prog 33 #[v] w fun e w'=>DimR w (redO n x.dims) e w' :=
 g_dims_ReduceSum h hi (Or.inr (Or.inr (Or.inl hl)))
theorem dims_ArgMax {w:World} {v:Value} {n:Nd} {x:Vl} {ins:List Vl} (h:MkV w v n ins) (hi:ins[0]?=some x) (hl:n.op.toList=[65,114,103,77,97,120]) :
  Calls Tryz.prog 33 #[v] w fun e w'=>DimR w (redO n x.dims) e w' :=
 g_dims_ReduceSum h hi (Or.inr (Or.inr (Or.inr hl)))
end
end Go.Proofs.YtijhdmidffenbaaGreatDoor
