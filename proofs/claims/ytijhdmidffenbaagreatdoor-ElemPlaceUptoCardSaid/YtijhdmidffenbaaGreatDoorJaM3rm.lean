import Derived.Test.YtijhdmidffenbaaGreatDoorInM2rm
import Derived.Test.YtijhdmidffenbaaGreatDoorJaM1rm
import Derived.Test.YtijhdmidffenbaaGreatDoorSchGrm
import Derived.Test.YtijhdmidffenbaaGreatDoorRegArm
open Go.Lib (hid)
set_option linter.unusedVariables false
set_option linter.unusedSimpArgs false
namespace Go.Proofs.YtijhdmidffenbaaGreatDoor
section
open Go.RowKit
set_option maxRecDepth 100000
attribute [local irreducible] typC typA typU typS typD alB Fl.bin Fl.un
set_option maxHeartbeats 32000000 in
theorem g_typ_Identity {w:World} {v:Value} {n:Nd} {x:Vl} {ins:List Vl} (h:MkV w v n ins) (hi:ins[0]?=some x) (hl:n.op.toList=[73,100,101,110,116,105,116,121]∨n.op.toList=[78,101,103]∨n.op.toList=[65,98,115]∨n.op.toList=[83,113,114,116]∨n.op.toList=[70,108,111,111,114]∨n.op.toList=[69,120,112]∨n.op.toList=[83,105,103,109,111,105,100]∨n.op.toList=[84,97,110,104]) :
  Calls Tryz.prog 32 #[v] w fun e w'=>TyR (typU (Fl.un n.op.toList x.typ 0).2 x.typ) e∧Below w.heap.size w w':=by
 rcases hl with hl | hl | hl | hl | hl | hl | hl | hl
 all_goals
  obtain ⟨vin,vat,vv,rfl,hm⟩:=h;obtain ⟨a1,c1,rfl⟩:=hm.node.is.form;obtain ⟨a2,c2,rfl⟩:=hm.node.ia.form;obtain ⟨a3,c3,rfl⟩:=hm.ins.form;have HM:=hid hm;obtain ⟨bx,ox,rfl,g0⟩:=typ_at hm.ins hi;have hlen:0 < ins.length:=(List.getElem?_eq_some_iff.1 hi).1;clear hm hi;have HY:=hid (fun (W:World)=>rule_yes W);have HNo:=hid (fun (W:World)=>rule_no W);have g1:=cell_alloc g0 (.cells #[.string n.op,.string n.name,.slice a1 n.ins.length c1,.string n.out,.slice a2 n.attrs.length c2,.slice (some ⟨bx,ox,none⟩) ins.length c3] 63);have HB1:=hid ((Below.refl w.heap.size w).alloc (Nat.le_refl _) (.cells #[.string n.op,.string n.name,.slice a1 n.ins.length c1,.string n.out,.slice a2 n.attrs.length c2,.slice (some ⟨bx,ox,none⟩) ins.length c3] 63));have HA1:=hid (BoxN.new w #[.string n.op,.string n.name,.slice a1 n.ins.length c1,.string n.out,.slice a2 n.attrs.length c2,.slice (some ⟨bx,ox,none⟩) ins.length c3] 63);obtain ⟨b6,d6⟩:∃ b,(x.typ==6)=b:=⟨_,rfl⟩;cases b6
  all_goals
   go_enter Tryz.func32,Tryz.ntmps32
   go_wp2_with fail
   have HBi:=hid (fun (W:World)=>Nm.unary_any n.op x.typ 0 (by decide) (by decide) W);generalize World.alloc w _=W1 at g1 HB1 HA1 ⊢
   with_reducible refine (HBi.out _).mono ?_
   rintro e w2 ⟨rfl,B2⟩;have B2:Below W1.heap.size W1 w2:=B2;have HB2:=hid (HB1.out.trans (B2.mono HB1.out.size));clear B2 HBi HA1 HB1 g1 g0;generalize (Fl.un n.op.toList x.typ 0).1=r1;obtain ⟨r2,hr2⟩:∃ r2,(Fl.un n.op.toList x.typ 0).2=r2:=⟨_,rfl⟩;have HR2:=hid hr2;rw [hr2];clear hr2;by_cases hr:r2=0
   ·have HR:=hid hr;have hb:(r2==0)=true:=by simp [hr]
    clear hr;go_wp2_with fail
    refine (HY.out _).mono ?_;rintro e w' ⟨rfl,rfl⟩;go_wp2
    go_ret
    exact ⟨TyR.yes (typU_yes (by rw [HR2.out];exact HR.out)),HB2.out⟩
   ·have HR:=hid hr;have hb:(r2==0)=false:=by simpa using hr
    clear hr;go_wp2_with fail
    refine (HNo.out _).mono ?_;rintro e w' ⟨rfl,rfl⟩;exact ⟨rfl,TyR.no (typU_bad (by rw [HR2.out];exact HR.out)),HB2.out⟩
theorem typ_Identity {w:World} {v:Value} {n:Nd} {x:Vl} {ins:List Vl} (h:MkV w v n ins) (hi:ins[0]?=some x) (hl:n.op.toList=[73,100,101,110,116,105,116,121]) :
  Calls Tryz.prog 32 #[v] w fun e w'=>TyR (typU (Fl.un n.op.toList x.typ 0).2 x.typ) e∧Below w.heap.size w w' :=
 g_typ_Identity h hi (Or.inl hl)
theorem typ_Neg {w:World} {v:Value} {n:Nd} {x:Vl} {ins:List Vl} (h:MkV w v n ins) (hi:ins[0]?=some x) (hl:n.op.toList=[78,101,103]) :
  Calls Tryz.prog 32 #[v] w fun e w'=>TyR (typU (Fl.un n.op.toList x.typ 0).2 x.typ) e∧Below w.heap.size w w' :=
 g_typ_Identity h hi (Or.inr (Or.inl hl))
theorem typ_Abs {w:World} {v:Value} {n:Nd} {x:Vl} {ins:List Vl} (h:MkV w v n ins) (hi:ins[0]?=some x) (hl:n.op.toList=[65,98,115]) :
  Calls Tryz.prog 32 #[v] w fun e w'=>TyR (typU (Fl.un n.op.toList x.typ 0).2 x.typ) e∧Below w.heap.size w w' :=
 g_typ_Identity h hi (Or.inr (Or.inr (Or.inl hl)))
theorem typ_Sqrt {w:World} {v:Value} {n:Nd} {x:Vl} {ins:List Vl} (h:MkV w v n ins) (hi:ins[0]?=some x) (hl:n.op.toList=[83,113,114,116]) :
  Calls Tryz.prog 32 #[v] w fun e w'=>TyR (typU (Fl.un n.op.toList x.typ 0).2 x.typ) e∧Below w.heap.size w w' :=
 g_typ_Identity h hi (Or.inr (Or.inr (Or.inr (Or.inl hl))))
theorem typ_Floor {w:World} {v:Value} {n:Nd} {x:Vl} {ins:List Vl} (h:MkV w v n ins) (hi:ins[0]?=some x) (hl:n.op.toList=[70,108,111,111,114]) :
  Calls Tryz.prog 32 #[v] w fun e w'=>TyR (typU (Fl.un n.op.toList x.typ 0).2 x.typ) e∧Below w.heap.size w w' :=
 g_typ_Identity h hi (Or.inr (Or.inr (Or.inr (Or.inr (Or.inl hl)))))
theorem typ_Exp {w:World} {v:Value} {n:Nd} {x:Vl} {ins:List Vl} (h:MkV w v n ins) (hi:ins[0]?=some x) (hl:n.op.toList=[69,120,112]) :
  Calls Tryz.prog 32 #[v] w fun e w'=>TyR (typU (Fl.un n.op.toList x.typ 0).2 x.typ) e∧Below w.heap.size w w' :=
 g_typ_Identity h hi (Or.inr (Or.inr (Or.inr (Or.inr (Or.inr (Or.inl hl))))))
theorem typ_Sigmoid {w:World} {v:Value} {n:Nd} {x:Vl} {ins:List Vl} (h:MkV w v n ins) (hi:ins[0]?=some x) (hl:n.op.toList=[83,105,103,109,111,105,100]) :
  Calls Tryz.prog 32 #[v] w fun e w'=>TyR (typU (Fl.un n.op.toList x.typ 0).2 x.typ) e∧Below w.heap.size w w' :=
 g_typ_Identity h hi (Or.inr (Or.inr (Or.inr (Or.inr (Or.inr (Or.inr (Or.inl hl)))))))
theorem typ_Tanh {w:World} {v:Value} {n:Nd} {x:Vl} {ins:List Vl} (h:MkV w v n ins) (hi:ins[0]?=some x) (hl:n.op.toList=[84,97,110,104]) :
  Calls Tryz.prog 32 #[v] w fun e w'=>TyR (typU (Fl.un n.op.toList x.typ 0).2 x.typ) e∧Below w.heap.size w w' :=
 g_typ_Identity h hi (Or.inr (Or.inr (Or.inr (Or.inr (Or.inr (Or.inr (Or.inr hl)))))))
end
section
open Go.RowKit
set_option maxRecDepth 100000
def nmVal:ByteArray:=⟨#[118,97,108,117,101]⟩
def isVal (a:At):Bool:=a.name.toList==([118,97,108,117,101]:List UInt8)
theorem testA_val (w:World):TestA 112 #[] isVal w:=by
 intro W a vd vx vi hB hn;obtain ⟨ad,cd,rfl⟩:=hn.id.shape;obtain ⟨ax,cx,rfl⟩:=hn.ix.shape;obtain ⟨ai,ci,rfl⟩:=hn.ii.shape;clear hn hB;unfold At.val;go_enter Tryz.func112,Tryz.ntmps112
 go_wp2
 go_ret
 exact ⟨ret_val (bool_val (by unfold isVal;rfl)),(Below.refl _ _).alloc (Nat.le_refl _) _⟩
theorem eg_val:∀ args w,(callFunc 112 args).run Tryz.prog w=.ok (.enter 112 args) w:=enters_of Tryz.func112 (by kernel_rfl) rfl
attribute [local irreducible] isVal
set_option maxHeartbeats 8000000 in
theorem constant_any {w:World} {v:Value} {n:Nd} {ins:List Vl} {a:At} (h:MkV w v n ins) (hf:n.attrs.find? isVal=some a) :
  Calls Tryz.prog 62 #[v] w fun e w'=>∃ vd vx,e=.returned (.agg #[.int .i64 a.typ,vd,vx])∧IntsIn w' vd a.dims∧IntsIn w' vx a.data∧Below w.heap.size w w':=by
 obtain ⟨vin,vat,vv,rfl,hm⟩:=h;obtain ⟨a1,c1,rfl⟩:=hm.node.is.form;obtain ⟨a2,c2,rfl⟩:=hm.node.ia.form;obtain ⟨a3,c3,rfl⟩:=hm.ins.form;obtain ⟨k,a',h1,h2,h3,h4⟩:∃ (k:Nat) (z:At),n.attrs[k]?=some z∧n.attrs.find? isVal=some z∧gidx isVal n.attrs=k∧k < n.attrs.length:=by
  rcases gidx_find (p:=isVal) (zs:=n.attrs) with ⟨e,_⟩ | e
  ·rw [hf] at e;cases e
  ·exact e
 obtain rfl:a=a':=Option.some.inj (hf.symm.trans h2);obtain ⟨b,off,cap,hv,hb,hrd⟩:=hm.node.ia.rows k a h1;obtain ⟨rfl,-,rfl⟩:=Value.slice.inj hv;obtain ⟨vd,vx,vi,hc9,hn9⟩:=hrd k a h1;obtain ⟨ad,cd,rfl⟩:=hn9.id.shape;obtain ⟨ax,cx,rfl⟩:=hn9.ix.shape;obtain ⟨ai,ci,rfl⟩:=hn9.ii.shape;have HM:=hid hm;have HN9:=hid hn9;have HC9:=hid hc9;have HK:=hid h3;clear hm hn9 hc9 hrd h1 h2 h3 hf hv;have hki:(k:Int) < (n.attrs.length:Int):=by omega
 have hk0:(0:Int)≤(k:Int):=by omega
 go_enter Tryz.func62,Tryz.ntmps62
 go_wp2_with fail
 generalize hW:World.alloc (World.alloc w _) _=W1;have hB1:Hid (Below w.heap.size w W1):=hid (by rw [←hW];exact ((Below.refl w.heap.size w).alloc (Nat.le_refl _) _).alloc (by simp) _);have HA1:Hid (BoxN W1 w.heap.size #[.string n.op,.string n.name,.slice a1 n.ins.length c1,.string n.out,.slice (some ⟨b,off,none⟩) n.attrs.length c2,.slice a3 ins.length c3] 63):=hid (by rw [←hW];exact (BoxN.new w _ _).below' ((Below.refl _ _).alloc (Nat.le_refl _) _));have HR1:Hid (BoxN W1 (w.heap.size+1) #[.int .i64 0,.slice none 0 0,.slice none 0 0] 46):=hid (by rw [←hW,show w.heap.size+1=(w.alloc (Obj.cells #[.string n.op,.string n.name,.slice a1 n.ins.length c1,.string n.out,.slice (some ⟨b,off,none⟩) n.attrs.length c2,.slice a3 ins.length c3] 63)).heap.size by simp];exact BoxN.new _ _ _);clear hW
 try (obtain ⟨k0,k1,k2,k3,k4,k5⟩:=HA1.out.six;go_wp2_with fail;clear k0 k1 k2 k3 k4 k5)
 refine (indexA_any (HM.out.node.ia.below hB1.out) _ _ eg_val isVal (testA_val _)).mono ?_;rintro e w2 ⟨rfl,B2⟩;rw [HK.out];have HB2:=hid (hB1.out.trans (B2.mono hB1.out.size));have HR2:=hid (HR1.out.below' B2);obtain ⟨k0,k1,k2,k3,k4,k5⟩:=(HA1.out.below' B2).six;obtain ⟨c0,c1',c2',c3',c4,c5,c6,c7,c8⟩:=HC9.out.below hb HB2.out;obtain ⟨r0,r1,r2⟩:=HR2.out.three;obtain ⟨z0,z1,z2⟩:=HR2.out.thaw3;clear B2 HA1 HR1 hB1;go_wp2
 have HP:=HR2.out.put3 (.int .i64 a.typ) (.slice ad a.dims.length cd) (.slice ax a.data.length cx);have hq:Below w.heap.size w (put3 w2 (w.heap.size+1) (.int .i64 a.typ) (.slice ad a.dims.length cd) (.slice ax a.data.length cx)):=below_put3 HB2.out (by omega);have hI1:=HN9.out.id.below hq;have hI2:=HN9.out.ix.below hq;obtain ⟨p0,p1,p2⟩:=HP.three;unfold put3 at p0 p1 p2 hq hI1 hI2;refine bodyPost_ret (v:=.agg #[.int .i64 a.typ,.slice ad a.dims.length cd,.slice ax a.data.length cx]) (by simp [results,Tryz.f62,go_sem,p0,p1,p2]) rfl ?_;exact ⟨_,_,rfl,hI1,hI2,hq⟩
end
section
open Go.RowKit
set_option maxRecDepth 100000
def typW (t a b:Int):Int × Int:=if t=9∧a=b then (0,a) else (4,0)
theorem typW_no {t a b:Int} (h:¬ (t=9∧a=b)):typW t a b=(4,0):=if_neg h
theorem typW_yes {t a b:Int} (h:t=9) (g:a=b):typW t a b=(0,a):=if_pos ⟨h,g⟩
def typK (z:Int):Int × Int:=if Fl.chk z 0=true then (0,z) else (5,0)
theorem typK_no {z:Int} (h:Fl.chk z 0=false):typK z=(5,0):=if_neg (by rw [h];decide)
theorem typK_yes {z:Int} (h:Fl.chk z 0=true):typK z=(0,z):=if_pos h
def typG (y t:Int):Int × Int:=if y=6∨y=7 then (0,t) else (4,0)
theorem typG_no {y t:Int} (h:¬ (y=6∨y=7)):typG y t=(4,0):=if_neg h
theorem typG_yes {y t:Int} (h:y=6∨y=7):typG y t=(0,t):=if_pos h
attribute [local irreducible] typC typA typU typS typD typW typK typG alB Fl.bin Fl.un Fl.chk
def typNames:List (List UInt8):=([[67,111,110,115,116,97,110,116],[73,100,101,110,116,105,116,121],[78,101,103],[65,98,115],[78,111,116],[82,101,108,117],[83,113,114,116],[70,108,111,111,114],[69,120,112],[83,105,103,109,111,105,100],[84,97,110,104],[69,113,117,97,108],[76,101,115,115],[71,114,101,97,116,101,114],[65,100,100],[83,117,98],[77,117,108],[68,105,118],[77,97,120],[77,105,110],[65,110,100],[79,114],[88,111,114],[87,104,101,114,101],[67,97,115,116],[82,101,100,117,99,101,83,117,109],[82,101,100,117,99,101,77,97,120],[65,114,103,77,97,120],[67,111,110,99,97,116],[71,97,116,104,101,114],[82,101,115,104,97,112,101],[69,120,112,97,110,100],[84,114,97,110,115,112,111,115,101],[83,108,105,99,101],[83,113,117,101,101,122,101],[85,110,115,113,117,101,101,122,101],[70,108,97,116,116,101,110]]:List (List UInt8))
theorem rest_ne {l m:List UInt8} {L:List (List UInt8)} (h:m ∉ L) (hl:l ∈ L):(m==l)=false:=by
 have:m≠l:=fun e=>h (e ▸ hl)
 simpa using this
def nmTo:ByteArray:=⟨#[116,111]⟩
set_option maxHeartbeats 4000000 in
theorem typ_rest {w:World} {v:Value} {n:Nd} {x:Vl} {ins:List Vl} (h:MkV w v n ins) (hi:ins[0]?=some x) (hl:n.op.toList ∉ typNames) :
  Calls Tryz.prog 32 #[v] w fun e w'=>TyR (typD (alB ins 1) x.typ) e∧Below w.heap.size w w':=by
 obtain ⟨vin,vat,vv,rfl,hm⟩:=h;obtain ⟨a1,c1,rfl⟩:=hm.node.is.form;obtain ⟨a2,c2,rfl⟩:=hm.node.ia.form;obtain ⟨a3,c3,rfl⟩:=hm.ins.form;have HM:=hid hm;obtain ⟨bx,ox,rfl,g0⟩:=typ_at hm.ins hi;have hlen:0 < ins.length:=(List.getElem?_eq_some_iff.1 hi).1;clear hm hi;have HY:=hid (fun (W:World)=>rule_yes W);have HNo:=hid (fun (W:World)=>rule_no W);have q0:(n.op.toList==([67,111,110,115,116,97,110,116]:List UInt8))=false:=rest_ne hl (l:=[67,111,110,115,116,97,110,116]) (by unfold typNames;simp);have q1:(n.op.toList==([73,100,101,110,116,105,116,121]:List UInt8))=false:=rest_ne hl (l:=[73,100,101,110,116,105,116,121]) (by unfold typNames;simp);have q2:(n.op.toList==([78,101,103]:List UInt8))=false:=rest_ne hl (l:=[78,101,103]) (by unfold typNames;simp);have q3:(n.op.toList==([65,98,115]:List UInt8))=false:=rest_ne hl (l:=[65,98,115]) (by unfold typNames;simp);have q4:(n.op.toList==([78,111,116]:List UInt8))=false:=rest_ne hl (l:=[78,111,116]) (by unfold typNames;simp);have q5:(n.op.toList==([82,101,108,117]:List UInt8))=false:=rest_ne hl (l:=[82,101,108,117]) (by unfold typNames;simp);have q6:(n.op.toList==([83,113,114,116]:List UInt8))=false:=rest_ne hl (l:=[83,113,114,116]) (by unfold typNames;simp);have q7:(n.op.toList==([70,108,111,111,114]:List UInt8))=false:=rest_ne hl (l:=[70,108,111,111,114]) (by unfold typNames;simp);have q8:(n.op.toList==([69,120,112]:List UInt8))=false:=rest_ne hl (l:=[69,120,112]) (by unfold typNames;simp);have q9:(n.op.toList==([83,105,103,109,111,105,100]:List UInt8))=false:=rest_ne hl (l:=[83,105,103,109,111,105,100]) (by unfold typNames;simp);have q10:(n.op.toList==([84,97,110,104]:List UInt8))=false:=rest_ne hl (l:=[84,97,110,104]) (by unfold typNames;simp);have q11:(n.op.toList==([69,113,117,97,108]:List UInt8))=false:=rest_ne hl (l:=[69,113,117,97,108]) (by unfold typNames;simp);have q12:(n.op.toList==([76,101,115,115]:List UInt8))=false:=rest_ne hl (l:=[76,101,115,115]) (by unfold typNames;simp);have q13:(n.op.toList==([71,114,101,97,116,101,114]:List UInt8))=false:=rest_ne hl (l:=[71,114,101,97,116,101,114]) (by unfold typNames;simp);have q14:(n.op.toList==([65,100,100]:List UInt8))=false:=rest_ne hl (l:=[65,100,100]) (by unfold typNames;simp);have q15:(n.op.toList==([83,117,98]:List UInt8))=false:=rest_ne hl (l:=[83,117,98]) (by unfold typNames;simp);have q16:(n.op.toList==([77,117,108]:List UInt8))=false:=rest_ne hl (l:=[77,117,108]) (by unfold typNames;simp);have q17:(n.op.toList==([68,105,118]:List UInt8))=false:=rest_ne hl (l:=[68,105,118]) (by unfold typNames;simp);have q18:(n.op.toList==([77,97,120]:List UInt8))=false:=rest_ne hl (l:=[77,97,120]) (by unfold typNames;simp);have q19:(n.op.toList==([77,105,110]:List UInt8))=false:=rest_ne hl (l:=[77,105,110]) (by unfold typNames;simp);have q20:(n.op.toList==([65,110,100]:List UInt8))=false:=rest_ne hl (l:=[65,110,100]) (by unfold typNames;simp);have q21:(n.op.toList==([79,114]:List UInt8))=false:=rest_ne hl (l:=[79,114]) (by unfold typNames;simp);have q22:(n.op.toList==([88,111,114]:List UInt8))=false:=rest_ne hl (l:=[88,111,114]) (by unfold typNames;simp);have q23:(n.op.toList==([87,104,101,114,101]:List UInt8))=false:=rest_ne hl (l:=[87,104,101,114,101]) (by unfold typNames;simp);have q24:(n.op.toList==([67,97,115,116]:List UInt8))=false:=rest_ne hl (l:=[67,97,115,116]) (by unfold typNames;simp);have q25:(n.op.toList==([82,101,100,117,99,101,83,117,109]:List UInt8))=false:=rest_ne hl (l:=[82,101,100,117,99,101,83,117,109]) (by unfold typNames;simp);have q26:(n.op.toList==([82,101,100,117,99,101,77,97,120]:List UInt8))=false:=rest_ne hl (l:=[82,101,100,117,99,101,77,97,120]) (by unfold typNames;simp);have q27:(n.op.toList==([65,114,103,77,97,120]:List UInt8))=false:=rest_ne hl (l:=[65,114,103,77,97,120]) (by unfold typNames;simp);have q28:(n.op.toList==([67,111,110,99,97,116]:List UInt8))=false:=rest_ne hl (l:=[67,111,110,99,97,116]) (by unfold typNames;simp);have q29:(n.op.toList==([71,97,116,104,101,114]:List UInt8))=false:=rest_ne hl (l:=[71,97,116,104,101,114]) (by unfold typNames;simp);have q30:(n.op.toList==([82,101,115,104,97,112,101]:List UInt8))=false:=rest_ne hl (l:=[82,101,115,104,97,112,101]) (by unfold typNames;simp);have q31:(n.op.toList==([69,120,112,97,110,100]:List UInt8))=false:=rest_ne hl (l:=[69,120,112,97,110,100]) (by unfold typNames;simp);have q32:(n.op.toList==([84,114,97,110,115,112,111,115,101]:List UInt8))=false:=rest_ne hl (l:=[84,114,97,110,115,112,111,115,101]) (by unfold typNames;simp);have q33:(n.op.toList==([83,108,105,99,101]:List UInt8))=false:=rest_ne hl (l:=[83,108,105,99,101]) (by unfold typNames;simp);have q34:(n.op.toList==([83,113,117,101,101,122,101]:List UInt8))=false:=rest_ne hl (l:=[83,113,117,101,101,122,101]) (by unfold typNames;simp);have q35:(n.op.toList==([85,110,115,113,117,101,101,122,101]:List UInt8))=false:=rest_ne hl (l:=[85,110,115,113,117,101,101,122,101]) (by unfold typNames;simp);have q36:(n.op.toList==([70,108,97,116,116,101,110]:List UInt8))=false:=rest_ne hl (l:=[70,108,97,116,116,101,110]) (by unfold typNames;simp);clear hl;have g1:=cell_alloc g0 (.cells #[.string n.op,.string n.name,.slice a1 n.ins.length c1,.string n.out,.slice a2 n.attrs.length c2,.slice (some ⟨bx,ox,none⟩) ins.length c3] 63);have HB1:=hid ((Below.refl w.heap.size w).alloc (Nat.le_refl _) (.cells #[.string n.op,.string n.name,.slice a1 n.ins.length c1,.string n.out,.slice a2 n.attrs.length c2,.slice (some ⟨bx,ox,none⟩) ins.length c3] 63));have HA1:=hid (BoxN.new w #[.string n.op,.string n.name,.slice a1 n.ins.length c1,.string n.out,.slice a2 n.attrs.length c2,.slice (some ⟨bx,ox,none⟩) ins.length c3] 63);obtain ⟨b6,d6⟩:∃ b,(x.typ==6)=b:=⟨_,rfl⟩;cases b6
 all_goals
  go_enter Tryz.func32,Tryz.ntmps32
  go_wp2_with fail
  have HAl:=hid (fun (W:World) (hW:Below w.heap.size w W)=>alike_any (w:=W) (v:=.agg #[.string n.op,.string n.name,.slice a1 n.ins.length c1,.string n.out,.slice a2 n.attrs.length c2,.slice (some ⟨bx,ox,none⟩) ins.length c3]) 1 ⟨_,_,_,rfl,HM.out.below hW⟩);generalize World.alloc w _=W1 at g1 HB1 HA1 ⊢;refine (HAl.out _ HB1.out).mono ?_;rintro e w3 ⟨rfl,B3⟩;have HB3:=hid (HB1.out.trans (B3.mono HB1.out.size));clear B3 HA1 HB1 g1 g0;rw [show (!(ins.any fun y=>y.typ != 1))=alB ins 1 by unfold alB;rfl];cases hal:alB ins 1 with
  | false =>
   have E1:=hid hal;clear hal;go_wp2_with fail
   refine (HNo.out _).mono ?_;rintro e w' ⟨rfl,rfl⟩;exact ⟨rfl,TyR.no (typD_no E1.out),HB3.out⟩
  | true =>
   have E1:=hid hal;clear hal;go_wp2_with fail
   refine (HY.out _).mono ?_;rintro e w' ⟨rfl,rfl⟩;go_wp2
   go_ret
   exact ⟨TyR.yes (typD_yes E1.out),HB3.out⟩
set_option maxHeartbeats 4000000 in
theorem typ_Concat {w:World} {v:Value} {n:Nd} {x:Vl} {ins:List Vl} (h:MkV w v n ins) (hi:ins[0]?=some x) (hl:n.op.toList=[67,111,110,99,97,116]) :
  Calls Tryz.prog 32 #[v] w fun e w'=>TyR (typD (alB ins x.typ) x.typ) e∧Below w.heap.size w w':=by
 obtain ⟨vin,vat,vv,rfl,hm⟩:=h;obtain ⟨a1,c1,rfl⟩:=hm.node.is.form;obtain ⟨a2,c2,rfl⟩:=hm.node.ia.form;obtain ⟨a3,c3,rfl⟩:=hm.ins.form;have HM:=hid hm;obtain ⟨bx,ox,rfl,g0⟩:=typ_at hm.ins hi;have hlen:0 < ins.length:=(List.getElem?_eq_some_iff.1 hi).1;clear hm hi;have HY:=hid (fun (W:World)=>rule_yes W);have HNo:=hid (fun (W:World)=>rule_no W);have g1:=cell_alloc g0 (.cells #[.string n.op,.string n.name,.slice a1 n.ins.length c1,.string n.out,.slice a2 n.attrs.length c2,.slice (some ⟨bx,ox,none⟩) ins.length c3] 63);have HB1:=hid ((Below.refl w.heap.size w).alloc (Nat.le_refl _) (.cells #[.string n.op,.string n.name,.slice a1 n.ins.length c1,.string n.out,.slice a2 n.attrs.length c2,.slice (some ⟨bx,ox,none⟩) ins.length c3] 63));have HA1:=hid (BoxN.new w #[.string n.op,.string n.name,.slice a1 n.ins.length c1,.string n.out,.slice a2 n.attrs.length c2,.slice (some ⟨bx,ox,none⟩) ins.length c3] 63);obtain ⟨b6,d6⟩:∃ b,(x.typ==6)=b:=⟨_,rfl⟩;cases b6
 all_goals
  go_enter Tryz.func32,Tryz.ntmps32
  go_wp2_with fail
  have HAl:=hid (fun (W:World) (hW:Below w.heap.size w W)=>alike_any (w:=W) (v:=.agg #[.string n.op,.string n.name,.slice a1 n.ins.length c1,.string n.out,.slice a2 n.attrs.length c2,.slice (some ⟨bx,ox,none⟩) ins.length c3]) x.typ ⟨_,_,_,rfl,HM.out.below hW⟩);generalize World.alloc w _=W1 at g1 HB1 HA1 ⊢;refine (HAl.out _ HB1.out).mono ?_;rintro e w3 ⟨rfl,B3⟩;have HB3:=hid (HB1.out.trans (B3.mono HB1.out.size));clear B3 HA1 HB1 g1 g0;rw [show (!(ins.any fun y=>y.typ != x.typ))=alB ins x.typ by unfold alB;rfl];cases hal:alB ins x.typ with
  | false =>
   have E1:=hid hal;clear hal;go_wp2_with fail
   refine (HNo.out _).mono ?_;rintro e w' ⟨rfl,rfl⟩;exact ⟨rfl,TyR.no (typD_no E1.out),HB3.out⟩
  | true =>
   have E1:=hid hal;clear hal;go_wp2_with fail
   refine (HY.out _).mono ?_;rintro e w' ⟨rfl,rfl⟩;go_wp2
   go_ret
   exact ⟨TyR.yes (typD_yes E1.out),HB3.out⟩
set_option maxHeartbeats 28000000 in
theorem g_typ_Reshape {w:World} {v:Value} {n:Nd} {x:Vl} {ins:List Vl} (h:MkV w v n ins) (hi:ins[0]?=some x) (hl:n.op.toList=[82,101,115,104,97,112,101]∨n.op.toList=[69,120,112,97,110,100]∨n.op.toList=[84,114,97,110,115,112,111,115,101]∨n.op.toList=[83,108,105,99,101]∨n.op.toList=[83,113,117,101,101,122,101]∨n.op.toList=[85,110,115,113,117,101,101,122,101]∨n.op.toList=[70,108,97,116,116,101,110]) :
  Calls Tryz.prog 32 #[v] w fun e w'=>TyR ((0,x.typ)) e∧Below w.heap.size w w':=by
 rcases hl with hl | hl | hl | hl | hl | hl | hl
 all_goals
  obtain ⟨vin,vat,vv,rfl,hm⟩:=h;obtain ⟨a1,c1,rfl⟩:=hm.node.is.form;obtain ⟨a2,c2,rfl⟩:=hm.node.ia.form;obtain ⟨a3,c3,rfl⟩:=hm.ins.form;have HM:=hid hm;obtain ⟨bx,ox,rfl,g0⟩:=typ_at hm.ins hi;have hlen:0 < ins.length:=(List.getElem?_eq_some_iff.1 hi).1;clear hm hi;have HY:=hid (fun (W:World)=>rule_yes W);have HNo:=hid (fun (W:World)=>rule_no W);have g1:=cell_alloc g0 (.cells #[.string n.op,.string n.name,.slice a1 n.ins.length c1,.string n.out,.slice a2 n.attrs.length c2,.slice (some ⟨bx,ox,none⟩) ins.length c3] 63);have HB1:=hid ((Below.refl w.heap.size w).alloc (Nat.le_refl _) (.cells #[.string n.op,.string n.name,.slice a1 n.ins.length c1,.string n.out,.slice a2 n.attrs.length c2,.slice (some ⟨bx,ox,none⟩) ins.length c3] 63));have HA1:=hid (BoxN.new w #[.string n.op,.string n.name,.slice a1 n.ins.length c1,.string n.out,.slice a2 n.attrs.length c2,.slice (some ⟨bx,ox,none⟩) ins.length c3] 63);obtain ⟨b6,d6⟩:∃ b,(x.typ==6)=b:=⟨_,rfl⟩;cases b6
  all_goals
   go_enter Tryz.func32,Tryz.ntmps32
   go_wp2
   go_ret
   exact ⟨TyR.yes rfl,HB1.out⟩
theorem typ_Reshape {w:World} {v:Value} {n:Nd} {x:Vl} {ins:List Vl} (h:MkV w v n ins) (hi:ins[0]?=some x) (hl:n.op.toList=[82,101,115,104,97,112,101]) :
  Calls Tryz.prog 32 #[v] w fun e w'=>TyR ((0,x.typ)) e∧Below w.heap.size w w' :=
 g_typ_Reshape h hi (Or.inl hl)
theorem typ_Expand {w:World} {v:Value} {n:Nd} {x:Vl} {ins:List Vl} (h:MkV w v n ins) (hi:ins[0]?=some x) (hl:n.op.toList=[69,120,112,97,110,100]) :
  Calls Tryz.prog 32 #[v] w fun e w'=>TyR ((0,x.typ)) e∧Below w.heap.size w w' :=
 g_typ_Reshape h hi (Or.inr (Or.inl hl))
theorem typ_Transpose {w:World} {v:Value} {n:Nd} {x:Vl} {ins:List Vl} (h:MkV w v n ins) (hi:ins[0]?=some x) (hl:n.op.toList=[84,114,97,110,115,112,111,115,101]) :
  Calls Tryz.prog 32 #[v] w fun e w'=>TyR ((0,x.typ)) e∧Below w.heap.size w w' :=
 g_typ_Reshape h hi (Or.inr (Or.inr (Or.inl hl)))
theorem typ_Slice {w:World} {v:Value} {n:Nd} {x:Vl} {ins:List Vl} (h:MkV w v n ins) (hi:ins[0]?=some x) (hl:n.op.toList=[83,108,105,99,101]) :
  Calls Tryz.prog 32 #[v] w fun e w'=>TyR ((0,x.typ)) e∧Below w.heap.size w w' :=
 g_typ_Reshape h hi (Or.inr (Or.inr (Or.inr (Or.inl hl))))
theorem typ_Squeeze {w:World} {v:Value} {n:Nd} {x:Vl} {ins:List Vl} (h:MkV w v n ins) (hi:ins[0]?=some x) (hl:n.op.toList=[83,113,117,101,101,122,101]) :
  Calls Tryz.prog 32 #[v] w fun e w'=>TyR ((0,x.typ)) e∧Below w.heap.size w w' :=
 g_typ_Reshape h hi (Or.inr (Or.inr (Or.inr (Or.inr (Or.inl hl)))))
theorem typ_Unsqueeze {w:World} {v:Value} {n:Nd} {x:Vl} {ins:List Vl} (h:MkV w v n ins) (hi:ins[0]?=some x) (hl:n.op.toList=[85,110,115,113,117,101,101,122,101]) :
  Calls Tryz.prog 32 #[v] w fun e w'=>TyR ((0,x.typ)) e∧Below w.heap.size w w' :=
 g_typ_Reshape h hi (Or.inr (Or.inr (Or.inr (Or.inr (Or.inr (Or.inl hl))))))
theorem typ_Flatten {w:World} {v:Value} {n:Nd} {x:Vl} {ins:List Vl} (h:MkV w v n ins) (hi:ins[0]?=some x) (hl:n.op.toList=[70,108,97,116,116,101,110]) :
  Calls Tryz.prog 32 #[v] w fun e w'=>TyR ((0,x.typ)) e∧Below w.heap.size w w' :=
 g_typ_Reshape h hi (Or.inr (Or.inr (Or.inr (Or.inr (Or.inr (Or.inr hl))))))
set_option maxHeartbeats 4000000 in
theorem typ_Gather {w:World} {v:Value} {n:Nd} {x:Vl} {ins:List Vl} (h:MkV w v n ins) (hi:ins[0]?=some x) {y:Vl} (hj:ins[1]?=some y) (hl:n.op.toList=[71,97,116,104,101,114]) :
  Calls Tryz.prog 32 #[v] w fun e w'=>TyR (typG y.typ x.typ) e∧Below w.heap.size w w':=by
 obtain ⟨vin,vat,vv,rfl,hm⟩:=h;obtain ⟨a1,c1,rfl⟩:=hm.node.is.form;obtain ⟨a2,c2,rfl⟩:=hm.node.ia.form;obtain ⟨a3,c3,rfl⟩:=hm.ins.form;have HM:=hid hm;obtain ⟨bx,ox,rfl,g0⟩:=typ_at hm.ins hi;have hlen:0 < ins.length:=(List.getElem?_eq_some_iff.1 hi).1;obtain ⟨bY,oY,ccY,vdY,hvY,-,-,uY,-⟩:=value_at hm.ins hj;obtain ⟨eY,-,-⟩:=Value.slice.inj hvY;obtain ⟨rfl,rfl⟩:bx=bY∧ox=oY:=by simpa using eY
 have uY:w.cell? ⟨bx,ox+4,none⟩=some (.int .i64 y.typ):=uY;have hlenY:1 < ins.length:=(List.getElem?_eq_some_iff.1 hj).1;have hleniY:(1:Int) < (ins.length:Int):=by omega
 clear hvY eY;clear hm hi;have HY:=hid (fun (W:World)=>rule_yes W);have HNo:=hid (fun (W:World)=>rule_no W);have g1:=cell_alloc g0 (.cells #[.string n.op,.string n.name,.slice a1 n.ins.length c1,.string n.out,.slice a2 n.attrs.length c2,.slice (some ⟨bx,ox,none⟩) ins.length c3] 63);have HB1:=hid ((Below.refl w.heap.size w).alloc (Nat.le_refl _) (.cells #[.string n.op,.string n.name,.slice a1 n.ins.length c1,.string n.out,.slice a2 n.attrs.length c2,.slice (some ⟨bx,ox,none⟩) ins.length c3] 63));have HA1:=hid (BoxN.new w #[.string n.op,.string n.name,.slice a1 n.ins.length c1,.string n.out,.slice a2 n.attrs.length c2,.slice (some ⟨bx,ox,none⟩) ins.length c3] 63);have g2:=cell_alloc uY (.cells #[.string n.op,.string n.name,.slice a1 n.ins.length c1,.string n.out,.slice a2 n.attrs.length c2,.slice (some ⟨bx,ox,none⟩) ins.length c3] 63);obtain ⟨b6,d6⟩:∃ b,(x.typ==6)=b:=⟨_,rfl⟩;by_cases hy:y.typ=6∨y.typ=7
 ·have E:Hid (typG y.typ x.typ=(0,x.typ)):=hid (typG_yes hy);have e6:(y.typ==6)=decide (y.typ=6):=rfl;have e7:(y.typ==7)=decide (y.typ=7):=rfl;generalize y.typ=yt at *;rcases hy with rfl | rfl
  all_goals
   cases b6
   all_goals
    go_enter Tryz.func32,Tryz.ntmps32
    go_wp2_with fail
    refine (HY.out _).mono ?_;rintro e w' ⟨rfl,rfl⟩;go_wp2
    go_ret
    exact ⟨TyR.yes E.out,HB1.out⟩
 ·have E:Hid (typG y.typ x.typ=(4,0)):=hid (typG_no hy);have e6:(y.typ==6)=false:=by simp;omega
  have e7:(y.typ==7)=false:=by simp;omega
  clear hy;cases b6
  all_goals
   go_enter Tryz.func32,Tryz.ntmps32
   go_wp2_with fail
   refine (HNo.out _).mono ?_;rintro e w' ⟨rfl,rfl⟩;exact ⟨rfl,TyR.no E.out,HB1.out⟩
set_option maxHeartbeats 4000000 in
theorem typ_Cast {w:World} {v:Value} {n:Nd} {x:Vl} {ins:List Vl} (h:MkV w v n ins) (hi:ins[0]?=some x) (hl:n.op.toList=[67,97,115,116]) :
  Calls Tryz.prog 32 #[v] w fun e w'=>TyR (typK (intP n.attrs nmTo 0)) e∧Below w.heap.size w w':=by
 obtain ⟨vin,vat,vv,rfl,hm⟩:=h;obtain ⟨a1,c1,rfl⟩:=hm.node.is.form;obtain ⟨a2,c2,rfl⟩:=hm.node.ia.form;obtain ⟨a3,c3,rfl⟩:=hm.ins.form;have HM:=hid hm;obtain ⟨bx,ox,rfl,g0⟩:=typ_at hm.ins hi;have hlen:0 < ins.length:=(List.getElem?_eq_some_iff.1 hi).1;clear hm hi;have HY:=hid (fun (W:World)=>rule_yes W);have HNo:=hid (fun (W:World)=>rule_no W);have g1:=cell_alloc g0 (.cells #[.string n.op,.string n.name,.slice a1 n.ins.length c1,.string n.out,.slice a2 n.attrs.length c2,.slice (some ⟨bx,ox,none⟩) ins.length c3] 63);have HB1:=hid ((Below.refl w.heap.size w).alloc (Nat.le_refl _) (.cells #[.string n.op,.string n.name,.slice a1 n.ins.length c1,.string n.out,.slice a2 n.attrs.length c2,.slice (some ⟨bx,ox,none⟩) ins.length c3] 63));have HA1:=hid (BoxN.new w #[.string n.op,.string n.name,.slice a1 n.ins.length c1,.string n.out,.slice a2 n.attrs.length c2,.slice (some ⟨bx,ox,none⟩) ins.length c3] 63);obtain ⟨b6,d6⟩:∃ b,(x.typ==6)=b:=⟨_,rfl⟩;cases b6
 all_goals
  go_enter Tryz.func32,Tryz.ntmps32
  go_wp2_with fail
  generalize World.alloc w _=W1 at g1 HB1 HA1 ⊢;refine (sint_any (n:=n) ⟨_,_,rfl,(HM.out.below HB1.out).node⟩ nmTo 0).mono ?_;rintro e w2 ⟨rfl,B2⟩;have HB2:=hid (HB1.out.trans (B2.mono HB1.out.size));have hz:=int_okP (nm:=nmTo) (other:=0) (v:=(.agg #[.string n.op,.string n.name,.slice a1 n.ins.length c1,.string n.out,.slice a2 n.attrs.length c2])) ⟨_,_,rfl,HM.out.node⟩ (by unfold InI;decide);clear B2 HA1 HB1 g1 g0;obtain ⟨z,hze⟩:∃ z,intP n.attrs nmTo 0=z:=⟨_,rfl⟩;have HZE:=hid hze;rw [hze] at hz ⊢;clear hze;have HC:=hid (fun (W:World)=>Nm.check_any z 0 (by decide) (by decide) W);clear hz;cases hc:Fl.chk z 0 with
  | false =>
   have E:Hid (typK (intP n.attrs nmTo 0)=(5,0)):=hid (by rw [HZE.out];exact typK_no hc);rw [hc] at HC;clear hc;go_wp2_with fail
   refine (HC.out _).mono ?_;rintro e w' ⟨rfl,rfl⟩;go_wp2
   exact ⟨rfl,Or.inl ⟨by rw [E.out];decide,by rw [E.out]⟩,HB2.out⟩
  | true =>
   have E:Hid (typK (intP n.attrs nmTo 0)=(0,z)):=hid (by rw [HZE.out];exact typK_yes hc);rw [hc] at HC;clear hc;go_wp2_with fail
   refine (HC.out _).mono ?_;rintro e w' ⟨rfl,rfl⟩;go_wp2
   go_ret
   exact ⟨TyR.yes E.out,HB2.out⟩
end
section
open Go.RowKit
set_option maxRecDepth 100000
attribute [local irreducible] typC typA typU typS typD typW typK typG alB Fl.bin Fl.un Fl.chk
set_option maxHeartbeats 4000000 in
theorem typ_Where {w:World} {v:Value} {n:Nd} {x:Vl} {ins:List Vl} (h:MkV w v n ins) (hi:ins[0]?=some x) {y z:Vl} (hj:ins[1]?=some y) (hk:ins[2]?=some z) (hl:n.op.toList=[87,104,101,114,101]) :
  Calls Tryz.prog 32 #[v] w fun e w'=>TyR (typW x.typ y.typ z.typ) e∧Below w.heap.size w w':=by
 obtain ⟨vin,vat,vv,rfl,hm⟩:=h;obtain ⟨a1,c1,rfl⟩:=hm.node.is.form;obtain ⟨a2,c2,rfl⟩:=hm.node.ia.form;obtain ⟨a3,c3,rfl⟩:=hm.ins.form;have HM:=hid hm;obtain ⟨bx,ox,rfl,g0⟩:=typ_at hm.ins hi;have hlen:0 < ins.length:=(List.getElem?_eq_some_iff.1 hi).1;obtain ⟨bY,oY,ccY,vdY,hvY,-,-,uY,-⟩:=value_at hm.ins hj;obtain ⟨eY,-,-⟩:=Value.slice.inj hvY;obtain ⟨rfl,rfl⟩:bx=bY∧ox=oY:=by simpa using eY
 have uY:w.cell? ⟨bx,ox+4,none⟩=some (.int .i64 y.typ):=uY;have hlenY:1 < ins.length:=(List.getElem?_eq_some_iff.1 hj).1;have hleniY:(1:Int) < (ins.length:Int):=by omega
 clear hvY eY;obtain ⟨bZ,oZ,ccZ,vdZ,hvZ,-,-,uZ,-⟩:=value_at hm.ins hk;obtain ⟨eZ,-,-⟩:=Value.slice.inj hvZ;obtain ⟨rfl,rfl⟩:bx=bZ∧ox=oZ:=by simpa using eZ
 have uZ:w.cell? ⟨bx,ox+7,none⟩=some (.int .i64 z.typ):=uZ;have hlenZ:2 < ins.length:=(List.getElem?_eq_some_iff.1 hk).1;have hleniZ:(2:Int) < (ins.length:Int):=by omega
 clear hvZ eZ;clear hm hi;have HY:=hid (fun (W:World)=>rule_yes W);have HNo:=hid (fun (W:World)=>rule_no W);have g1:=cell_alloc g0 (.cells #[.string n.op,.string n.name,.slice a1 n.ins.length c1,.string n.out,.slice a2 n.attrs.length c2,.slice (some ⟨bx,ox,none⟩) ins.length c3] 63);have HB1:=hid ((Below.refl w.heap.size w).alloc (Nat.le_refl _) (.cells #[.string n.op,.string n.name,.slice a1 n.ins.length c1,.string n.out,.slice a2 n.attrs.length c2,.slice (some ⟨bx,ox,none⟩) ins.length c3] 63));have HA1:=hid (BoxN.new w #[.string n.op,.string n.name,.slice a1 n.ins.length c1,.string n.out,.slice a2 n.attrs.length c2,.slice (some ⟨bx,ox,none⟩) ins.length c3] 63);have g2:=cell_alloc uY (.cells #[.string n.op,.string n.name,.slice a1 n.ins.length c1,.string n.out,.slice a2 n.attrs.length c2,.slice (some ⟨bx,ox,none⟩) ins.length c3] 63);have g3:=cell_alloc uZ (.cells #[.string n.op,.string n.name,.slice a1 n.ins.length c1,.string n.out,.slice a2 n.attrs.length c2,.slice (some ⟨bx,ox,none⟩) ins.length c3] 63);have hbx:bx < w.heap.size:=cell_in g0;have HSr:Hid (∀ W',Below (w.heap.size+1) (w.alloc (.cells #[.string n.op,.string n.name,.slice a1 n.ins.length c1,.string n.out,.slice a2 n.attrs.length c2,.slice (some ⟨bx,ox,none⟩) ins.length c3] 63)) W'→W'.cell? ⟨w.heap.size,5,none⟩=some (.slice (some ⟨bx,ox,none⟩) ins.length c3)∧W'.cell? ⟨bx,ox+4,none⟩=some (.int .i64 y.typ)∧W'.cell? ⟨bx,ox+7,none⟩=some (.int .i64 z.typ)):=hid fun W' h=>⟨(h.cell (p:=⟨w.heap.size,5,none⟩) (Nat.lt_succ_self _)).trans HA1.out.six.2.2.2.2.2,(h.cell (p:=⟨bx,ox+4,none⟩) (Nat.lt_succ_of_lt hbx)).trans g2,(h.cell (p:=⟨bx,ox+7,none⟩) (Nat.lt_succ_of_lt hbx)).trans g3⟩;clear hj hk;generalize x.typ=tt at *;by_cases h9:tt=9
 ·subst h9;by_cases hyz:y.typ=z.typ
  ·have E:=hid (typW_yes (t:=9) rfl hyz);have hb:(y.typ==z.typ)=true:=by simpa using hyz
   clear hyz;go_enter Tryz.func32,Tryz.ntmps32
   go_wp2_with fail
   refine wp_region_all [0,1,2,3,4,5,6,7,8,9,10,11,12,13,14,15] (fun W'=>Below (w.heap.size+1) (w.alloc (.cells #[.string n.op,.string n.name,.slice a1 n.ins.length c1,.string n.out,.slice a2 n.attrs.length c2,.slice (some ⟨bx,ox,none⟩) ins.length c3] 63)) W') (by kernel_rfl) (by kernel_rfl) (fun _ d _ _ _ h=>by cases d<;>exact h) (Below.refl _ _).drew ?_;have B0:Hid (Below (w.heap.size+1) (w.alloc (.cells #[.string n.op,.string n.name,.slice a1 n.ins.length c1,.string n.out,.slice a2 n.attrs.length c2,.slice (some ⟨bx,ox,none⟩) ins.length c3] 63)) (w.alloc (.cells #[.string n.op,.string n.name,.slice a1 n.ins.length c1,.string n.out,.slice a2 n.attrs.length c2,.slice (some ⟨bx,ox,none⟩) ins.length c3] 63)).drew):=hid (Below.refl _ _).drew;have HBD:Hid (Below w.heap.size w (w.alloc (.cells #[.string n.op,.string n.name,.slice a1 n.ins.length c1,.string n.out,.slice a2 n.attrs.length c2,.slice (some ⟨bx,ox,none⟩) ins.length c3] 63)).drew):=hid HB1.out.drew;generalize (w.alloc (.cells #[.string n.op,.string n.name,.slice a1 n.ins.length c1,.string n.out,.slice a2 n.attrs.length c2,.slice (some ⟨bx,ox,none⟩) ins.length c3] 63)).drew=wD at B0 HBD ⊢
   repeat
    first
    |refine plan_read (v:=?_) rfl rfl (Or.inl ⟨by rfl,?_⟩) ?_
     rotate_left
     ·intro W' hSw;obtain ⟨s0,s1,s2⟩:=HSr.out W' hSw;go_simp
      try with_reducible rfl
    | refine plan_read (v:=undef) rfl rfl (Or.inr ⟨by rfl,rfl⟩) ?_
    try simp only [Act.put,List.getElem_toArray,List.getElem_cons_zero,List.getElem_cons_succ,List.setIfInBounds_toArray,List.set_cons_zero,List.set_cons_succ]
   refine plan_act rfl rfl (fun K' hK=>?_);go_simp
   refine (HY.out _).mono ?_;rintro e w' ⟨rfl,rfl⟩;refine hK.out _ _ B0.out ?_;clear hK K';refine plan_end ?_;obtain ⟨s0,s1,s2⟩:=HSr.out _ B0.out;go_wp2
   go_ret
   exact ⟨TyR.yes E.out,HBD.out⟩
  ·have E:=hid (typW_no (t:=9) (fun c=>hyz c.2));have hb:(y.typ==z.typ)=false:=by simpa using hyz
   clear hyz;go_enter Tryz.func32,Tryz.ntmps32
   go_wp2_with fail
   refine wp_region_all [0,1,2,3,4,5,6,7,8,9,10,11,12,13,14,15] (fun W'=>Below (w.heap.size+1) (w.alloc (.cells #[.string n.op,.string n.name,.slice a1 n.ins.length c1,.string n.out,.slice a2 n.attrs.length c2,.slice (some ⟨bx,ox,none⟩) ins.length c3] 63)) W') (by kernel_rfl) (by kernel_rfl) (fun _ d _ _ _ h=>by cases d<;>exact h) (Below.refl _ _).drew ?_;have B0:Hid (Below (w.heap.size+1) (w.alloc (.cells #[.string n.op,.string n.name,.slice a1 n.ins.length c1,.string n.out,.slice a2 n.attrs.length c2,.slice (some ⟨bx,ox,none⟩) ins.length c3] 63)) (w.alloc (.cells #[.string n.op,.string n.name,.slice a1 n.ins.length c1,.string n.out,.slice a2 n.attrs.length c2,.slice (some ⟨bx,ox,none⟩) ins.length c3] 63)).drew):=hid (Below.refl _ _).drew;have HBD:Hid (Below w.heap.size w (w.alloc (.cells #[.string n.op,.string n.name,.slice a1 n.ins.length c1,.string n.out,.slice a2 n.attrs.length c2,.slice (some ⟨bx,ox,none⟩) ins.length c3] 63)).drew):=hid HB1.out.drew;generalize (w.alloc (.cells #[.string n.op,.string n.name,.slice a1 n.ins.length c1,.string n.out,.slice a2 n.attrs.length c2,.slice (some ⟨bx,ox,none⟩) ins.length c3] 63)).drew=wD at B0 HBD ⊢
   repeat
    first
    |refine plan_read (v:=?_) rfl rfl (Or.inl ⟨by rfl,?_⟩) ?_
     rotate_left
     ·intro W' hSw;obtain ⟨s0,s1,s2⟩:=HSr.out W' hSw;go_simp
      try with_reducible rfl
    | refine plan_read (v:=undef) rfl rfl (Or.inr ⟨by rfl,rfl⟩) ?_
    try simp only [Act.put,List.getElem_toArray,List.getElem_cons_zero,List.getElem_cons_succ,List.setIfInBounds_toArray,List.set_cons_zero,List.set_cons_succ]
   refine plan_act rfl rfl (fun K' hK=>?_);go_simp
   refine (HNo.out _).mono ?_;rintro e w' ⟨rfl,rfl⟩;exact ⟨rfl,TyR.no E.out,HBD.out⟩
 ·have E:=hid (typW_no (a:=y.typ) (b:=z.typ) (fun c=>h9 c.1));have hb9:(tt==9)=false:=by simpa using h9
  clear h9;obtain ⟨b6,d6⟩:∃ b,(tt==6)=b:=⟨_,rfl⟩;cases b6
  all_goals
   go_enter Tryz.func32,Tryz.ntmps32
   go_wp2_with fail
   refine wp_region_all [0,1,2,3,4,5,6,7,8,9,10,11,12,13,14,15] (fun W'=>Below (w.heap.size+1) (w.alloc (.cells #[.string n.op,.string n.name,.slice a1 n.ins.length c1,.string n.out,.slice a2 n.attrs.length c2,.slice (some ⟨bx,ox,none⟩) ins.length c3] 63)) W') (by kernel_rfl) (by kernel_rfl) (fun _ d _ _ _ h=>by cases d<;>exact h) (Below.refl _ _).drew ?_;have B0:Hid (Below (w.heap.size+1) (w.alloc (.cells #[.string n.op,.string n.name,.slice a1 n.ins.length c1,.string n.out,.slice a2 n.attrs.length c2,.slice (some ⟨bx,ox,none⟩) ins.length c3] 63)) (w.alloc (.cells #[.string n.op,.string n.name,.slice a1 n.ins.length c1,.string n.out,.slice a2 n.attrs.length c2,.slice (some ⟨bx,ox,none⟩) ins.length c3] 63)).drew):=hid (Below.refl _ _).drew;have HBD:Hid (Below w.heap.size w (w.alloc (.cells #[.string n.op,.string n.name,.slice a1 n.ins.length c1,.string n.out,.slice a2 n.attrs.length c2,.slice (some ⟨bx,ox,none⟩) ins.length c3] 63)).drew):=hid HB1.out.drew;generalize (w.alloc (.cells #[.string n.op,.string n.name,.slice a1 n.ins.length c1,.string n.out,.slice a2 n.attrs.length c2,.slice (some ⟨bx,ox,none⟩) ins.length c3] 63)).drew=wD at B0 HBD ⊢
   repeat
    first
    |refine plan_read (v:=?_) rfl rfl (Or.inl ⟨by rfl,?_⟩) ?_
     rotate_left
     ·intro W' hSw;obtain ⟨s0,s1,s2⟩:=HSr.out W' hSw;go_simp
      try with_reducible rfl
    | refine plan_read (v:=undef) rfl rfl (Or.inr ⟨by rfl,rfl⟩) ?_
    try simp only [Act.put,List.getElem_toArray,List.getElem_cons_zero,List.getElem_cons_succ,List.setIfInBounds_toArray,List.set_cons_zero,List.set_cons_succ]
   refine plan_act rfl rfl (fun K' hK=>?_);go_simp
   refine (HNo.out _).mono ?_;rintro e w' ⟨rfl,rfl⟩;exact ⟨rfl,TyR.no E.out,HBD.out⟩
set_option maxHeartbeats 4000000 in
theorem typ_Constant {w:World} {v:Value} {n:Nd} {a:At} {ins:List Vl} (h:MkV w v n ins) (hf:n.attrs.find? isVal=some a) (hl:n.op.toList=[67,111,110,115,116,97,110,116]) :
  Calls Tryz.prog 32 #[v] w fun e w'=>TyR (0,a.typ) e∧Below w.heap.size w w':=by
 obtain ⟨vin,vat,vv,rfl,hm⟩:=h;obtain ⟨a1,c1,rfl⟩:=hm.node.is.form;obtain ⟨a2,c2,rfl⟩:=hm.node.ia.form;obtain ⟨a3,c3,rfl⟩:=hm.ins.form;have HM:=hid hm;have HF:=hid hf;clear hm hf;have HB1:=hid ((Below.refl w.heap.size w).alloc (Nat.le_refl _) (.cells #[.string n.op,.string n.name,.slice a1 n.ins.length c1,.string n.out,.slice a2 n.attrs.length c2,.slice a3 ins.length c3] 63));go_enter Tryz.func32,Tryz.ntmps32
 go_wp2_with fail
 generalize World.alloc w _=W1 at HB1 ⊢;refine (constant_any (n:=n) (ins:=ins) ⟨_,_,_,rfl,HM.out.below HB1.out⟩ HF.out).mono ?_;rintro e w2 ⟨vd,vx,rfl,hvd,hvx,B2⟩;obtain ⟨ad,cd,rfl⟩:=hvd.shape;obtain ⟨ax,cx,rfl⟩:=hvx.shape;clear hvd hvx;have hfd:∀ W:World,(Instr.field 46 (.agg #[.int .i64 a.typ,.slice ad a.dims.length cd,.slice ax a.data.length cx]) 0).run Tryz.prog W=.ok (.int .i64 a.typ) W:=fun _=>by kernel_rfl
 have HB2:=hid (HB1.out.trans (B2.mono HB1.out.size));clear B2;go_wp2
 go_ret
 exact ⟨TyR.yes rfl,HB2.out⟩
end
end Go.Proofs.YtijhdmidffenbaaGreatDoor
