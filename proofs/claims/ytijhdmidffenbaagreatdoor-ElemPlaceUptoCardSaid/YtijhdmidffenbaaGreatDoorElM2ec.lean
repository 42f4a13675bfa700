import Derived.Test.YtijhdmidffenbaaGreatDoorElM2rm
import Derived.Test.YtijhdmidffenbaaGreatDoorElMec
import Derived.Test.YtijhdmidffenbaaGreatDoorElMrm
import Derived.Test.YtijhdmidffenbaaGreatDoorEpCec
import Derived.Test.YtijhdmidffenbaaGreatDoorFlM2rm
import Derived.Test.YtijhdmidffenbaaGreatDoorJaM5rm
open Go.Lib (hid)
set_option linter.unusedVariables false
set_option linter.unusedSimpArgs false
namespace Go.Proofs.YtijhdmidffenbaaGreatDoor
section
open Go.RowKit
set_option maxRecDepth 100000
attribute [local irreducible] Fl.un Fl.bin
set_option maxHeartbeats 28000000 in
theorem g_placed_Sub {w:World} {vn vv:Value} {n:Nd} {ts:List Tn} {x:Tn} (hn:NodeV w vn n) (hs:SlIn 3 rdTensor w vv ts) (hi:ts[0]?=some x) (hl:n.op.toList=[83,117,98]∨n.op.toList=[77,97,120]∨n.op.toList=[77,105,110]∨n.op.toList=[88,111,114]∨n.op.toList=[69,113,117,97,108]∨n.op.toList=[76,101,115,115]∨n.op.toList=[71,114,101,97,116,101,114]) :
  Calls Tryz.prog 40 #[vn,vv] w fun e w'=>∃ fn,e=.returned (.tuple #[fn,.bool true])∧PlaceC fn w' (fun xs=>Fl.bin n.op.toList x.1 (xs.getD 0 0) (xs.getD 1 0)) 2∧Below w.heap.size w w':=by
 rcases hl with hl | hl | hl | hl | hl | hl | hl
 all_goals
  obtain ⟨vin,vat,rfl,hm⟩:=hn;obtain ⟨a1,c1,rfl⟩:=hm.is.form;obtain ⟨a2,c2,rfl⟩:=hm.ia.form;obtain ⟨b,off,cap,vd,vx,rfl,hb,u0,-,-,-,-,-⟩:=tensor_at hs hi;have hts:(0:Int) < (ts.length:Int):=by have:=(List.getElem?_eq_some_iff.1 hi).1;omega
  rw [Nat.zero_mul,Nat.add_zero] at u0;clear hm hs hi;unfold Nd.val;have u0':=cell_alloc u0 (Obj.cells #[.string n.op,.string n.name,.slice a1 n.ins.length c1,.string n.out,.slice a2 n.attrs.length c2] 25);clear u0;have HB1:=hid ((Below.refl w.heap.size w).alloc (Nat.le_refl _) (Obj.cells #[.string n.op,.string n.name,.slice a1 n.ins.length c1,.string n.out,.slice a2 n.attrs.length c2] 25));have HN1:=hid (BoxN.new w #[.string n.op,.string n.name,.slice a1 n.ins.length c1,.string n.out,.slice a2 n.attrs.length c2] 25);have k0:=HN1.out.cell 0 rfl;go_enter Tryz.func40,Tryz.ntmps40
  go_wp2_with fail
  go_ret2
  have hBB:Below (w.alloc (Obj.cells #[.string n.op,.string n.name,.slice a1 n.ins.length c1,.string n.out,.slice a2 n.attrs.length c2] 25)).heap.size (w.alloc (Obj.cells #[.string n.op,.string n.name,.slice a1 n.ins.length c1,.string n.out,.slice a2 n.attrs.length c2] 25)) ((w.alloc (Obj.cells #[.string n.op,.string n.name,.slice a1 n.ins.length c1,.string n.out,.slice a2 n.attrs.length c2] 25)).alloc (Obj.cells #[.int .i64 x.1] 3)):=(Below.refl _ _).alloc (Nat.le_refl _) _;have HT2:BoxN ((w.alloc (Obj.cells #[.string n.op,.string n.name,.slice a1 n.ins.length c1,.string n.out,.slice a2 n.attrs.length c2] 25)).alloc (Obj.cells #[.int .i64 x.1] 3)) (w.heap.size+1) #[.int .i64 x.1] 3:=boxn_newE (by simp);refine ⟨_,rfl,⟨82,_,rfl,eg_pl5,fun W v xs hW hx hlx=>?_⟩,HB1.out.trans (hBB.mono HB1.out.size)⟩;exact pl5_any n.op x.1 (((HN1.out.below' hBB).below' hW).cell 0 rfl) ((HT2.below' hW).cell 0 rfl) ((HN1.out.below' hBB).below' hW).lt (HT2.below' hW).lt hx (by omega)
theorem placed_Sub {w:World} {vn vv:Value} {n:Nd} {ts:List Tn} {x:Tn} (hn:NodeV w vn n) (hs:SlIn 3 rdTensor w vv ts) (hi:ts[0]?=some x) (hl:n.op.toList=[83,117,98]) :
  Calls Tryz.prog 40 #[vn,vv] w fun e w'=>∃ fn,e=.returned (.tuple #[fn,.bool true])∧PlaceC fn w' (fun xs=>Fl.bin n.op.toList x.1 (xs.getD 0 0) (xs.getD 1 0)) 2∧Below w.heap.size w w' :=
 g_placed_Sub hn hs hi (Or.inl hl)
theorem placed_Max {w:World} {vn vv:Value} {n:Nd} {ts:List Tn} {x:Tn} (hn:NodeV w vn n) (hs:SlIn 3 rdTensor w vv ts) (hi:ts[0]?=some x) (hl:n.op.toList=[77,97,120]) :
  Calls Tryz.prog 40 #[vn,vv] w fun e w'=>∃ fn,e=.returned (.tuple #[fn,.bool true])∧PlaceC fn w' (fun xs=>Fl.bin n.op.toList x.1 (xs.getD 0 0) (xs.getD 1 0)) 2∧Below w.heap.size w w' :=
 g_placed_Sub hn hs hi (Or.inr (Or.inl hl))
theorem placed_Min {w:World} {vn vv:Value} {n:Nd} {ts:List Tn} {x:Tn} (hn:NodeV w vn n) (hs:SlIn 3 rdTensor w vv ts) (hi:ts[0]?=some x) (hl:n.op.toList=[77,105,110]) :
  Calls Tryz.prog 40 #[vn,vv] w fun e w'=>∃ fn,e=.returned (.tuple #[fn,.bool true])∧PlaceC fn w' (fun xs=>Fl.bin n.op.toList x.1 (xs.getD 0 0) (xs.getD 1 0)) 2∧Below w.heap.size w w' :=
 g_placed_Sub hn hs hi (Or.inr (Or.inr (Or.inl hl)))
theorem placed_Xor {w:World} {vn vv:Value} {n:Nd} {ts:List Tn} {x:Tn} (hn:NodeV w vn n) (hs:SlIn 3 rdTensor w vv ts) (hi:ts[0]?=some x) (hl:n.op.toList=[88,111,114]) :
  Calls Tryz.prog 40 #[vn,vv] w fun e w'=>∃ fn,e=.returned (.tuple #[fn,.bool true])∧PlaceC fn w' (fun xs=>Fl.bin n.op.toList x.1 (xs.getD 0 0) (xs.getD 1 0)) 2∧Below w.heap.size w w' :=
 g_placed_Sub hn hs hi (Or.inr (Or.inr (Or.inr (Or.inl hl))))
theorem placed_Equal {w:World} {vn vv:Value} {n:Nd} {ts:List Tn} {x:Tn} (hn:NodeV w vn n) (hs:SlIn 3 rdTensor w vv ts) (hi:ts[0]?=some x) (hl:n.op.toList=[69,113,117,97,108]) :
  Calls Tryz.prog 40 #[vn,vv] w fun e w'=>∃ fn,e=.returned (.tuple #[fn,.bool true])∧PlaceC fn w' (fun xs=>Fl.bin n.op.toList x.1 (xs.getD 0 0) (xs.getD 1 0)) 2∧Below w.heap.size w w' :=
 g_placed_Sub hn hs hi (Or.inr (Or.inr (Or.inr (Or.inr (Or.inl hl)))))
theorem placed_Less {w:World} {vn vv:Value} {n:Nd} {ts:List Tn} {x:Tn} (hn:NodeV w vn n) (hs:SlIn 3 rdTensor w vv ts) (hi:ts[0]?=some x) (hl:n.op.toList=[76,101,115,115]) :
  Calls Tryz.prog 40 #[vn,vv] w fun e w'=>∃ fn,e=.returned (.tuple #[fn,.bool true])∧PlaceC fn w' (fun xs=>Fl.bin n.op.toList x.1 (xs.getD 0 0) (xs.getD 1 0)) 2∧Below w.heap.size w w' :=
 g_placed_Sub hn hs hi (Or.inr (Or.inr (Or.inr (Or.inr (Or.inr (Or.inl hl))))))
theorem placed_Greater {w:World} {vn vv:Value} {n:Nd} {ts:List Tn} {x:Tn} (hn:NodeV w vn n) (hs:SlIn 3 rdTensor w vv ts) (hi:ts[0]?=some x) (hl:n.op.toList=[71,114,101,97,116,101,114]) :
  Calls Tryz.prog 40 #[vn,vv] w fun e w'=>∃ fn,e=.returned (.tuple #[fn,.bool true])∧PlaceC fn w' (fun xs=>Fl.bin n.op.toList x.1 (xs.getD 0 0) (xs.getD 1 0)) 2∧Below w.heap.size w w' :=
 g_placed_Sub hn hs hi (Or.inr (Or.inr (Or.inr (Or.inr (Or.inr (Or.inr hl))))))
def elNames:List (List UInt8):=[[87,104,101,114,101],[67,108,105,112],[67,97,115,116],[73,100,101,110,116,105,116,121],[78,101,103],[65,98,115],[78,111,116],[82,101,108,117],[83,113,114,116],[70,108,111,111,114],[69,120,112],[83,105,103,109,111,105,100],[84,97,110,104],[65,100,100],[83,117,98],[77,117,108],[68,105,118],[77,97,120],[77,105,110],[65,110,100],[79,114],[88,111,114],[69,113,117,97,108],[76,101,115,115],[71,114,101,97,116,101,114]]
theorem el_ne {l m:List UInt8} {L:List (List UInt8)} (h:m ∉ L) (hl:l ∈ L):(m==l)=false:=by
 have:m≠l:=fun e=>h (e ▸ hl)
 simpa using this
set_option maxHeartbeats 4000000 in
theorem placed_none {w:World} {vn vv:Value} {n:Nd} {ts:List Tn} (hn:NodeV w vn n) (hs:SlIn 3 rdTensor w vv ts) (hl:n.op.toList ∉ elNames) :
  Calls Tryz.prog 40 #[vn,vv] w fun e w'=>e=.returned (.tuple #[Value.nilFunc,.bool false])∧Below w.heap.size w w':=by
 obtain ⟨vin,vat,rfl,hm⟩:=hn;obtain ⟨a1,c1,rfl⟩:=hm.is.form;obtain ⟨a2,c2,rfl⟩:=hm.ia.form;obtain ⟨a3,c3,rfl⟩:=hs.form;have q0:(n.op.toList==([87,104,101,114,101]:List UInt8))=false:=el_ne hl (l:=[87,104,101,114,101]) (by unfold elNames;simp);have q1:(n.op.toList==([67,108,105,112]:List UInt8))=false:=el_ne hl (l:=[67,108,105,112]) (by unfold elNames;simp);have q2:(n.op.toList==([67,97,115,116]:List UInt8))=false:=el_ne hl (l:=[67,97,115,116]) (by unfold elNames;simp);have q3:(n.op.toList==([73,100,101,110,116,105,116,121]:List UInt8))=false:=el_ne hl (l:=[73,100,101,110,116,105,116,121]) (by unfold elNames;simp);have q4:(n.op.toList==([78,101,103]:List UInt8))=false:=el_ne hl (l:=[78,101,103]) (by unfold elNames;simp);have q5:(n.op.toList==([65,98,115]:List UInt8))=false:=el_ne hl (l:=[65,98,115]) (by unfold elNames;simp);have q6:(n.op.toList==([78,111,116]:List UInt8))=false:=el_ne hl (l:=[78,111,116]) (by unfold elNames;simp);have q7:(n.op.toList==([82,101,108,117]:List UInt8))=false:=el_ne hl (l:=[82,101,108,117]) (by unfold elNames;simp);have q8:(n.op.toList==([83,113,114,116]:List UInt8))=false:=el_ne hl (l:=[83,113,114,116]) (by unfold elNames;simp);have q9:(n.op.toList==([70,108,111,111,114]:List UInt8))=false:=el_ne hl (l:=[70,108,111,111,114]) (by unfold elNames;simp);have q10:(n.op.toList==([69,120,112]:List UInt8))=false:=el_ne hl (l:=[69,120,112]) (by unfold elNames;simp);have q11:(n.op.toList==([83,105,103,109,111,105,100]:List UInt8))=false:=el_ne hl (l:=[83,105,103,109,111,105,100]) (by unfold elNames;simp);have q12:(n.op.toList==([84,97,110,104]:List UInt8))=false:=el_ne hl (l:=[84,97,110,104]) (by unfold elNames;simp);have q13:(n.op.toList==([65,100,100]:List UInt8))=false:=el_ne hl (l:=[65,100,100]) (by unfold elNames;simp);have q14:(n.op.toList==([83,117,98]:List UInt8))=false:=el_ne hl (l:=[83,117,98]) (by unfold elNames;simp);have q15:(n.op.toList==([77,117,108]:List UInt8))=false:=el_ne hl (l:=[77,117,108]) (by unfold elNames;simp);have q16:(n.op.toList==([68,105,118]:List UInt8))=false:=el_ne hl (l:=[68,105,118]) (by unfold elNames;simp);have q17:(n.op.toList==([77,97,120]:List UInt8))=false:=el_ne hl (l:=[77,97,120]) (by unfold elNames;simp);have q18:(n.op.toList==([77,105,110]:List UInt8))=false:=el_ne hl (l:=[77,105,110]) (by unfold elNames;simp);have q19:(n.op.toList==([65,110,100]:List UInt8))=false:=el_ne hl (l:=[65,110,100]) (by unfold elNames;simp);have q20:(n.op.toList==([79,114]:List UInt8))=false:=el_ne hl (l:=[79,114]) (by unfold elNames;simp);have q21:(n.op.toList==([88,111,114]:List UInt8))=false:=el_ne hl (l:=[88,111,114]) (by unfold elNames;simp);have q22:(n.op.toList==([69,113,117,97,108]:List UInt8))=false:=el_ne hl (l:=[69,113,117,97,108]) (by unfold elNames;simp);have q23:(n.op.toList==([76,101,115,115]:List UInt8))=false:=el_ne hl (l:=[76,101,115,115]) (by unfold elNames;simp);have q24:(n.op.toList==([71,114,101,97,116,101,114]:List UInt8))=false:=el_ne hl (l:=[71,114,101,97,116,101,114]) (by unfold elNames;simp);clear hl hm hs;unfold Nd.val;have HB1:=hid ((Below.refl w.heap.size w).alloc (Nat.le_refl _) (Obj.cells #[.string n.op,.string n.name,.slice a1 n.ins.length c1,.string n.out,.slice a2 n.attrs.length c2] 25));have HN1:=hid (BoxN.new w #[.string n.op,.string n.name,.slice a1 n.ins.length c1,.string n.out,.slice a2 n.attrs.length c2] 25);have k0:=HN1.out.cell 0 rfl;go_enter Tryz.func40,Tryz.ntmps40
 go_wp2_with fail
 go_ret2
 exact ⟨rfl,HB1.out⟩
attribute [local irreducible] cnt chk checkP inpE outP folB thenE RowI pbE begO pbAll rowV errAt datAt doO rowAt rowsK nilsS i64s Vx.spO Vx.spS Vx.strd Vx.readL SpOK PlaceC PlaceR
def elseO (o:Int × Int × List Int):Int × Int × List Int × List Int:=if o.1≠0 then (o.1,0,[],[]) else (5,0,[],[])
theorem else_no {o:Int × Int × List Int} (h:o.1≠0):elseO o=(o.1,0,[],[]):=if_pos h
theorem else_yes {o:Int × Int × List Int} (h:o.1=0):elseO o=(5,0,[],[]):=if_neg (fun c=>c h)
set_option maxHeartbeats 16000000 in
theorem do_else {w:World} {vn vv:Value} {n:Nd} {ts:List Tn} (hn:NodeV w vn n) (hs:SlIn 3 rdTensor w vv ts) (hG:Glob w) {ty:Int × Int} {ds:Int × List Int}
  (hT:checkP n=0→ts.length=n.ins.length→pbAll ts=true→∀ (W:World) (v:Value),Below w.heap.size w W→MkV W v n (ts.map tvV)→Calls Tryz.prog 32 #[v] W fun e w'=>TyR ty e∧Below W.heap.size W w')
  (hD:checkP n=0→ts.length=n.ins.length→pbAll ts=true→ty.1=0→∀ (W:World) (v:Value),Below w.heap.size w W→MkV W v n (ts.map tvV)→Calls Tryz.prog 33 #[v] W fun e w'=>DimR W ds e w')
  (hl:(begO n ts ty ds).1=0→n.op.toList ∉ elNames) :
  Calls Tryz.prog 18 #[vn,vv] w (DoR w (elseO (begO n ts ty ds))):=by
 obtain ⟨i0,hi,hz0,hz1,hz2⟩:=info_parts info_i64;have hbeg:=hid (begin_any (ty:=ty) (ds:=ds) hn hs hG hT hD);obtain ⟨a3,c3,rfl⟩:=hs.form;have HN:=hid hn;obtain ⟨vin,vat,rfl,hm⟩:=hn;obtain ⟨a1,c1,rfl⟩:=hm.is.form;obtain ⟨a2,c2,rfl⟩:=hm.ia.form;have HS:=hid hs;have HG:=hid hG;have HL:=hid hl;have HT:=hid hT;have HD:=hid hD;clear hm hs hG hT hD hbeg hl;unfold Nd.val at HN ⊢;have HB1:Hid (Below w.heap.size w ((w.alloc (Obj.cells #[.string n.op,.string n.name,.slice a1 n.ins.length c1,.string n.out,.slice a2 n.attrs.length c2] 25)).alloc (Obj.cells #[.int .i64 0,.slice none 0 0,.slice none 0 0] 46))):=hid (((Below.refl _ w).alloc (Nat.le_refl _) _).alloc (by simp) _);have HND:Hid (BoxN ((w.alloc (Obj.cells #[.string n.op,.string n.name,.slice a1 n.ins.length c1,.string n.out,.slice a2 n.attrs.length c2] 25)).alloc (Obj.cells #[.int .i64 0,.slice none 0 0,.slice none 0 0] 46)) w.heap.size #[.string n.op,.string n.name,.slice a1 n.ins.length c1,.string n.out,.slice a2 n.attrs.length c2] 25):=hid ((BoxN.new w #[.string n.op,.string n.name,.slice a1 n.ins.length c1,.string n.out,.slice a2 n.attrs.length c2] 25).below' ((Below.refl _ _).alloc (Nat.le_refl _) _));have HRB:Hid (BoxN ((w.alloc (Obj.cells #[.string n.op,.string n.name,.slice a1 n.ins.length c1,.string n.out,.slice a2 n.attrs.length c2] 25)).alloc (Obj.cells #[.int .i64 0,.slice none 0 0,.slice none 0 0] 46)) (w.heap.size+1) #[.int .i64 0,.slice none 0 0,.slice none 0 0] 46):=hid (boxn_newE (by simp));go_enter Tryz.func18,Tryz.ntmps18
 go_wp2_with fail
 generalize hW1:World.alloc (World.alloc w _) _=W1 at HB1 HND HRB ⊢;have hz1':Hid (W1.heap.size=w.heap.size+2):=hid (by rw [←hW1];simp);clear hW1;obtain ⟨k0,k1,k2,k3,k4⟩:=HND.out.five;go_wp2_with fail
 refine (begin_any (w:=W1) (n:=n) (ts:=ts) (ty:=ty) (ds:=ds) (HN.out.below HB1.out) (tensors_below HS.out HB1.out) (HG.out.below HB1.out) (fun h1 h2 h3 W v hB=>HT.out h1 h2 h3 W v (HB1.out.trans (hB.mono HB1.out.size))) (fun h1 h2 h3 h4 W v hB=>HD.out h1 h2 h3 h4 W v (HB1.out.trans (hB.mono HB1.out.size)))).mono ?_;rintro e w2 ⟨B2,hr⟩;have HB2:=hid (HB1.out.trans (B2.mono HB1.out.size));have HND:=hid (HND.out.below' B2);have HRB:=hid (HRB.out.below' B2);have hs2:w.heap.size+2≤w2.heap.size:=by have:=B2.size;have:=hz1'.out;omega
 clear B2 k0 k1 k2 k3 k4 HT HD;generalize hE:begO n ts ty ds=O at *;have HE:=hid hE;clear hE;rcases hr with ⟨hne,rfl⟩ | ⟨h0,v,rfl,hr⟩
 ·have HR:Hid (elseO O=(O.1,0,[],[])):=hid (else_no hne);clear HE;have HNE:=hid hne;have hb':(O.1 != 0)=true:=by simpa using hne
  generalize O.1=q at *;clear hne;have hB3:Below w2.heap.size w2 (w2.alloc (Obj.cells #[.string ⟨#[]⟩,.int .i64 0,.slice none 0 0] 29)):=(Below.refl _ _).alloc (Nat.le_refl _) _;have HBE:=hid (HB2.out.trans (hB3.mono HB2.out.size));have HRE1:=hid (HRB.out.below' hB3);clear hB3;have HRE:=HRE1.out;have f0:=HRE.frozen 0;have f1:=HRE.frozen 1;have f2:=HRE.frozen 2;have g0:=HRE.cell 0 rfl;have g1:=HRE.cell 1 rfl;have g2:=HRE.cell 2 rfl;have hend:Hid (BoxN (put3 (w2.alloc (Obj.cells #[.string ⟨#[]⟩,.int .i64 0,.slice none 0 0] 29)) (w.heap.size+1) (.int .i64 0) (.slice none 0 0) (.slice none 0 0)) (w.heap.size+1) #[.int .i64 0,.slice none 0 0,.slice none 0 0] 46 ∧ Below w.heap.size w (put3 (w2.alloc (Obj.cells #[.string ⟨#[]⟩,.int .i64 0,.slice none 0 0] 29)) (w.heap.size+1) (.int .i64 0) (.slice none 0 0) (.slice none 0 0))):=hid ⟨HRE.put3 _ _ _,below_put3 HBE.out (by omega)⟩;clear HRE;go_wp2_with fail
  obtain ⟨hx1,hx2⟩:=hend.out;obtain ⟨x0,x1',x2'⟩:=hx1.three;unfold put3 at x0 x1' x2' hx2;exact bodyPost_ret (v:=.tuple #[.agg #[.int .i64 0,.slice none 0 0,.slice none 0 0],.int .i64 q]) (by simp [results,Tryz.f18,go_sem,x0,x1',x2']) rfl (DoR.no HR.out HNE.out hx2)
 have HR:Hid (elseO O=(5,0,[],[])):=hid (else_yes h0);have HL:=hid (HL.out h0);clear HE;obtain ⟨av,cv,rfl⟩:=hr.form;clear hr;have hB3:Below w2.heap.size w2 (w2.alloc (Obj.cells #[.string n.out,.int .i64 O.2.1,.slice av O.2.2.length cv] 29)):=(Below.refl _ _).alloc (Nat.le_refl _) _;have HB3:Hid (Below w.heap.size w (w2.alloc (Obj.cells #[.string n.out,.int .i64 O.2.1,.slice av O.2.2.length cv] 29))):=hid (HB2.out.trans (hB3.mono HB2.out.size));have HND3:=hid (HND.out.below' hB3);have HRB3:=hid (HRB.out.below' hB3);have HVB3:=hid (BoxN.new w2 #[.string n.out,.int .i64 O.2.1,.slice av O.2.2.length cv] 29);have hs3:Hid (((w2.alloc (Obj.cells #[.string n.out,.int .i64 O.2.1,.slice av O.2.2.length cv] 29))).heap.size=w2.heap.size+1):=hid (by simp);obtain ⟨k0,k1,k2,k3,k4⟩:=HND3.out.five;clear HND HRB hB3;go_wp2_with fail
 clear k0 k1 k2 k3 k4;generalize World.alloc w2 _=W3 at HB3 HND3 HRB3 HVB3 hs3 ⊢;generalize hVB:w2.heap.size=VB at HVB3 hs3 ⊢;have hvb:w.heap.size+2≤VB:=by omega
 refine (placed_none (n:=n) (ts:=ts) (HN.out.below HB3.out) (tensors_below HS.out HB3.out) HL.out).mono ?_;rintro e w4 ⟨rfl,B4⟩;have HB4:=hid (HB3.out.trans (B4.mono HB3.out.size));have HRB4:=hid (HRB3.out.below' B4);clear B4;have HRE:=HRB4.out;have f0:=HRE.frozen 0;have f1:=HRE.frozen 1;have f2:=HRE.frozen 2;have g0:=HRE.cell 0 rfl;have g1:=HRE.cell 1 rfl;have g2:=HRE.cell 2 rfl;have hend:Hid (BoxN (put3 w4 (w.heap.size+1) (.int .i64 0) (.slice none 0 0) (.slice none 0 0)) (w.heap.size+1) #[.int .i64 0,.slice none 0 0,.slice none 0 0] 46 ∧ Below w.heap.size w (put3 w4 (w.heap.size+1) (.int .i64 0) (.slice none 0 0) (.slice none 0 0))):=hid ⟨HRE.put3 _ _ _,below_put3 HB4.out (by omega)⟩;clear HRE;go_wp2_with fail
 obtain ⟨hx1,hx2⟩:=hend.out;obtain ⟨x0,x1',x2'⟩:=hx1.three;unfold put3 at x0 x1' x2' hx2;exact bodyPost_ret (v:=.tuple #[.agg #[.int .i64 0,.slice none 0 0,.slice none 0 0],.int .i64 5]) (by simp [results,Tryz.f18,go_sem,x0,x1',x2']) rfl (DoR.no HR.out (by decide) hx2)
end
section
open Go.RowKit
set_option maxRecDepth 100000
theorem do2_out (n:Nd) (x y:Tn):(twoB n x y).1=0→∀ t ∈ [x,y],SpOK (twoB n x y).2.2 (nW (twoB n x y).2.2) t (spT (twoB n x y).2.2 t):=by
 intro h;obtain ⟨g1,g2,g3,g4,g5,g6,g7,g8⟩:=twoB_yes h;have hW:(twoB n x y).2.2=(Vb.bcO x.2.1 y.2.1).2:=by rw [g8]
 obtain ⟨e1,e2,e3,e4⟩:=Vx.bc_left g6;obtain ⟨f1,f2⟩:=Vx.bc_right g6;rw [hW];intro t ht;simp only [List.mem_cons,List.not_mem_nil,or_false] at ht;rcases ht with rfl | rfl
 ·exact spT_ok g3 g7 e1 e2
 ·exact spT_ok g4 g7 f1 f2
attribute [local irreducible] cnt chk checkP inpE outP folB thenE RowI pbE begO pbAll doO rowAt SpOK PlaceC PlaceR spT nW Fl.bin Fl.un typ2 typU Vb.bcO tyO dsO elseO
theorem placed_bin {w:World} {vn vv:Value} {n:Nd} {ts:List Tn} {x:Tn} (hn:NodeV w vn n) (hs:SlIn 3 rdTensor w vv ts) (hi:ts[0]?=some x) (ho:n.op.toList ∈ cmpL++ariL) :
  Calls Tryz.prog 40 #[vn,vv] w fun e w'=>∃ fn,e=.returned (.tuple #[fn,.bool true])∧PlaceC fn w' (fun xs=>Fl.bin n.op.toList x.1 (xs.getD 0 0) (xs.getD 1 0)) 2∧Below w.heap.size w w':=by
 simp only [cmpL,ariL,List.cons_append,List.nil_append,List.mem_cons,List.not_mem_nil,or_false] at ho;rcases ho with ho | ho | ho | ho | ho | ho | ho | ho | ho | ho | ho | ho
 ·exact placed_Equal hn hs hi ho
 ·exact placed_Less hn hs hi ho
 ·exact placed_Greater hn hs hi ho
 ·exact placed_Add hn hs hi ho
 ·exact placed_Sub hn hs hi ho
 ·exact placed_Mul hn hs hi ho
 ·exact placed_Div hn hs hi ho
 ·exact placed_Max hn hs hi ho
 ·exact placed_Min hn hs hi ho
 ·exact placed_And hn hs hi ho
 ·exact placed_Or hn hs hi ho
 ·exact placed_Xor hn hs hi ho
end
end Go.Proofs.YtijhdmidffenbaaGreatDoor
