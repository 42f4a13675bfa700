import Derived.Test.YtkkeehnldcdccaaGreatDoorNe16
set_option linter.unusedVariables false
set_option linter.unusedSimpArgs false
set_option maxRecDepth 100000
set_option maxHeartbeats 28000000
namespace Go.Proofs.YtkkeehnldcdccaaGreatDoor
open Go.Lib (hid)
open Go.RowKit
section
def EF:ByteArray:=⟨#[118,97,108,117,101]⟩
def DT(a:At):Bool:=a.name.toList==([118,97,108,117,101]:List UInt8)
theorem Tg(w:World):LS 100 #[] DT w:=by
 intro W a vd vx vi hB hn;obtain⟨ad,cd,rfl⟩:=hn.id.shape;obtain⟨ax,cx,rfl⟩:=hn.ix.shape;obtain⟨ai,ci,rfl⟩:=hn.ii.shape;clear hn hB;unfold At.val;go_enter Tryz.func100,Tryz.ntmps100
 go_wp2
 go_ret
 exact⟨Ab (Ar (by unfold DT;rfl)),(Below.refl _ _).alloc (Nat.le_refl _) _⟩
theorem Yo:∀args w,(callFunc 100 args).run Tryz.prog w=.ok (.enter 100 args) w:=enters_of Tryz.func100 (by kernel_rfl) rfl
attribute [local irreducible] DT
theorem Ip{w:World}{v:Value}{n:Nd}{ins:List Vl}{a:At}(h:BF w v n ins)(hf:n.attrs.find? DT=some a) :
  Calls Tryz.prog 41 #[v] w fun e w'=>∃vd vx,e=.returned (.agg #[.int .i64 a.typ,vd,vx])∧Aa w' vd a.dims∧Aa w' vx a.data∧Below w.heap.size w w':=by
 obtain⟨vin,vat,vv,rfl,hm⟩:=h;obtain⟨a1,c1,rfl⟩:=hm.node.is.form;obtain⟨a2,c2,rfl⟩:=hm.node.ia.form;obtain⟨a3,c3,rfl⟩:=hm.ins.form;obtain⟨k,a',h1,h2,h3,h4⟩:∃(k:Nat) (z:At),n.attrs[k]?=some z∧n.attrs.find? DT=some z∧CX DT n.attrs=k∧k<n.attrs.length:=by
  rcases Ix (p:=DT) (zs:=n.attrs)with ⟨e,_⟩|e
  ·rw[hf]at e;cases e
  ·exact e
 obtain rfl:a=a':=Option.some.inj (hf.symm.trans h2);obtain⟨b,off,cap,hv,hb,hrd⟩:=hm.node.ia.rows k a h1;obtain⟨rfl,-,rfl⟩:=Value.slice.inj hv;obtain⟨vd,vx,vi,hc9,hn9⟩:=hrd k a h1;obtain⟨ad,cd,rfl⟩:=hn9.id.shape;obtain⟨ax,cx,rfl⟩:=hn9.ix.shape;obtain⟨ai,ci,rfl⟩:=hn9.ii.shape;have HM:=hid hm;have HN9:=hid hn9;have HC9:=hid hc9;have HK:=hid h3;clear hm hn9 hc9 hrd h1 h2 h3 hf hv;have hki:(k:Int)<(n.attrs.length:Int):=by omega
 have hk0:(0:Int)≤(k:Int):=by omega
 go_enter Tryz.func41,Tryz.ntmps41
 go_wp2_with fail
 generalize hW:World.alloc (World.alloc w _) _=W1;have hB1:Hid (Below w.heap.size w W1):=hid (by rw[←hW];exact((Below.refl w.heap.size w).alloc (Nat.le_refl _) _).alloc (by simp) _);have HA1:Hid (Ac W1 w.heap.size #[.string n.op,.string n.name,.slice a1 n.ins.length c1,.string n.out,.slice (some ⟨b,off,none⟩) n.attrs.length c2,.slice a3 ins.length c3] 55):=hid (by rw[←hW];exact(Ac.new w _ _).below' ((Below.refl _ _).alloc (Nat.le_refl _) _));have HR1:Hid (Ac W1 (w.heap.size+1) #[.int .i64 0,.slice none 0 0,.slice none 0 0] 41):=hid (by rw[←hW,show w.heap.size+1=(w.alloc (Obj.cells #[.string n.op,.string n.name,.slice a1 n.ins.length c1,.string n.out,.slice (some ⟨b,off,none⟩) n.attrs.length c2,.slice a3 ins.length c3] 55)).heap.size by simp];exact Ac.new _ _ _);clear hW
 try(obtain⟨k0,k1,k2,k3,k4,k5⟩:=HA1.out.six;go_wp2_with fail;clear k0 k1 k2 k3 k4 k5)
 refine(GY (HM.out.node.ia.below hB1.out) _ _ Yo DT (Tg _)).mono ?_;rintro e w2⟨rfl,B2⟩;rw[HK.out];have HB2:=hid (hB1.out.trans (B2.mono hB1.out.size));have HR2:=hid (HR1.out.below' B2);obtain⟨k0,k1,k2,k3,k4,k5⟩:=(HA1.out.below' B2).six;obtain⟨c0,c1',c2',c3',c4,c5,c6,c7,c8⟩:=HC9.out.below hb HB2.out;obtain⟨r0,r1,r2⟩:=HR2.out.three;obtain⟨z0,z1,z2⟩:=HR2.out.thaw3;clear B2 HA1 HR1 hB1;go_wp2
 have HP:=HR2.out.put3 (.int .i64 a.typ) (.slice ad a.dims.length cd) (.slice ax a.data.length cx);have hq:Below w.heap.size w (Ef w2 (w.heap.size+1) (.int .i64 a.typ) (.slice ad a.dims.length cd) (.slice ax a.data.length cx)):=Bp HB2.out (by omega);have hI1:=HN9.out.id.below hq;have hI2:=HN9.out.ix.below hq;obtain⟨p0,p1,p2⟩:=HP.three;unfold Ef at p0 p1 p2 hq hI1 hI2;refine bodyPost_ret (v:=.agg #[.int .i64 a.typ,.slice ad a.dims.length cd,.slice ax a.data.length cx]) (by simp[results,Tryz.f41,go_sem,p0,p1,p2]) rfl ?_;exact⟨_,_,rfl,hI1,hI2,hq⟩
end
section
def IT(t a b:Int):Int×Int:=if t=9∧a=b then(0,a)else(4,0)
theorem RS{t a b:Int}(h:¬(t=9∧a=b)):IT t a b=(4,0):=if_neg h
theorem UZ{t a b:Int}(h:t=9)(g:a=b):IT t a b=(0,a):=if_pos ⟨h,g⟩
def JK(z:Int):Int×Int:=if Fl.Cz z 0=true then(0,z)else(5,0)
theorem RT{z:Int}(h:Fl.Cz z 0=false):JK z=(5,0):=if_neg (by rw[h];decide)
theorem OY{z:Int}(h:Fl.Cz z 0=true):JK z=(0,z):=if_pos h
def Hh(y t:Int):Int×Int:=if y=6∨y=7 then(0,t)else(4,0)
theorem Xi{y t:Int}(h:¬(y=6∨y=7)):Hh y t=(4,0):=if_neg h
theorem U0{y t:Int}(h:y=6∨y=7):Hh y t=(0,t):=if_pos h
attribute [local irreducible] Fc Dg CH DF Dh IT JK Hh Ci Fl.Eh Fl.un Fl.Cz
def AG:List (List UInt8):=([[67,111,110,115,116,97,110,116],[73,100,101,110,116,105,116,121],[78,101,103],[65,98,115],[78,111,116],[82,101,108,117],[83,113,114,116],[70,108,111,111,114],[69,120,112],[83,105,103,109,111,105,100],[84,97,110,104],[69,113,117,97,108],[76,101,115,115],[71,114,101,97,116,101,114],[65,100,100],[83,117,98],[77,117,108],[68,105,118],[77,97,120],[77,105,110],[65,110,100],[79,114],[88,111,114],[87,104,101,114,101],[67,97,115,116],[82,101,100,117,99,101,83,117,109],[82,101,100,117,99,101,77,97,120],[65,114,103,77,97,120],[67,111,110,99,97,116],[71,97,116,104,101,114],[82,101,115,104,97,112,101],[69,120,112,97,110,100],[84,114,97,110,115,112,111,115,101],[83,108,105,99,101],[83,113,117,101,101,122,101],[85,110,115,113,117,101,101,122,101],[70,108,97,116,116,101,110]]:List (List UInt8))
theorem AR{l m:List UInt8}{L:List (List UInt8)}(h:m∉L)(hl:l∈L):(m==l)=false:=by
 have:m≠l:=fun e=>h (e ▸ hl)
 simpa using this
def JL:ByteArray:=⟨#[116,111]⟩
theorem C3{w:World}{v:Value}{n:Nd}{x:Vl}{ins:List Vl}(h:BF w v n ins)(hi:ins[0]?=some x)(hl:n.op.toList∉AG) :
  Calls Tryz.prog 19 #[v] w fun e w'=>CB (Dh (Ci ins 1) x.typ) e∧Below w.heap.size w w':=by
 obtain⟨vin,vat,vv,rfl,hm⟩:=h;obtain⟨a1,c1,rfl⟩:=hm.node.is.form;obtain⟨a2,c2,rfl⟩:=hm.node.ia.form;obtain⟨a3,c3,rfl⟩:=hm.ins.form;have HM:=hid hm;obtain⟨bx,ox,rfl,g0⟩:=DK hm.ins hi;have hlen:0<ins.length:=(List.getElem?_eq_some_iff.1 hi).1;clear hm hi;have HY:=hid (fun(W:World)=>Ao W);have HNo:=hid (fun(W:World)=>Aw W);have q0:(n.op.toList==([67,111,110,115,116,97,110,116]:List UInt8))=false:=AR hl (l:=[67,111,110,115,116,97,110,116]) (by unfold AG;simp);have q1:(n.op.toList==([73,100,101,110,116,105,116,121]:List UInt8))=false:=AR hl (l:=[73,100,101,110,116,105,116,121]) (by unfold AG;simp);have q2:(n.op.toList==([78,101,103]:List UInt8))=false:=AR hl (l:=[78,101,103]) (by unfold AG;simp);have q3:(n.op.toList==([65,98,115]:List UInt8))=false:=AR hl (l:=[65,98,115]) (by unfold AG;simp);have q4:(n.op.toList==([78,111,116]:List UInt8))=false:=AR hl (l:=[78,111,116]) (by unfold AG;simp);have q5:(n.op.toList==([82,101,108,117]:List UInt8))=false:=AR hl (l:=[82,101,108,117]) (by unfold AG;simp);have q6:(n.op.toList==([83,113,114,116]:List UInt8))=false:=AR hl (l:=[83,113,114,116]) (by unfold AG;simp);have q7:(n.op.toList==([70,108,111,111,114]:List UInt8))=false:=AR hl (l:=[70,108,111,111,114]) (by unfold AG;simp);have q8:(n.op.toList==([69,120,112]:List UInt8))=false:=AR hl (l:=[69,120,112]) (by unfold AG;simp);have q9:(n.op.toList==([83,105,103,109,111,105,100]:List UInt8))=false:=AR hl (l:=[83,105,103,109,111,105,100]) (by unfold AG;simp);have q10:(n.op.toList==([84,97,110,104]:List UInt8))=false:=AR hl (l:=[84,97,110,104]) (by unfold AG;simp);have q11:(n.op.toList==([69,113,117,97,108]:List UInt8))=false:=AR hl (l:=[69,113,117,97,108]) (by unfold AG;simp);have q12:(n.op.toList==([76,101,115,115]:List UInt8))=false:=AR hl (l:=[76,101,115,115]) (by unfold AG;simp);have q13:(n.op.toList==([71,114,101,97,116,101,114]:List UInt8))=false:=AR hl (l:=[71,114,101,97,116,101,114]) (by unfold AG;simp);have q14:(n.op.toList==([65,100,100]:List UInt8))=false:=AR hl (l:=[65,100,100]) (by unfold AG;simp);have q15:(n.op.toList==([83,117,98]:List UInt8))=false:=AR hl (l:=[83,117,98]) (by unfold AG;simp);have q16:(n.op.toList==([77,117,108]:List UInt8))=false:=AR hl (l:=[77,117,108]) (by unfold AG;simp);have q17:(n.op.toList==([68,105,118]:List UInt8))=false:=AR hl (l:=[68,105,118]) (by unfold AG;simp);have q18:(n.op.toList==([77,97,120]:List UInt8))=false:=AR hl (l:=[77,97,120]) (by unfold AG;simp);have q19:(n.op.toList==([77,105,110]:List UInt8))=false:=AR hl (l:=[77,105,110]) (by unfold AG;simp);have q20:(n.op.toList==([65,110,100]:List UInt8))=false:=AR hl (l:=[65,110,100]) (by unfold AG;simp);have q21:(n.op.toList==([79,114]:List UInt8))=false:=AR hl (l:=[79,114]) (by unfold AG;simp);have q22:(n.op.toList==([88,111,114]:List UInt8))=false:=AR hl (l:=[88,111,114]) (by unfold AG;simp);have q23:(n.op.toList==([87,104,101,114,101]:List UInt8))=false:=AR hl (l:=[87,104,101,114,101]) (by unfold AG;simp);have q24:(n.op.toList==([67,97,115,116]:List UInt8))=false:=AR hl (l:=[67,97,115,116]) (by unfold AG;simp);have q25:(n.op.toList==([82,101,100,117,99,101,83,117,109]:List UInt8))=false:=AR hl (l:=[82,101,100,117,99,101,83,117,109]) (by unfold AG;simp);have q26:(n.op.toList==([82,101,100,117,99,101,77,97,120]:List UInt8))=false:=AR hl (l:=[82,101,100,117,99,101,77,97,120]) (by unfold AG;simp);have q27:(n.op.toList==([65,114,103,77,97,120]:List UInt8))=false:=AR hl (l:=[65,114,103,77,97,120]) (by unfold AG;simp);have q28:(n.op.toList==([67,111,110,99,97,116]:List UInt8))=false:=AR hl (l:=[67,111,110,99,97,116]) (by unfold AG;simp);have q29:(n.op.toList==([71,97,116,104,101,114]:List UInt8))=false:=AR hl (l:=[71,97,116,104,101,114]) (by unfold AG;simp);have q30:(n.op.toList==([82,101,115,104,97,112,101]:List UInt8))=false:=AR hl (l:=[82,101,115,104,97,112,101]) (by unfold AG;simp);have q31:(n.op.toList==([69,120,112,97,110,100]:List UInt8))=false:=AR hl (l:=[69,120,112,97,110,100]) (by unfold AG;simp);have q32:(n.op.toList==([84,114,97,110,115,112,111,115,101]:List UInt8))=false:=AR hl (l:=[84,114,97,110,115,112,111,115,101]) (by unfold AG;simp);have q33:(n.op.toList==([83,108,105,99,101]:List UInt8))=false:=AR hl (l:=[83,108,105,99,101]) (by unfold AG;simp);have q34:(n.op.toList==([83,113,117,101,101,122,101]:List UInt8))=false:=AR hl (l:=[83,113,117,101,101,122,101]) (by unfold AG;simp);have q35:(n.op.toList==([85,110,115,113,117,101,101,122,101]:List UInt8))=false:=AR hl (l:=[85,110,115,113,117,101,101,122,101]) (by unfold AG;simp);have q36:(n.op.toList==([70,108,97,116,116,101,110]:List UInt8))=false:=AR hl (l:=[70,108,97,116,116,101,110]) (by unfold AG;simp);clear hl;have g1:=Aj g0 (.cells #[.string n.op,.string n.name,.slice a1 n.ins.length c1,.string n.out,.slice a2 n.attrs.length c2,.slice (some ⟨bx,ox,none⟩) ins.length c3] 55);have HB1:=hid ((Below.refl w.heap.size w).alloc (Nat.le_refl _) (.cells #[.string n.op,.string n.name,.slice a1 n.ins.length c1,.string n.out,.slice a2 n.attrs.length c2,.slice (some ⟨bx,ox,none⟩) ins.length c3] 55));have HA1:=hid (Ac.new w #[.string n.op,.string n.name,.slice a1 n.ins.length c1,.string n.out,.slice a2 n.attrs.length c2,.slice (some ⟨bx,ox,none⟩) ins.length c3] 55);obtain⟨b6,d6⟩:∃b,(x.typ==6)=b:=⟨_,rfl⟩;cases b6
 all_goals
  go_enter Tryz.func19,Tryz.ntmps19
  go_wp2_with fail
  have HAl:=hid (fun(W:World) (hW:Below w.heap.size w W)=>Fs (w:=W) (v:=.agg #[.string n.op,.string n.name,.slice a1 n.ins.length c1,.string n.out,.slice a2 n.attrs.length c2,.slice (some ⟨bx,ox,none⟩) ins.length c3]) 1 ⟨_,_,_,rfl,HM.out.below hW⟩);generalize World.alloc w _=W1 at g1 HB1 HA1⊢;refine(HAl.out _ HB1.out).mono ?_;rintro e w3⟨rfl,B3⟩;have HB3:=hid (HB1.out.trans (B3.mono HB1.out.size));clear B3 HA1 HB1 g1 g0;rw[show(!(ins.any fun y=>y.typ != 1))=Ci ins 1 by unfold Ci;rfl];cases hal:Ci ins 1 with
  | false=>
   have E1:=hid hal;clear hal;go_wp2_with fail
   refine(HNo.out _).mono ?_;rintro e w'⟨rfl,rfl⟩;exact⟨rfl,CB.no (Na E1.out),HB3.out⟩
  | true=>
   have E1:=hid hal;clear hal;go_wp2_with fail
   refine(HY.out _).mono ?_;rintro e w'⟨rfl,rfl⟩;go_wp2
   go_ret
   exact⟨CB.yes (KP E1.out),HB3.out⟩
theorem QH{w:World}{v:Value}{n:Nd}{x:Vl}{ins:List Vl}(h:BF w v n ins)(hi:ins[0]?=some x)(hl:n.op.toList=[67,111,110,99,97,116]) :
  Calls Tryz.prog 19 #[v] w fun e w'=>CB (Dh (Ci ins x.typ) x.typ) e∧Below w.heap.size w w':=by
 obtain⟨vin,vat,vv,rfl,hm⟩:=h;obtain⟨a1,c1,rfl⟩:=hm.node.is.form;obtain⟨a2,c2,rfl⟩:=hm.node.ia.form;obtain⟨a3,c3,rfl⟩:=hm.ins.form;have HM:=hid hm;obtain⟨bx,ox,rfl,g0⟩:=DK hm.ins hi;have hlen:0<ins.length:=(List.getElem?_eq_some_iff.1 hi).1;clear hm hi;have HY:=hid (fun(W:World)=>Ao W);have HNo:=hid (fun(W:World)=>Aw W);have g1:=Aj g0 (.cells #[.string n.op,.string n.name,.slice a1 n.ins.length c1,.string n.out,.slice a2 n.attrs.length c2,.slice (some ⟨bx,ox,none⟩) ins.length c3] 55);have HB1:=hid ((Below.refl w.heap.size w).alloc (Nat.le_refl _) (.cells #[.string n.op,.string n.name,.slice a1 n.ins.length c1,.string n.out,.slice a2 n.attrs.length c2,.slice (some ⟨bx,ox,none⟩) ins.length c3] 55));have HA1:=hid (Ac.new w #[.string n.op,.string n.name,.slice a1 n.ins.length c1,.string n.out,.slice a2 n.attrs.length c2,.slice (some ⟨bx,ox,none⟩) ins.length c3] 55);obtain⟨b6,d6⟩:∃b,(x.typ==6)=b:=⟨_,rfl⟩;cases b6
 all_goals
  go_enter Tryz.func19,Tryz.ntmps19
  go_wp2_with fail
  have HAl:=hid (fun(W:World) (hW:Below w.heap.size w W)=>Fs (w:=W) (v:=.agg #[.string n.op,.string n.name,.slice a1 n.ins.length c1,.string n.out,.slice a2 n.attrs.length c2,.slice (some ⟨bx,ox,none⟩) ins.length c3]) x.typ ⟨_,_,_,rfl,HM.out.below hW⟩);generalize World.alloc w _=W1 at g1 HB1 HA1⊢;refine(HAl.out _ HB1.out).mono ?_;rintro e w3⟨rfl,B3⟩;have HB3:=hid (HB1.out.trans (B3.mono HB1.out.size));clear B3 HA1 HB1 g1 g0;rw[show(!(ins.any fun y=>y.typ != x.typ))=Ci ins x.typ by unfold Ci;rfl];cases hal:Ci ins x.typ with
  | false=>
   have E1:=hid hal;clear hal;go_wp2_with fail
   refine(HNo.out _).mono ?_;rintro e w'⟨rfl,rfl⟩;exact⟨rfl,CB.no (Na E1.out),HB3.out⟩
  | true=>
   have E1:=hid hal;clear hal;go_wp2_with fail
   refine(HY.out _).mono ?_;rintro e w'⟨rfl,rfl⟩;go_wp2
   go_ret
   exact⟨CB.yes (KP E1.out),HB3.out⟩
theorem Cl{w:World}{v:Value}{n:Nd}{x:Vl}{ins:List Vl}(h:BF w v n ins)(hi:ins[0]?=some x)(hl:n.op.toList=[82,101,115,104,97,112,101]∨n.op.toList=[69,120,112,97,110,100]∨n.op.toList=[84,114,97,110,115,112,111,115,101]∨n.op.toList=[83,108,105,99,101]∨n.op.toList=[83,113,117,101,101,122,101]∨n.op.toList=[85,110,115,113,117,101,101,122,101]∨n.op.toList=[70,108,97,116,116,101,110]) :
  Calls Tryz.prog 19 #[v] w fun e w'=>CB ((0,x.typ)) e∧Below w.heap.size w w':=by
 rcases hl with hl|hl|hl|hl|hl|hl|hl
 all_goals
  obtain⟨vin,vat,vv,rfl,hm⟩:=h;obtain⟨a1,c1,rfl⟩:=hm.node.is.form;obtain⟨a2,c2,rfl⟩:=hm.node.ia.form;obtain⟨a3,c3,rfl⟩:=hm.ins.form;have HM:=hid hm;obtain⟨bx,ox,rfl,g0⟩:=DK hm.ins hi;have hlen:0<ins.length:=(List.getElem?_eq_some_iff.1 hi).1;clear hm hi;have HY:=hid (fun(W:World)=>Ao W);have HNo:=hid (fun(W:World)=>Aw W);have g1:=Aj g0 (.cells #[.string n.op,.string n.name,.slice a1 n.ins.length c1,.string n.out,.slice a2 n.attrs.length c2,.slice (some ⟨bx,ox,none⟩) ins.length c3] 55);have HB1:=hid ((Below.refl w.heap.size w).alloc (Nat.le_refl _) (.cells #[.string n.op,.string n.name,.slice a1 n.ins.length c1,.string n.out,.slice a2 n.attrs.length c2,.slice (some ⟨bx,ox,none⟩) ins.length c3] 55));have HA1:=hid (Ac.new w #[.string n.op,.string n.name,.slice a1 n.ins.length c1,.string n.out,.slice a2 n.attrs.length c2,.slice (some ⟨bx,ox,none⟩) ins.length c3] 55);obtain⟨b6,d6⟩:∃b,(x.typ==6)=b:=⟨_,rfl⟩;cases b6
  all_goals
   go_enter Tryz.func19,Tryz.ntmps19
   go_wp2
   go_ret
   exact⟨CB.yes rfl,HB1.out⟩
theorem OZ{w:World}{v:Value}{n:Nd}{x:Vl}{ins:List Vl}(h:BF w v n ins)(hi:ins[0]?=some x)(hl:n.op.toList=[82,101,115,104,97,112,101]) :
  Calls Tryz.prog 19 #[v] w fun e w'=>CB ((0,x.typ)) e∧Below w.heap.size w w':=
 Cl h hi (Or.inl hl)
theorem QI{w:World}{v:Value}{n:Nd}{x:Vl}{ins:List Vl}(h:BF w v n ins)(hi:ins[0]?=some x)(hl:n.op.toList=[69,120,112,97,110,100]) :
  Calls Tryz.prog 19 #[v] w fun e w'=>CB ((0,x.typ)) e∧Below w.heap.size w w':=
 Cl h hi (Or.inr (Or.inl hl))
theorem LA{w:World}{v:Value}{n:Nd}{x:Vl}{ins:List Vl}(h:BF w v n ins)(hi:ins[0]?=some x)(hl:n.op.toList=[84,114,97,110,115,112,111,115,101]) :
  Calls Tryz.prog 19 #[v] w fun e w'=>CB ((0,x.typ)) e∧Below w.heap.size w w':=
 Cl h hi (Or.inr (Or.inr (Or.inl hl)))
theorem Th{w:World}{v:Value}{n:Nd}{x:Vl}{ins:List Vl}(h:BF w v n ins)(hi:ins[0]?=some x)(hl:n.op.toList=[83,108,105,99,101]) :
  Calls Tryz.prog 19 #[v] w fun e w'=>CB ((0,x.typ)) e∧Below w.heap.size w w':=
 Cl h hi (Or.inr (Or.inr (Or.inr (Or.inl hl))))
theorem O0{w:World}{v:Value}{n:Nd}{x:Vl}{ins:List Vl}(h:BF w v n ins)(hi:ins[0]?=some x)(hl:n.op.toList=[83,113,117,101,101,122,101]) :
  Calls Tryz.prog 19 #[v] w fun e w'=>CB ((0,x.typ)) e∧Below w.heap.size w w':=
 Cl h hi (Or.inr (Or.inr (Or.inr (Or.inr (Or.inl hl)))))
theorem LB{w:World}{v:Value}{n:Nd}{x:Vl}{ins:List Vl}(h:BF w v n ins)(hi:ins[0]?=some x)(hl:n.op.toList=[85,110,115,113,117,101,101,122,101]) :
  Calls Tryz.prog 19 #[v] w fun e w'=>CB ((0,x.typ)) e∧Below w.heap.size w w':=
 Cl h hi (Or.inr (Or.inr (Or.inr (Or.inr (Or.inr (Or.inl hl))))))
theorem O1{w:World}{v:Value}{n:Nd}{x:Vl}{ins:List Vl}(h:BF w v n ins)(hi:ins[0]?=some x)(hl:n.op.toList=[70,108,97,116,116,101,110]) :
  Calls Tryz.prog 19 #[v] w fun e w'=>CB ((0,x.typ)) e∧Below w.heap.size w w':=
 Cl h hi (Or.inr (Or.inr (Or.inr (Or.inr (Or.inr (Or.inr hl))))))
theorem QJ{w:World}{v:Value}{n:Nd}{x:Vl}{ins:List Vl}(h:BF w v n ins)(hi:ins[0]?=some x){y:Vl}(hj:ins[1]?=some y)(hl:n.op.toList=[71,97,116,104,101,114]) :
  Calls Tryz.prog 19 #[v] w fun e w'=>CB (Hh y.typ x.typ) e∧Below w.heap.size w w':=by
 obtain⟨vin,vat,vv,rfl,hm⟩:=h;obtain⟨a1,c1,rfl⟩:=hm.node.is.form;obtain⟨a2,c2,rfl⟩:=hm.node.ia.form;obtain⟨a3,c3,rfl⟩:=hm.ins.form;have HM:=hid hm;obtain⟨bx,ox,rfl,g0⟩:=DK hm.ins hi;have hlen:0<ins.length:=(List.getElem?_eq_some_iff.1 hi).1;obtain⟨bY,oY,ccY,vdY,hvY,-,-,uY,-⟩:=Bm hm.ins hj;obtain⟨eY,-,-⟩:=Value.slice.inj hvY;obtain⟨rfl,rfl⟩:bx=bY∧ox=oY:=by simpa using eY
 have uY:w.cell? ⟨bx,ox+4,none⟩=some (.int .i64 y.typ):=uY;have hlenY:1<ins.length:=(List.getElem?_eq_some_iff.1 hj).1;have hleniY:(1:Int)<(ins.length:Int):=by omega
 clear hvY eY;clear hm hi;have HY:=hid (fun(W:World)=>Ao W);have HNo:=hid (fun(W:World)=>Aw W);have g1:=Aj g0 (.cells #[.string n.op,.string n.name,.slice a1 n.ins.length c1,.string n.out,.slice a2 n.attrs.length c2,.slice (some ⟨bx,ox,none⟩) ins.length c3] 55);have HB1:=hid ((Below.refl w.heap.size w).alloc (Nat.le_refl _) (.cells #[.string n.op,.string n.name,.slice a1 n.ins.length c1,.string n.out,.slice a2 n.attrs.length c2,.slice (some ⟨bx,ox,none⟩) ins.length c3] 55));have HA1:=hid (Ac.new w #[.string n.op,.string n.name,.slice a1 n.ins.length c1,.string n.out,.slice a2 n.attrs.length c2,.slice (some ⟨bx,ox,none⟩) ins.length c3] 55);have g2:=Aj uY (.cells #[.string n.op,.string n.name,.slice a1 n.ins.length c1,.string n.out,.slice a2 n.attrs.length c2,.slice (some ⟨bx,ox,none⟩) ins.length c3] 55);obtain⟨b6,d6⟩:∃b,(x.typ==6)=b:=⟨_,rfl⟩;by_cases hy:y.typ=6∨y.typ=7
 ·have E:Hid (Hh y.typ x.typ=(0,x.typ)):=hid (U0 hy);have e6:(y.typ==6)=decide (y.typ=6):=rfl;have e7:(y.typ==7)=decide (y.typ=7):=rfl;generalize y.typ=yt at*;rcases hy with rfl|rfl
  all_goals
   cases b6
   all_goals
    go_enter Tryz.func19,Tryz.ntmps19
    go_wp2_with fail
    refine(HY.out _).mono ?_;rintro e w'⟨rfl,rfl⟩;go_wp2
    go_ret
    exact⟨CB.yes E.out,HB1.out⟩
 ·have E:Hid (Hh y.typ x.typ=(4,0)):=hid (Xi hy);have e6:(y.typ==6)=false:=by simp;omega
  have e7:(y.typ==7)=false:=by simp;omega
  clear hy;cases b6
  all_goals
   go_enter Tryz.func19,Tryz.ntmps19
   go_wp2_with fail
   refine(HNo.out _).mono ?_;rintro e w'⟨rfl,rfl⟩;exact⟨rfl,CB.no E.out,HB1.out⟩
theorem U1{w:World}{v:Value}{n:Nd}{x:Vl}{ins:List Vl}(h:BF w v n ins)(hi:ins[0]?=some x)(hl:n.op.toList=[67,97,115,116]) :
  Calls Tryz.prog 19 #[v] w fun e w'=>CB (JK (AH n.attrs JL 0)) e∧Below w.heap.size w w':=by
 obtain⟨vin,vat,vv,rfl,hm⟩:=h;obtain⟨a1,c1,rfl⟩:=hm.node.is.form;obtain⟨a2,c2,rfl⟩:=hm.node.ia.form;obtain⟨a3,c3,rfl⟩:=hm.ins.form;have HM:=hid hm;obtain⟨bx,ox,rfl,g0⟩:=DK hm.ins hi;have hlen:0<ins.length:=(List.getElem?_eq_some_iff.1 hi).1;clear hm hi;have HY:=hid (fun(W:World)=>Ao W);have HNo:=hid (fun(W:World)=>Aw W);have g1:=Aj g0 (.cells #[.string n.op,.string n.name,.slice a1 n.ins.length c1,.string n.out,.slice a2 n.attrs.length c2,.slice (some ⟨bx,ox,none⟩) ins.length c3] 55);have HB1:=hid ((Below.refl w.heap.size w).alloc (Nat.le_refl _) (.cells #[.string n.op,.string n.name,.slice a1 n.ins.length c1,.string n.out,.slice a2 n.attrs.length c2,.slice (some ⟨bx,ox,none⟩) ins.length c3] 55));have HA1:=hid (Ac.new w #[.string n.op,.string n.name,.slice a1 n.ins.length c1,.string n.out,.slice a2 n.attrs.length c2,.slice (some ⟨bx,ox,none⟩) ins.length c3] 55);obtain⟨b6,d6⟩:∃b,(x.typ==6)=b:=⟨_,rfl⟩;cases b6
 all_goals
  go_enter Tryz.func19,Tryz.ntmps19
  go_wp2_with fail
  generalize World.alloc w _=W1 at g1 HB1 HA1⊢;refine(DC (n:=n) ⟨_,_,rfl,(HM.out.below HB1.out).node⟩ JL 0).mono ?_;rintro e w2⟨rfl,B2⟩;have HB2:=hid (HB1.out.trans (B2.mono HB1.out.size));have hz:=C7 (nm:=JL) (other:=0) (v:=(.agg #[.string n.op,.string n.name,.slice a1 n.ins.length c1,.string n.out,.slice a2 n.attrs.length c2])) ⟨_,_,rfl,HM.out.node⟩ (by unfold Bf;decide);clear B2 HA1 HB1 g1 g0;obtain⟨z,hze⟩:∃z,AH n.attrs JL 0=z:=⟨_,rfl⟩;have HZE:=hid hze;rw[hze]at hz⊢;clear hze;have HC:=hid (fun(W:World)=>Nm.KK z W);clear hz;cases hc:Fl.Cz z 0 with
  | false=>
   have E:Hid (JK (AH n.attrs JL 0)=(5,0)):=hid (by rw[HZE.out];exact RT hc);rw[hc]at HC;clear hc;go_wp2_with fail
   refine(HC.out _).mono ?_;rintro e w'⟨rfl,rfl⟩;go_wp2
   exact⟨rfl,Or.inl ⟨by rw[E.out];decide,by rw[E.out]⟩,HB2.out⟩
  | true=>
   have E:Hid (JK (AH n.attrs JL 0)=(0,z)):=hid (by rw[HZE.out];exact OY hc);rw[hc]at HC;clear hc;go_wp2_with fail
   refine(HC.out _).mono ?_;rintro e w'⟨rfl,rfl⟩;go_wp2
   go_ret
   exact⟨CB.yes E.out,HB2.out⟩
end
section
open Go
section
variable {P:Program} {ops:Array Oper} {Q:Exit→Act→World→Prop} {md:Region.Mode} {S:World→Prop} {n:Nat}
theorem LC{i:Nat}{oi:Oper}{v:Value}(hi:ops[i]?=some oi)(hsel:∀(j:Nat) (o:Oper) cs b,ops[j]?=some o→o.op≠.select cs b)
  (hn:ops.size≤n) (hin:i<n)
  (hQ:∀c a w,Q (.panic c) (a.put oi.dst v) w→Q (.panic c) a w) :
  ∀(fuel:Nat) (listed:Array Bool) (a:Act) (w:World),HeadInv md ops n listed→
   (∀j oj,ops[j]?=some oj→j≠i→listed.getD j true=false→(∀e∈oj.after,Region.binds md e=true→e.on≠i)→oi.apart ops oj=true)→
   i∈Region.ready md ops listed→YieldsIf P ops S oi v a→S w→
   Ex P md ops Q S n fuel (listed.setIfInBounds i true) (a.put oi.dst v) w→Ex P md ops Q S n (fuel+1) listed a w:=by
 intro fuel
 induction fuel with
 | zero=>
  intro listed a w inv _ hr hy hS H;refine⟨fun h=>(by rw[h]at hr;cases hr),fun j hj=>?_⟩;by_cases hji:j=i
  ·subst hji;exact hy.wpOp hi hS ⟨fun _=>hS,H⟩
  ·have:=ready_mono hj hji;rw[H.1]at this;cases this
 | succ fuel ih=>
  intro listed a w inv hfree hr hy hS H;refine⟨fun h=>(by rw[h]at hr;cases hr),fun j hj=>?_⟩;have hun:=(mem_ready.1 hr).1;have hjn:j<n:=by
   obtain⟨-,oj,hoj,-⟩:=mem_ready.1 hj;have:=(Array.getElem?_eq_some_iff.1 hoj).1;omega
  by_cases hji:j=i
  ·subst hji;exact hy.wpOp hi hS ⟨fun _=>hS,H⟩
  ·have h1:=H.2 j (ready_mono hj hji);obtain⟨hjun,oj,hoj,hall⟩:=mem_ready.1 hj;have hnot:∀e∈oj.after,Region.binds md e=true→e.on≠i:=fun e he hb heq=>by
    have h1:=hall e he hb;rw[heq,getD_both hun]at h1;cases h1
   have h2:=wpOp_putIf hoj (hfree j oj hoj hji hjun hnot) (fun cs b=>hsel i oi cs b hi) (fun cs b=>hsel j oj cs b hoj) hQ hy h1;have hfree':∀k ok,ops[k]?=some ok→k≠i→(listed.setIfInBounds j true).getD k true=false→
     (∀e∈ok.after,Region.binds md e=true→e.on≠i)→oi.apart ops ok=true:=fun k ok hk hki hun hno=>by
    refine hfree k ok hk hki ?_ hno;by_cases hjk:j=k
    ·subst hjk;exact hjun
    ·rw[getD_set_ne true hjk]at hun;exact hun
   refine wpOp_mono (fun a' w' h3=>⟨fun _=>h3.2.1 hjn,ih (listed.setIfInBounds j true) a' w' (inv.set hj hjn) hfree' (ready_mono hr (Ne.symm hji)) h3.1 (h3.2.1 hjn) ?_⟩) h2;rw[Array.setIfInBounds_comm _ _ hji];exact h3.2.2
theorem Ea(hsel:Region.noSelect ops=true)(hn:n=ops.size)
  (hQ:∀c (d:Option Tmp) (v:Value) a w,Q (.panic c) (a.put d v) w→Q (.panic c) a w) :
  ∀(pl:List Nat) (listed:Array Bool) (a:Act) (w:World),HeadInv md ops n listed→FX md ops n pl listed=true→S w→CG P md ops Q S n pl a w→
   Ex P md ops Q S n (pl.length+(ops.size-n)) listed a w
 | [],listed,a,w,inv,hB,hS,h=>by
  have h1:=Dl (S:=S) (n:=n) (ops.toList.drop n) n listed a w (Nat.le_refl _) (fun j=>by simp[List.getElem?_drop]) (by simpa[FX]using hB) h
  simpa using h1
 | i::rest,listed,a,w,inv,hB,hS,h=>by
  unfold FX at hB;unfold CG at h;cases ho:ops[i]? with
  | none=>rw[ho]at hB;cases hB
  | some o=>
   rw[ho]at hB h;simp only[Bool.and_eq_true,decide_eq_true_eq]at hB;obtain⟨⟨hin,hr⟩,hB'⟩:=hB;rw[show(i::rest).length+(ops.size-n)=(rest.length+(ops.size-n))+1 by rw[List.length_cons];omega];cases hq:FF o with
   | true=>
    simp only[hq,if_true,Bool.and_eq_true]at hr h;obtain⟨v,hy,h⟩:=h;have hr':i∈Region.ready md ops listed:=by simpa using hr.1
    exact LC ho (Region.noSelect_spec hsel) (by omega) hin (fun c a w h=>hQ c _ _ a w h) _ listed a w inv (Region.free_spec ho hr.2) hr' hy hS
     (Ea hsel hn hQ rest _ _ w (inv.set hr' hin) hB' hS h)
   | false=>
    simp only[hq,Bool.false_eq_true,if_false,decide_eq_true_eq]at hr h;refine⟨fun h1=>(by rw[hr]at h1;cases h1),fun j hj=>?_⟩;have hj':=hj;rw[hr]at hj;obtain rfl:j=i:=by simpa using hj
    exact wpOp_mono (fun a' w' h'=>⟨fun _=>h'.1,Ea hsel hn hQ rest _ a' w' (inv.set hj' hin) hB' h'.1 h'.2⟩) h
def ZY(md:Region.Mode)(ops:Array Oper)(pl:List Nat):Bool:=
 Region.noSelect ops&&FX md ops ops.size pl (Array.replicate ops.size false)&&decide (pl.length=ops.size)
theorem DP{id:Nat}{a:Act}{w:World}(pl:List Nat)(S:World→Prop)(hm:P.follows .mixedOrders=true)(hB:ZY .any ops pl=true)
  (hQ:∀c (d:Option Tmp) (v:Value) a w,Q (.panic c) (a.put d v) w→Q (.panic c) a w) (hS:S w.drew) (h:CG P .any ops Q S ops.size pl a w.drew):(Code.region id ops true).wp P Q a w:=by
 simp only[ZY,Bool.and_eq_true,decide_eq_true_eq]at hB;obtain⟨⟨hsel,hp⟩,hl⟩:=hB;have inv0:HeadInv .any ops ops.size (Array.replicate ops.size false):=
  ⟨by simp,fun j oj _ hl=>(by rw[getD_replicate_false]at hl;cases hl),fun t h1 h2=>absurd h2 (by omega)⟩
 have H:=Ea hsel rfl hQ pl _ a w.drew inv0 hp hS h;rw[hl,Nat.sub_self,Nat.add_zero]at H;exact wp_region_any hm (Ey _ _ _ _ H)
theorem O2{a:Act}{w:World}(h:Q .normal a w):CG P md ops Q S ops.size [] a w:=by
 show wpList P ops Q (ops.toList.drop ops.size) a w;rw[List.drop_eq_nil_of_le (by simp)];exact h
end
end
end Go.Proofs.YtkkeehnldcdccaaGreatDoor
