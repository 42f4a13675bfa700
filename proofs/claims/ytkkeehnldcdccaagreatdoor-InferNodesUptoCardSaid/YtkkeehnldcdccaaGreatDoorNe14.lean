import Derived.BigQuiet
import Derived.Deep.QuietTactic
import Derived.Test.YtkkeehnldcdccaaGreatDoorNe13
import Derived.Test.YtkkeehnldcdccaaGreatDoorNeF2
set_option linter.unusedVariables false
set_option linter.unusedSimpArgs false
set_option maxRecDepth 100000
set_option maxHeartbeats 12000000
namespace Go.Proofs.YtkkeehnldcdccaaGreatDoor
open Go.Lib (hid)
open Go.RowKit
theorem UG:∀args w,(callFunc 107 args).run Tryz.prog w=.ok (.enter 107 args) w:=enters_of Tryz.func107 (by kernel_rfl) rfl
theorem QB{w:World}(x:Vl)(vd:Value)(t:Int){A:Addr}(h:w.cell? A=some (.int .i64 t)) :
  Calls Tryz.prog 107 #[.agg #[.string x.name,.int .i64 x.typ,vd],.pointer (some A)] w fun e w'=>e=.returned (.bool (x.typ != t))∧Below w.heap.size w w':=by
 have g:=Aj h (.cells #[Value.string x.name,Value.int IntKind.i64 x.typ,vd] 31);have hB:=hid ((Below.refl w.heap.size w).alloc (Nat.le_refl _) (.cells #[Value.string x.name,Value.int IntKind.i64 x.typ,vd] 31));go_enter Tryz.func107,Tryz.ntmps107
 go_wp2
 go_ret
 exact⟨Ab (Ar (by first|rfl|simp)),hB.out⟩
theorem Fs{w:World}{v:Value}{n:Nd}{ins:List Vl}(t:Int)(h:BF w v n ins) :
  Calls Tryz.prog 44 #[v,.int .i64 t] w fun e w'=>e=.returned (.bool (!(ins.any fun x=>x.typ != t)))∧Below w.heap.size w w':=by
 obtain⟨vin,vat,vv,rfl,hm⟩:=h;obtain⟨a3,c3,rfl⟩:=hm.ins.form;have HM:=hid hm;clear hm;have hmf:∀(fn:Fn) (first cap:Array Value) (w:World),(Instr.makeFunc fn first cap).run Tryz.prog w=.ok (.func fn first cap) w:=fun _ _ _ _=>rfl;go_enter Tryz.func44,Tryz.ntmps44
 have HB1:Hid (Below w.heap.size w ((w.alloc (.cells #[.string n.op,.string n.name,vin,.string n.out,vat,.slice a3 ins.length c3] 55)).alloc (.cells #[.int .i64 t] 3))):=hid (((Below.refl _ w).alloc (Nat.le_refl _) _).alloc (by simp) _);have HT:Hid (((w.alloc (.cells #[.string n.op,.string n.name,vin,.string n.out,vat,.slice a3 ins.length c3] 55)).alloc (.cells #[.int .i64 t] 3)).cell? ⟨w.heap.size+1,0,none⟩=some (.int .i64 t)):=hid (by
  have:=(Ac.new (w.alloc (.cells #[.string n.op,.string n.name,vin,.string n.out,vat,.slice a3 ins.length c3] 55)) #[.int .i64 t] 3).cell 0 rfl
  rwa [World.size_alloc]at this)
 go_wp2_with fail
 generalize World.alloc (w.alloc _) _=W1 at HB1 HT⊢;refine(Lw (HM.out.below HB1.out).ins _ _ UG (fun x=>x.typ != t) (fun W x vd hB hx=>QB x vd t ((hB.cell (by have:=Al HT.out;exact this)).trans HT.out))).mono ?_;rintro e w2⟨rfl,B2⟩;have HB2:=hid (HB1.out.trans (B2.mono HB1.out.size));clear B2;go_wp2_with fail
 go_ret
 exact⟨rfl,HB2.out⟩
section
def CP:List Vl→Int
 | []=>0
 | x::l=>if Cz x.typ 0=false then 5 else if(AK x.dims).2≠0 then(AK x.dims).2 else CP l
def FO(l:List ByteArray)(t:Int):Bool:=l.all fun op=>decide ((Fl.un op.toList t 0).2=0)
def KL(n:Nd)(ty:Int×Int)(ds:Int×List Int):Int×Int×List Int:=
 if ty.1≠0 then(ty.1,0,[])
 else if ds.1≠0 then(ds.1,0,[])
 else if(AK ds.2).2≠0 then((AK ds.2).2,0,[])
 else if FO (AU n.attrs).1 ty.2=false then(4,0,[])
 else(0,ty.2,ds.2)
def EM(n:Nd)(ins:List Vl)(ty:Int×Int)(ds:Int×List Int):Int×Int×List Int:=
 if AA n≠0 then(AA n,0,[])
 else if ins.length≠n.ins.length then(4,0,[])
 else if CP ins≠0 then(CP ins,0,[])
 else KL n ty ds
theorem Ft{n:Nd}{ins:List Vl}{ty:Int×Int}{ds:Int×List Int}(h:AA n=0)(g:ins.length=n.ins.length)(k:CP ins=0):EM n ins ty ds=KL n ty ds:=by
 unfold EM;rw[if_neg (fun c=>c h),if_neg (fun c=>c g),if_neg (fun c=>c k)]
theorem He{n:Nd}{ins:List Vl}{ty:Int×Int}{ds:Int×List Int}(h:AA n≠0):EM n ins ty ds=(AA n,0,[]):=if_pos h
theorem KM{n:Nd}{ins:List Vl}{ty:Int×Int}{ds:Int×List Int}(h:AA n=0)(g:ins.length≠n.ins.length):EM n ins ty ds=(4,0,[]):=by
 unfold EM;rw[if_neg (fun c=>c h),if_pos g]
theorem Il{n:Nd}{ins:List Vl}{ty:Int×Int}{ds:Int×List Int}(h:AA n=0)(g:ins.length=n.ins.length)(k:CP ins≠0):EM n ins ty ds=(CP ins,0,[]):=by
 unfold EM;rw[if_neg (fun c=>c h),if_neg (fun c=>c g),if_pos k]
theorem Im{n:Nd}{ins:List Vl}{ty:Int×Int}{ds:Int×List Int}(h:AA n=0)(g:ins.length=n.ins.length)(k:CP ins=0)(t:ty.1≠0):EM n ins ty ds=(ty.1,0,[]):=by
 rw[Ft h g k];unfold KL;rw[if_pos t]
theorem IS{n:Nd}{ins:List Vl}{ty:Int×Int}{ds:Int×List Int}(h:AA n=0)(g:ins.length=n.ins.length)(k:CP ins=0)(t:ty.1=0)(d:ds.1≠0):EM n ins ty ds=(ds.1,0,[]):=by
 rw[Ft h g k];unfold KL;rw[if_neg (fun c=>c t),if_pos d]
theorem KN{n:Nd}{ins:List Vl}{ty:Int×Int}{ds:Int×List Int}(h:AA n=0)(g:ins.length=n.ins.length)(k:CP ins=0)(t:ty.1=0)(d:ds.1=0)(c:(AK ds.2).2≠0):EM n ins ty ds=((AK ds.2).2,0,[]):=by
 rw[Ft h g k];unfold KL;rw[if_neg (fun c=>c t),if_neg (fun c=>c d),if_pos c]
theorem KO{n:Nd}{ins:List Vl}{ty:Int×Int}{ds:Int×List Int}(h:AA n=0)(g:ins.length=n.ins.length)(k:CP ins=0)(t:ty.1=0)(d:ds.1=0)(c:(AK ds.2).2=0)(f:FO (AU n.attrs).1 ty.2=false):EM n ins ty ds=(4,0,[]):=by
 rw[Ft h g k];unfold KL;rw[if_neg (fun c=>c t),if_neg (fun c=>c d),if_neg (fun x=>x c),if_pos f]
theorem M9{n:Nd}{ins:List Vl}{ty:Int×Int}{ds:Int×List Int}(h:AA n=0)(g:ins.length=n.ins.length)(k:CP ins=0)(t:ty.1=0)(d:ds.1=0)(c:(AK ds.2).2=0)(f:FO (AU n.attrs).1 ty.2=true):EM n ins ty ds=(0,ty.2,ds.2):=by
 rw[Ft h g k];unfold KL;rw[if_neg (fun c=>c t),if_neg (fun c=>c d),if_neg (fun x=>x c),if_neg (by rw[f];decide)]
theorem Ta:∀(t:List (List UInt8×Dw)) {op:ByteArray} {r:Dw},Ee t op=some r→(op.toList,r)∈t:=by
 intro t
 induction t with
 | nil=>intro op r h;cases h
 | cons a t ih=>
  intro op r h;obtain⟨l,s⟩:=a;cases e:(op.toList==l)with
  | true=>
   rw[AD e]at h;obtain rfl:=Option.some.inj h;obtain rfl:op.toList=l:=by simpa using e
   exact List.mem_cons_self ..
  | false=>
   rw[Ay e]at h;exact List.mem_cons_of_mem _ (ih h)
attribute [local irreducible] AK
end
section
def CB(r:Int×Int)(e:Ending):Prop:=(r.1≠0∧e=Em r.1)∨(r.1=0∧e=.returned (.int .i64 r.2))
theorem CB.no{r:Int×Int}(h:r=(4,0)):CB r (Em 4):=by subst h;exact Or.inl ⟨by decide,rfl⟩
theorem CB.yes{r:Int×Int}{t:Int}(h:r=(0,t)):CB r (.returned (.int .i64 t)):=by subst h;exact Or.inr ⟨rfl,rfl⟩
def Ci(ins:List Vl)(t:Int):Bool:=!(ins.any fun x=>x.typ != t)
def Fc(b:Int)(al:Bool):Int×Int:=if b=0∧al=true then(0,9)else(4,0)
def Dg(b:Int)(al:Bool)(t:Int):Int×Int:=if b≠1∧al=true then(0,t)else(4,0)
def CH(b t:Int):Int×Int:=if b=0 then(0,t)else(4,0)
def DF(t z:Int):Int×Int:=if t=6∨t=7∨t=1 then(0,z)else(4,0)
def Dh(al:Bool)(t:Int):Int×Int:=if al=true then(0,t)else(4,0)
theorem UH{b:Int}{al:Bool}(h:b≠0):Fc b al=(4,0):=if_neg (fun c=>h c.1)
theorem WT{b:Int}{al:Bool}(h:al=false):Fc b al=(4,0):=if_neg (fun c=>by rw[h]at c;cases c.2)
theorem UI{b:Int}{al:Bool}(h:b=0)(g:al=true):Fc b al=(0,9):=if_pos ⟨h,g⟩
theorem UJ{b t:Int}{al:Bool}(h:b=1):Dg b al t=(4,0):=if_neg (fun c=>c.1 h)
theorem WU{b t:Int}{al:Bool}(h:al=false):Dg b al t=(4,0):=if_neg (fun c=>by rw[h]at c;cases c.2)
theorem UK{b t:Int}{al:Bool}(h:b≠1)(g:al=true):Dg b al t=(0,t):=if_pos ⟨h,g⟩
theorem OJ{b t:Int}(h:b≠0):CH b t=(4,0):=if_neg h
theorem OK{b t:Int}(h:b=0):CH b t=(0,t):=if_pos h
theorem Na{t:Int}{al:Bool}(h:al=false):Dh al t=(4,0):=if_neg (by rw[h];decide)
theorem KP{t:Int}{al:Bool}(h:al=true):Dh al t=(0,t):=if_pos h
theorem DK{w:World}{a:Option Addr}{c:Nat}{x:Vl}{ins:List Vl}(h:BJ 3 AM w (.slice a ins.length c) ins)(hi:ins[0]?=some x):∃b off,a=some ⟨b,off,none⟩∧w.cell? ⟨b,off+1,none⟩=some (.int .i64 x.typ):=by
 obtain⟨b,off,cap,cs,hv,hb,hc,hl,⟨vd,rfl,_⟩,hr⟩:=h.rows 0 x hi;obtain⟨rfl,-,-⟩:=Value.slice.inj hv;have:=hr 1 _ rfl;exact⟨b,off,rfl,by simpa using this⟩
attribute [local irreducible] Fc Dg CH DF Dh Ci Fl.Eh Fl.un
theorem Gj{w:World}{v:Value}{n:Nd}{x:Vl}{ins:List Vl}(h:BF w v n ins)(hi:ins[0]?=some x)(hl:n.op.toList=[69,113,117,97,108]∨n.op.toList=[76,101,115,115]∨n.op.toList=[71,114,101,97,116,101,114]) :
  Calls Tryz.prog 19 #[v] w fun e w'=>CB (Fc (Fl.Eh n.op.toList x.typ 0 0).2 (Ci ins x.typ)) e∧Below w.heap.size w w':=by
 rcases hl with hl|hl|hl
 all_goals
  obtain⟨vin,vat,vv,rfl,hm⟩:=h;obtain⟨a1,c1,rfl⟩:=hm.node.is.form;obtain⟨a2,c2,rfl⟩:=hm.node.ia.form;obtain⟨a3,c3,rfl⟩:=hm.ins.form;have HM:=hid hm;obtain⟨bx,ox,rfl,g0⟩:=DK hm.ins hi;have hlen:0<ins.length:=(List.getElem?_eq_some_iff.1 hi).1;clear hm hi;have HY:=hid (fun(W:World)=>Ao W);have HNo:=hid (fun(W:World)=>Aw W);have g1:=Aj g0 (.cells #[.string n.op,.string n.name,.slice a1 n.ins.length c1,.string n.out,.slice a2 n.attrs.length c2,.slice (some ⟨bx,ox,none⟩) ins.length c3] 55);have HB1:=hid ((Below.refl w.heap.size w).alloc (Nat.le_refl _) (.cells #[.string n.op,.string n.name,.slice a1 n.ins.length c1,.string n.out,.slice a2 n.attrs.length c2,.slice (some ⟨bx,ox,none⟩) ins.length c3] 55));have HA1:=hid (Ac.new w #[.string n.op,.string n.name,.slice a1 n.ins.length c1,.string n.out,.slice a2 n.attrs.length c2,.slice (some ⟨bx,ox,none⟩) ins.length c3] 55);obtain⟨b6,d6⟩:∃b,(x.typ==6)=b:=⟨_,rfl⟩;cases b6
  all_goals
   go_enter Tryz.func19,Tryz.ntmps19
   go_wp2_with fail
   have HBi:=hid (fun(W:World)=>Nm.Ji n.op x.typ W);have HAl:=hid (fun(W:World) (hW:Below w.heap.size w W)=>Fs (w:=W) (v:=.agg #[.string n.op,.string n.name,.slice a1 n.ins.length c1,.string n.out,.slice a2 n.attrs.length c2,.slice (some ⟨bx,ox,none⟩) ins.length c3]) x.typ ⟨_,_,_,rfl,HM.out.below hW⟩);generalize World.alloc w _=W1 at g1 HB1 HA1⊢
   with_reducible refine(HBi.out _).mono ?_
   rintro e w2⟨r1,rfl,B2⟩;have B2:Below W1.heap.size W1 w2:=B2;have HB2:=hid (HB1.out.trans (B2.mono HB1.out.size));obtain⟨k0,k1,k2,k3,k4,k5⟩:=(HA1.out.below' B2).six;clear B2 HBi HA1 HB1 g1 g0;obtain⟨r2,hr2⟩:∃r2,(Fl.Eh n.op.toList x.typ 0 0).2=r2:=⟨_,rfl⟩;have HR2:=hid hr2;rw[hr2];clear hr2;by_cases hr:r2=0
   ·skip
    have HR:=hid hr;have hb:(r2==0)=true:=by simp[hr]
    clear hr;go_wp2_with fail
    refine(HAl.out _ HB2.out).mono ?_;rintro e w3⟨rfl,B3⟩;have HB3:=hid (HB2.out.trans (B3.mono HB2.out.size));clear B3 k0 k1 k2 k3 k4 k5;rw[show(!(ins.any fun y=>y.typ != x.typ))=Ci ins x.typ by unfold Ci;rfl];cases hal:Ci ins x.typ with
    | false=>
     have HL:=hid hal;clear hal;go_wp2_with fail
     refine(HNo.out _).mono ?_;rintro e w'⟨rfl,rfl⟩;exact⟨rfl,CB.no (WT HL.out),HB3.out⟩
    | true=>
     have HL:=hid hal;clear hal;go_wp2_with fail
     refine(HY.out _).mono ?_;rintro e w'⟨rfl,rfl⟩;go_wp2
     go_ret
     exact⟨CB.yes (UI (by rw[HR2.out];exact HR.out) HL.out),HB3.out⟩
   ·skip
    have HR:=hid hr;have hb:(r2==0)=false:=by simpa using hr
    clear hr;go_wp2_with fail
    refine(HNo.out _).mono ?_;rintro e w'⟨rfl,rfl⟩;exact⟨rfl,CB.no (UH (by rw[HR2.out];exact HR.out)),HB2.out⟩
theorem Tb{w:World}{v:Value}{n:Nd}{x:Vl}{ins:List Vl}(h:BF w v n ins)(hi:ins[0]?=some x)(hl:n.op.toList=[69,113,117,97,108]) :
  Calls Tryz.prog 19 #[v] w fun e w'=>CB (Fc (Fl.Eh n.op.toList x.typ 0 0).2 (Ci ins x.typ)) e∧Below w.heap.size w w':=
 Gj h hi (Or.inl hl)
theorem UL{w:World}{v:Value}{n:Nd}{x:Vl}{ins:List Vl}(h:BF w v n ins)(hi:ins[0]?=some x)(hl:n.op.toList=[76,101,115,115]) :
  Calls Tryz.prog 19 #[v] w fun e w'=>CB (Fc (Fl.Eh n.op.toList x.typ 0 0).2 (Ci ins x.typ)) e∧Below w.heap.size w w':=
 Gj h hi (Or.inr (Or.inl hl))
theorem OL{w:World}{v:Value}{n:Nd}{x:Vl}{ins:List Vl}(h:BF w v n ins)(hi:ins[0]?=some x)(hl:n.op.toList=[71,114,101,97,116,101,114]) :
  Calls Tryz.prog 19 #[v] w fun e w'=>CB (Fc (Fl.Eh n.op.toList x.typ 0 0).2 (Ci ins x.typ)) e∧Below w.heap.size w w':=
 Gj h hi (Or.inr (Or.inr hl))
end
section
theorem RQ{l:List ByteArray}{t:Int}{k:Nat}{s:ByteArray}(hs:l[k]?=some s)(h:(Fl.un s.toList t 0).2≠0):FO l t=false:=
 List.all_eq_false.2 ⟨s,List.mem_of_getElem? hs,by simpa using h⟩
theorem OM{l:List ByteArray}{t:Int}{k:Nat}{s:ByteArray}(hs:l[k]?=some s)(h:(Fl.un s.toList t 0).2=0)(g:FO (l.take k) t=true):FO (l.take (k+1)) t=true:=by
 rw[List.take_add_one,hs];unfold FO at*;rw[List.all_append,g]
 simpa using h
attribute [local irreducible] FO Fl.un AU
theorem Tc{w:World}{v:Value}{n:Nd}{ins:List Vl}(t:Int)(h:BF w v n ins)(hG:Eu w) :
  Calls Tryz.prog 21 #[v,.int .i64 t] w fun e w'=>((FO (AU n.attrs).1 t=true∧e=.returned (.tuple #[]))∨(FO (AU n.attrs).1 t=false∧e=Em 4))∧Below w.heap.size w w':=by
 obtain⟨vin,vat,vv,rfl,hm⟩:=h;obtain⟨a1,c1,rfl⟩:=hm.node.is.form;obtain⟨a2,c2,rfl⟩:=hm.node.ia.form;obtain⟨a3,c3,rfl⟩:=hm.ins.form;have HM:=hid hm;have HG:=hid hG;clear hm hG;have HY:=hid (fun(W:World)=>Ao W);have HNo:=hid (fun(W:World)=>Aw W);have HUn:=hid (fun(W:World) (op:ByteArray)=>Nm.Hd op t W);have HB1:=hid ((Below.refl w.heap.size w).alloc (Nat.le_refl _) (.cells #[.string n.op,.string n.name,.slice a1 n.ins.length c1,.string n.out,.slice a2 n.attrs.length c2,.slice a3 ins.length c3] 55));go_enter Tryz.func21,Tryz.ntmps21
 go_wp2_with fail
 generalize World.alloc w _=W1 at HB1⊢;have hT:=NW ⟨_,_,rfl,(HM.out.below HB1.out).node⟩ (HG.out.below HB1.out);unfold Nd.val at hT;refine hT.mono ?_;clear hT;rintro e w2⟨B2,v2,rfl,hs2⟩;have HB2:=hid (HB1.out.trans (B2.mono HB1.out.size));clear B2 HB1 HM HG;obtain⟨l,hl⟩:∃l,(AU n.attrs).1=l:=⟨_,rfl⟩;have HL:=hid hl;rw[hl]at hs2;clear hl;have hll:=hs2.len;obtain⟨a4,c4,rfl⟩:=hs2.form;have HS:=hid hs2;clear hs2;go_wp2_with fail
 go_loopw [18] (fun i wr=>∃k:Nat,k≤l.length∧i=.int .i64 (k:Int)∧Hid (FO (l.take k) t=true)∧Hid (Below w2.heap.size w2 wr)) (fun i _=>l.length-(intOf i).toNat)
 case atStart=>exact⟨0,Nat.zero_le _,rfl,hid (by rw[List.take_zero];unfold FO;rfl),hid (Below.refl _ _)⟩
 case round=>
  obtain⟨k,hk,rfl,hE,hW⟩:=hrel;have hBw:=hid (HB2.out.trans (hW.out.mono HB2.out.size));by_cases hkl:k<l.length
  ·have hki:(k:Int)<(l.length:Int):=by omega
   obtain⟨s,hs⟩:∃s,l[k]?=some s:=⟨_,List.getElem?_eq_getElem hkl⟩;obtain⟨b,off,cap,hv,hb,hr⟩:=HS.out.rows k s hs;obtain⟨rfl,-,rfl⟩:=Value.slice.inj hv;clear hv;have c0:=(hW.out.cell (p:=⟨b,off+k,none⟩) hb).trans (hr k s hs);have HSk:=hid hs;clear hs hr;go_wp2_with fail
   refine(HUn.out _ s).mono ?_;rintro e w5⟨y5,rfl,B5⟩;have B5:Below wr.heap.size wr w5:=B5;have hW5:=hid (hW.out.trans (B5.mono hW.out.size));have hBw5:=hid (hBw.out.trans (B5.mono hBw.out.size));clear B5;generalize (Fl.un s.toList t 0).1=r1;have HF1:=hid (fun h=>RQ (t:=t) HSk.out h);have HF2:=hid (fun h=>OM (t:=t) HSk.out h hE.out);generalize (Fl.un s.toList t 0).2=r2 at*;by_cases hr:r2=0
   ·have hrb:(r2==0)=true:=by simpa using hr
    have HE2:=hid (HF2.out hr);clear hr HF1 HF2;go_wp2_with fail
    refine(HY.out _).mono ?_;rintro e w'⟨rfl,rfl⟩;go_wp2
    go_roundw
    case rel=>exact⟨k+1,by omega,by go_num,HE2,hW5⟩
    case measure=>simp[intOf];omega
   ·have hrb:(r2==0)=false:=by simpa using hr
    have HE2:=hid (HF1.out hr);clear hr HF1 HF2;go_wp2_with fail
    refine(HNo.out _).mono ?_;rintro e w'⟨rfl,rfl⟩;exact⟨rfl,Or.inr ⟨by rw[HL.out];exact HE2.out,rfl⟩,hBw5.out⟩
  ·have hki:¬(k:Int)<(l.length:Int):=by omega
   obtain rfl:k=l.length:=by omega
   have hF:Hid (FO l t=true):=hid (by have:=hE.out;rwa [List.take_length]at this);go_wp2
   go_end0
   exact⟨Or.inl ⟨by rw[HL.out];exact hF.out,rfl⟩,hBw.out⟩
end
section
theorem Aa.capI{w:World}{a:Option Addr}{n c:Nat}{zs:List Int}(h:Aa w (.slice a n c) zs):n=zs.length∧zs.length≤c:=by
 generalize hv:Value.slice a n c=v at h;cases h with
 | empty a0 cap=>obtain⟨-,rfl,-⟩:=Value.slice.inj hv;exact⟨rfl,Nat.zero_le _⟩
 | row b off cap _ h0 hc hb hr hlen hw=>obtain⟨-,rfl,rfl⟩:=Value.slice.inj hv;exact⟨rfl,hc⟩
theorem Aa.take{w:World}{a:Option Addr}{n c k:Nat}{zs:List Int}(h:Aa w (.slice a n c) zs)(hk:k≤zs.length):Aa w (.slice a k c) (zs.take k):=by
 generalize hv:Value.slice a n c=v at h;cases h with
 | empty a0 cap=>
  obtain rfl:k=0:=by simpa using hk
  exact .empty _ _
 | row b off cap _ h0 hc hb hr hlen hw=>
  obtain⟨rfl,rfl,rfl⟩:=Value.slice.inj hv;by_cases h00:k=0
  ·subst h00;exact .empty _ _
  ·have hl:(zs.take k).length=k:=by rw[List.length_take];omega
   have:=Aa.row (w:=w) b off c (zs.take k) (by intro e;rw[e]at hl;simp at hl;omega) (by omega) hb (fun j hj=>by
    rw[hl]at hj;rw[hr j (by omega)];simp[List.getD,List.getElem?_take,hj]) (by omega) (fun z hz=>hw z (List.mem_of_mem_take hz))
   rwa [hl]at this
def Au(a b:List Int):Int×List Int:=
 if a.length<2∨b.length<2 then(4,[])
 else if a.getD (a.length-1) 0≠b.getD (b.length-2) 0 then(4,[])
 else if(Vb.Bx (a.take (a.length-2)) (b.take (b.length-2))).1≠0 then((Vb.Bx (a.take (a.length-2)) (b.take (b.length-2))).1,[])
 else(0,(Vb.Bx (a.take (a.length-2)) (b.take (b.length-2))).2++[a.getD (a.length-2) 0,b.getD (b.length-1) 0])
theorem Fd{a b:List Int}(h:a.length<2∨b.length<2):Au a b=(4,[]):=if_pos h
theorem Gk{a b:List Int}{m k:Nat}(ha:a.length=m+2)(hb:b.length=k+2)(h:a.getD (m+1) 0≠b.getD k 0):Au a b=(4,[]):=by
 unfold Au;rw[if_neg (by omega),if_pos (by rw[ha,hb];exact h)]
theorem Jj{a b:List Int}{m k:Nat}(ha:a.length=m+2)(hb:b.length=k+2)(h:a.getD (m+1) 0=b.getD k 0)(g:(Vb.Bx (a.take m) (b.take k)).1≠0):Au a b=((Vb.Bx (a.take m) (b.take k)).1,[]):=by
 unfold Au;rw[if_neg (by omega),if_neg (by rw[ha,hb];exact fun c=>c h),ha,hb];exact if_pos g
theorem In{a b:List Int}{m k:Nat}(ha:a.length=m+2)(hb:b.length=k+2)(h:a.getD (m+1) 0=b.getD k 0)(g:(Vb.Bx (a.take m) (b.take k)).1=0):Au a b=(0,(Vb.Bx (a.take m) (b.take k)).2++[a.getD m 0,b.getD (k+1) 0]):=by
 unfold Au;rw[if_neg (by omega),if_neg (by rw[ha,hb];exact fun c=>c h),ha,hb];exact if_neg (fun c=>c g)
theorem ED{a b:List Int}(h:(Vb.Bx a b).1=0):(Vb.Bx a b).2.length≤max a.length b.length:=by
 unfold Vb.Bx at h⊢;split
 ·simp
 ·split
  ·simp
  ·split
   ·split
    ·simp
    ·simp[Vb.Gf]
   ·simp
theorem Ag.push2{w w':World}{B:Nat}{v v':Value}{zs:List Int}{x y:Int}(h:Ag w B v zs)(hr:w'.ownsRow B 3 1 v' (zs.length+2) (zs.map (Value.int .i64)++[.int .i64 x,.int .i64 y])):Ag w' B v' (zs++[x,y]):=by
 unfold Ag;rw[List.length_append,List.map_append];exact hr
attribute [local irreducible] Vb.Bx Ag Au
theorem Jk{w:World}{va vb:Value}{xa xb:List Int}(ha:Aa w va xa)(hb:Aa w vb xb) :
  Calls Tryz.prog 49 #[va,vb] w fun e w'=>Gg w (Au xa xb) e w':=by
 obtain⟨i0,hi,hz0,hz1,hz2⟩:=info_parts AI;obtain⟨a1,c1,rfl⟩:=ha.shape;obtain⟨a2,c2,rfl⟩:=hb.shape;have hla:=ha.wf.1;have hlb:=hb.wf.1;have hca:=ha.capI.2;have hcb:=hb.capI.2;have HA:=hid ha;have HB:=hid hb;clear ha hb;have HY:=hid (fun(W:World)=>Ao W);have HNo:=hid (fun(W:World)=>Aw W);by_cases h1:2≤xa.length
 case neg=>
  have h1':¬(2:Int)≤(xa.length:Int):=by omega
  have e:=hid (Fd (a:=xa) (b:=xb) (Or.inl (by omega)));go_enter Tryz.func49,Tryz.ntmps49
  go_wp2_with fail
  refine(HNo.out _).mono ?_;rintro e w'⟨rfl,rfl⟩;exact⟨rfl,Gg.no (by rw[e.out]) (by decide) (Below.refl _ _)⟩
 have h1':(2:Int)≤(xa.length:Int):=by omega
 by_cases h2:2≤xb.length
 case neg=>
  have h2':¬(2:Int)≤(xb.length:Int):=by omega
  have e:=hid (Fd (a:=xa) (b:=xb) (Or.inr (by omega)));go_enter Tryz.func49,Tryz.ntmps49
  go_wp2_with fail
  refine(HNo.out _).mono ?_;rintro e w'⟨rfl,rfl⟩;exact⟨rfl,Gg.no (by rw[e.out]) (by decide) (Below.refl _ _)⟩
 have h2':(2:Int)≤(xb.length:Int):=by omega
 obtain⟨m,hm⟩:∃m,xa.length=m+2:=⟨xa.length-2,by omega⟩;obtain⟨k,hk⟩:∃k,xb.length=k+2:=⟨xb.length-2,by omega⟩;obtain⟨b1,o1,rfl,-,hb1,x0,ix0⟩:=Ai (k:=m+1) HA.out (by omega);obtain⟨b2,o2,rfl,-,hb2,y0,iy0⟩:=Ai (k:=k) HB.out (by omega);obtain⟨b1',o1',e1,-,-,x1,-⟩:=Ai (k:=m) HA.out (by omega);obtain⟨e1,e1'⟩:b1=b1'∧o1=o1':=by simpa using e1
 subst e1 e1';obtain⟨b2',o2',e2,-,-,y1,-⟩:=Ai (k:=k+1) HB.out (by omega);obtain⟨e2,e2'⟩:b2=b2'∧o2=o2':=by simpa using e2
 subst e2 e2';have HTA:=hid (HA.out.take (k:=m) (by omega));have HTB:=hid (HB.out.take (k:=k) (by omega));have HLA:Hid ((xa.take m).length≤m):=hid (by rw[List.length_take];omega);have HLB:Hid ((xb.take k).length≤k):=hid (by rw[List.length_take];omega);have E1:=hid (Gk hm hk);have E2:=hid (Jj hm hk);have E3:=hid (In hm hk);rw[hm]at hla hca;rw[hk]at hlb hcb;have h1':(2:Int)≤(m:Int)+2:=by omega
 have h2':(2:Int)≤(k:Int)+2:=by omega
 rw[hm,hk];clear hm hk h1 h2 HA HB;have wm:IntKind.i64.wrap ((m:Int)+1)=(m:Int)+1:=by rw[IntKind.wrap_i64];omega
 have wk:IntKind.i64.wrap ((k:Int)+1)=(k:Int)+1:=by rw[IntKind.wrap_i64];omega
 have bm1:(0:Int)≤(m:Int)+1∧(m:Int)+1<(m:Int)+2:=⟨by omega,by omega⟩;have bk1:(0:Int)≤(k:Int)+1∧(k:Int)+1<(k:Int)+2:=⟨by omega,by omega⟩;have bm0:(0:Int)≤(m:Int)∧(m:Int)<(m:Int)+2:=⟨by omega,by omega⟩;have bk0:(0:Int)≤(k:Int)∧(k:Int)<(k:Int)+2:=⟨by omega,by omega⟩;have tm:((m:Int)+1).toNat=m+1:=by omega
 have tk:((k:Int)+1).toNat=k+1:=by omega
 have lm:m≤c1:=by omega
 have lk:k≤c2:=by omega
 generalize xa.getD (m+1) 0=p0 at*;generalize xb.getD k 0=q0 at*;generalize xa.getD m 0=p1 at*;generalize xb.getD (k+1) 0=q1 at*;go_enter Tryz.func49,Tryz.ntmps49
 go_wp2_with fail
 refine(HY.out _).mono ?_;rintro e w'⟨rfl,rfl⟩;by_cases hpq:p0=q0
 case neg=>
  have e:=hid (E1.out hpq);have hb:(p0==q0)=false:=by simpa using hpq
  clear hpq;go_wp2_with fail
  refine Ae 10 [0,1,2,3,4,5,6,7,8,9] (fun W'=>Below w'.heap.size w' W') (by kernel_rfl) (by kernel_rfl) (fun _ d _ _ _ h=>by cases d<;>exact h) (Below.refl _ _).drew ?_
  repeat
   refine Ah (v:=?_) rfl rfl (Or.inl ⟨by rfl,?_⟩) ?_;rotate_left
   ·intro W' hSw;have x0:=(hSw.cell (p:=⟨b1,o1+(m+1),none⟩) hb1).trans x0;have y0:=(hSw.cell (p:=⟨b2,o2+k,none⟩) hb2).trans y0;go_simp
    try with_reducible rfl
   try simp only[Act.put,List.getElem_toArray,List.getElem_cons_zero,List.getElem_cons_succ,List.setIfInBounds_toArray,List.set_cons_zero,List.set_cons_succ]
  refine Aq rfl ?_;simp only[List.toList_toArray,List.drop_succ_cons,List.drop_zero];go_wp2_with fail
  refine(HNo.out _).mono ?_;rintro e w'⟨rfl,rfl⟩;exact⟨rfl,Gg.no (by rw[e.out]) (by decide) (Below.refl _ _).drew⟩
 have hb:(p0==q0)=true:=by simpa using hpq
 have E2:=hid (E2.out hpq);have E3:=hid (E3.out hpq);clear hpq E1;go_wp2_with fail
 refine Ae 10 [0,1,2,3,4,5,6,7,8,9] (fun W'=>Below w'.heap.size w' W') (by kernel_rfl) (by kernel_rfl) (fun _ d _ _ _ h=>by cases d<;>exact h) (Below.refl _ _).drew ?_
 repeat
  refine Ah (v:=?_) rfl rfl (Or.inl ⟨by rfl,?_⟩) ?_;rotate_left
  ·intro W' hSw;have x0:=(hSw.cell (p:=⟨b1,o1+(m+1),none⟩) hb1).trans x0;have y0:=(hSw.cell (p:=⟨b2,o2+k,none⟩) hb2).trans y0;go_simp
   try with_reducible rfl
  try simp only[Act.put,List.getElem_toArray,List.getElem_cons_zero,List.getElem_cons_succ,List.setIfInBounds_toArray,List.set_cons_zero,List.set_cons_succ]
 refine Aq rfl ?_;simp only[List.toList_toArray,List.drop_succ_cons,List.drop_zero];go_wp2_with fail
 refine(HY.out _).mono ?_;rintro e w2⟨rfl,rfl⟩;go_wp2_with fail
 have HB0:Hid (Below w'.heap.size w' w'.drew):=hid (Below.refl _ _).drew;have HTA:=hid (HTA.out.below HB0.out);have HTB:=hid (HTB.out.below HB0.out);have x1:=(HB0.out.cell (p:=⟨b1,o1+m,none⟩) hb1).trans x1;have y1:=(HB0.out.cell (p:=⟨b2,o2+(k+1),none⟩) hb2).trans y1;have hb1:b1<w'.drew.heap.size:=hb1;have hb2:b2<w'.drew.heap.size:=hb2;clear x0 y0 ix0 iy0 hb;generalize w'.drew=W0 at*;refine Gh 17 (Pl.reads [0,1,2,3,4,5,7,8,9,10,11,12,13,14,15] (.two 6 (.act 16 .tail) 16 (.act 6 .tail))) (fun W'=>Below W0.heap.size W0 W') (by kernel_rfl) (by kernel_rfl) (fun _ d _ _ _ h=>by cases d<;>exact h) (Below.refl _ _).drew ?_;simp only[Pl.reads];have B0:Hid (Below W0.heap.size W0 W0.drew):=hid (Below.refl _ _).drew;generalize W0.drew=wD at B0⊢
 repeat
  refine GD (v:=?_) rfl (Or.inl ⟨by rfl,?_⟩) ?_;rotate_left
  ·intro W' hSw;have x1:=(hSw.cell (p:=⟨b1,o1+m,none⟩) hb1).trans x1;have y1:=(hSw.cell (p:=⟨b2,o2+(k+1),none⟩) hb2).trans y1;go_simp
   try with_reducible rfl
  try simp only[Act.put,List.getElem_toArray,List.getElem_cons_zero,List.getElem_cons_succ,List.setIfInBounds_toArray,List.set_cons_zero,List.set_cons_succ]
 refine Ou rfl rfl (fun K' hK=>?_) (fun K' hK=>?_)
 ·go_simp
  refine(C0 (HTA.out.below B0.out) (HTB.out.below B0.out)).mono ?_;rintro e w5⟨B5,hc⟩;have HB5:=hid (B0.out.trans (B5.mono B0.out.size));rcases hc with⟨hz,rfl⟩| ⟨hz,v5,rfl,hr5⟩
  ·have E:=hid (E2.out hz);exact⟨rfl,Gg.no (by rw[E.out]) hz (HB0.out.trans (HB5.out.mono HB0.out.size))⟩
  have E:=hid (E3.out hz);have HLn:=hid (ED hz);have HR5:=hid hr5;have hbase:W0.heap.size≤wD.heap.size:=B0.out.size;clear hz E2 E3 hr5 B5;generalize (Vb.Bx (xa.take m) (xb.take k)).2=zs at*;have hzl:(zs.length+2)*8≤140737488351232:=by have:=HLn.out;have:=HLA.out;have:=HLB.out;omega
  obtain⟨a5,c5,rfl⟩:=HR5.out.form;refine hK.out _ _ HB5.out ?_;clear hK K';refine Fr rfl (fun K' hK=>?_);go_simp
  have HB6:Hid (Below W0.heap.size W0 (w5.alloc (.cells #[.int .i64 p1,.int .i64 q1] 3))):=hid (HB5.out.alloc HB5.out.size _);have HNW:Hid ((w5.alloc (.cells #[.int .i64 p1,.int .i64 q1] 3)).heap[w5.heap.size]?=some (.cells #[.int .i64 p1,.int .i64 q1] 3)):=hid (heap_alloc_new w5 _);have HRX:Hid (Ag (w5.alloc (.cells #[.int .i64 p1,.int .i64 q1] 3)) W0.heap.size (.slice a5 zs.length c5) zs):=hid ((HR5.out.base hbase).below ((Below.refl _ w5).alloc (Nat.le_refl _) _));refine hK.out _ _ HB6.out ?_;clear hK K' HR5;generalize w5.alloc _=w6 at HB6 HNW HRX⊢;refine GE rfl ?_;simp only[List.toList_toArray,List.drop_succ_cons,List.drop_zero];go_wp2_with (at_builtin;refine wpList_append_own _ rfl _ _ 29 rfl W0.heap.size 3 i0 (.int .i64 0) 1 8 Tryz.underlying29 hi hz0 hz1 hz2 rfl (by decide) _ _ _ rfl HRX.out.own ⟨w5.heap.size,0,none⟩ 2 2 (#[.int .i64 p1,.int .i64 q1]:Array Value).toList rfl rfl (World.news_of_block HNW.out) (by simp[Value.oneCell']) ?A3 ?A4 ?A5 ?_)
  case A3=>unfold maxLen;omega
  case A4=>omega
  case A5=>first|omega|(simp;omega)|(have:=HB6.out.size;omega)|(have:=HB5.out.size;omega)
  intro v' w8 hown' hgrow _;have hb8:Hid (Below W0.heap.size W0 w8):=hid (HB6.out.grown hgrow HB6.out.size fun g hg=>(HRX.out.own.lt g hg).1);have ho8:Hid (Ag w8 W0.heap.size v' (zs++[p1,q1])):=hid (Ag.push2 (zs:=zs) HRX.out hown');clear hown' hgrow;go_wp2
  go_ret
  exact Gg.yes (by rw[E.out]) (HB0.out.trans (hb8.out.mono HB0.out.size)) (by rw[E.out];exact ho8.out.base HB0.out.size)
 ·go_simp
  have HB6:Hid (Below W0.heap.size W0 (wD.alloc (.cells #[.int .i64 p1,.int .i64 q1] 3))):=hid (B0.out.alloc B0.out.size _);have HNW0:Hid ((wD.alloc (.cells #[.int .i64 p1,.int .i64 q1] 3)).heap[wD.heap.size]?=some (.cells #[.int .i64 p1,.int .i64 q1] 3)):=hid (heap_alloc_new wD _);have HSz:Hid (wD.heap.size<(wD.alloc (.cells #[.int .i64 p1,.int .i64 q1] 3)).heap.size):=hid (by rw[World.size_alloc];omega);refine hK.out _ _ HB6.out ?_;clear hK K';generalize wD.alloc _=w6 at HB6 HNW0 HSz⊢;refine Fr rfl (fun K' hK=>?_);go_simp
  refine(C0 (HTA.out.below HB6.out) (HTB.out.below HB6.out)).mono ?_;rintro e w5⟨B5,hc⟩;have HB5:=hid (HB6.out.trans (B5.mono HB6.out.size));rcases hc with⟨hz,rfl⟩| ⟨hz,v5,rfl,hr5⟩
  ·have E:=hid (E2.out hz);exact⟨rfl,Gg.no (by rw[E.out]) hz (HB0.out.trans (HB5.out.mono HB0.out.size))⟩
  have E:=hid (E3.out hz);have HLn:=hid (ED hz);have HNW:Hid (w5.heap[wD.heap.size]?=some (.cells #[.int .i64 p1,.int .i64 q1] 3)):=hid ((B5.block _ HSz.out).trans HNW0.out);have HRX:Hid (Ag w5 W0.heap.size v5 (Vb.Bx (xa.take m) (xb.take k)).2):=hid (hr5.base HB6.out.size);clear hz E2 E3 hr5 B5;generalize (Vb.Bx (xa.take m) (xb.take k)).2=zs at*;have hzl:(zs.length+2)*8≤140737488351232:=by have:=HLn.out;have:=HLA.out;have:=HLB.out;omega
  obtain⟨a5,c5,rfl⟩:=HRX.out.form;refine hK.out _ _ HB5.out ?_;clear hK K';refine GE rfl ?_;simp only[List.toList_toArray,List.drop_succ_cons,List.drop_zero];go_wp2_with (at_builtin;refine wpList_append_own _ rfl _ _ 29 rfl W0.heap.size 3 i0 (.int .i64 0) 1 8 Tryz.underlying29 hi hz0 hz1 hz2 rfl (by decide) _ _ _ rfl HRX.out.own ⟨wD.heap.size,0,none⟩ 2 2 (#[.int .i64 p1,.int .i64 q1]:Array Value).toList rfl rfl (World.news_of_block HNW.out) (by simp[Value.oneCell']) ?A3 ?A4 ?A5 ?_)
  case A3=>unfold maxLen;omega
  case A4=>omega
  case A5=>first|omega|(simp;omega)|(have:=HB6.out.size;omega)|(have:=HB5.out.size;omega)
  intro v' w8 hown' hgrow _;have hb8:Hid (Below W0.heap.size W0 w8):=hid (HB5.out.grown hgrow HB5.out.size fun g hg=>(HRX.out.own.lt g hg).1);have ho8:Hid (Ag w8 W0.heap.size v' (zs++[p1,q1])):=hid (Ag.push2 (zs:=zs) HRX.out hown');clear hown' hgrow;go_wp2
  go_ret
  exact Gg.yes (by rw[E.out]) (HB0.out.trans (hb8.out.mono HB0.out.size)) (by rw[E.out];exact ho8.out.base HB0.out.size)
end
end Go.Proofs.YtkkeehnldcdccaaGreatDoor
