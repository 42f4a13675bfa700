import Derived.BigQuiet
import Derived.Deep.QuietTactic
import Derived.Test.YtkkeehnldcdccaaGreatDoorNe37
set_option linter.unusedVariables false
set_option linter.unusedSimpArgs false
set_option maxRecDepth 100000
set_option maxHeartbeats 16000000
namespace Go.Proofs.YtkkeehnldcdccaaGreatDoor
open Go.Lib (hid)
open Go.RowKit
section
theorem V6{w:World}{v:Value}{zs:List Int}(h:Aa w v zs){k:Nat}(hk:k<zs.length):∃b off cap,v=.slice (some ⟨b,off,none⟩) zs.length cap∧b<w.heap.size∧w.cell? ⟨b,off+k,none⟩=some (.int .i64 (zs.getD k 0)):=by
 cases h with
 | empty a0 cap=>simp at hk
 | row b off cap _ h0 hc hb hr hlen hw=>exact⟨b,off,cap,rfl,hb,hr k hk⟩
theorem V7{w:World}{v:Value}{zs:List Int}(h:Aa w v zs):zs.length*8≤140737488351232:=by
 cases h with
 | empty a0 cap=>decide
 | row b off cap _ h0 hc hb hr hlen hw=>exact hlen
theorem Ho(t:Int)(w:World):Calls Tryz.prog 24 #[.int .i64 t] w fun e w'=>e=.returned (.bool (Cz t 0))∧w=w':=by
 go_enter Tryz.func24,Tryz.ntmps24
 go_wp2_with (go_at_call 60;refine(Fl.Gt t 0 w).mono ?_;rintro e w'⟨rfl,rfl⟩)
 go_ret
 exact⟨rfl,rfl⟩
attribute [local irreducible] JT AK Cz
theorem XA(t:Int)(dims data:List Int){w:World}{vd vx:Value}(hd:Aa w vd dims)(hx:Aa w vx data) :
  Calls Tryz.prog 58 #[.agg #[.int .i64 t,vd,vx]] w fun e w'=>e=.returned (.int .i64 (JT t dims data))∧Below w.heap.size w w':=by
 obtain⟨ad,cd,rfl⟩:=hd.shape;obtain⟨ax,cx,rfl⟩:=hx.shape;have hxl:=V7 hx;have HD:=hid hd;have HX:=hid hx;clear hd hx;go_enter Tryz.func58,Tryz.ntmps58
 go_wp2_with fail
 generalize hw1:w.alloc (Obj.cells #[Value.int IntKind.i64 t,Value.slice ad dims.length cd,Value.slice ax data.length cx] 41)=W1;have hB1:Hid (Below w.heap.size w W1):=hid (by rw[←hw1];exact(Below.refl _ w).alloc (Nat.le_refl _) _);have hX1:Hid (Ac W1 w.heap.size #[Value.int IntKind.i64 t,Value.slice ad dims.length cd,Value.slice ax data.length cx] 41):=hid (by rw[←hw1];exact Ac.new w _ _);clear hw1;have k0:W1.cell? ⟨w.heap.size,0,none⟩=some (.int .i64 t):=hX1.out.cell 0 rfl;have k1:W1.cell? ⟨w.heap.size,1,none⟩=some (.slice ad dims.length cd):=hX1.out.cell 1 rfl;have k2:W1.cell? ⟨w.heap.size,2,none⟩=some (.slice ax data.length cx):=hX1.out.cell 2 rfl;have HT:=hid (fun W=>Ho t W);have HC:=hid (Cj (HD.out.below hB1.out));refine(HT.out _).mono ?_;rintro e w2⟨rfl,rfl⟩;cases ht:Cz t 0 with
 | false=>
  have e:=hid (Kf (dims:=dims) (data:=data) ht);clear ht;go_wp2_with fail
  go_ret
  exact⟨Ab (An e.out.symm),hB1.out⟩
 | true=>
  have HTT:=hid ht;clear ht;go_wp2_with fail
  refine HC.out.mono ?_;rintro e w2⟨rfl,rfl⟩;generalize hc:AK dims=c at HC⊢;obtain⟨c,ce⟩:=c;have E1:=hid (show(AK dims).1=c by rw[hc]);have E2:=hid (show(AK dims).2=ce by rw[hc]);clear hc HC;by_cases hg:ce=0
  ·subst hg;by_cases hl:(data.length:Int)=c
   ·have HLL:=hid (hl.trans E1.out.symm);subst hl;have HS:Hid (∀W',Below W1.heap.size W1 W'→W'.cell? ⟨w.heap.size,0,none⟩=some (.int .i64 t)∧W'.cell? ⟨w.heap.size,2,none⟩=some (.slice ax data.length cx)):=hid fun W' h=>⟨(hX1.out.below' h).cell 0 rfl,(hX1.out.below' h).cell 2 rfl⟩;go_wp2_with fail
    clear k0 k1 k2;go_loopw [5] (fun i wr=>∃k:Nat,k≤data.length∧i=.int .i64 (k:Int)∧Hid ((data.take k).any (fun x=>!Cz t x)=false)∧Hid (Below W1.heap.size W1 wr)) (fun i _=>data.length-(intOf i).toNat)
    case atStart=>exact⟨0,Nat.zero_le _,rfl,hid (by simp),hid (Below.refl _ _)⟩
    case round=>
     obtain⟨k,hk,rfl,hA,hW⟩:=hrel;by_cases hkl:k<data.length
     ·have hki:(k:Int)<(data.length:Int):=by omega
      obtain⟨b,off,cap,hv,hb,hcell⟩:=V6 HX.out hkl;obtain⟨rfl,hle,rfl⟩:=Value.slice.inj hv;clear hle hv;have HDC:Hid (∀W',Below W1.heap.size W1 W'→W'.cell? ⟨b,off+k,none⟩=some (.int .i64 (data.getD k 0))):=hid fun W' h=>((hB1.out.trans (h.mono hB1.out.size)).cell (p:=⟨b,off+k,none⟩) hb).trans hcell;have HZ:Hid (data[k]?=some (data.getD k 0)):=hid (by simp[List.getD,List.getElem?_eq_getElem hkl]);clear hcell;generalize data.getD k 0=z at HDC HZ;have HK:=hid (fun W=>Fl.Gt t z W);go_wp2_with fail
      refine Ae 8 [0,1,2,3,4,5,6,7] (fun W'=>Below W1.heap.size W1 W') (by kernel_rfl) (by kernel_rfl) (fun _ d _ _ _ h=>by cases d<;>exact h) hW.out.drew ?_;have B0:Hid (Below W1.heap.size W1 wr.drew):=hid hW.out.drew;generalize wr.drew=wD at B0⊢
      repeat
       refine Ah (v:=?_) rfl rfl (Or.inl ⟨by rfl,?_⟩) ?_;rotate_left
       ·intro w' hSw;obtain⟨s0,s2⟩:=HS.out w' hSw;have s3:=HDC.out w' hSw;go_simp
        try with_reducible rfl
       try simp only[Act.put,List.getElem_toArray,List.getElem_cons_zero,List.getElem_cons_succ,List.setIfInBounds_toArray,List.set_cons_zero,List.set_cons_succ]
      refine Av rfl rfl (fun K' hK=>?_);go_simp
      refine(HK.out _).mono ?_;rintro e w5⟨rfl,rfl⟩;refine hK.out _ _ B0.out ?_;clear hK K';refine Aq rfl ?_;simp only[List.toList_toArray,List.drop_succ_cons,List.drop_zero];cases hz:Cz t z with
      | false=>
       have e:=hid (RG HTT.out E2.out HLL.out (List.any_eq_true.2 ⟨z,List.mem_of_getElem? HZ.out,by simp[hz]⟩));clear hz;go_wp2
       go_ret
       exact⟨Ab (congrArg (Value.int .i64) e.out).symm,hB1.out.trans (B0.out.mono hB1.out.size)⟩
      | true=>
       have hA':Hid ((data.take (k+1)).any (fun x=>!Cz t x)=false):=hid (CY HZ.out hA.out (by simp[hz]));clear hz;go_wp2
       go_roundw
       case rel=>exact⟨k+1,by omega,by go_num,hA',B0⟩
       case measure=>simp[intOf];omega
     ·have hki:¬(k:Int)<(data.length:Int):=by omega
      obtain rfl:k=data.length:=by omega
      have e:=hid (N5 HTT.out E2.out HLL.out (by have:=hA.out;rwa [List.take_length]at this));go_wp2
      go_ret
      exact⟨Ab (congrArg (Value.int .i64) e.out).symm,hB1.out.trans (hW.out.mono hB1.out.size)⟩
   ·have e:=hid (RF (data:=data) HTT.out E2.out (by rw[E1.out];exact hl));go_wp2_with fail
    go_ret
    exact⟨Ab (congrArg (Value.int .i64) e.out).symm,hB1.out⟩
  ·have e:=hid ((N4 (data:=data) HTT.out (by rw[E2.out];exact hg)).trans E2.out);go_wp2_with fail
   go_ret
   exact⟨Ab (congrArg (Value.int .i64) e.out).symm,hB1.out⟩
theorem Hp{w:World}{v:Value}{n:Nd}(h:Ba w v n) :
  Calls Tryz.prog 59 #[v] w fun e w'=>Below w.heap.size w w'∧∃vd vx,e=.returned (.agg #[.int .i64 ((Az n.attrs ⟨#[118,97,108,117,101]⟩ 4).getD At.zero).typ,vd,vx])∧Aa w' vd ((Az n.attrs ⟨#[118,97,108,117,101]⟩ 4).getD At.zero).dims∧Aa w' vx ((Az n.attrs ⟨#[118,97,108,117,101]⟩ 4).getD At.zero).data:=by
 obtain⟨vin,vat,rfl,hn⟩:=h;obtain⟨a1,c1,rfl⟩:=hn.is.form;obtain⟨a2,c2,rfl⟩:=hn.ia.form;have HN:=hid hn;clear hn;unfold Nd.val;go_enter Tryz.func59,Tryz.ntmps59
 go_wp2_with fail
 generalize hw1:(w.alloc _).alloc _=W1;have hB1:Hid (Below w.heap.size w W1):=hid (by rw[←hw1];exact((Below.refl _ w).alloc (Nat.le_refl _) _).alloc (by simp) _);have hR:Hid (Ac W1 (w.heap.size+1) #[Value.int .i64 0,Value.slice none 0 0,Value.slice none 0 0] 41):=hid (by rw[←hw1];simpa using Ac.new (w.alloc (Obj.cells #[Value.string n.op,Value.string n.name,Value.slice a1 n.ins.length c1,Value.string n.out,Value.slice a2 n.attrs.length c2] 25)) #[Value.int .i64 0,Value.slice none 0 0,Value.slice none 0 0] 41);clear hw1;have HC:=hid (V5 ⟨_,_,rfl,HN.out⟩ hB1.out ⟨#[118,97,108,117,101]⟩ 4);unfold Nd.val at HC;generalize (Az n.attrs ⟨#[118,97,108,117,101]⟩ 4).isSome=ok at HC;obtain⟨a,ha⟩:∃a,(Az n.attrs ⟨#[118,97,108,117,101]⟩ 4).getD At.zero=a:=⟨_,rfl⟩;rw[ha]at HC;have HA:=hid ha;clear ha;refine HC.out.mono ?_;rintro e w5⟨B5,va,rfl,vd,vx,vi,rfl,hna⟩;obtain⟨ad,cd,rfl⟩:=hna.id.shape;obtain⟨ax,cx,rfl⟩:=hna.ix.shape;obtain⟨ai,ci,rfl⟩:=hna.ii.shape;have HR5:=hid (hR.out.below' B5);have HB5:=hid (hB1.out.trans (B5.mono hB1.out.size));have HNA:=hid hna;unfold At.val;clear hna B5 HC hB1 hR;have hQ:=fun o=>HR5.out.below' ((Below.refl _ w5).alloc (Nat.le_refl _) o);have r0:=fun o=>(hQ o).three.1;have r1:=fun o=>(hQ o).three.2.1;have r2:=fun o=>(hQ o).three.2.2;have t0:=fun o=>(hQ o).thaw3.1;have t1:=fun o=>(hQ o).thaw3.2.1;have t2:=fun o=>(hQ o).thaw3.2.2;clear hQ;go_wp2_with fail
 have HB6:=hid (HB5.out.alloc HB5.out.size (.cells #[.string a.name,.int .i64 a.kind,.int .i64 a.f,.int .i64 a.i,.string a.s,.int .i64 a.typ,.slice ad a.dims.length cd,.slice ax a.data.length cx,.slice ai a.ints.length ci] 43));have HP:=hid ((HR5.out.below' ((Below.refl _ w5).alloc (Nat.le_refl _) (.cells #[.string a.name,.int .i64 a.kind,.int .i64 a.f,.int .i64 a.i,.string a.s,.int .i64 a.typ,.slice ad a.dims.length cd,.slice ax a.data.length cx,.slice ai a.ints.length ci] 43))).put3 (.int .i64 a.typ) (.slice ad a.dims.length cd) (.slice ax a.data.length cx));have HB7:=hid (Bp (v0:=.int .i64 a.typ) (v1:=.slice ad a.dims.length cd) (v2:=.slice ax a.data.length cx) HB6.out (b:=w.heap.size+1) (by omega));obtain⟨c0,c1,c2⟩:=HP.out.three;have hq:=HB7.out;unfold Ef at c0 c1 c2 hq;refine bodyPost_ret (v:=.agg #[.int .i64 a.typ,.slice ad a.dims.length cd,.slice ax a.data.length cx]) (by simp[results,Tryz.f59,go_sem,c0,c1,c2]) rfl ?_;rw[HA.out];exact⟨hq,_,_,rfl,HNA.out.id.below hq,HNA.out.ix.below hq⟩
end
section
def cE:List UInt8:=[69,113,117,97,108]
def cL:List UInt8:=[76,101,115,115]
def cG:List UInt8:=[71,114,101,97,116,101,114]
def cC:List UInt8:=[67,111,110,115,116,97,110,116]
def MG:List (List UInt8×Nat×Nat×Nat):=[([87,104,101,114,101],4,3,3),([67,97,115,116],5,1,1),([82,101,100,117,99,101,83,117,109],6,1,1),([82,101,100,117,99,101,77,97,120],6,1,1),([65,114,103,77,97,120],7,1,1),([67,111,110,99,97,116],8,1,20),([71,97,116,104,101,114],9,2,2),([82,101,115,104,97,112,101],10,1,1),([69,120,112,97,110,100],11,1,1),([84,114,97,110,115,112,111,115,101],12,1,1),([83,108,105,99,101],13,1,1),([83,113,117,101,101,122,101],14,1,1),([85,110,115,113,117,101,101,122,101],15,1,1),([70,108,97,116,116,101,110],16,1,1),([80,97,100],17,1,1),([67,108,105,112],18,1,1),([83,111,102,116,109,97,120],19,1,1),([82,101,100,117,99,101,77,101,97,110],20,1,1),([77,97,116,77,117,108],21,2,2),([71,101,109,109],22,2,3),([67,111,110,118],23,2,3),([77,97,120,80,111,111,108],24,1,1),([65,118,101,114,97,103,101,80,111,111,108],24,1,1),([71,108,111,98,97,108,65,118,101,114,97,103,101,80,111,111,108],25,1,1),([66,97,116,99,104,78,111,114,109,97,108,105,122,97,116,105,111,110],26,5,5)]
theorem PD:∀r∈VC,4≤r.2.1→r∈MG:=by decide+kernel
theorem XB:∀r∈VC,(Cq ⟨r.1.toArray⟩=decide (r.2.1=1))∧(Cu EJ ⟨r.1.toArray⟩=decide (r.2.1=2∨r.2.1=3))∧(r.1=cC↔r.2.1=0)∧AC r.1=r.2.1∧((r.1=cE∨r.1=cL∨r.1=cG)↔r.2.1=2)∧(r.2.1=1→r.2.2.1=1)∧(r.2.1=2∨r.2.1=3→r.2.2.1=2):=by decide+kernel
theorem V8{n:Nd}(h:AA n=0) :
  (n.op.toList=cC∧AC n.op.toList=0)∨
  (¬n.op.toList=cC∧Cq n.op=true∧AC n.op.toList=1∧1≤n.ins.length)∨
  (¬n.op.toList=cC∧Cq n.op=false∧Cu EJ n.op=true∧AC n.op.toList=(if n.op.toList=cE∨n.op.toList=cL∨n.op.toList=cG then 2 else 3)∧2≤n.ins.length)∨
  (¬n.op.toList=cC∧Cq n.op=false∧Cu EJ n.op=false∧∃r∈MG,n.op.toList=r.1∧AC n.op.toList=r.2.1∧r.2.2.1≤n.ins.length∧n.ins.length≤r.2.2.2):=by
 obtain⟨r,hr,ho,h1,h2⟩:=K9 h;have e:n.op=⟨r.1.toArray⟩:=AP (by rw[ho,ByteArray.toList_eq]);obtain⟨p1,p2,p3,p4,p5,p6,p7⟩:=XB r hr;rw[ho,e,p1,p2,p4,p3];by_cases c0:r.2.1=0
 ·exact Or.inl ⟨c0,c0⟩
 refine Or.inr ?_;by_cases c1:r.2.1=1
 ·exact Or.inl ⟨c0,by simpa using c1,c1,by rw[←p6 c1];exact h1⟩
 refine Or.inr ?_;by_cases c2:r.2.1=2∨r.2.1=3
 ·refine Or.inl ⟨c0,by simpa using c1,by simpa using c2,?_,by rw[←p7 c2];exact h1⟩;by_cases c3:r.2.1=2
  ·rw[if_pos (p5.2 c3),c3]
  ·rw[if_neg (fun c=>c3 (p5.1 c))];omega
 ·exact Or.inr ⟨c0,by simpa using c1,by simpa using c2,r,PD r hr (by omega),rfl,rfl,h1,h2⟩
def Hq(n:Nd)(ins:List Vl):Int:=if AC n.op.toList=5 then 1 else if(Bt n ins).1=0 then(Bt n ins).2 else 0
theorem XC{op:List UInt8}(t:Int)(h:op=cE∨op=cL∨op=cG):(Fl.Eh op t 0 0).2=0∨(Fl.Eh op t 0 0).2=1:=by
 unfold Fl.Eh Fl.WS;split
 ·exact Or.inr rfl
 split
 ·rcases h with rfl|rfl|rfl<;>exact Or.inl rfl
 split
 ·cases Fl.Lx op 0 0 with
  | none=>exact Or.inr rfl
  | some z=>exact Or.inl rfl
 repeat' split
 all_goals first|exact Or.inl rfl|exact Or.inr rfl
theorem Z5{n:Nd}{ins:List Vl}(hk:AC n.op.toList=0):Hq n ins=(cA n).typ:=by unfold Hq Bt;rw[hk];rfl
theorem Z6{n:Nd}{ins:List Vl}{x:Vl}(hk:AC n.op.toList=1)(hx:ins[0]?=some x):Hq n ins=if(Fl.un n.op.toList x.typ 0).2=0 then x.typ else 0:=by
 unfold Hq Bt;rw[hk];simp only[gv hx];unfold CH;generalize (Fl.un n.op.toList x.typ 0).2=b;by_cases h:b=0<;>simp[h]
theorem Z7{n:Nd}{ins:List Vl}{x:Vl}(hk:AC n.op.toList=(if n.op.toList=cE∨n.op.toList=cL∨n.op.toList=cG then 2 else 3))(hx:ins[0]?=some x):Hq n ins=if(Fl.Eh n.op.toList x.typ 0 0).2=1∨Ci ins x.typ=false then 0 else if n.op.toList=cE∨n.op.toList=cL∨n.op.toList=cG then 9 else x.typ:=by
 unfold Hq Bt;rw[hk];by_cases c:n.op.toList=cE∨n.op.toList=cL∨n.op.toList=cG
 ·rw[if_pos c];simp only[gv hx];have hb:=XC x.typ c;generalize (Fl.Eh n.op.toList x.typ 0 0).2=b at*;unfold Fc;cases Ci ins x.typ<;>rcases hb with rfl|rfl<;>simp[c]
 ·rw[if_neg c];simp only[gv hx];generalize (Fl.Eh n.op.toList x.typ 0 0).2=b at*;unfold Dg;cases Ci ins x.typ<;>by_cases h:b=1<;>simp[h,c]
theorem Sw(t z:Int):(if(DF t z).1=0 then(DF t z).2 else 0)=if t=1∨t=6∨t=7 then z else 0:=by
 unfold DF;by_cases c:t=6∨t=7∨t=1
 ·rw[if_pos c,if_pos (show t=1∨t=6∨t=7 by omega)];rfl
 ·rw[if_neg c,if_neg (show ¬(t=1∨t=6∨t=7) by omega)];rfl
theorem XD(t a b:Int):(if(IT t a b).1=0 then(IT t a b).2 else 0)=if t=9∧a=b then a else 0:=by
 unfold IT;by_cases c:t=9∧a=b
 ·rw[if_pos c,if_pos c];rfl
 ·rw[if_neg c,if_neg c];rfl
theorem XE(y t:Int):(if(Hh y t).1=0 then(Hh y t).2 else 0)=if y=6∨y=7 then t else 0:=by
 unfold Hh;by_cases c:y=6∨y=7
 ·rw[if_pos c,if_pos c];rfl
 ·rw[if_neg c,if_neg c];rfl
theorem Sx(al:Bool)(t:Int):(if(Dh al t).1=0 then(Dh al t).2 else 0)=if al=true then t else 0:=by cases al<;>rfl
attribute [local irreducible] Ci Fl.Eh Fl.un AC Cq Hq
theorem NJ(t:Int)(w:World):Calls Tryz.prog 65 #[.int .i64 t] w fun e w'=>e=.returned (.bool (decide (t=1∨t=6∨t=7)))∧w=w':=by
 go_enter Tryz.func65,Tryz.ntmps65
 go_wp2
 all_goals (go_ret;go_light;refine⟨Ab (Ar ?_),rfl⟩;grind)
theorem Rf{w:World}{v vv:Value}{n:Nd}{ins:List Vl}(h:Ba w v n)(hs:BJ 3 AM w vv ins)(hc:AA n=0)(hl:ins.length=n.ins.length) :
  Calls Tryz.prog 26 #[v,vv] w fun e w'=>e=.returned (.int .i64 (Hq n ins))∧Below w.heap.size w w':=by
 have hcl:=V8 hc;have HCa:=hid (fun ho=>EI hc ho);obtain⟨a1,c1,a2,c2,rfl,HN⟩:=Cr h;obtain⟨a3,c3,rfl⟩:=hs.form;have HS:=hid hs;have HL:=hid hl;clear hs h hc hl;go_enter Tryz.func26,Tryz.ntmps26
 obtain⟨W1,hW1⟩:∃W1,w.alloc (Obj.cells #[.string n.op,.string n.name,.slice a1 n.ins.length c1,.string n.out,.slice a2 n.attrs.length c2] 25)=W1:=⟨_,rfl⟩;obtain⟨HB1,HF,HN⟩:=HN.out W1 hW1;obtain⟨f0,f1,f2,f3,f4⟩:=HF.out _ (Below.refl _ _);rcases hcl with⟨ho,hk⟩|hcl
 ·have E:=hid (Z5 (ins:=ins) hk);obtain⟨a,ha,-,hf⟩:=HCa.out ho;have HA:Hid (Hq n ins=((Az n.attrs ⟨#[118,97,108,117,101]⟩ 4).getD At.zero).typ):=hid (by rw[E.out];unfold cA;rw[ha,show(⟨#[118,97,108,117,101]⟩:ByteArray)=EF from rfl,hf]);clear ha hf hk;unfold cC at ho;go_wp2_with fail
  refine(Hp (HN.out _ (Below.refl _ _))).mono ?_;rintro e w2⟨B2,vd,vx,rfl,-,-⟩;have hfd:∀W:World,(Instr.field 41 (.agg #[.int .i64 ((Az n.attrs ⟨#[118,97,108,117,101]⟩ 4).getD At.zero).typ,vd,vx]) 0).run Tryz.prog W=.ok (.int .i64 ((Az n.attrs ⟨#[118,97,108,117,101]⟩ 4).getD At.zero).typ) W:=fun _=>by kernel_rfl
  go_wp2_with fail
  go_ret
  exact⟨Ab (An HA.out.symm),HB1.out.trans (B2.mono HB1.out.size)⟩
 obtain⟨x,hx⟩:∃x,ins[0]?=some x:=⟨_,List.getElem?_eq_getElem (by
  have hl:=HL.out;rcases hcl with⟨-,-,-,h⟩| ⟨-,-,-,-,h⟩| ⟨-,-,-,r,hr,-,-,h,-⟩
  ·omega
  ·omega
  ·have:∀r∈MG,1≤r.2.2.1:=by decide+kernel
   have:=this r hr;omega)⟩
 have hne:¬n.op.toList=cC:=by rcases hcl with⟨h,-⟩| ⟨h,-⟩| ⟨h,-⟩<;>exact h
 obtain⟨bi,oi,cc,vd,hv,gi,-,g1,-,-⟩:=Bm HS.out hx;obtain⟨e1,-,-⟩:=Value.slice.inj hv;have HX0:=hid hx;have hi0:(0:Int)<(ins.length:Int):=by have:=(List.getElem?_eq_some_iff.1 hx).1;omega
 have g1:w.cell? ⟨bi,oi+1,none⟩=some (.int .i64 x.typ):=by simpa using g1
 have G1:=hid g1;have g1:=(HB1.out.cell gi).trans g1;subst e1;clear hv hx;unfold cC at hne;have hne:(n.op.toList==[67,111,110,115,116,97,110,116])=false:=by simpa using hne
 have HOn:=hid (fun W=>AO n.op W);have HTw:=hid (fun W=>AW n.op W);rcases hcl with⟨-,h1,hk,-⟩| ⟨-,h1,h2,hk,-⟩| ⟨-,h1,h2,r,hr,hop,hk,ha,-⟩
 ·have E:=hid (Z6 hk HX0.out);rw[h1]at HOn;clear hk;go_wp2_with fail
  refine(HOn.out _).mono ?_;rintro e w2⟨rfl,B2⟩;obtain⟨f0,f1,f2,f3,f4⟩:=HF.out _ B2;go_wp2_with fail
  refine(Nm.Sv n.op x.typ _).mono ?_;rintro e w3⟨y,rfl,G⟩;have B3:=hid (HB1.out.trans ((B2.trans (Below.mono G B2.size)).mono HB1.out.size));clear f0 f1 f2 f3 f4 G B2;generalize (Fl.un n.op.toList x.typ 0).2=b at*;by_cases hb:b=0
  all_goals
   have E:=E.out;simp only[hb,if_pos,if_false,ne_eq,not_true_eq_false]at E;have E:=hid E;go_wp2_with fail
   go_ret
   exact⟨Ab (An E.out.symm),B3.out⟩
 ·have E:=hid (Z7 hk HX0.out);rw[h1]at HOn;rw[h2]at HTw;clear hk;go_wp2_with fail
  refine(HOn.out _).mono ?_;rintro e w2⟨rfl,B2⟩;obtain⟨f0,f1,f2,f3,f4⟩:=HF.out _ B2;go_wp2_with fail
  refine(HTw.out _).mono ?_;rintro e w3⟨rfl,B3⟩;have B3:=B2.trans (B3.mono B2.size);obtain⟨f0,f1,f2,f3,f4⟩:=HF.out _ B3;go_wp2_with fail
  refine(Nm.V4 n.op x.typ _).mono ?_;rintro e w4⟨y,rfl,G⟩;have B4:=B3.trans (Below.mono G B3.size);obtain⟨f0,f1,f2,f3,f4⟩:=HF.out _ B4;have HB4:=hid (HB1.out.trans (B4.mono HB1.out.size));have HB4':=hid B4;clear G B2 B3 B4;generalize (Fl.Eh n.op.toList x.typ 0 0).2=b at*;by_cases hb:b=1
  ·subst hb;have E:=hid (E.out.trans (if_pos (Or.inl rfl)));go_wp2_with fail
   go_ret
   exact⟨Ab (An E.out.symm),HB4.out⟩
  have HAl:=hid (fun(W:World) (vv:Value) (h:BJ 3 AM W vv ins)=>Pt x.typ h);obtain⟨al,hal⟩:∃al,Ci ins x.typ=al:=⟨_,rfl⟩;rw[hal]at HAl E;clear hal;go_wp2_with fail
  refine(HAl.out _ _ (HS.out.below (AZ HB4.out) HB4.out)).mono ?_;rintro e w5⟨rfl,B5⟩;have HB5:=hid (HB4.out.trans (B5.mono HB4.out.size));obtain⟨f0,f1,f2,f3,f4⟩:=HF.out _ (HB4'.out.trans (B5.mono HB4'.out.size));clear B5;have E1:=hid (fun(h:al=false)=>E.out.trans (if_pos (Or.inr h)));have E2:=hid (fun(h:al=true)=>E.out.trans (if_neg (by rw[h];simpa using hb)));unfold cE cL cG at E2;clear E;cases al with
  | false=>
   have E:=hid (E1.out rfl);go_wp2_with fail
   go_ret
   exact⟨Ab (An E.out.symm),HB5.out⟩
  | true=>
   have E2:=hid (E2.out rfl);by_cases o1:n.op.toList=[69,113,117,97,108]
   ·have E:=hid (E2.out.trans (if_pos (Or.inl o1)));go_wp2_with fail
    go_ret
    exact⟨Ab (An E.out.symm),HB5.out⟩
   by_cases o2:n.op.toList=[76,101,115,115]
   ·have E:=hid (E2.out.trans (if_pos (Or.inr (Or.inl o2))));have o1:(n.op.toList==[69,113,117,97,108])=false:=by simpa using o1
    go_wp2_with fail
    go_ret
    exact⟨Ab (An E.out.symm),HB5.out⟩
   by_cases o3:n.op.toList=[71,114,101,97,116,101,114]
   ·have E:=hid (E2.out.trans (if_pos (Or.inr (Or.inr o3))));have o1:(n.op.toList==[69,113,117,97,108])=false:=by simpa using o1
    have o2:(n.op.toList==[76,101,115,115])=false:=by simpa using o2
    go_wp2_with fail
    go_ret
    exact⟨Ab (An E.out.symm),HB5.out⟩
   have E:=hid (E2.out.trans (if_neg (by simp[o1,o2,o3])));have o1:(n.op.toList==[69,113,117,97,108])=false:=by simpa using o1
   have o2:(n.op.toList==[76,101,115,115])=false:=by simpa using o2
   have o3:(n.op.toList==[71,114,101,97,116,101,114])=false:=by simpa using o3
   go_wp2_with fail
   go_ret
   exact⟨Ab (An E.out.symm),HB5.out⟩
 rw[h1]at HOn;rw[h2]at HTw;have HOp:=hid hop;have HK:=hid hk;clear h1 h2 hop hk;go_wp2_with fail
 refine(HOn.out _).mono ?_;rintro e w2⟨rfl,B2⟩;obtain⟨f0,f1,f2,f3,f4⟩:=HF.out _ B2;go_wp2_with fail
 refine(HTw.out _).mono ?_;rintro e w3⟨rfl,B3⟩;have B3:=B2.trans (B3.mono B2.size);obtain⟨f0,f1,f2,f3,f4⟩:=HF.out _ B3;have HB3:=hid (HB1.out.trans (B3.mono HB1.out.size));clear B2 B3 HOn HTw hne;have HAl:=hid (fun(t:Int)=>Pt t (HS.out.below (AZ HB3.out) HB3.out));have HNu:=hid (fun(t:Int)=>NJ t w3);simp only[MG,List.mem_cons,List.not_mem_nil,or_false]at hr;rcases hr with rfl|rfl|rfl|rfl|rfl|rfl|rfl|rfl|rfl|rfl|rfl|rfl|rfl|rfl|rfl|rfl|rfl|rfl|rfl|rfl|rfl|rfl|rfl|rfl|rfl
 all_goals
  have hop:=HOp.out;have hk:=HK.out;dsimp only at hop hk ha
 ·have hl:=HL.out;obtain⟨y,hy⟩:=BH ins 1 (by omega);obtain⟨z,hz⟩:=BH ins 2 (by omega);have E:Hid (Hq n ins=if x.typ=9∧y.typ=z.typ then y.typ else 0):=hid (by
   unfold Hq Bt;rw[hk];simp only[gv HX0.out,gv hy,gv hz];exact XD _ _ _)
  obtain⟨b1,o1,_,_,hv1,gi1,-,y1,-⟩:=Bm HS.out hy;obtain⟨b2,o2,_,_,hv2,-,-,z1,-⟩:=Bm HS.out hz;obtain⟨e1,-,-⟩:=Value.slice.inj hv1;obtain⟨e2,-,-⟩:=Value.slice.inj hv2;obtain⟨rfl,rfl⟩:bi=b1∧oi=o1:=by simpa using e1
  obtain⟨rfl,rfl⟩:bi=b2∧oi=o2:=by simpa using e2
  have y1:w3.cell? ⟨bi,oi+4,none⟩=some (.int .i64 y.typ):=(HB3.out.cell gi).trans y1;have z1:w3.cell? ⟨bi,oi+7,none⟩=some (.int .i64 z.typ):=(HB3.out.cell gi).trans z1;have hi1:(1:Int)<(ins.length:Int):=by omega
  have hi2:(2:Int)<(ins.length:Int):=by omega
  clear hl hy hz hv1 hv2 e1 e2;generalize x.typ=t at*;generalize y.typ=u at*;generalize z.typ=v at*;by_cases c:t=9∧u=v
  ·have E:=hid (E.out.trans (if_pos c));obtain⟨rfl,rfl⟩:=c;have q2:(u != u)=false:=by simp
   go_wp2_with fail
   go_quiet (fail)
   have B4:=below_drewN (Below.refl w3.heap.size w3) nq;have y1:=(B4.cell (Al y1)).trans y1;have HB4:=hid (HB3.out.trans (B4.mono HB3.out.size));go_wp2_with fail
   go_ret
   exact⟨Ab (An E.out.symm),HB4.out⟩
  ·have E:=hid (E.out.trans (if_neg c));have c:(t != 9)=true∨((t != 9)=false∧(u != v)=true):=by
    by_cases q:t=9
    ·exact Or.inr ⟨by simpa using q,by simpa using fun e=>c ⟨q,e⟩⟩
    ·exact Or.inl (by simpa using q)
   rcases c with q1| ⟨q1,q2⟩
   all_goals
    go_wp2_with fail
    go_quiet (fail)
    have HB4:=hid (HB3.out.trans ((below_drewN (Below.refl w3.heap.size w3) nq).mono HB3.out.size));go_wp2_with fail
    go_ret
    exact⟨Ab (An E.out.symm),HB4.out⟩
 ·go_wp2_with fail
  go_ret
  exact⟨Ab (An (by unfold Hq;rw[hk];rfl)),HB3.out⟩
 iterate 2
  ·have E:Hid (Hq n ins=if x.typ=1∨x.typ=6∨x.typ=7 then x.typ else 0):=hid (by
    unfold Hq Bt;rw[hk];simp only[gv HX0.out];exact Sw _ _)
   have HNu:=hid (HNu.out x.typ);by_cases c:x.typ=1∨x.typ=6∨x.typ=7
   all_goals
    have E:=hid (E.out.trans (by first|exact if_pos c|exact if_neg c))
    first|rw[decide_eq_true c]at HNu|rw[decide_eq_false c]at HNu
    clear c;go_wp2_with fail
    refine HNu.out.mono ?_;rintro e w4⟨rfl,rfl⟩;go_wp2_with fail
    go_ret
    exact⟨Ab (An E.out.symm),HB3.out⟩
 iterate 1
  ·have E:Hid (Hq n ins=if x.typ=1∨x.typ=6∨x.typ=7 then 7 else 0):=hid (by
    unfold Hq Bt;rw[hk];simp only[gv HX0.out];exact Sw _ _)
   have HNu:=hid (HNu.out x.typ);by_cases c:x.typ=1∨x.typ=6∨x.typ=7
   all_goals
    have E:=hid (E.out.trans (by first|exact if_pos c|exact if_neg c))
    first|rw[decide_eq_true c]at HNu|rw[decide_eq_false c]at HNu
    clear c;go_wp2_with fail
    refine HNu.out.mono ?_;rintro e w4⟨rfl,rfl⟩;go_wp2_with fail
    go_ret
    exact⟨Ab (An E.out.symm),HB3.out⟩
 ·have E:Hid (Hq n ins=if Ci ins x.typ=true then x.typ else 0):=hid (by
   unfold Hq Bt;rw[hk];simp only[gv HX0.out];exact Sx _ _)
  have HAl:=hid (HAl.out x.typ);cases hal:Ci ins x.typ
  all_goals
   rw[hal]at HAl E;clear hal;go_wp2_with fail
   refine HAl.out.mono ?_;rintro e w4⟨rfl,B4⟩;have HB4:=hid (HB3.out.trans (B4.mono HB3.out.size));go_wp2_with fail
   go_ret
   exact⟨Ab (An E.out.symm),HB4.out⟩
 ·have hl:=HL.out;obtain⟨y,hy⟩:=BH ins 1 (by omega);have E:Hid (Hq n ins=if y.typ=6∨y.typ=7 then x.typ else 0):=hid (by
   unfold Hq Bt;rw[hk];simp only[gv HX0.out,gv hy];exact XE _ _)
  obtain⟨b1,o1,_,_,hv1,gi1,-,y1,-⟩:=Bm HS.out hy;obtain⟨e1,-,-⟩:=Value.slice.inj hv1;obtain⟨rfl,rfl⟩:bi=b1∧oi=o1:=by simpa using e1
  have y1:w3.cell? ⟨bi,oi+4,none⟩=some (.int .i64 y.typ):=(HB3.out.cell gi).trans y1;have hi1:(1:Int)<(ins.length:Int):=by omega
  clear hl hy hv1 e1;generalize y.typ=u at*;by_cases c1:u=6
  ·have E:=hid (E.out.trans (if_pos (Or.inl c1)));have c1:(u != 6)=false:=by simpa using c1
   go_wp2_with fail
   go_ret
   exact⟨Ab (An E.out.symm),HB3.out⟩
  by_cases c2:u=7
  ·have E:=hid (E.out.trans (if_pos (Or.inr c2)));have c1:(u != 6)=true:=by simpa using c1
   have c2:(u != 7)=false:=by simpa using c2
   go_wp2_with fail
   go_ret
   exact⟨Ab (An E.out.symm),HB3.out⟩
  ·have E:=hid (E.out.trans (if_neg (by omega)));have c1:(u != 6)=true:=by simpa using c1
   have c2:(u != 7)=true:=by simpa using c2
   go_wp2_with fail
   go_ret
   exact⟨Ab (An E.out.symm),HB3.out⟩
 iterate 7
  ·go_wp2_with fail
   go_ret
   exact⟨Ab (An (by unfold Hq Bt;rw[hk];simp only[gv HX0.out];rfl)),HB3.out⟩
 all_goals
  have E:Hid (Hq n ins=if Ci ins 1=true then x.typ else 0):=hid (by
   unfold Hq Bt;rw[hk];simp only[gv HX0.out];exact Sx _ _)
  have HAl:=hid (HAl.out 1);cases hal:Ci ins 1
  all_goals
   rw[hal]at HAl E;clear hal;go_wp2_with fail
   refine HAl.out.mono ?_;rintro e w4⟨rfl,B4⟩;have HB4:=hid (HB3.out.trans (B4.mono HB3.out.size));go_wp2_with fail
   go_ret
   exact⟨Ab (An E.out.symm),HB4.out⟩
end
end Go.Proofs.YtkkeehnldcdccaaGreatDoor
