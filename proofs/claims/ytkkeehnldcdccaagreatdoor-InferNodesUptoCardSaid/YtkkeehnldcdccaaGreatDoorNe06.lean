import Derived.Test.YtkkeehnldcdccaaGreatDoorNe03
import Derived.Test.YtkkeehnldcdccaaGreatDoorNe05
set_option linter.unusedVariables false
set_option linter.unusedSimpArgs false
set_option maxRecDepth 100000
set_option maxHeartbeats 4000000
namespace Go.Proofs.YtkkeehnldcdccaaGreatDoor
open Go.Lib (hid)
open Go.RowKit
section
def JT(typ:Int)(dims data:List Int):Int:=
 if Cz typ 0=false then 5 else if(AK dims).2≠0 then(AK dims).2 else if(data.length:Int)≠(AK dims).1 then 4 else if data.any (fun x=>!Cz typ x)=true then 4 else 0
theorem Kf{typ:Int}{dims data:List Int}(h:Cz typ 0=false):JT typ dims data=5:=by unfold JT;rw[if_pos h]
theorem N4{typ:Int}{dims data:List Int}(h:Cz typ 0=true)(g:(AK dims).2≠0):JT typ dims data=(AK dims).2:=by unfold JT;rw[if_neg (by rw[h];decide),if_pos g]
theorem RF{typ:Int}{dims data:List Int}(h:Cz typ 0=true)(g:(AK dims).2=0)(l:(data.length:Int)≠(AK dims).1):JT typ dims data=4:=by
 unfold JT;rw[if_neg (by rw[h];decide),if_neg (fun k=>k g),if_pos l]
theorem RG{typ:Int}{dims data:List Int}(h:Cz typ 0=true)(g:(AK dims).2=0)(l:(data.length:Int)=(AK dims).1)(x:data.any (fun x=>!Cz typ x)=true):JT typ dims data=4:=by
 unfold JT;rw[if_neg (by rw[h];decide),if_neg (fun k=>k g),if_neg (fun k=>k l),if_pos x]
theorem N5{typ:Int}{dims data:List Int}(h:Cz typ 0=true)(g:(AK dims).2=0)(l:(data.length:Int)=(AK dims).1)(x:data.any (fun x=>!Cz typ x)=false):JT typ dims data=0:=by
 unfold JT;rw[if_neg (by rw[h];decide),if_neg (fun k=>k g),if_neg (fun k=>k l),if_neg (by rw[x];decide)]
theorem ST(t:Int)(w:World):Calls Tryz.prog 96 #[.int .i64 t] w fun e w'=>e=.returned (.bool (Cz t 0))∧w=w':=by
 have H:=hid (Gx t 0 (by decide) (by decide) w);go_enter Tryz.func96,Tryz.ntmps96
 go_wp2_with (go_at_call 17;refine H.out.mono ?_;rintro e w'⟨rfl,rfl⟩)
 go_ret
 exact⟨rfl,rfl⟩
theorem Ul:∀args w,(callFunc 98 args).run Tryz.prog w=.ok (.enter 98 args) w:=enters_of Tryz.func98 (by kernel_rfl) rfl
theorem WC(t z:Int)(hz:Bf z)(w:World)(b:Nat)(h1:w.cell? ⟨b,0,none⟩=some (.int .i64 t)) :
  Calls Tryz.prog 98 #[.int .i64 z,.pointer (some ⟨b,0,none⟩)] w fun e w'=>e=.returned (.bool (!Cz t z))∧Below w.heap.size w w':=by
 have H:=hid (Gx t z hz.1 hz.2 w);clear hz;go_enter Tryz.func98,Tryz.ntmps98
 go_wp2_with (go_at_call 17;refine H.out.mono ?_;rintro e w'⟨rfl,rfl⟩)
 go_ret
 exact⟨rfl,Below.refl _ _⟩
theorem N6(t:Int)(w:World)(b:Nat)(h1:w.cell? ⟨b,0,none⟩=some (.int .i64 t)):I9 98 #[.pointer (some ⟨b,0,none⟩)] (fun x=>!Cz t x) w:=
 fun W z hB hz=>WC t z hz W b ((hB.cell (p:=⟨b,0,none⟩) (Al h1)).trans h1)
attribute [local irreducible] JT AK Cz
theorem Yc(t:Int)(dims data:List Int){w:World}{vd vx:Value}(hd:Aa w vd dims)(hx:Aa w vx data) :
  Calls Tryz.prog 38 #[.agg #[.int .i64 t,vd,vx]] w fun e w'=>e=.returned (.int .i64 (JT t dims data))∧Below w.heap.size w w':=by
 obtain⟨ad,cd,rfl⟩:=hd.shape;obtain⟨ax,cx,rfl⟩:=hx.shape;have HD:=hid hd;have HX:=hid hx;clear hd hx;go_enter Tryz.func38,Tryz.ntmps38
 go_wp2_with fail
 generalize hw1:w.alloc (Obj.cells #[Value.int IntKind.i64 t,Value.slice ad dims.length cd,Value.slice ax data.length cx] 41)=W1;have hB1:Hid (Below w.heap.size w W1):=hid (by rw[←hw1];exact(Below.refl _ w).alloc (Nat.le_refl _) _);have hX1:Hid (Ac W1 w.heap.size #[Value.int IntKind.i64 t,Value.slice ad dims.length cd,Value.slice ax data.length cx] 41):=hid (by rw[←hw1];exact Ac.new w _ _);clear hw1;have HT:=hid (fun W=>ST t W);have k0:W1.cell? ⟨w.heap.size,0,none⟩=some (.int .i64 t):=hX1.out.cell 0 rfl;have k1:W1.cell? ⟨w.heap.size,1,none⟩=some (.slice ad dims.length cd):=hX1.out.cell 1 rfl;cases ht:Cz t 0 with
 | false=>
  have e:=hid (Kf (dims:=dims) (data:=data) ht);rw[ht]at HT;clear ht;refine(HT.out _).mono ?_;rintro e w2⟨rfl,rfl⟩;go_wp2_with fail
  go_ret
  exact⟨Ab (An e.out.symm),hB1.out⟩
 | true=>
  have HTT:=hid ht;rw[ht]at HT;clear ht;have HC:=hid (C6 (HD.out.below hB1.out));refine(HT.out _).mono ?_;rintro e w2⟨rfl,rfl⟩;have HB:Hid (∀w2,Below W1.heap.size W1 w2→Below w.heap.size w w2):=hid (fun w2 h=>hB1.out.trans (h.mono hB1.out.size));generalize hc:AK dims=c at HC;obtain⟨c,ce⟩:=c;have E1:(AK dims).1=c:=by rw[hc]
  have E2:(AK dims).2=ce:=by rw[hc]
  have E1:=hid E1;have E2:=hid E2;clear hc;by_cases hg:ce=0
  ·subst hg;by_cases hl:(data.length:Int)=c
   ·have HLL:=hid (hl.trans E1.out.symm);subst hl;cases hx:data.any (fun x=>!Cz t x)with
    | false=>
     have e:=hid (N5 HTT.out E2.out HLL.out hx);have HXX:=hid hx;clear hx;go_wp2_with (first|(go_at_call 18;refine HC.out.mono ?_;rintro e w2⟨rfl,B2⟩;have HB2:=hid B2;have k2:w2.cell? ⟨w.heap.size,2,none⟩=some (.slice ax data.length cx):=(hX1.out.below' B2).cell 2 rfl;have k3:w2.cell? ⟨w.heap.size,0,none⟩=some (.int .i64 t):=(hX1.out.below' B2).cell 0 rfl;clear B2)|(go_at_call 97;refine(GP (HX.out.below (HB.out _ HB2.out)) _ _ Ul _ (N6 t _ _ k3)).mono ?_;rw[HXX.out];rintro e w3⟨rfl,B3⟩;have HB3:=hid (HB2.out.trans (B3.mono HB2.out.size));clear B3))
     go_ret
     exact⟨Ab (An e.out.symm),HB.out _ HB3.out⟩
    | true=>
     have e:=hid (RG HTT.out E2.out HLL.out hx);have HXX:=hid hx;clear hx;go_wp2_with (first|(go_at_call 18;refine HC.out.mono ?_;rintro e w2⟨rfl,B2⟩;have HB2:=hid B2;have k2:w2.cell? ⟨w.heap.size,2,none⟩=some (.slice ax data.length cx):=(hX1.out.below' B2).cell 2 rfl;have k3:w2.cell? ⟨w.heap.size,0,none⟩=some (.int .i64 t):=(hX1.out.below' B2).cell 0 rfl;clear B2)|(go_at_call 97;refine(GP (HX.out.below (HB.out _ HB2.out)) _ _ Ul _ (N6 t _ _ k3)).mono ?_;rw[HXX.out];rintro e w3⟨rfl,B3⟩;have HB3:=hid (HB2.out.trans (B3.mono HB2.out.size));clear B3))
     go_ret
     exact⟨Ab (An e.out.symm),HB.out _ HB3.out⟩
   ·have e:=hid (RF (data:=data) HTT.out E2.out (by rw[E1.out];exact hl));go_wp2_with (go_at_call 18;refine HC.out.mono ?_;rintro e w2⟨rfl,B2⟩;have HB2:=hid B2;have k2:w2.cell? ⟨w.heap.size,2,none⟩=some (.slice ax data.length cx):=(hX1.out.below' B2).cell 2 rfl;clear B2)
    go_ret
    exact⟨Ab (An e.out.symm),HB.out _ HB2.out⟩
  ·have e:=hid ((N4 (data:=data) HTT.out (by rw[E2.out];exact hg)).trans E2.out);go_wp2_with (go_at_call 18;refine HC.out.mono ?_;rintro e w2⟨rfl,B2⟩;have HB2:=hid B2;have k2:w2.cell? ⟨w.heap.size,2,none⟩=some (.slice ax data.length cx):=(hX1.out.below' B2).cell 2 rfl;clear B2)
   go_ret
   exact⟨Ab (An e.out.symm),HB.out _ HB2.out⟩
end
def CU(r:Dw):ByteArray:=⟨r.words.toArray⟩
def Cu(ss:List ByteArray)(x:ByteArray):Bool:=ss.any fun s=>decide (s=x)
theorem Kg{ss:List ByteArray}{x:ByteArray}:Cu ss x=true↔x∈ss:=by
 unfold Cu;rw[List.any_eq_true];constructor
 ·rintro⟨s,hs,e⟩;rw[decide_eq_true_eq]at e;exact e ▸ hs
 ·intro h;exact⟨x,h,by simp⟩
def AA(n:Nd):Int:=
 if(BR n.op).2=false then 5
 else if(n.ins.length:Int)<(BR n.op).1.least then 4
 else if(BR n.op).1.most <(n.ins.length:Int)then 4
 else if n.out=⟨#[]⟩then 5
 else if Cu n.ins ⟨#[]⟩=true then 5
 else if BW n.attrs (Ca (CU (BR n.op).1))≠0 then BW n.attrs (Ca (CU (BR n.op).1))
 else if(AU n.attrs).2≠0 then(AU n.attrs).2
 else match Az n.attrs ⟨#[118,97,108,117,101]⟩ 4 with
  | none=>0
  | some a=>if n.op=⟨#[67,111,110,115,116,97,110,116]⟩then JT a.typ a.dims a.data else 0
theorem WD{s:ByteArray}(h1:s.size≤1000)(h2:s.data.toList.getLast?≠some 32):N0 s where
 small:=h1
 more:=by
  intro nm h;unfold Fp Lib.hasPrefix at h;obtain⟨t,ht⟩:=List.isPrefixOf_iff_prefix.1 h;have hl:s.data.toList.length=nm.data.toList.length+1+t.length:=by rw[←ht,List.length_append,List.length_append];rfl
  have e1:s.size=s.data.toList.length:=Array.length_toList.symm;have e2:nm.size=nm.data.toList.length:=Array.length_toList.symm;cases t with
  | nil=>
   exfalso;apply h2;rw[←ht,List.append_nil];simp
  | cons a t=>simp at hl;omega
def N7(r:Dw):Bool:=decide (r.words.length≤1000)&&(Ca (CU r)).all fun s=>decide (s.size≤1000)&&decide (s.data.toList.getLast?≠some 32)
theorem L0{r:Dw}(h:N7 r=true):(CU r).size≤1000∧∀s∈Ca (CU r),N0 s:=by
 unfold N7 at h;rw[Bool.and_eq_true,List.all_eq_true]at h;refine⟨by simpa[CU,ByteArray.size]using h.1,fun s hs=>?_⟩;have:=h.2 s hs;rw[Bool.and_eq_true]at this;exact WD (by simpa using this.1) (by simpa using this.2)
theorem Um{tab:List (List UInt8×Dw)}{op:ByteArray}{r:Dw}(h:Ee tab op=some r):∃l,(l,r)∈tab:=by
 induction tab with
 | nil=>cases h
 | cons p t ih=>
  obtain⟨l,r2⟩:=p;unfold Ee at h;split at h
  ·cases h;exact⟨l,List.mem_cons_self ..⟩
  ·obtain⟨l2,h2⟩:=ih h;exact⟨l2,List.mem_cons_of_mem _ h2⟩
theorem Un:(ID.map Prod.snd).all N7=true:=by decide+kernel
theorem Uo:N7 ⟨1,1,[]⟩=true:=by decide+kernel
theorem L3(op:ByteArray):N7 (BR op).1=true:=by
 unfold BR;split
 ·rename_i r h
  obtain⟨l,hl⟩:=Um h;exact List.all_eq_true.1 Un r (List.mem_map.2 ⟨_,hl,rfl⟩)
 ·exact Uo
theorem SU(op:ByteArray):(CU (BR op).1).size≤1000:=(L0 (L3 op)).1
theorem Qh(op:ByteArray):∀s∈Ca (CU (BR op).1),N0 s:=(L0 (L3 op)).2
theorem MU{w:World}{v:Value}{ss:List ByteArray}(h:Bi w v ss)(x:ByteArray) :
  Calls Tryz.prog 34 #[v,.string x] w fun e w'=>e=.returned (.bool (Cu ss x))∧w=w':=by
 cases h with
 | empty a0 cap=>
  refine(Tryz.slices_Contains_string_empty a0 cap x w).mono ?_;rintro e w'⟨rfl,rfl⟩;exact⟨rfl,rfl⟩
 | row b off cap _ h0 hc hb hr hlen=>
  refine(Tryz.slices_Contains_string b off ss.length cap ss x w (Nat.le_refl _) (by omega) (fun j hj=>by
   rw[hr j _ (List.getElem?_eq_getElem hj)];simp[List.getD,List.getElem?_eq_getElem hj])).mono ?_
  rintro e w'⟨rfl,rfl⟩;refine⟨?_,rfl⟩;rw[List.take_length]
  congr 2
  rw[Bool.eq_iff_iff,Lib.containsS_iff,Kg]
theorem N8{n:Nd}(h:(BR n.op).2=false):AA n=5:=by unfold AA;rw[if_pos h]
theorem MV{n:Nd}(h:(BR n.op).2=true)(g:(n.ins.length:Int)<(BR n.op).1.least):AA n=4:=by unfold AA;rw[if_neg (by rw[h];decide),if_pos g]
theorem N9{n:Nd}(h:(BR n.op).2=true)(g:¬(n.ins.length:Int)<(BR n.op).1.least)(m:(BR n.op).1.most <(n.ins.length:Int)):AA n=4:=by unfold AA;rw[if_neg (by rw[h];decide),if_neg g,if_pos m]
theorem Qi{n:Nd}(h:(BR n.op).2=true)(g:¬(n.ins.length:Int)<(BR n.op).1.least)(m:¬(BR n.op).1.most <(n.ins.length:Int))(o:n.out=⟨#[]⟩):AA n=5:=by unfold AA;rw[if_neg (by rw[h];decide),if_neg g,if_neg m,if_pos o]
structure Qj(n:Nd):Prop where
 ok:(BR n.op).2=true
 least:¬(n.ins.length:Int)<(BR n.op).1.least
 most:¬(BR n.op).1.most <(n.ins.length:Int)
 out:¬n.out=⟨#[]⟩
theorem Qk{n:Nd}(h:Qj n)(i:Cu n.ins ⟨#[]⟩=true):AA n=5:=by unfold AA;rw[if_neg (by rw[h.ok];decide),if_neg h.least,if_neg h.most,if_neg h.out,if_pos i]
theorem MW{n:Nd}(h:Qj n)(i:¬Cu n.ins ⟨#[]⟩=true)(a:BW n.attrs (Ca (CU (BR n.op).1))≠0):AA n=BW n.attrs (Ca (CU (BR n.op).1)):=by
 unfold AA;rw[if_neg (by rw[h.ok];decide),if_neg h.least,if_neg h.most,if_neg h.out,if_neg i,if_pos a]
theorem Oa{n:Nd}(h:Qj n)(i:¬Cu n.ins ⟨#[]⟩=true)(a:BW n.attrs (Ca (CU (BR n.op).1))=0)(t:(AU n.attrs).2≠0):AA n=(AU n.attrs).2:=by
 unfold AA;rw[if_neg (by rw[h.ok];decide),if_neg h.least,if_neg h.most,if_neg h.out,if_neg i,if_neg (fun k=>k a),if_pos t]
theorem Ql{n:Nd}(h:Qj n)(i:¬Cu n.ins ⟨#[]⟩=true)(a:BW n.attrs (Ca (CU (BR n.op).1))=0)(t:(AU n.attrs).2=0)(f:Az n.attrs ⟨#[118,97,108,117,101]⟩ 4=none):AA n=0:=by
 unfold AA;rw[if_neg (by rw[h.ok];decide),if_neg h.least,if_neg h.most,if_neg h.out,if_neg i,if_neg (fun k=>k a),if_neg (fun k=>k t),f]
theorem MX{n:Nd}(h:Qj n)(i:¬Cu n.ins ⟨#[]⟩=true)(a:BW n.attrs (Ca (CU (BR n.op).1))=0)(t:(AU n.attrs).2=0){x:At}(f:Az n.attrs ⟨#[118,97,108,117,101]⟩ 4=some x)(c:¬n.op=⟨#[67,111,110,115,116,97,110,116]⟩):AA n=0:=by
 unfold AA;rw[if_neg (by rw[h.ok];decide),if_neg h.least,if_neg h.most,if_neg h.out,if_neg i,if_neg (fun k=>k a),if_neg (fun k=>k t),f];simp only[];rw[if_neg c]
theorem MY{n:Nd}(h:Qj n)(i:¬Cu n.ins ⟨#[]⟩=true)(a:BW n.attrs (Ca (CU (BR n.op).1))=0)(t:(AU n.attrs).2=0){x:At}(f:Az n.attrs ⟨#[118,97,108,117,101]⟩ 4=some x)(c:n.op=⟨#[67,111,110,115,116,97,110,116]⟩):AA n=JT x.typ x.dims x.data:=by
 unfold AA;rw[if_neg (by rw[h.ok];decide),if_neg h.least,if_neg h.most,if_neg h.out,if_neg i,if_neg (fun k=>k a),if_neg (fun k=>k t),f];simp only[];rw[if_pos c]
section
attribute [local irreducible] BR BW Ca AU Az JT Cu AA CU
theorem Ob{s:ByteArray}(h:(s.toList==([]:List UInt8))=true):s=⟨#[]⟩:=AP (by
 have:s.toList=[]:=by simpa using h
 rw[this,ByteArray.toList_eq])
theorem L4{s:ByteArray}(h:(s.toList==([]:List UInt8))=false):¬s=⟨#[]⟩:=fun e=>by
 rw[e,ByteArray.toList_eq]at h;simp at h
theorem Qm{s:ByteArray}{l:List UInt8}(h:(s.toList==l)=true):s=⟨l.toArray⟩:=AP (by
 have:s.toList=l:=by simpa using h
 rw[this,ByteArray.toList_eq])
theorem Up{s:ByteArray}{l:List UInt8}(h:(s.toList==l)=false):¬s=⟨l.toArray⟩:=fun e=>by
 rw[e,ByteArray.toList_eq]at h;simp at h
theorem Qn{w:World}{v:Value}{n:Nd}(h:Ba w v n)(hG:Eu w) :
  Calls Tryz.prog 15 #[v] w fun e w'=>e=.returned (.int .i64 (AA n))∧Below w.heap.size w w':=by
 obtain⟨vin,vat,rfl,hn⟩:=h;obtain⟨a1,c1,rfl⟩:=hn.is.form;obtain⟨a2,c2,rfl⟩:=hn.ia.form;have hlen:=hn.is.len;have HN:=hid hn;have HG:=hid hG;clear hn hG;unfold Nd.val;go_enter Tryz.func15,Tryz.ntmps15
 go_wp2_with fail
 generalize hw1:w.alloc (Obj.cells #[Value.string n.op,Value.string n.name,Value.slice a1 n.ins.length c1,Value.string n.out,Value.slice a2 n.attrs.length c2] 25)=W1;have hB0:Hid (Below w.heap.size w W1):=hid (by rw[←hw1];exact(Below.refl _ w).alloc (Nat.le_refl _) _);have hX0:Hid (Ac W1 w.heap.size #[Value.string n.op,Value.string n.name,Value.slice a1 n.ins.length c1,Value.string n.out,Value.slice a2 n.attrs.length c2] 25):=hid (by rw[←hw1];exact Ac.new w _ _);clear hw1;refine(Uh n.op (HG.out.below hB0.out)).mono ?_;rintro e w2⟨rfl,B2⟩;have hr1:=hid (SU n.op);have hr2:=hid (Qh n.op);have HRB:=hid (show(⟨(BR n.op).1.words.toArray⟩:ByteArray)=CU (BR n.op).1 by unfold CU;rfl);rw[HRB.out];generalize hrb:CU (BR n.op).1=rb at hr1 hr2;have HRB:=hid hrb;clear hrb;generalize hle:(BR n.op).1.least=le;generalize hmo:(BR n.op).1.most=mo;have HLE:=hid hle;have HMO:=hid hmo;clear hle hmo;have HB2:=hid (hB0.out.trans (B2.mono hB0.out.size));have HX2:=hid (hX0.out.below' B2);clear B2;cases hok:(BR n.op).2 with
 | false=>
  have e:=hid (N8 hok);clear hok;go_wp2_with fail
  go_ret
  exact⟨Ab (An e.out.symm),HB2.out.alloc HB2.out.size _⟩
 | true=>
  have HOK:=hid hok;clear hok;have HB3:Hid (Below w.heap.size w (w2.alloc (Obj.cells #[.int .i64 le,.int .i64 mo,.string rb] 71))):=hid (HB2.out.alloc HB2.out.size _);have HX3:Hid (Ac (w2.alloc (Obj.cells #[.int .i64 le,.int .i64 mo,.string rb] 71)) w.heap.size #[Value.string n.op,Value.string n.name,Value.slice a1 n.ins.length c1,Value.string n.out,Value.slice a2 n.attrs.length c2] 25):=hid (HX2.out.below' ((Below.refl _ w2).alloc (Nat.le_refl _) _));have HR3:Hid (Ac (w2.alloc (Obj.cells #[.int .i64 le,.int .i64 mo,.string rb] 71)) w2.heap.size #[.int .i64 le,.int .i64 mo,.string rb] 71):=hid (Ac.new w2 _ _);have k0:(w2.alloc (Obj.cells #[.int .i64 le,.int .i64 mo,.string rb] 71)).cell? ⟨w.heap.size,0,none⟩=some (.string n.op):=HX3.out.cell 0 rfl;have k1:(w2.alloc (Obj.cells #[.int .i64 le,.int .i64 mo,.string rb] 71)).cell? ⟨w.heap.size,1,none⟩=some (.string n.name):=HX3.out.cell 1 rfl;have k2:(w2.alloc (Obj.cells #[.int .i64 le,.int .i64 mo,.string rb] 71)).cell? ⟨w.heap.size,2,none⟩=some (.slice a1 n.ins.length c1):=HX3.out.cell 2 rfl;have k3:(w2.alloc (Obj.cells #[.int .i64 le,.int .i64 mo,.string rb] 71)).cell? ⟨w.heap.size,3,none⟩=some (.string n.out):=HX3.out.cell 3 rfl;have k4:(w2.alloc (Obj.cells #[.int .i64 le,.int .i64 mo,.string rb] 71)).cell? ⟨w.heap.size,4,none⟩=some (.slice a2 n.attrs.length c2):=HX3.out.cell 4 rfl;have r0:(w2.alloc (Obj.cells #[.int .i64 le,.int .i64 mo,.string rb] 71)).cell? ⟨w2.heap.size,0,none⟩=some (.int .i64 le):=HR3.out.cell 0 rfl;have r1:(w2.alloc (Obj.cells #[.int .i64 le,.int .i64 mo,.string rb] 71)).cell? ⟨w2.heap.size,1,none⟩=some (.int .i64 mo):=HR3.out.cell 1 rfl;have r2:(w2.alloc (Obj.cells #[.int .i64 le,.int .i64 mo,.string rb] 71)).cell? ⟨w2.heap.size,2,none⟩=some (.string rb):=HR3.out.cell 2 rfl;by_cases h1:(n.ins.length:Int)<le
  ·have e:=hid (MV HOK.out (by rw[HLE.out];exact h1));go_wp2_with fail
   go_ret
   exact⟨Ab (An e.out.symm),HB3.out⟩
  ·have H1:=hid h1;by_cases h2:mo<(n.ins.length:Int)
   ·have e:=hid (N9 HOK.out (by rw[HLE.out];exact h1) (by rw[HMO.out];exact h2));go_wp2_with fail
    go_ret
    exact⟨Ab (An e.out.symm),HB3.out⟩
   ·have H2:=hid h2;cases h3:(n.out.toList==([]:List UInt8))with
    | true=>
     have e:=hid (Qi HOK.out (by rw[HLE.out];exact h1) (by rw[HMO.out];exact h2) (Ob h3));go_wp2_with fail
     go_ret
     exact⟨Ab (An e.out.symm),HB3.out⟩
    | false=>
     have HF:Hid (Qj n):=hid ⟨HOK.out,by rw[HLE.out];exact H1.out,by rw[HMO.out];exact H2.out,L4 h3⟩;have HC:=hid (MU (HN.out.is.below HB3.out) ⟨#[]⟩);cases hs:Cu n.ins ⟨#[]⟩with
     | true=>
      have e:=hid (Qk HF.out hs);rw[hs]at HC;clear hs;go_wp2_with (go_at_call 34;refine HC.out.mono ?_;rintro e w3⟨rfl,rfl⟩)
      go_ret
      exact⟨Ab (An e.out.symm),HB3.out⟩
     | false=>
      have HI:Hid (¬Cu n.ins ⟨#[]⟩=true):=hid (by rw[hs];decide);rw[hs]at HC;clear hs;have HA:=hid (SS ⟨_,_,rfl,HN.out.below HB3.out⟩ (HG.out.below HB3.out) rb hr1.out hr2.out);generalize hea:BW n.attrs (Ca rb)=ea at HA;have EA:Hid (BW n.attrs (Ca (CU (BR n.op).1))=ea):=hid (by rw[HRB.out];exact hea);clear hea;by_cases h5:ea=0
      ·subst h5;have HT:Hid (∀W,Below w.heap.size w W→Calls Tryz.prog 36 #[.agg #[.string n.op,.string n.name,.slice a1 n.ins.length c1,.string n.out,.slice a2 n.attrs.length c2]] W fun e w'=>Below W.heap.size W w'∧∃v',e=.returned (.tuple #[v',.int .i64 (AU n.attrs).2])∧Bi w' v' (AU n.attrs).1):=hid (fun W hW=>NW ⟨_,_,rfl,HN.out.below hW⟩ (HG.out.below hW));generalize het:(AU n.attrs).2=et at HT;have ET:=hid het;clear het;by_cases h6:et=0
       ·subst h6;have HFi:Hid (∀W,Below w.heap.size w W→Calls Tryz.prog 37 #[.agg #[.string n.op,.string n.name,.slice a1 n.ins.length c1,.string n.out,.slice a2 n.attrs.length c2],.string ⟨#[118,97,108,117,101]⟩,.int .i64 4] W fun e w'=>Below W.heap.size W w'∧∃va,e=.returned (.tuple #[va,.bool (Az n.attrs ⟨#[118,97,108,117,101]⟩ 4).isSome])∧F7 w' va ((Az n.attrs ⟨#[118,97,108,117,101]⟩ 4).getD At.zero)):=hid (fun W hW=>Ga ⟨_,_,rfl,HN.out.below hW⟩ _ _);cases hfa:Az n.attrs ⟨#[118,97,108,117,101]⟩ 4 with
        | none=>
         have e:=hid (Ql HF.out HI.out EA.out ET.out hfa);rw[hfa]at HFi;simp only[Option.isSome_none,Option.getD_none]at HFi;clear hfa;go_wp2_with (first|(go_at_call 34;refine HC.out.mono ?_;rintro e w3⟨rfl,rfl⟩)|(go_at_call 35;refine HA.out.mono ?_;rintro e w4⟨rfl,B4⟩;have HB4:=hid (HB3.out.trans (B4.mono HB3.out.size));have HX4:=hid (HX3.out.below' B4);clear B4;have w4k0:w4.cell? ⟨w.heap.size,0,none⟩=some (.string n.op):=HX4.out.cell 0 rfl;have w4k1:w4.cell? ⟨w.heap.size,1,none⟩=some (.string n.name):=HX4.out.cell 1 rfl;have w4k2:w4.cell? ⟨w.heap.size,2,none⟩=some (.slice a1 n.ins.length c1):=HX4.out.cell 2 rfl;have w4k3:w4.cell? ⟨w.heap.size,3,none⟩=some (.string n.out):=HX4.out.cell 3 rfl;have w4k4:w4.cell? ⟨w.heap.size,4,none⟩=some (.slice a2 n.attrs.length c2):=HX4.out.cell 4 rfl)|(go_at_call 36;refine(HT.out _ HB4.out).mono ?_;rintro e w5⟨B5,v5,rfl,hs5⟩;obtain⟨a5,c5,rfl⟩:=hs5.form;have HB5:=hid (HB4.out.trans (B5.mono HB4.out.size));have HX5:=hid (HX4.out.below' B5);clear B5 hs5;have w5k0:w5.cell? ⟨w.heap.size,0,none⟩=some (.string n.op):=HX5.out.cell 0 rfl;have w5k1:w5.cell? ⟨w.heap.size,1,none⟩=some (.string n.name):=HX5.out.cell 1 rfl;have w5k2:w5.cell? ⟨w.heap.size,2,none⟩=some (.slice a1 n.ins.length c1):=HX5.out.cell 2 rfl;have w5k3:w5.cell? ⟨w.heap.size,3,none⟩=some (.string n.out):=HX5.out.cell 3 rfl;have w5k4:w5.cell? ⟨w.heap.size,4,none⟩=some (.slice a2 n.attrs.length c2):=HX5.out.cell 4 rfl)|(go_at_call 37;refine(HFi.out _ HB5.out).mono ?_;rintro e w6⟨B6,va,rfl,vd,vx,vi,rfl,hna⟩;have HNA:=hid hna;obtain⟨ad,cd,rfl⟩:=hna.id.shape;obtain⟨ax,cx,rfl⟩:=hna.ix.shape;obtain⟨ai,ci,rfl⟩:=hna.ii.shape;clear hna;unfold At.val;have HB6:=hid (HB5.out.trans (B6.mono HB5.out.size));have HX6:=hid (HX5.out.below' B6);clear B6;have w6k0:w6.cell? ⟨w.heap.size,0,none⟩=some (.string n.op):=HX6.out.cell 0 rfl;have w6k1:w6.cell? ⟨w.heap.size,1,none⟩=some (.string n.name):=HX6.out.cell 1 rfl;have w6k2:w6.cell? ⟨w.heap.size,2,none⟩=some (.slice a1 n.ins.length c1):=HX6.out.cell 2 rfl;have w6k3:w6.cell? ⟨w.heap.size,3,none⟩=some (.string n.out):=HX6.out.cell 3 rfl;have w6k4:w6.cell? ⟨w.heap.size,4,none⟩=some (.slice a2 n.attrs.length c2):=HX6.out.cell 4 rfl))
         go_ret
         exact⟨Ab (An e.out.symm),HB6.out.alloc HB6.out.size _⟩
        | some a=>
         have HFA:=hid hfa;rw[hfa]at HFi;simp only[Option.isSome_some,Option.getD_some]at HFi;clear hfa;cases hcn:(n.op.toList==([67,111,110,115,116,97,110,116]:List UInt8))with
         | false=>
          have e:=hid (MX HF.out HI.out EA.out ET.out HFA.out (Up hcn));go_wp2_with (first|(go_at_call 34;refine HC.out.mono ?_;rintro e w3⟨rfl,rfl⟩)|(go_at_call 35;refine HA.out.mono ?_;rintro e w4⟨rfl,B4⟩;have HB4:=hid (HB3.out.trans (B4.mono HB3.out.size));have HX4:=hid (HX3.out.below' B4);clear B4;have w4k0:w4.cell? ⟨w.heap.size,0,none⟩=some (.string n.op):=HX4.out.cell 0 rfl;have w4k1:w4.cell? ⟨w.heap.size,1,none⟩=some (.string n.name):=HX4.out.cell 1 rfl;have w4k2:w4.cell? ⟨w.heap.size,2,none⟩=some (.slice a1 n.ins.length c1):=HX4.out.cell 2 rfl;have w4k3:w4.cell? ⟨w.heap.size,3,none⟩=some (.string n.out):=HX4.out.cell 3 rfl;have w4k4:w4.cell? ⟨w.heap.size,4,none⟩=some (.slice a2 n.attrs.length c2):=HX4.out.cell 4 rfl)|(go_at_call 36;refine(HT.out _ HB4.out).mono ?_;rintro e w5⟨B5,v5,rfl,hs5⟩;obtain⟨a5,c5,rfl⟩:=hs5.form;have HB5:=hid (HB4.out.trans (B5.mono HB4.out.size));have HX5:=hid (HX4.out.below' B5);clear B5 hs5;have w5k0:w5.cell? ⟨w.heap.size,0,none⟩=some (.string n.op):=HX5.out.cell 0 rfl;have w5k1:w5.cell? ⟨w.heap.size,1,none⟩=some (.string n.name):=HX5.out.cell 1 rfl;have w5k2:w5.cell? ⟨w.heap.size,2,none⟩=some (.slice a1 n.ins.length c1):=HX5.out.cell 2 rfl;have w5k3:w5.cell? ⟨w.heap.size,3,none⟩=some (.string n.out):=HX5.out.cell 3 rfl;have w5k4:w5.cell? ⟨w.heap.size,4,none⟩=some (.slice a2 n.attrs.length c2):=HX5.out.cell 4 rfl)|(go_at_call 37;refine(HFi.out _ HB5.out).mono ?_;rintro e w6⟨B6,va,rfl,vd,vx,vi,rfl,hna⟩;have HNA:=hid hna;obtain⟨ad,cd,rfl⟩:=hna.id.shape;obtain⟨ax,cx,rfl⟩:=hna.ix.shape;obtain⟨ai,ci,rfl⟩:=hna.ii.shape;clear hna;unfold At.val;have HB6:=hid (HB5.out.trans (B6.mono HB5.out.size));have HX6:=hid (HX5.out.below' B6);clear B6;have w6k0:w6.cell? ⟨w.heap.size,0,none⟩=some (.string n.op):=HX6.out.cell 0 rfl;have w6k1:w6.cell? ⟨w.heap.size,1,none⟩=some (.string n.name):=HX6.out.cell 1 rfl;have w6k2:w6.cell? ⟨w.heap.size,2,none⟩=some (.slice a1 n.ins.length c1):=HX6.out.cell 2 rfl;have w6k3:w6.cell? ⟨w.heap.size,3,none⟩=some (.string n.out):=HX6.out.cell 3 rfl;have w6k4:w6.cell? ⟨w.heap.size,4,none⟩=some (.slice a2 n.attrs.length c2):=HX6.out.cell 4 rfl;have HX7:=hid (HX6.out.below' ((Below.refl _ w6).alloc (Nat.le_refl _) (Obj.cells #[.string a.name,.int .i64 a.kind,.int .i64 a.f,.int .i64 a.i,.string a.s,.int .i64 a.typ,.slice ad a.dims.length cd,.slice ax a.data.length cx,.slice ai a.ints.length ci] 43)));have w7k0:(w6.alloc (Obj.cells #[.string a.name,.int .i64 a.kind,.int .i64 a.f,.int .i64 a.i,.string a.s,.int .i64 a.typ,.slice ad a.dims.length cd,.slice ax a.data.length cx,.slice ai a.ints.length ci] 43)).cell? ⟨w.heap.size,0,none⟩=some (.string n.op):=HX7.out.cell 0 rfl))
          go_ret
          exact⟨Ab (An e.out.symm),HB6.out.alloc HB6.out.size _⟩
         | true=>
          have e:=hid (MY HF.out HI.out EA.out ET.out HFA.out (Qm hcn));go_wp2_with (first|(go_at_call 34;refine HC.out.mono ?_;rintro e w3⟨rfl,rfl⟩)|(go_at_call 35;refine HA.out.mono ?_;rintro e w4⟨rfl,B4⟩;have HB4:=hid (HB3.out.trans (B4.mono HB3.out.size));have HX4:=hid (HX3.out.below' B4);clear B4;have w4k0:w4.cell? ⟨w.heap.size,0,none⟩=some (.string n.op):=HX4.out.cell 0 rfl;have w4k1:w4.cell? ⟨w.heap.size,1,none⟩=some (.string n.name):=HX4.out.cell 1 rfl;have w4k2:w4.cell? ⟨w.heap.size,2,none⟩=some (.slice a1 n.ins.length c1):=HX4.out.cell 2 rfl;have w4k3:w4.cell? ⟨w.heap.size,3,none⟩=some (.string n.out):=HX4.out.cell 3 rfl;have w4k4:w4.cell? ⟨w.heap.size,4,none⟩=some (.slice a2 n.attrs.length c2):=HX4.out.cell 4 rfl)|(go_at_call 36;refine(HT.out _ HB4.out).mono ?_;rintro e w5⟨B5,v5,rfl,hs5⟩;obtain⟨a5,c5,rfl⟩:=hs5.form;have HB5:=hid (HB4.out.trans (B5.mono HB4.out.size));have HX5:=hid (HX4.out.below' B5);clear B5 hs5;have w5k0:w5.cell? ⟨w.heap.size,0,none⟩=some (.string n.op):=HX5.out.cell 0 rfl;have w5k1:w5.cell? ⟨w.heap.size,1,none⟩=some (.string n.name):=HX5.out.cell 1 rfl;have w5k2:w5.cell? ⟨w.heap.size,2,none⟩=some (.slice a1 n.ins.length c1):=HX5.out.cell 2 rfl;have w5k3:w5.cell? ⟨w.heap.size,3,none⟩=some (.string n.out):=HX5.out.cell 3 rfl;have w5k4:w5.cell? ⟨w.heap.size,4,none⟩=some (.slice a2 n.attrs.length c2):=HX5.out.cell 4 rfl)|(go_at_call 37;refine(HFi.out _ HB5.out).mono ?_;rintro e w6⟨B6,va,rfl,vd,vx,vi,rfl,hna⟩;have HNA:=hid hna;obtain⟨ad,cd,rfl⟩:=hna.id.shape;obtain⟨ax,cx,rfl⟩:=hna.ix.shape;obtain⟨ai,ci,rfl⟩:=hna.ii.shape;clear hna;unfold At.val;have HB6:=hid (HB5.out.trans (B6.mono HB5.out.size));have HX6:=hid (HX5.out.below' B6);clear B6;have w6k0:w6.cell? ⟨w.heap.size,0,none⟩=some (.string n.op):=HX6.out.cell 0 rfl;have w6k1:w6.cell? ⟨w.heap.size,1,none⟩=some (.string n.name):=HX6.out.cell 1 rfl;have w6k2:w6.cell? ⟨w.heap.size,2,none⟩=some (.slice a1 n.ins.length c1):=HX6.out.cell 2 rfl;have w6k3:w6.cell? ⟨w.heap.size,3,none⟩=some (.string n.out):=HX6.out.cell 3 rfl;have w6k4:w6.cell? ⟨w.heap.size,4,none⟩=some (.slice a2 n.attrs.length c2):=HX6.out.cell 4 rfl;have HX7:=hid (HX6.out.below' ((Below.refl _ w6).alloc (Nat.le_refl _) (Obj.cells #[.string a.name,.int .i64 a.kind,.int .i64 a.f,.int .i64 a.i,.string a.s,.int .i64 a.typ,.slice ad a.dims.length cd,.slice ax a.data.length cx,.slice ai a.ints.length ci] 43)));have w7k0:(w6.alloc (Obj.cells #[.string a.name,.int .i64 a.kind,.int .i64 a.f,.int .i64 a.i,.string a.s,.int .i64 a.typ,.slice ad a.dims.length cd,.slice ax a.data.length cx,.slice ai a.ints.length ci] 43)).cell? ⟨w.heap.size,0,none⟩=some (.string n.op):=HX7.out.cell 0 rfl)|(go_at_call 38;refine(Yc a.typ a.dims a.data (HNA.out.id.below ((Below.refl _ w6).alloc (Nat.le_refl _) _)) (HNA.out.ix.below ((Below.refl _ w6).alloc (Nat.le_refl _) _))).mono ?_;rintro e w8⟨rfl,B8⟩;have HB8:=hid ((HB6.out.alloc HB6.out.size _).trans (B8.mono (HB6.out.alloc HB6.out.size _).size));clear B8))
          go_ret
          exact⟨Ab (An e.out.symm),HB8.out⟩
       ·have e:=hid ((Oa HF.out HI.out EA.out (by rw[ET.out];exact h6)).trans ET.out);go_wp2_with (first|(go_at_call 34;refine HC.out.mono ?_;rintro e w3⟨rfl,rfl⟩)|(go_at_call 35;refine HA.out.mono ?_;rintro e w4⟨rfl,B4⟩;have HB4:=hid (HB3.out.trans (B4.mono HB3.out.size));have HX4:=hid (HX3.out.below' B4);clear B4;have w4k0:w4.cell? ⟨w.heap.size,0,none⟩=some (.string n.op):=HX4.out.cell 0 rfl;have w4k1:w4.cell? ⟨w.heap.size,1,none⟩=some (.string n.name):=HX4.out.cell 1 rfl;have w4k2:w4.cell? ⟨w.heap.size,2,none⟩=some (.slice a1 n.ins.length c1):=HX4.out.cell 2 rfl;have w4k3:w4.cell? ⟨w.heap.size,3,none⟩=some (.string n.out):=HX4.out.cell 3 rfl;have w4k4:w4.cell? ⟨w.heap.size,4,none⟩=some (.slice a2 n.attrs.length c2):=HX4.out.cell 4 rfl)|(go_at_call 36;refine(HT.out _ HB4.out).mono ?_;rintro e w5⟨B5,v5,rfl,hs5⟩;obtain⟨a5,c5,rfl⟩:=hs5.form;have HB5:=hid (HB4.out.trans (B5.mono HB4.out.size));have HX5:=hid (HX4.out.below' B5);clear B5 hs5;have w5k0:w5.cell? ⟨w.heap.size,0,none⟩=some (.string n.op):=HX5.out.cell 0 rfl;have w5k1:w5.cell? ⟨w.heap.size,1,none⟩=some (.string n.name):=HX5.out.cell 1 rfl;have w5k2:w5.cell? ⟨w.heap.size,2,none⟩=some (.slice a1 n.ins.length c1):=HX5.out.cell 2 rfl;have w5k3:w5.cell? ⟨w.heap.size,3,none⟩=some (.string n.out):=HX5.out.cell 3 rfl;have w5k4:w5.cell? ⟨w.heap.size,4,none⟩=some (.slice a2 n.attrs.length c2):=HX5.out.cell 4 rfl))
        go_ret
        exact⟨Ab (An e.out.symm),HB5.out⟩
      ·have e:=hid ((MW HF.out HI.out (by rw[EA.out];exact h5)).trans EA.out);go_wp2_with (first|(go_at_call 34;refine HC.out.mono ?_;rintro e w3⟨rfl,rfl⟩)|(go_at_call 35;refine HA.out.mono ?_;rintro e w4⟨rfl,B4⟩;have HB4:=hid (HB3.out.trans (B4.mono HB3.out.size));have HX4:=hid (HX3.out.below' B4);clear B4;have w4k0:w4.cell? ⟨w.heap.size,0,none⟩=some (.string n.op):=HX4.out.cell 0 rfl;have w4k1:w4.cell? ⟨w.heap.size,1,none⟩=some (.string n.name):=HX4.out.cell 1 rfl;have w4k2:w4.cell? ⟨w.heap.size,2,none⟩=some (.slice a1 n.ins.length c1):=HX4.out.cell 2 rfl;have w4k3:w4.cell? ⟨w.heap.size,3,none⟩=some (.string n.out):=HX4.out.cell 3 rfl;have w4k4:w4.cell? ⟨w.heap.size,4,none⟩=some (.slice a2 n.attrs.length c2):=HX4.out.cell 4 rfl))
       go_ret
       exact⟨Ab (An e.out.symm),HB4.out⟩
end
section
def sz:ByteArray:=⟨#[122]⟩
attribute [local irreducible] AA AU
end
end Go.Proofs.YtkkeehnldcdccaaGreatDoor
