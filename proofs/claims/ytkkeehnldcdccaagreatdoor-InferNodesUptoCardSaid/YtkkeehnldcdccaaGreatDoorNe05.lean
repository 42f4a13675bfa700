import Derived.BigQuiet
import Derived.Deep.QuietTactic
import Derived.Test.YtkkeehnldcdccaaGreatDoorNe04
set_option linter.unusedVariables false
set_option linter.unusedSimpArgs false
set_option maxRecDepth 100000
set_option maxHeartbeats 4000000
namespace Go.Proofs.YtkkeehnldcdccaaGreatDoor
open Go.Lib (hid)
open Go.RowKit
section
def Ca(rule:ByteArray):List ByteArray:=Ct (rule++(⟨#[44,116,104,101,110,32,120]⟩:ByteArray))
def Bo(s:ByteArray)(k:Nat):Int:=((s.data.getD k 0).toNat:Int)
structure N0(s:ByteArray):Prop where
 small:s.size≤1000
 more:∀nm,Fp nm s=true→nm.size+1<s.size
def E9(words:List ByteArray)(ats:List At)(i:Nat)(a:At):Int:=
 match words.find? (Fp a.name)with
 | none=>5
 | some s=>if Cc (Bo s (a.name.size+1))≠a.kind then 4 else if(ats.take i).any (fun b=>decide (b.name=a.name))then 4 else if a.kind=1∧Cz 1 a.f=false then 4 else 0
def CN(ws:List ByteArray)(ats:List At):Nat→List At→Int
 | _,[]=>0
 | k,a::t=>if E9 ws ats k a=0 then CN ws ats (k+1) t else E9 ws ats k a
theorem IE{ws:List ByteArray}{ats:List At}{k:Nat}{a:At}(h:ats[k]?=some a)(g:E9 ws ats k a≠0):CN ws ats k (ats.drop k)=E9 ws ats k a:=by
 obtain⟨hlt,e⟩:=List.getElem?_eq_some_iff.1 h;rw[List.drop_eq_getElem_cons hlt,e];unfold CN;rw[if_neg g]
theorem Kc{ws:List ByteArray}{ats:List At}{k:Nat}{a:At}(h:ats[k]?=some a)(g:E9 ws ats k a=0):CN ws ats k (ats.drop k)=CN ws ats (k+1) (ats.drop (k+1)):=by
 obtain⟨hlt,e⟩:=List.getElem?_eq_some_iff.1 h
 conv=>lhs;rw[List.drop_eq_getElem_cons hlt,e]
 conv=>lhs;unfold CN
 rw[if_pos g]
theorem SL{ws:List ByteArray}{ats:List At}:CN ws ats ats.length (ats.drop ats.length)=0:=by
 rw[List.drop_length];unfold CN;rfl
theorem SM{ws:List ByteArray}{ats:List At}{i:Nat}{a:At}(h:ws.find? (Fp a.name)=none):E9 ws ats i a=5:=by unfold E9;rw[h]
theorem SN{ws:List ByteArray}{ats:List At}{i:Nat}{a:At}{s:ByteArray}(h:ws.find? (Fp a.name)=some s)(g:Cc (Bo s (a.name.size+1))≠a.kind):E9 ws ats i a=4:=by unfold E9;rw[h];simp only[];rw[if_pos g]
theorem Qd{ws:List ByteArray}{ats:List At}{i:Nat}{a:At}{s:ByteArray}(h:ws.find? (Fp a.name)=some s)(g:Cc (Bo s (a.name.size+1))=a.kind)(t:(ats.take i).any (fun b=>decide (b.name=a.name))=true):E9 ws ats i a=4:=by
 unfold E9;rw[h];simp only[];rw[if_neg (by simpa using g),if_pos t]
theorem Qe{ws:List ByteArray}{ats:List At}{i:Nat}{a:At}{s:ByteArray}(h:ws.find? (Fp a.name)=some s)(g:Cc (Bo s (a.name.size+1))=a.kind)(t:(ats.take i).any (fun b=>decide (b.name=a.name))=false)(f:a.kind=1∧Cz 1 a.f=false):E9 ws ats i a=4:=by
 unfold E9;rw[h];simp only[];rw[if_neg (by simpa using g),if_neg (by simp[t]),if_pos f]
theorem LY{ws:List ByteArray}{ats:List At}{i:Nat}{a:At}{s:ByteArray}(h:ws.find? (Fp a.name)=some s)(g:Cc (Bo s (a.name.size+1))=a.kind)(t:(ats.take i).any (fun b=>decide (b.name=a.name))=false)(f:¬(a.kind=1∧Cz 1 a.f=false)):E9 ws ats i a=0:=by
 unfold E9;rw[h];simp only[];rw[if_neg (by simpa using g),if_neg (by simp[t]),if_neg f]
theorem Bw.take{w:World}{b off cap:Nat}{ats:List At}(hc:ats.length≤cap)(hb:b<w.heap.size)(hr:GW w b off ats)(hlen:ats.length≤1048576){i:Nat}(hi:i<ats.length) :
  Bw w (.slice (some ⟨b,off,none⟩) i cap) (ats.take i):=by
 have hl:(ats.take i).length=i:=by rw[List.length_take];omega
 cases i with
 | zero=>exact .empty _ _
 | succ i=>
  have:=Bw.row (w:=w) b off cap (ats.take (i+1)) (by intro h;rw[h]at hl;simp at hl) (by omega) hb (fun j a hj=>hr j a (by
   rw[List.getElem?_take]at hj;split at hj
   ·exact hj
   ·cases hj)) (by omega)
  rw[hl]at this
  exact_mod_cast this
def Ev(s:ByteArray):ByteArray:=⟨(Lib.cut s.data.toList [32]).1.toArray⟩
def BU(s:ByteArray):ByteArray:=⟨(Lib.cut s.data.toList [32]).2.1.toArray⟩
theorem Qf(s:ByteArray):(BU s).size≤s.size:=by
 unfold BU;show(Lib.cut s.data.toList [32]).2.1.toArray.size≤s.data.size;unfold Lib.cut;split
 ·simp
 ·simp
theorem JS(s:ByteArray)(hs:s.size≤1000){w:World}(hG:Eu w):Calls Tryz.prog 90 #[.string s,.string ⟨#[32]⟩] w fun e w'=>Below w.heap.size w w'∧∃q,e=.returned (.tuple #[.string (Ev s),.string (BU s),.bool q]):=by
 obtain⟨m,hm⟩:=hG.max;refine(Tryz.strings_Cut s ⟨#[32]⟩ m w (by omega) hm).mono ?_;rintro e w'⟨rfl,n,rfl⟩;exact⟨(Below.refl _ w).trans ⟨rfl,rfl,rfl,Nat.le_refl _,fun _ _=>rfl⟩,_,rfl⟩
def Dz(ats:List At)(s:ByteArray):Int:=
 if Lib.hasSuffix (BU s).data.toList [42]=true∧(Az ats (Ev s) (Cc (Bo (BU s++(⟨#[32]⟩:ByteArray)) 0))).isSome=false then 4 else 0
def DA(ats:List At):List ByteArray→Int
 | []=>0
 | s::t=>if Dz ats s=0 then DA ats t else Dz ats s
theorem SO{ats:List At}{ws:List ByteArray}{k:Nat}{s:ByteArray}(h:ws[k]?=some s)(g:Dz ats s≠0):DA ats (ws.drop k)=Dz ats s:=by
 obtain⟨hlt,e⟩:=List.getElem?_eq_some_iff.1 h;rw[List.drop_eq_getElem_cons hlt,e];unfold DA;rw[if_neg g]
theorem FB{ats:List At}{ws:List ByteArray}{k:Nat}{s:ByteArray}(h:ws[k]?=some s)(g:Dz ats s=0):DA ats (ws.drop k)=DA ats (ws.drop (k+1)):=by
 obtain⟨hlt,e⟩:=List.getElem?_eq_some_iff.1 h
 conv=>lhs;rw[List.drop_eq_getElem_cons hlt,e]
 conv=>lhs;unfold DA
 rw[if_pos g]
theorem SP{ats:List At}{ws:List ByteArray}:DA ats (ws.drop ws.length)=0:=by
 rw[List.drop_length];unfold DA;rfl
theorem LZ{ats:List At}{s:ByteArray}(h:Lib.hasSuffix (BU s).data.toList [42]=true)(g:(Az ats (Ev s) (Cc (Bo (BU s++(⟨#[32]⟩:ByteArray)) 0))).isSome=false):Dz ats s=4:=by unfold Dz;rw[if_pos ⟨h,g⟩]
theorem Kd{ats:List At}{s:ByteArray}(h:Lib.hasSuffix (BU s).data.toList [42]=false):Dz ats s=0:=by unfold Dz;rw[if_neg (by rw[h];simp)]
theorem Jb{ats:List At}{s:ByteArray}(g:(Az ats (Ev s) (Cc (Bo (BU s++(⟨#[32]⟩:ByteArray)) 0))).isSome=true):Dz ats s=0:=by unfold Dz;rw[if_neg (by rw[g];simp)]
def BW(ats:List At)(ws:List ByteArray):Int:=if CN ws ats 0 ats=0 then DA ats ws else CN ws ats 0 ats
theorem N1{ats:List At}{ws:List ByteArray}(h:CN ws ats 0 ats≠0):BW ats ws=CN ws ats 0 ats:=by unfold BW;rw[if_neg h]
theorem N2{ats:List At}{ws:List ByteArray}(h:CN ws ats 0 ats=0):BW ats ws=DA ats ws:=by unfold BW;rw[if_pos h]
theorem Uk{B:Nat}{a w:World}(h:Below B a w)(n:Nat):Below B a (w.drewN n):=h.trans ⟨rfl,rfl,rfl,Nat.le_refl _,fun _ _=>rfl⟩
theorem GZ{ats:List At}{ws:List ByteArray}{k:Nat}{a:At}{x:Int}(hE:CN ws ats 0 ats=CN ws ats k (ats.drop k))(ha:ats[k]?=some a)(e:E9 ws ats k a=x)(hx:x≠0):BW ats ws=x:=by
 have h1:CN ws ats 0 ats=x:=by rw[hE,IE ha (by rw[e];exact hx),e]
 rw[N1 (by rw[h1];exact hx),h1]
theorem Ke{ats:List At}{ws:List ByteArray}{k:Nat}{s:ByteArray}{x:Int}(h0:CN ws ats 0 ats=0)(hE:DA ats ws=DA ats (ws.drop k))(hs:ws[k]?=some s)(e:Dz ats s=x)(hx:x≠0):BW ats ws=x:=by
 rw[N2 h0,hE,SO hs (by rw[e];exact hx),e]
theorem N3(s:ByteArray)(k:Int)(n:Nat)(hk:k=n)(h:n<s.size)(w:World):(Instr.index 9 (.string s) (.int .i64 k)).run Tryz.prog w=.ok (.int .u8 (Bo s n)) w:=by
 subst hk;rw[run_index_string _ _ _ _ _ (by kernel_rfl),dif_pos ⟨by omega,by omega⟩]
 congr 2
 unfold Bo;have h1:n<s.data.size:=h;simp[ByteArray.getElem_eq_getElem_data,Array.getD,h]
theorem MT(c q:Int)(h:Cc c=q)(w:World):Calls Tryz.prog 87 #[.int .u8 c] w fun e w'=>e=.returned (.int .i64 q)∧w=w':=by
 subst h;exact Uj c w
theorem Bw.cap{w:World}{a:Option Addr}{l c:Nat}{ats:List At}(h:Bw w (.slice a l c) ats):ats.length≤c:=by
 cases h with
 | empty a0 cap=>exact Nat.zero_le _
 | row b off cap _ h0 hc hb hr hlen=>exact hc
theorem SQ(r:ByteArray):(r++(⟨#[44,116,104,101,110,32,120]⟩:ByteArray)).size=r.size+7:=by
 rw[ByteArray.size_append];rfl
theorem SR(r:ByteArray):Ct (r++(⟨#[44,116,104,101,110,32,120]⟩:ByteArray))=Ca r:=rfl
attribute [local irreducible] Ct Ca E9 Az Fp CN DA BW Dz Ev BU Cz Cc Bo
theorem Qg{w:World}{v:Value}{n:Nd}(h:Ba w v n)(hG:Eu w)(rule:ByteArray)(hr:rule.size≤1000)(ws:List ByteArray)(hws:Hid (Ca rule=ws))(hgood:∀s∈ws,N0 s) :
  Calls Tryz.prog 35 #[v,.string rule] w fun e w'=>e=.returned (.int .i64 (BW n.attrs ws))∧Below w.heap.size w w':=by
 obtain⟨vin,vat,rfl,hn⟩:=h;obtain⟨a1,c1,rfl⟩:=hn.is.form;obtain⟨a2,c2,rfl⟩:=hn.ia.form;have HN:=hid hn;have HG:=hid hG;have HW:=hid hgood;clear hn hG hgood;unfold Nd.val;go_enter Tryz.func35,Tryz.ntmps35
 go_wp2_with fail
 generalize hw1:w.alloc (Obj.cells #[Value.string n.op,Value.string n.name,Value.slice a1 n.ins.length c1,Value.string n.out,Value.slice a2 n.attrs.length c2] 25)=W1;have hB0:Hid (Below w.heap.size w W1):=hid (by rw[←hw1];exact(Below.refl _ w).alloc (Nat.le_refl _) _);have hX0:Hid (Ac W1 w.heap.size #[Value.string n.op,Value.string n.name,Value.slice a1 n.ins.length c1,Value.string n.out,Value.slice a2 n.attrs.length c2] 25):=hid (by rw[←hw1];exact Ac.new w _ _);clear hw1;refine(LV _ (HG.out.below hB0.out) (by rw[SQ];omega)).mono ?_;rintro e w1⟨B1,v2,rfl,hs1⟩;rw[SR,hws.out]at hs1;obtain⟨a3,c3,rfl⟩:=hs1.form;have HB1:=hid (hB0.out.trans (B1.mono hB0.out.size));have HX1:=hid (hX0.out.below' B1);have HS1:Hid (Bi w1 (.slice a3 ws.length c3) ws):=hid hs1;have hz:=HS1.out.len;clear B1 hs1;have hla:=HN.out.ia.len;have k4:=HX1.out.cell 4 rfl;clear hB0 hX0;go_wp2
 go_loopg [22] n.attrs.length (fun gg s22 wr=>∃k:Nat,k≤n.attrs.length∧n.attrs.length-k≤gg∧s22=.int .i64 (k:Int)∧Hid (Below w1.heap.size w1 wr)∧Hid (CN ws n.attrs 0 n.attrs=CN ws n.attrs k (n.attrs.drop k)))
 case atStart=>exact⟨0,Nat.zero_le _,by omega,rfl,hid (Below.refl _ _),hid (by simp)⟩
 case round=>
  obtain⟨k,hk,hg,rfl,hB,hE⟩:=hrel;by_cases hkl:k<n.attrs.length
  ·have hki:(k:Int)<(n.attrs.length:Int):=by omega
   obtain⟨a,ha⟩:∃a,n.attrs[k]?=some a:=⟨_,List.getElem?_eq_getElem hkl⟩;obtain⟨b,off,cap,hv,hb,hrd⟩:=HN.out.ia.rows k a ha;obtain⟨rfl,_,rfl⟩:=Value.slice.inj hv;obtain⟨vd,vx,vi,hc9,hn9⟩:=hrd k a ha;have HBr:=hid (HB1.out.trans (hB.out.mono HB1.out.size));obtain⟨c0,c1',c2',c3',c4,c5,c6,c7,c8⟩:=hc9.below hb HBr.out;obtain⟨ad,cd,rfl⟩:=hn9.id.shape;obtain⟨ax,cx,rfl⟩:=hn9.ix.shape;obtain⟨ai,ci,rfl⟩:=hn9.ii.shape;have HN9:=hid hn9;have HA:=hid ha;have HRD:=hid hrd;clear hv hrd hc9 hn9 ha;go_wp2_with fail
   generalize hw2:wr.alloc (Obj.cells #[Value.string a.name,Value.int IntKind.i64 a.kind,Value.int IntKind.i64 a.f,Value.int IntKind.i64 a.i,Value.string a.s,Value.int IntKind.i64 a.typ,Value.slice ad a.dims.length cd,Value.slice ax a.data.length cx,Value.slice ai a.ints.length ci] 43)=W2;have hB2:Hid (Below wr.heap.size wr W2):=hid (by rw[←hw2];exact(Below.refl _ wr).alloc (Nat.le_refl _) _);have hX2:Hid (Ac W2 wr.heap.size #[Value.string a.name,Value.int IntKind.i64 a.kind,Value.int IntKind.i64 a.f,Value.int IntKind.i64 a.i,Value.string a.s,Value.int IntKind.i64 a.typ,Value.slice ad a.dims.length cd,Value.slice ax a.data.length cx,Value.slice ai a.ints.length ci] 43):=hid (by rw[←hw2];exact Ac.new wr _ _);clear hw2 c0 c1' c2' c3' c4 c5 c6 c7 c8;refine(J2 (HS1.out.below (hB.out.trans (hB2.out.mono hB.out.size))) _ _ SJ _ (NY a.name HN9.out.zn _ _ (hX2.out.cell 0 rfl))).mono ?_;rintro e w3⟨rfl,B3⟩;have HB3:=hid ((hB.out.trans (hB2.out.mono hB.out.size)).trans (B3.mono (Nat.le_trans hB.out.size hB2.out.size)));have HX3:=hid (hX2.out.below' B3);have HY3:=hid (HX1.out.below' HB3.out);clear B3 hB2 hX2 k4;rcases Ix (p:=Fp a.name) (zs:=ws)with ⟨h1,h2⟩| ⟨m,s,h1,h2,h3,h4⟩
   ·have e:=hid (SM (ats:=n.attrs) (i:=k) h1);rw[h2];clear h1 h2;go_wp2
    go_ret
    refine⟨Ab (An ?_),HB1.out.trans (HB3.out.mono HB1.out.size)⟩;rw[N1 (by rw[hE.out,IE HA.out (by rw[e.out];decide),e.out];decide),hE.out,IE HA.out (by rw[e.out];decide),e.out]
   ·rw[h3];have HF:=hid h2;have HM:=hid h1;have hgs:=HW.out s (List.mem_of_getElem? h1);have hgl:=hgs.more a.name (List.find?_some h2);have hgz:=hgs.small;obtain⟨bs,os,cs,hv,hbs,hrs⟩:=(HS1.out.below HB3.out).rows m s h1;obtain⟨rfl,_,rfl⟩:=Value.slice.inj hv;have d0:=hrs m s h1;have k0:w3.cell? ⟨wr.heap.size,0,none⟩=some (.string a.name):=HX3.out.cell 0 rfl;have k1:w3.cell? ⟨wr.heap.size,1,none⟩=some (.int .i64 a.kind):=HX3.out.cell 1 rfl;have k2:w3.cell? ⟨wr.heap.size,2,none⟩=some (.int .i64 a.f):=HX3.out.cell 2 rfl;have k4:w3.cell? ⟨w.heap.size,4,none⟩=some (.slice (some ⟨b,off,none⟩) n.attrs.length c2):=HY3.out.cell 4 rfl;have hki:¬(m:Int)<0:=by omega
    clear h1 h2 h3 hv hrs hgs;have hix:∀w,(Instr.index 9 (.string s) (.int .i64 ((a.name.size:Int)+1))).run Tryz.prog w=.ok (.int .u8 (Bo s (a.name.size+1))) w:=fun w=>N3 s _ (a.name.size+1) (by push_cast;rfl) hgl w;have hzn:=HN9.out.zn;have hwr:IntKind.i64.wrap ((a.name.size:Int)+1)=(a.name.size:Int)+1:=IntWalk.i64_in _ ⟨by omega,by omega⟩;go_wp2_with fail
    by_cases hq:Cc (Bo s (a.name.size+1))=a.kind
    ·have hK:=hid (fun w=>MT _ _ (rfl:_=Cc (Bo s (a.name.size+1))) w);have hne:(Cc (Bo s (a.name.size+1)) != a.kind)=false:=by simpa using hq
     have HQ:=hid hq;have hc2:(k:Int)≤(c2:Int):=by have:=HN.out.ia.cap;omega
     have hk0:(0:Int)≤(k:Int):=by omega
     clear hq;have KD:Hid (w3.drew.cell? ⟨wr.heap.size,0,none⟩=some (.string a.name)):=hid k0;have BD:Hid (Below w.heap.size w w3.drew):=hid ((HB1.out.trans (HB3.out.mono HB1.out.size)).drew);go_region_held3 (fun wz=>wz.cell? ⟨bs,os+m,none⟩=some (.string s)∧wz.cell? ⟨wr.heap.size,0,none⟩=some (.string a.name)∧wz.cell? ⟨wr.heap.size,1,none⟩=some (.int .i64 a.kind)∧wz.cell? ⟨w.heap.size,4,none⟩=some (.slice (some ⟨b,off,none⟩) n.attrs.length c2)) (go_keep)
      (first|(go_at_call 88;refine(Lq ((Bw.take HN.out.ia.cap hb HRD.out hla hkl).below (BD.out)) _ _ SK _ (NZ a.name _ _ KD.out)).mono ?_;rintro e w5⟨rfl,B5⟩;have BQ:=hid ((Below.refl _ w3).drew.trans B5);have t1:w5.cell? ⟨bs,os+m,none⟩=some (.string s):=(BQ.out.cell (p:=⟨bs,os+m,none⟩) hbs).trans d0;have t2:w5.cell? ⟨wr.heap.size,0,none⟩=some (.string a.name):=(HX3.out.below' BQ.out).cell 0 rfl;have t3:w5.cell? ⟨wr.heap.size,1,none⟩=some (.int .i64 a.kind):=(HX3.out.below' BQ.out).cell 1 rfl;have t4:w5.cell? ⟨w.heap.size,4,none⟩=some (.slice (some ⟨b,off,none⟩) n.attrs.length c2):=(HY3.out.below' BQ.out).cell 4 rfl;clear B5)|(go_at_call 87;refine(hK.out _).mono ?_;rintro e w4⟨rfl,rfl⟩)|fail)
     have BE:=hid (HB1.out.trans ((HB3.out.trans (BQ.out.mono HB3.out.size)).mono HB1.out.size));have HX5:=hid (HX3.out.below' BQ.out);have t5:w5.cell? ⟨wr.heap.size,2,none⟩=some (.int .i64 a.f):=HX5.out.cell 2 rfl;cases ht:(n.attrs.take k).any (fun b=>decide (b.name=a.name))with
     | true=>
      have e:=hid (Qd HF.out HQ.out ht);clear ht hne;go_wp2_with fail
      go_ret
      exact⟨Ab (An (GZ hE.out HA.out e.out (by decide)).symm),BE.out⟩
     | false=>
      have HT:=hid ht;clear ht hne;by_cases hk1:a.kind=1
      ·have HC:=hid (Gx 1 a.f HN9.out.wf.1 HN9.out.wf.2);cases hc:Cz 1 a.f with
       | false=>
        have e:=hid (Qe HF.out HQ.out HT.out ⟨hk1,hc⟩);rw[hc]at HC;clear hc;go_wp2_with (go_at_call 17;refine(HC.out _).mono ?_;rintro e w6⟨rfl,rfl⟩)
        go_ret
        exact⟨Ab (An (GZ hE.out HA.out e.out (by decide)).symm),BE.out⟩
       | true=>
        have e:=hid (LY HF.out HQ.out HT.out (fun h=>by rw[hc]at h;exact absurd h.2 (by decide)));rw[hc]at HC;clear hc;go_wp2_with (go_at_call 17;refine(HC.out _).mono ?_;rintro e w6⟨rfl,rfl⟩)
        go_roundg (n.attrs.length-(k+1))
        case measure=>omega
        case rel=>exact⟨k+1,by omega,by omega,by go_num,hid (HB3.out.trans (BQ.out.mono HB3.out.size)),hid (hE.out.trans (Kc HA.out e.out))⟩
      ·have e:=hid (LY HF.out HQ.out HT.out (fun h=>hk1 h.1));go_wp2_with fail
       go_roundg (n.attrs.length-(k+1))
       case measure=>omega
       case rel=>exact⟨k+1,by omega,by omega,by go_num,hid (HB3.out.trans (BQ.out.mono HB3.out.size)),hid (hE.out.trans (Kc HA.out e.out))⟩
    ·have hne:(Cc (Bo s (a.name.size+1)) != a.kind)=true:=by simpa using hq
     have HQ:=hid hq;clear hq;have hK:=hid (fun w=>MT _ _ (rfl:_=Cc (Bo s (a.name.size+1))) w);go_quiet ((go_at_call 87;exact Calls.quiet_of_same ((hK.out _).mono fun _ _ h=>⟨h.1,h.2.symm⟩)))
     have e:=hid (SN (ats:=n.attrs) (i:=k) HF.out HQ.out);go_wp2_with fail
     go_ret
     exact⟨Ab (An (GZ hE.out HA.out e.out (by decide)).symm),Uk (HB1.out.trans (HB3.out.mono HB1.out.size)) _⟩
  ·have hki:¬(k:Int)<(n.attrs.length:Int):=by omega
   have hE0:Hid (CN ws n.attrs 0 n.attrs=0):=hid (by rw[hE.out,show k=n.attrs.length by omega];exact SL);have HBr:=hid (HB1.out.trans (hB.out.mono HB1.out.size));have HSr:=hid (HS1.out.below hB.out);have HXr:=hid (HX1.out.below' hB.out);clear hE HS1 HX1 HB1 hB hki k4;obtain⟨wa,rfl⟩:∃x,x=wr:=⟨_,rfl⟩;go_wp2_with fail
   go_loopg [65] ws.length (fun gg s65 wq=>∃k:Nat,k≤ws.length∧ws.length-k≤gg∧s65=.int .i64 (k:Int)∧Hid (Below wa.heap.size wa wq)∧Hid (DA n.attrs ws=DA n.attrs (ws.drop k)))
   case atStart=>exact⟨0,Nat.zero_le _,by omega,rfl,hid (Below.refl _ _),hid (by simp)⟩
   case round=>
    obtain⟨j,hj,hgj,rfl,hBq,hEq⟩:=hrel;by_cases hjl:j<ws.length
    ·have hji:(j:Int)<(ws.length:Int):=by omega
     obtain⟨s,hs⟩:∃s,ws[j]?=some s:=⟨_,List.getElem?_eq_getElem hjl⟩;obtain⟨bs,os,cs,hv,hbs,hrs⟩:=(HSr.out.below hBq.out).rows j s hs;obtain⟨rfl,_,rfl⟩:=Value.slice.inj hv;have d0:=hrs j s hs;have hgs:=HW.out s (List.mem_of_getElem? hs);have hsz:=hgs.small;have HBq:=hid (HBr.out.trans (hBq.out.mono HBr.out.size));have HC:=hid (JS s hsz (HG.out.below HBq.out));have HS:=hid hs;clear hv hrs hs hgs;go_wp2_with (go_at_call 90;refine HC.out.mono ?_;rintro e w5⟨B5,q,rfl⟩;have HB5:=hid (HBq.out.trans (B5.mono HBq.out.size));have HX5:=hid ((HXr.out.below' hBq.out).below' B5);have HS5:=hid (hBq.out.trans (B5.mono hBq.out.size));clear B5)
     have e0:w5.cell? ⟨w.heap.size,0,none⟩=some (.string n.op):=HX5.out.cell 0 rfl;have e1:w5.cell? ⟨w.heap.size,1,none⟩=some (.string n.name):=HX5.out.cell 1 rfl;have e2:w5.cell? ⟨w.heap.size,2,none⟩=some (.slice a1 n.ins.length c1):=HX5.out.cell 2 rfl;have e3:w5.cell? ⟨w.heap.size,3,none⟩=some (.string n.out):=HX5.out.cell 3 rfl;have e4:w5.cell? ⟨w.heap.size,4,none⟩=some (.slice a2 n.attrs.length c2):=HX5.out.cell 4 rfl;have hkz:=Qf s;have hadd:¬(9223372036854775807<(BU s).size+1):=by omega
     have hix:∀w,(Instr.index 9 (.string (BU s++(⟨#[32]⟩:ByteArray))) (.int .i64 0)).run Tryz.prog w=.ok (.int .u8 (Bo (BU s++(⟨#[32]⟩:ByteArray)) 0)) w:=fun w=>N3 _ _ 0 rfl (by rw[ByteArray.size_append];exact Nat.lt_of_lt_of_le (by decide:0<1) (Nat.le_add_left _ _)) w;have hK:=hid (fun w=>MT _ _ (rfl:_=Cc (Bo (BU s++(⟨#[32]⟩:ByteArray)) 0)) w);have HFi:Hid (∀W,Below w.heap.size w W→Calls Tryz.prog 37 #[.agg #[.string n.op,.string n.name,.slice a1 n.ins.length c1,.string n.out,.slice a2 n.attrs.length c2],.string (Ev s),.int .i64 (Cc (Bo (BU s++(⟨#[32]⟩:ByteArray)) 0))] W fun e w'=>Below W.heap.size W w'∧∃va,e=.returned (.tuple #[va,.bool (Az n.attrs (Ev s) (Cc (Bo (BU s++(⟨#[32]⟩:ByteArray)) 0))).isSome])∧F7 w' va ((Az n.attrs (Ev s) (Cc (Bo (BU s++(⟨#[32]⟩:ByteArray)) 0))).getD At.zero)):=hid (fun W hW=>Ga ⟨_,_,rfl,HN.out.below hW⟩ _ _);go_region_held3 (fun wz=>wz.cell? ⟨w.heap.size,0,none⟩=some (.string n.op)∧wz.cell? ⟨w.heap.size,1,none⟩=some (.string n.name)∧wz.cell? ⟨w.heap.size,2,none⟩=some (.slice a1 n.ins.length c1)∧wz.cell? ⟨w.heap.size,3,none⟩=some (.string n.out)∧wz.cell? ⟨w.heap.size,4,none⟩=some (.slice a2 n.attrs.length c2)) (first|go_keep|exact⟨PT.out _ _ _ _ _ _ _ _ _ 0 _ g0,PT.out _ _ _ _ _ _ _ _ _ 1 _ g1,PT.out _ _ _ _ _ _ _ _ _ 2 _ g2,PT.out _ _ _ _ _ _ _ _ _ 3 _ g3,PT.out _ _ _ _ _ _ _ _ _ 4 _ g4⟩)
      (first|(go_at_call 37;refine(HFi.out w5.drew HB5.out.drew).mono ?_;rintro e w6⟨B6,va,rfl,vd,vx,vi,rfl,hna⟩;have HNA:=hid hna;obtain⟨ad,cd,rfl⟩:=hna.id.shape;obtain⟨ax,cx,rfl⟩:=hna.ix.shape;obtain⟨ai,ci,rfl⟩:=hna.ii.shape;clear hna;generalize (Az n.attrs (Ev s) (Cc (Bo (BU s++(⟨#[32]⟩:ByteArray)) 0))).getD At.zero=a0 at*;unfold At.val;have HS6:=hid (HS5.out.drew.trans (B6.mono HS5.out.size));have HB6:=hid (HB5.out.drew.trans (B6.mono HB5.out.size));have HX6:=hid (HX5.out.below' ((Below.refl _ w5).drew.trans B6));have g0:w6.cell? ⟨w.heap.size,0,none⟩=some (.string n.op):=HX6.out.cell 0 rfl;have g1:w6.cell? ⟨w.heap.size,1,none⟩=some (.string n.name):=HX6.out.cell 1 rfl;have g2:w6.cell? ⟨w.heap.size,2,none⟩=some (.slice a1 n.ins.length c1):=HX6.out.cell 2 rfl;have g3:w6.cell? ⟨w.heap.size,3,none⟩=some (.string n.out):=HX6.out.cell 3 rfl;have g4:w6.cell? ⟨w.heap.size,4,none⟩=some (.slice a2 n.attrs.length c2):=HX6.out.cell 4 rfl;clear B6)|(go_at_call 37;refine(HFi.out _ (HB5.out.alloc HB5.out.size (Obj.cells #[.string ⟨#[]⟩,.int .i64 0,.int .i64 0,.int .i64 0,.string ⟨#[]⟩,.int .i64 0,.slice none 0 0,.slice none 0 0,.slice none 0 0] 43)).drew).mono ?_;rintro e w6⟨B6,va,rfl,vd,vx,vi,rfl,hna⟩;have HNA:=hid hna;obtain⟨ad,cd,rfl⟩:=hna.id.shape;obtain⟨ax,cx,rfl⟩:=hna.ix.shape;obtain⟨ai,ci,rfl⟩:=hna.ii.shape;clear hna;generalize (Az n.attrs (Ev s) (Cc (Bo (BU s++(⟨#[32]⟩:ByteArray)) 0))).getD At.zero=a0 at*;unfold At.val;have HS6:=hid ((HS5.out.alloc HS5.out.size (Obj.cells #[.string ⟨#[]⟩,.int .i64 0,.int .i64 0,.int .i64 0,.string ⟨#[]⟩,.int .i64 0,.slice none 0 0,.slice none 0 0,.slice none 0 0] 43)).drew.trans (B6.mono (HS5.out.alloc HS5.out.size (Obj.cells #[.string ⟨#[]⟩,.int .i64 0,.int .i64 0,.int .i64 0,.string ⟨#[]⟩,.int .i64 0,.slice none 0 0,.slice none 0 0,.slice none 0 0] 43)).size));have HB6:=hid ((HB5.out.alloc HB5.out.size (Obj.cells #[.string ⟨#[]⟩,.int .i64 0,.int .i64 0,.int .i64 0,.string ⟨#[]⟩,.int .i64 0,.slice none 0 0,.slice none 0 0,.slice none 0 0] 43)).drew.trans (B6.mono (HB5.out.alloc HB5.out.size (Obj.cells #[.string ⟨#[]⟩,.int .i64 0,.int .i64 0,.int .i64 0,.string ⟨#[]⟩,.int .i64 0,.slice none 0 0,.slice none 0 0,.slice none 0 0] 43)).size));have HX6:=hid ((HX5.out.below' ((Below.refl _ w5).alloc (Nat.le_refl _) (Obj.cells #[.string ⟨#[]⟩,.int .i64 0,.int .i64 0,.int .i64 0,.string ⟨#[]⟩,.int .i64 0,.slice none 0 0,.slice none 0 0,.slice none 0 0] 43))).below' ((Below.refl _ _).drew.trans B6));have HR6:=hid ((Ac.new w5 #[.string ⟨#[]⟩,.int .i64 0,.int .i64 0,.int .i64 0,.string ⟨#[]⟩,.int .i64 0,.slice none 0 0,.slice none 0 0,.slice none 0 0] 43).below' ((Below.refl _ _).drew.trans B6));obtain⟨f0,f1,f2,f3,f4,f5,f6,f7,f8⟩:=HR6.out.thaw9;obtain⟨r0,r1,r2,r3,r4,r5,r6,r7,r8⟩:=HR6.out.nine;have g0:w6.cell? ⟨w.heap.size,0,none⟩=some (.string n.op):=HX6.out.cell 0 rfl;have g1:w6.cell? ⟨w.heap.size,1,none⟩=some (.string n.name):=HX6.out.cell 1 rfl;have g2:w6.cell? ⟨w.heap.size,2,none⟩=some (.slice a1 n.ins.length c1):=HX6.out.cell 2 rfl;have g3:w6.cell? ⟨w.heap.size,3,none⟩=some (.string n.out):=HX6.out.cell 3 rfl;have g4:w6.cell? ⟨w.heap.size,4,none⟩=some (.slice a2 n.attrs.length c2):=HX6.out.cell 4 rfl;have PT:Hid (∀v0 v1 v2 v3 v4 v5 v6 v7 v8 j v,w6.cell? ⟨w.heap.size,j,none⟩=some v→(EZ w6 w5.heap.size v0 v1 v2 v3 v4 v5 v6 v7 v8).cell? ⟨w.heap.size,j,none⟩=some v):=hid (fun v0 v1 v2 v3 v4 v5 v6 v7 v8 j v hv=>((Ck (Below.refl w5.heap.size w6) (Nat.le_refl _)).cell (p:=⟨w.heap.size,j,none⟩) HX5.out.lt).trans hv);clear B6)|(go_at_call 87;refine(hK.out _).mono ?_;rintro e w6⟨rfl,rfl⟩)|fail)
     ·have HB7:Hid (Below wa.heap.size wa (w6.alloc (Obj.cells #[.string a0.name,.int .i64 a0.kind,.int .i64 a0.f,.int .i64 a0.i,.string a0.s,.int .i64 a0.typ,.slice ad a0.dims.length cd,.slice ax a0.data.length cx,.slice ai a0.ints.length ci] 43))):=hid (HS6.out.alloc HS6.out.size _);generalize w6.alloc (Obj.cells #[.string a0.name,.int .i64 a0.kind,.int .i64 a0.f,.int .i64 a0.i,.string a0.s,.int .i64 a0.typ,.slice ad a0.dims.length cd,.slice ax a0.data.length cx,.slice ai a0.ints.length ci] 43)=W7 at HB7⊢;have HB8:=hid (HBr.out.trans (HB7.out.mono HBr.out.size));have HSF:=hid (fun W=>Tryz.strings_HasSuffix (BU s) ⟨#[42]⟩ W (by omega));clear HNA HX6 HB6 HS6 g0 g1 g2 g3 g4 HFi hix HX5 HB5 HS5 e0 e1 e2 e3 e4 hK HC;cases hsf:Lib.hasSuffix (BU s).data.toList [42]with
      | false=>
       have e:=hid (Kd (ats:=n.attrs) hsf);have HSG:Hid (∀W,Calls Tryz.prog 91 #[.string (BU s),.string ⟨#[42]⟩] W fun e w'=>e=.returned (.bool false)∧w'=W):=hid (fun W=>(HSF.out W).mono fun e w' h=>by rw[show(⟨#[42]⟩:ByteArray).data.toList=[42]from rfl,hsf]at h;exact h);clear HSF hsf;go_wp2_with (go_at_call 91;refine(HSG.out _).mono ?_;rintro e w8⟨rfl,rfl⟩)
       go_roundg (ws.length-(j+1))
       case measure=>omega
       case rel=>exact⟨j+1,by omega,by omega,by go_num,HB7,hid (hEq.out.trans (FB HS.out e.out))⟩
      | true=>
       have HSG:Hid (∀W,Calls Tryz.prog 91 #[.string (BU s),.string ⟨#[42]⟩] W fun e w'=>e=.returned (.bool true)∧w'=W):=hid (fun W=>(HSF.out W).mono fun e w' h=>by rw[show(⟨#[42]⟩:ByteArray).data.toList=[42]from rfl,hsf]at h;exact h);cases hfd:(Az n.attrs (Ev s) (Cc (Bo (BU s++(⟨#[32]⟩:ByteArray)) 0))).isSome with
       | false=>
        have e:=hid (LZ hsf hfd);clear HSF hsf hfd;go_wp2_with (go_at_call 91;refine(HSG.out _).mono ?_;rintro e w8⟨rfl,rfl⟩)
        go_ret
        exact⟨Ab (An (Ke hE0.out hEq.out HS.out e.out (by decide)).symm),HB8.out⟩
       | true=>
        have e:=hid (Jb hfd);clear HSF hsf hfd;go_wp2_with (go_at_call 91;refine(HSG.out _).mono ?_;rintro e w8⟨rfl,rfl⟩)
        go_roundg (ws.length-(j+1))
        case measure=>omega
        case rel=>exact⟨j+1,by omega,by omega,by go_num,HB7,hid (hEq.out.trans (FB HS.out e.out))⟩
     all_goals
      have HB7:Hid (Below wa.heap.size wa (((((((((w6.setCell ⟨w5.heap.size,0,none⟩ (.string a0.name)).setCell ⟨w5.heap.size,1,none⟩ (.int .i64 a0.kind)).setCell ⟨w5.heap.size,2,none⟩ (.int .i64 a0.f)).setCell ⟨w5.heap.size,3,none⟩ (.int .i64 a0.i)).setCell ⟨w5.heap.size,4,none⟩ (.string a0.s)).setCell ⟨w5.heap.size,5,none⟩ (.int .i64 a0.typ)).setCell ⟨w5.heap.size,6,none⟩ (.slice ad a0.dims.length cd)).setCell ⟨w5.heap.size,7,none⟩ (.slice ax a0.data.length cx)).setCell ⟨w5.heap.size,8,none⟩ (.slice ai a0.ints.length ci))):=hid (Ck HS6.out HS5.out.size);generalize (((((((((w6.setCell ⟨w5.heap.size,0,none⟩ (.string a0.name)).setCell ⟨w5.heap.size,1,none⟩ (.int .i64 a0.kind)).setCell ⟨w5.heap.size,2,none⟩ (.int .i64 a0.f)).setCell ⟨w5.heap.size,3,none⟩ (.int .i64 a0.i)).setCell ⟨w5.heap.size,4,none⟩ (.string a0.s)).setCell ⟨w5.heap.size,5,none⟩ (.int .i64 a0.typ)).setCell ⟨w5.heap.size,6,none⟩ (.slice ad a0.dims.length cd)).setCell ⟨w5.heap.size,7,none⟩ (.slice ax a0.data.length cx)).setCell ⟨w5.heap.size,8,none⟩ (.slice ai a0.ints.length ci))=W7 at HB7⊢;clear f0 f1 f2 f3 f4 f5 f6 f7 f8 r0 r1 r2 r3 r4 r5 r6 r7 r8 HR6 PT;have HB8:=hid (HBr.out.trans (HB7.out.mono HBr.out.size));have HSF:=hid (fun W=>Tryz.strings_HasSuffix (BU s) ⟨#[42]⟩ W (by omega));clear HNA HX6 HB6 HS6 g0 g1 g2 g3 g4 HFi hix HX5 HB5 HS5 e0 e1 e2 e3 e4 hK HC;cases hsf:Lib.hasSuffix (BU s).data.toList [42]with
      | false=>
       have e:=hid (Kd (ats:=n.attrs) hsf);have HSG:Hid (∀W,Calls Tryz.prog 91 #[.string (BU s),.string ⟨#[42]⟩] W fun e w'=>e=.returned (.bool false)∧w'=W):=hid (fun W=>(HSF.out W).mono fun e w' h=>by rw[show(⟨#[42]⟩:ByteArray).data.toList=[42]from rfl,hsf]at h;exact h);clear HSF hsf;go_wp2_with (go_at_call 91;refine(HSG.out _).mono ?_;rintro e w8⟨rfl,rfl⟩)
       go_roundg (ws.length-(j+1))
       case measure=>omega
       case rel=>exact⟨j+1,by omega,by omega,by go_num,HB7,hid (hEq.out.trans (FB HS.out e.out))⟩
      | true=>
       have HSG:Hid (∀W,Calls Tryz.prog 91 #[.string (BU s),.string ⟨#[42]⟩] W fun e w'=>e=.returned (.bool true)∧w'=W):=hid (fun W=>(HSF.out W).mono fun e w' h=>by rw[show(⟨#[42]⟩:ByteArray).data.toList=[42]from rfl,hsf]at h;exact h);cases hfd:(Az n.attrs (Ev s) (Cc (Bo (BU s++(⟨#[32]⟩:ByteArray)) 0))).isSome with
       | false=>
        have e:=hid (LZ hsf hfd);clear HSF hsf hfd;go_wp2_with (go_at_call 91;refine(HSG.out _).mono ?_;rintro e w8⟨rfl,rfl⟩)
        go_ret
        exact⟨Ab (An (Ke hE0.out hEq.out HS.out e.out (by decide)).symm),HB8.out⟩
       | true=>
        have e:=hid (Jb hfd);clear HSF hsf hfd;go_wp2_with (go_at_call 91;refine(HSG.out _).mono ?_;rintro e w8⟨rfl,rfl⟩)
        go_roundg (ws.length-(j+1))
        case measure=>omega
        case rel=>exact⟨j+1,by omega,by omega,by go_num,HB7,hid (hEq.out.trans (FB HS.out e.out))⟩
    ·have hji:¬(j:Int)<(ws.length:Int):=by omega
     have e:Hid (BW n.attrs ws=0):=hid (by rw[N2 hE0.out,hEq.out,show j=ws.length by omega];exact SP);go_wp2_with fail
     go_ret
     exact⟨Ab (An e.out.symm),HBr.out.trans (hBq.out.mono HBr.out.size)⟩
theorem SS{w:World}{v:Value}{n:Nd}(h:Ba w v n)(hG:Eu w)(rule:ByteArray)(hr:rule.size≤1000)(hgood:∀s∈Ca rule,N0 s) :
  Calls Tryz.prog 35 #[v,.string rule] w fun e w'=>e=.returned (.int .i64 (BW n.attrs (Ca rule)))∧Below w.heap.size w w':=
 Qg h hG rule hr _ (hid rfl) hgood
end
end Go.Proofs.YtkkeehnldcdccaaGreatDoor
