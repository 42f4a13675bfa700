import Derived.Test.YtkkeehnldcdccaaGreatDoorNe38
import Derived.Test.YtkkeehnldcdccaaGreatDoorNe41
set_option linter.unusedVariables false
set_option linter.unusedSimpArgs false
set_option maxRecDepth 100000
set_option maxHeartbeats 4000000
namespace Go.Proofs.YtkkeehnldcdccaaGreatDoor
open Go.RowKit
open Go.Lib (hid)
theorem I3(s:ByteArray):s.data.toList.length=s.size:=Array.length_toList
theorem Iv{l:List UInt8}{i:Nat}(h:i<l.length):l.getD i 0=l[i]:=by simp[List.getD,List.getElem?_eq_getElem h]
theorem MH(s:ByteArray):s.data.toList.drop s.size=[]:=by rw[←I3,List.drop_length]
def pre(done:List ByteArray):List UInt8:=done.flatMap fun x=>x.data.toList++[44]
theorem Wg(done:List ByteArray)(p:ByteArray):pre (done++[p])=pre done++(p.data.toList++[44]):=by
 simp[pre]
theorem Hr{a:List UInt8}{l:List (List UInt8)}(h:l≠[]):Fq (a::l)=a++44::Fq l:=by
 cases l with
 | nil=>exact absurd rfl h
 | cons b t=>rfl
theorem Li:∀(done:List ByteArray) (r:List (List UInt8)),r≠[]→Fq (done.map (·.data.toList)++r)=pre done++Fq r
 | [],r,h=>by simp[pre]
 | a::t,r,h=>by
  rw[List.map_cons,List.cons_append,Hr (by simp[h]),Li t r h];simp[pre]
theorem PJ:∀L:List UInt8,∃rs:List (List UInt8),rs≠[]∧(∀x∈rs,Oc x)∧Fq rs=L
 | []=>⟨[[]],by simp,by simp[Oc],rfl⟩
 | c::L=>by
  obtain⟨rs,h0,h1,h2⟩:=PJ L;cases rs with
  | nil=>exact absurd rfl h0
  | cons r t=>
   by_cases hc:c=44
   ·refine⟨[]::r::t,by simp,?_,?_⟩
    ·intro x hx;rcases List.mem_cons.1 hx with rfl|hx
     ·simp[Oc]
     ·exact h1 x hx
    ·rw[Hr (by simp),h2,hc];rfl
   ·refine⟨(c::r)::t,by simp,?_,?_⟩
    ·intro x hx;rcases List.mem_cons.1 hx with rfl|hx
     ·intro y hy;rcases List.mem_cons.1 hy with rfl|hy
      ·exact hc
      ·exact h1 r (by simp) y hy
     ·exact h1 x (by simp[hx])
    ·rw[←h2];cases t with
     | nil=>rfl
     | cons b t=>rfl
def Wh(l:List UInt8):ByteArray:=⟨l.toArray⟩
theorem MI(l:List UInt8):(Wh l).data.toList=l:=by simp[Wh]
theorem Wi(rs:List (List UInt8)):(rs.map Wh).map (·.data.toList)=rs:=by
 rw[List.map_map];have:((fun x:ByteArray=>x.data.toList) ∘ Wh)=id:=funext fun l=>MI l;rw[this,List.map_id]
theorem Lj{s:ByteArray}{done:List ByteArray}{p:ByteArray}{r:List UInt8}(hd:∀x∈done,Oc x.data.toList)(hp:Oc p.data.toList)(hs:s.data.toList=pre done++(p.data.toList++r))(hr:r=[]∨∃t,r=44::t) :
  ∃tl,Ct s=done++p::tl∧(r=[]→tl=[]):=by
 rcases hr with rfl| ⟨t,rfl⟩
 ·refine⟨[],Jc (by simp) ?_ ?_,fun _=>rfl⟩
  ·intro x hx;rcases List.mem_append.1 hx with hx|hx
   ·exact hd x hx
   ·obtain rfl:x=p:=by simpa using hx
    exact hp
  ·rw[hs,List.map_append,Li _ _ (by simp)];simp[Fq]
 ·obtain⟨rs,h0,h1,h2⟩:=PJ t;refine⟨rs.map Wh,Jc (by simp) ?_ ?_,fun h=>(by cases h)⟩
  ·intro x hx;rcases List.mem_append.1 hx with hx|hx
   ·exact hd x hx
   ·rcases List.mem_cons.1 hx with rfl|hx
    ·exact hp
    ·obtain⟨y,hy,rfl⟩:=List.mem_map.1 hx;rw[MI];exact h1 y hy
  ·rw[hs,List.map_append,Li _ _ (by simp),List.map_cons,Wi,Hr h0,h2]
theorem LN{ats:List At}{a:At}(hf:Az ats ⟨#[116,104,101,110]⟩ 3=some a){done:List ByteArray}{p:ByteArray}{r:List UInt8}(hd:∀x∈done,Oc x.data.toList)(hp:Oc p.data.toList)(hs:a.s.data.toList=pre done++(p.data.toList++r))(hr:r=[]∨∃t,r=44::t)
  (ho:Cq p=false):AU ats=([],4):=by
 obtain⟨tl,e,_⟩:=Lj hd hp hs hr;exact LW hf (by rw[e];exact List.any_eq_true.2 ⟨p,by simp,by simp[ho]⟩)
theorem Lk{ats:List At}{a:At}(hf:Az ats ⟨#[116,104,101,110]⟩ 3=some a){done:List ByteArray}{p:ByteArray}(hd:∀x∈done,Oc x.data.toList)(h1:∀x∈done,Cq x=true)(hp:Oc p.data.toList)(hs:a.s.data.toList=pre done++p.data.toList)
  (ho:Cq p=true):AU ats=(done++[p],0):=by
 obtain⟨tl,e,g⟩:=Lj (r:=[]) hd hp (by simpa using hs) (Or.inl rfl);rw[g rfl]at e;rw[Kb hf (by
  rw[e,List.any_eq_false];intro x hx;rcases List.mem_append.1 hx with hx|hx
  ·simp[h1 x hx]
  ·obtain rfl:x=p:=by simpa using hx
   simp[ho]),e]
structure Eb(s:ByteArray)(F k:Nat)(done:List ByteArray):Prop where
 hF:F≤k
 hk:k≤s.size
 hpre:s.data.toList.take F=pre done
 hno:∀i,F≤i→i<k→s.data.toList.getD i 0≠44
 hd:∀x∈done,Oc x.data.toList
 h1:∀x∈done,Cq x=true
theorem Eb.start(s:ByteArray):Eb s 0 0 []:=⟨Nat.le_refl _,Nat.zero_le _,rfl,fun i _ h=>by omega,by simp,by simp⟩
theorem Eb.next{s:ByteArray}{F k:Nat}{done:List ByteArray}(h:Eb s F k done)(hk:k<s.size)(hc:s.data.toList.getD k 0≠44):Eb s F (k+1) done:=
 ⟨Nat.le_trans h.hF (Nat.le_succ _),hk,h.hpre,fun i h1 h2=>by
  by_cases e:i=k
  ·subst e;exact hc
  ·exact h.hno i h1 (by omega),h.hd,h.h1⟩
def Hs(s:ByteArray)(F k:Nat):ByteArray:=s.extract F k
theorem I8{s:ByteArray}{F k:Nat}:(Hs s F k).data.toList=(s.data.toList.drop F).take (k-F):=by
 unfold Hs;rw[ByteArray.data_extract,Array.toList_extract,List.extract_eq_take_drop]
theorem Eb.noC{s:ByteArray}{F k:Nat}{done:List ByteArray}(h:Eb s F k done):Oc (Hs s F k).data.toList:=by
 rw[I8];intro x hx;obtain⟨i,hi,rfl⟩:=List.mem_iff_getElem.1 hx;have hl:i<k-F:=by simp at hi;omega
 have:=h.hno (F+i) (by omega) (by omega);have hs:F+i<s.data.toList.length:=by rw[I3];have:=h.hk;omega
 rw[Iv hs]at this
 simpa using this
theorem Eb.text{s:ByteArray}{F k:Nat}{done:List ByteArray}(h:Eb s F k done):s.data.toList=pre done++((Hs s F k).data.toList++s.data.toList.drop k):=by
 have e:=h.hF;rw[I8,←h.hpre]
 conv=>lhs;rw[←List.take_append_drop F s.data.toList]
 congr 1
 conv=>lhs;rw[←List.take_append_drop (k-F) (s.data.toList.drop F)]
 rw[List.drop_drop,show F+(k-F)=k by omega]
theorem Eb.tail{s:ByteArray}{F k:Nat}{done:List ByteArray}(h:Eb s F k done)(hc:k=s.size∨(k<s.size∧s.data.toList.getD k 0=44)):s.data.toList.drop k=[]∨∃t,s.data.toList.drop k=44::t:=by
 rcases hc with rfl| ⟨h1,h2⟩
 ·left;exact MH s
 ·right;have hs:k<s.data.toList.length:=by rw[I3];exact h1
  rw[Iv hs]at h2;exact⟨_,by rw[List.drop_eq_getElem_cons hs,h2]⟩
theorem Eb.bad{ats:List At}{a:At}(hf:Az ats ⟨#[116,104,101,110]⟩ 3=some a){F k:Nat}{done:List ByteArray}(h:Eb a.s F k done)(hc:k=a.s.size∨(k<a.s.size∧a.s.data.toList.getD k 0=44))(ho:Cq (Hs a.s F k)=false):AU ats=([],4):=
 LN hf h.hd h.noC h.text (h.tail hc) ho
theorem Eb.comma{s:ByteArray}{F k:Nat}{done:List ByteArray}(h:Eb s F k done)(hk:k<s.size)(hc:s.data.toList.getD k 0=44)(ho:Cq (Hs s F k)=true):Eb s (k+1) (k+1) (done++[Hs s F k]):=by
 have hs:k<s.data.toList.length:=by rw[I3];exact hk
 rw[Iv hs]at hc;refine⟨Nat.le_refl _,hk,?_,fun i h1 h2=>by omega,?_,?_⟩
 ·rw[Wg,List.take_succ_eq_append_getElem hs,hc,←List.append_assoc]
  congr 1
  have:=h.text;rw[←List.append_assoc]at this;have e:(pre done++(Hs s F k).data.toList).length=k:=by
   have l1:(pre done).length=F:=by rw[←h.hpre,List.length_take];have:=h.hF;omega
   have l2:(Hs s F k).data.toList.length=k-F:=by rw[I8,List.length_take,List.length_drop];omega
   rw[List.length_append,l1,l2];have:=h.hF;omega
  rw[this,List.take_append_of_le_length (by omega)];exact List.take_of_length_le (by omega)
 ·intro x hx;rcases List.mem_append.1 hx with hx|hx
  ·exact h.hd x hx
  ·obtain rfl:x=Hs s F k:=by simpa using hx
   exact h.noC
 ·intro x hx;rcases List.mem_append.1 hx with hx|hx
  ·exact h.h1 x hx
  ·obtain rfl:x=Hs s F k:=by simpa using hx
   exact ho
theorem Eb.good{ats:List At}{a:At}(hf:Az ats ⟨#[116,104,101,110]⟩ 3=some a){F:Nat}{done:List ByteArray}(h:Eb a.s F a.s.size done)(ho:Cq (Hs a.s F a.s.size)=true):AU ats=(done++[Hs a.s F a.s.size],0):=
 Lk hf h.hd h.h1 h.noC (by
  have:=h.text
  rwa [MH,List.append_nil]at this) ho
theorem Eb.good'{ats:List At}{a:At}(hf:Az ats ⟨#[116,104,101,110]⟩ 3=some a){F k:Nat}{done:List ByteArray}(h:Eb a.s F k done)(hk:k=a.s.size)(ho:Cq (Hs a.s F k)=true):AU ats=(done++[Hs a.s F k],0):=by
 subst hk;exact h.good hf ho
theorem XJ{s:ByteArray}{k:Nat}(h:k<s.size)(hc:s.data.toList.getD k 0=44):(((s[k]'h).toNat:Int) != 44)=false:=by
 have hs:k<s.data.toList.length:=by rw[I3];exact h
 rw[Iv hs]at hc;have:s[k]'h=44:=hc;rw[this];rfl
theorem XK{s:ByteArray}{k:Nat}(h:k<s.size)(hc:s.data.toList.getD k 0≠44):(((s[k]'h).toNat:Int) != 44)=true:=by
 have hs:k<s.data.toList.length:=by rw[I3];exact h
 rw[Iv hs]at hc;have h1:s[k]'h≠44:=hc;have h2:(s[k]'h).toNat≠44:=fun e=>h1 (UInt8.toNat_inj.1 e);simp only[bne_iff_ne,ne_eq];omega
section
attribute [local irreducible] AU Ct Az Cq
theorem MJ{w:World}{v:Value}{n:Nd}(h:Ba w v n) :
  Calls Tryz.prog 29 #[v] w fun e w'=>Below w.heap.size w w'∧∃v',e=.returned (.tuple #[v',.int .i64 (AU n.attrs).2])∧Bi w' v' (AU n.attrs).1:=by
 obtain⟨i0,hi,hz0,hz1,hz2⟩:=info_parts Jd;obtain⟨vin,vat,rfl,hn⟩:=h;obtain⟨a1,c1,rfl⟩:=hn.is.form;obtain⟨a2,c2,rfl⟩:=hn.ia.form;have HN:=hid hn;clear hn;unfold Nd.val;go_enter Tryz.func29,Tryz.ntmps29
 go_wp2_with fail
 have hB1:Hid (Below w.heap.size w (w.alloc (Obj.cells #[Value.string n.op,Value.string n.name,Value.slice a1 n.ins.length c1,Value.string n.out,Value.slice a2 n.attrs.length c2] 25))):=hid ((Below.refl _ w).alloc (Nat.le_refl _) _);generalize w.alloc _=W1 at hB1⊢;have HC:=hid (GB ⟨_,_,rfl,HN.out.below hB1.out⟩ ⟨#[116,104,101,110]⟩ 3);unfold Nd.val at HC;cases hfa:Az n.attrs ⟨#[116,104,101,110]⟩ 3 with
 | none=>
  rw[hfa]at HC;have HT:=hid (Ka hfa);clear hfa;refine HC.out.mono ?_;rintro e w5⟨B5,va,rfl,vd,vx,vi,rfl,hna⟩;obtain⟨ad,cd,rfl⟩:=hna.id.shape;obtain⟨ax,cx,rfl⟩:=hna.ix.shape;obtain⟨ai,ci,rfl⟩:=hna.ii.shape;have HB5:=hid (hB1.out.trans (B5.mono hB1.out.size));simp only[Option.isSome_none,Option.getD_none];unfold At.val;clear hna B5 HC hB1;go_wp2_with fail
  go_ret2
  rw[HT.out];exact⟨HB5.out.alloc HB5.out.size _,_,rfl,.empty _ _⟩
 | some a=>
  rw[hfa]at HC;have HT:=hid hfa;clear hfa;refine HC.out.mono ?_;rintro e w5⟨B5,va,rfl,vd,vx,vi,rfl,hna⟩;simp only[Option.isSome_some,Option.getD_some]at hna⊢;obtain⟨ad,cd,rfl⟩:=hna.id.shape;obtain⟨ax,cx,rfl⟩:=hna.ix.shape;obtain⟨ai,ci,rfl⟩:=hna.ii.shape;have hzs:=hna.zs;have HB5:=hid (hB1.out.trans (B5.mono hB1.out.size));unfold At.val;clear hna B5 HC hB1;go_wp2_with fail
  have HX:=hid (Ac.new w5 #[.string a.name,.int .i64 a.kind,.int .i64 a.f,.int .i64 a.i,.string a.s,.int .i64 a.typ,.slice ad a.dims.length cd,.slice ax a.data.length cx,.slice ai a.ints.length ci] 43);have HB6:Hid (Below w.heap.size w (w5.alloc (.cells #[.string a.name,.int .i64 a.kind,.int .i64 a.f,.int .i64 a.i,.string a.s,.int .i64 a.typ,.slice ad a.dims.length cd,.slice ax a.data.length cx,.slice ai a.ints.length ci] 43))):=hid (HB5.out.alloc HB5.out.size _);generalize w5.alloc _=W6 at HX HB6⊢;clear HB5;generalize w5.heap.size=B at HX⊢;generalize hsz:a.s.size=sz at hzs;have HSZ:=hid hsz;clear hsz;go_loopw [6,7,8] (fun ov fv iv wr=>∃(done:List ByteArray) (F k pl:Nat),iv=.int .i64 (k:Int)∧fv=.int .i64 (F:Int)∧pl≤k∧k≤sz+1∧Hid (done.length=pl)∧Hid (wr.ownsRow W6.heap.size 9 1 ov pl (done.map Value.string))∧Hid (Below W6.heap.size W6 wr)∧F≤k∧Hid ((k≤sz∧Eb a.s F k done)∨(k=sz+1∧AU n.attrs=(done,0)))) (fun _ _ iv _=>sz+1-(intOf iv).toNat)
  case atStart=>exact⟨[],0,0,0,rfl,rfl,Nat.le_refl _,Nat.zero_le _,hid rfl,hid (World.ownsRow_nil _ _ _ _),hid (Below.refl _ _),Nat.le_refl _,hid (Or.inl ⟨Nat.zero_le _,Eb.start _⟩)⟩
  case round=>
   obtain⟨done,F,k,pl,rfl,rfl,hpl,hk,hPL,hown,hB,hFk,hSt⟩:=hrel;have k4:wr.cell? ⟨B,4,none⟩=some (.string a.s):=(HX.out.below' hB.out).cell 4 rfl;have hsz:=HSZ.out;by_cases hle:k≤sz
   ·have hS:Eb a.s F k done:=by
     rcases hSt.out with⟨_,h⟩| ⟨h,_⟩
     ·exact h
     ·omega
    have HSC:=hid hS;have hki:(k:Int)≤(a.s.size:Int):=by omega
    clear hS hSt;by_cases hlt:k<sz
    ·have hkl:(k:Int)<(a.s.size:Int):=by omega
     have hks:k<a.s.size:=by omega
     by_cases hc:a.s.data.toList.getD k 0=44
     ·have hcb:=XJ hks hc;have HCC:=hid hc;clear hc;go_wp2_with fail
      refine(AO _ _).mono ?_;rintro e w3⟨rfl,B3⟩;have hB3:=hid (hB.out.trans (B3.mono hB.out.size));have hown3:=hid (AJ hown.out B3);have k4':w3.cell? ⟨B,4,none⟩=some (.string a.s):=(HX.out.below' hB3.out).cell 4 rfl;clear B3 hB hown k4;cases ho:Cq (a.s.extract F k)with
      | false=>
       have HT2:=hid (HSC.out.bad HT.out (Or.inr ⟨by omega,HCC.out⟩) ho);clear ho;go_wp2
       go_ret2
       rw[HT2.out];exact⟨HB6.out.trans (hB3.out.mono HB6.out.size),_,rfl,.empty _ _⟩
      | true=>
       have HO:=hid ho;clear ho;go_wp2_with (at_builtin;refine wpList_append_own _ rfl _ _ 22 rfl W6.heap.size 9 i0 (.string ⟨#[]⟩) 1 16 Tryz.underlying22 hi hz0 hz1 hz2 rfl (by decide) _ _ _ rfl (hown3.out.alloc _) ⟨w3.heap.size,0,none⟩ 1 1 (#[.string (a.s.extract F k)]:Array Value).toList rfl rfl (World.news_of_block (heap_alloc_new w3 _)) (by simp[Value.oneCell']) ?A3 ?A4 ?A5 ?_)
       case A3=>unfold maxLen;omega
       case A4=>omega
       case A5=>have:=hB3.out.size;simp;omega
       intro v' w4 hown' hgrow _;have hb4:Hid (Below W6.heap.size W6 w4):=hid ((hB3.out.alloc hB3.out.size _).grown hgrow (by have:=hB3.out.size;simp;omega) fun g hg=>(hown3.out.lt g hg).1);have ho4:Hid (w4.ownsRow W6.heap.size 9 1 v' (pl+1) ((done++[a.s.extract F k]).map Value.string)):=hid (by rw[List.map_append];exact hown');have hl4:Hid ((done++[a.s.extract F k]).length=pl+1):=hid (by rw[List.length_append,hPL.out];rfl);have hst4:Hid ((k+1≤sz∧Eb a.s (k+1) (k+1) (done++[a.s.extract F k]))∨(k+1=sz+1∧AU n.attrs=(done++[a.s.extract F k],0))):=hid (Or.inl ⟨by omega,HSC.out.comma (by omega) HCC.out HO.out⟩);clear hown' hgrow hown3 hB3;go_wp2_with fail
       go_roundw
       case rel=>exact⟨_,k+1,k+1,pl+1,by go_num,by go_num,by omega,by omega,hl4,ho4,hb4,Nat.le_refl _,hst4⟩
       case measure=>simp[intOf];omega
     ·have hcb:=XK hks hc;have HSN:=hid (HSC.out.next hks hc);clear hc;go_wp2_with fail
      go_roundw
      case rel=>exact⟨done,F,k+1,pl,by go_num,rfl,by omega,by omega,hPL,hown,hB,by omega,hid (Or.inl ⟨by omega,HSN.out⟩)⟩
      case measure=>simp[intOf];omega
    ·have hkl:¬(k:Int)<(a.s.size:Int):=by omega
     go_wp2_with fail
     refine(AO _ _).mono ?_;rintro e w3⟨rfl,B3⟩;have hB3:=hid (hB.out.trans (B3.mono hB.out.size));have hown3:=hid (AJ hown.out B3);have k4':w3.cell? ⟨B,4,none⟩=some (.string a.s):=(HX.out.below' hB3.out).cell 4 rfl;clear B3 hB hown k4;cases ho:Cq (a.s.extract F k)with
     | false=>
      have HT2:=hid (HSC.out.bad HT.out (Or.inl (by omega)) ho);clear ho;go_wp2
      go_ret2
      rw[HT2.out];exact⟨HB6.out.trans (hB3.out.mono HB6.out.size),_,rfl,.empty _ _⟩
     | true=>
      have HO:=hid ho;clear ho;go_wp2_with (at_builtin;refine wpList_append_own _ rfl _ _ 22 rfl W6.heap.size 9 i0 (.string ⟨#[]⟩) 1 16 Tryz.underlying22 hi hz0 hz1 hz2 rfl (by decide) _ _ _ rfl (hown3.out.alloc _) ⟨w3.heap.size,0,none⟩ 1 1 (#[.string (a.s.extract F k)]:Array Value).toList rfl rfl (World.news_of_block (heap_alloc_new w3 _)) (by simp[Value.oneCell']) ?B3 ?B4 ?B5 ?_)
      case B3=>unfold maxLen;omega
      case B4=>omega
      case B5=>have:=hB3.out.size;simp;omega
      intro v' w4 hown' hgrow _;have hb4:Hid (Below W6.heap.size W6 w4):=hid ((hB3.out.alloc hB3.out.size _).grown hgrow (by have:=hB3.out.size;simp;omega) fun g hg=>(hown3.out.lt g hg).1);have ho4:Hid (w4.ownsRow W6.heap.size 9 1 v' (pl+1) ((done++[a.s.extract F k]).map Value.string)):=hid (by rw[List.map_append];exact hown');have hl4:Hid ((done++[a.s.extract F k]).length=pl+1):=hid (by rw[List.length_append,hPL.out];rfl);have hst4:Hid ((k+1≤sz∧Eb a.s (k+1) (k+1) (done++[a.s.extract F k]))∨(k+1=sz+1∧AU n.attrs=(done++[a.s.extract F k],0))):=hid (Or.inr ⟨by omega,HSC.out.good' HT.out (by omega) HO.out⟩);clear hown' hgrow hown3 hB3;go_wp2_with fail
      go_roundw
      case rel=>exact⟨_,k+1,k+1,pl+1,by go_num,by go_num,by omega,by omega,hl4,ho4,hb4,Nat.le_refl _,hst4⟩
      case measure=>simp[intOf];omega
   ·have hki:¬(k:Int)≤(a.s.size:Int):=by omega
    have hE:=hSt.out;rcases hE with⟨h,_⟩| ⟨_,h⟩
    ·omega
    ·have HT2:=hid h;have HS2:Hid (Bi wr u6 done):=hid (Bi.own hown.out hPL.out (by omega));clear h hSt;go_wp2_with fail
     go_ret2
     rw[HT2.out];exact⟨HB6.out.trans (hB.out.mono HB6.out.size),_,rfl,HS2.out⟩
end
section
def EL(n:Nd):Int:=
 if(Br n.op).ok=false then 5
 else if(n.ins.length:Int)<(Br n.op).least then 4
 else if(Br n.op).most <(n.ins.length:Int)then 4
 else if n.out=⟨#[]⟩then 5
 else if Cu n.ins ⟨#[]⟩=true then 5
 else if BP n.attrs ((Br n.op).forms++[DX])≠0 then BP n.attrs ((Br n.op).forms++[DX])
 else if(AU n.attrs).2≠0 then(AU n.attrs).2
 else if n.op=⟨#[67,111,110,115,116,97,110,116]⟩then JT ((Az n.attrs ⟨#[118,97,108,117,101]⟩ 4).getD At.zero).typ ((Az n.attrs ⟨#[118,97,108,117,101]⟩ 4).getD At.zero).dims ((Az n.attrs ⟨#[118,97,108,117,101]⟩ 4).getD At.zero).data
 else 0
section
variable {n:Nd}
theorem TW(h:(Br n.op).ok=false):EL n=5:=by unfold EL;rw[if_pos h]
theorem Rs(h:(Br n.op).ok=true)(g:(n.ins.length:Int)<(Br n.op).least):EL n=4:=by unfold EL;rw[if_neg (by rw[h];decide),if_pos g]
theorem TX(h:(Br n.op).ok=true)(g:¬(n.ins.length:Int)<(Br n.op).least)(m:(Br n.op).most <(n.ins.length:Int)):EL n=4:=by unfold EL;rw[if_neg (by rw[h];decide),if_neg g,if_pos m]
structure Sy(n:Nd):Prop where
 h:(Br n.op).ok=true
 g:¬(n.ins.length:Int)<(Br n.op).least
 m:¬(Br n.op).most <(n.ins.length:Int)
theorem Wj(h:Sy n)(o:n.out=⟨#[]⟩):EL n=5:=by unfold EL;rw[if_neg (by rw[h.h];decide),if_neg h.g,if_neg h.m,if_pos o]
theorem Wk(h:Sy n)(o:¬n.out=⟨#[]⟩)(i:Cu n.ins ⟨#[]⟩=true):EL n=5:=by unfold EL;rw[if_neg (by rw[h.h];decide),if_neg h.g,if_neg h.m,if_neg o,if_pos i]
structure PK(n:Nd):Prop extends Sy n where
 o:¬n.out=⟨#[]⟩
 i:Cu n.ins ⟨#[]⟩=false
theorem Rt(h:PK n)(a:BP n.attrs ((Br n.op).forms++[DX])≠0):EL n=BP n.attrs ((Br n.op).forms++[DX]):=by
 unfold EL;rw[if_neg (by rw[h.h];decide),if_neg h.g,if_neg h.m,if_neg h.o,if_neg (by rw[h.i];decide),if_pos a]
theorem TY(h:PK n)(a:BP n.attrs ((Br n.op).forms++[DX])=0)(t:(AU n.attrs).2≠0):EL n=(AU n.attrs).2:=by
 unfold EL;rw[if_neg (by rw[h.h];decide),if_neg h.g,if_neg h.m,if_neg h.o,if_neg (by rw[h.i];decide),if_neg (fun c=>c a),if_pos t]
theorem Ru(h:PK n)(a:BP n.attrs ((Br n.op).forms++[DX])=0)(t:(AU n.attrs).2=0)(c:n.op=⟨#[67,111,110,115,116,97,110,116]⟩) :
  EL n=JT ((Az n.attrs ⟨#[118,97,108,117,101]⟩ 4).getD At.zero).typ ((Az n.attrs ⟨#[118,97,108,117,101]⟩ 4).getD At.zero).dims ((Az n.attrs ⟨#[118,97,108,117,101]⟩ 4).getD At.zero).data:=by
 unfold EL;rw[if_neg (by rw[h.h];decide),if_neg h.g,if_neg h.m,if_neg h.o,if_neg (by rw[h.i];decide),if_neg (fun c=>c a),if_neg (fun c=>c t),if_pos c]
theorem Wl(h:PK n)(a:BP n.attrs ((Br n.op).forms++[DX])=0)(t:(AU n.attrs).2=0)(c:¬n.op=⟨#[67,111,110,115,116,97,110,116]⟩):EL n=0:=by
 unfold EL;rw[if_neg (by rw[h.h];decide),if_neg h.g,if_neg h.m,if_neg h.o,if_neg (by rw[h.i];decide),if_neg (fun c=>c a),if_neg (fun c=>c t),if_neg c]
end
attribute [local irreducible] Br BP AU Az JT Cu EL
theorem Rv{w:World}{v:Value}{n:Nd}(h:Ba w v n) :
  Calls Tryz.prog 23 #[v] w fun e w'=>e=.returned (.int .i64 (EL n))∧Below w.heap.size w w':=by
 obtain⟨vin,vat,rfl,hn⟩:=h;obtain⟨a1,c1,rfl⟩:=hn.is.form;obtain⟨a2,c2,rfl⟩:=hn.ia.form;have hil:=hn.is.len;have HN:=hid hn;clear hn;unfold Nd.val;go_enter Tryz.func23,Tryz.ntmps23
 go_wp2_with fail
 have hB1:Hid (Below w.heap.size w (w.alloc (Obj.cells #[Value.string n.op,Value.string n.name,Value.slice a1 n.ins.length c1,Value.string n.out,Value.slice a2 n.attrs.length c2] 25))):=hid ((Below.refl _ w).alloc (Nat.le_refl _) _);have hA1:=hid (Ac.new w #[Value.string n.op,Value.string n.name,Value.slice a1 n.ins.length c1,Value.string n.out,Value.slice a2 n.attrs.length c2] 25);generalize w.alloc _=W1 at hB1 hA1⊢;refine(XI n.op _).mono ?_;rintro e w2⟨B2,vf,rfl,hf⟩;have HF:=hid hf;obtain⟨ao,rfl,hx1,hx2,hx3⟩:=hf.parts;clear hx1 hx2 hx3;have HB2:=hid (hB1.out.trans (B2.mono hB1.out.size));have HA2:=hid (hA1.out.below' B2);obtain⟨k0,k1,k2,k3,k4⟩:=HA2.out.five;clear hf B2 hB1 hA1;cases hok:(Br n.op).ok with
 | false=>
  have HR:=hid (TW hok);clear hok;go_wp2
  go_ret
  exact⟨Ab (congrArg (Value.int .i64) HR.out).symm,HB2.out⟩
 | true=>
  have HOK:=hid hok;clear hok;by_cases hl:(n.ins.length:Int)<(Br n.op).least
  ·have HR:=hid (Rs HOK.out hl);go_wp2
   go_ret
   exact⟨Ab (congrArg (Value.int .i64) HR.out).symm,HB2.out⟩
  ·by_cases hm:(Br n.op).most <(n.ins.length:Int)
   ·have HR:=hid (TX HOK.out hl hm);go_wp2
    go_ret
    exact⟨Ab (congrArg (Value.int .i64) HR.out).symm,HB2.out⟩
   ·have HFR:Hid (Sy n):=hid ⟨HOK.out,hl,hm⟩;cases ho:(n.out.toList==([]:List UInt8))with
    | true=>
     have HR:=hid (Wj HFR.out (Ob ho));go_wp2
     go_ret
     exact⟨Ab (congrArg (Value.int .i64) HR.out).symm,HB2.out⟩
    | false=>
     have HO:=hid (L4 ho);go_wp2_with fail
     refine(Hn (HN.out.is.below HB2.out) _).mono ?_;rintro e w3⟨rfl,rfl⟩;cases hi:Cu n.ins ⟨#[]⟩with
     | true=>
      have HR:=hid (Wk HFR.out HO.out hi);clear hi;go_wp2
      go_ret
      exact⟨Ab (congrArg (Value.int .i64) HR.out).symm,HB2.out⟩
     | false=>
      have HFS:Hid (PK n):=hid { HFR.out with o:=HO.out,i:=hi };clear hi;go_wp2_with fail
      refine(Rr ⟨_,_,rfl,HN.out.below HB2.out⟩ HF.out).mono ?_;rintro e w4⟨rfl,B4⟩;have HB4:=hid (HB2.out.trans (B4.mono HB2.out.size));have HA4:=hid (HA2.out.below' B4);clear k0 k1 k2 k3 k4 B4 HA2 HF;obtain⟨k0,k1,k2,k3,k4⟩:=HA4.out.five;generalize hre:BP n.attrs ((Br n.op).forms++[DX])=re;have HRE:=hid hre;clear hre;by_cases he:re=0
      ·have heb:(re != 0)=false:=by simpa using he
       have HEZ:=hid (HRE.out.trans he);clear he;go_wp2_with fail
       refine(MJ ⟨_,_,rfl,HN.out.below HB4.out⟩).mono ?_;rintro e w5⟨B5,vt,rfl,-⟩;have HB5:=hid (HB4.out.trans (B5.mono HB4.out.size));have HA5:=hid (HA4.out.below' B5);clear k0 k1 k2 k3 k4 B5 HA4;obtain⟨k0,k1,k2,k3,k4⟩:=HA5.out.five;generalize hte:(AU n.attrs).2=te;have HTE:=hid hte;clear hte;by_cases ht:te=0
       ·have htb:(te==0)=true:=by simpa using ht
        have HTZ:=hid (HTE.out.trans ht);clear ht;cases hcb:(n.op.toList==([67,111,110,115,116,97,110,116]:List UInt8))with
        | true=>
         have HR:=hid (Ru HFS.out HEZ.out HTZ.out (Qm hcb));go_wp2_with fail
         refine(Hp ⟨_,_,rfl,HN.out.below HB5.out⟩).mono ?_;rintro e w6⟨B6,vd,vx,rfl,hvd,hvx⟩;have HB6:=hid (HB5.out.trans (B6.mono HB5.out.size));clear B6;go_wp2_with fail
         refine(XA _ _ _ hvd hvx).mono ?_;rintro e w7⟨rfl,B7⟩;have HB7:=hid (HB6.out.trans (B7.mono HB6.out.size));clear B7 hvd hvx;go_wp2
         go_ret
         exact⟨Ab (congrArg (Value.int .i64) HR.out).symm,HB7.out⟩
        | false=>
         have HR:=hid (Wl HFS.out HEZ.out HTZ.out (Up hcb));go_wp2
         go_ret
         exact⟨Ab (congrArg (Value.int .i64) (HR.out.trans (HTZ.out.symm.trans HTE.out))).symm,HB5.out⟩
       ·have htb:(te==0)=false:=by simpa using ht
        have HR:=hid ((TY HFS.out HEZ.out (by rw[HTE.out];exact ht)).trans HTE.out);clear ht;go_wp2
        go_ret
        exact⟨Ab (congrArg (Value.int .i64) HR.out).symm,HB5.out⟩
      ·have heb:(re != 0)=true:=by simpa using he
       have HR:=hid ((Rt HFS.out (by rw[HRE.out];exact he)).trans HRE.out);clear he;go_wp2
       go_ret
       exact⟨Ab (congrArg (Value.int .i64) HR.out).symm,HB4.out⟩
end
def Y8(n:Nd):Int:=
 match Az n.attrs ⟨#[118,97,108,117,101]⟩ 4 with
 | none=>0
 | some a=>if n.op=⟨#[67,111,110,115,116,97,110,116]⟩then JT a.typ a.dims a.data else 0
structure cV(n:Nd):Prop where
 ok:(BR n.op).2=true
 least:¬(n.ins.length:Int)<(BR n.op).1.least
 most:¬(BR n.op).1.most <(n.ins.length:Int)
 out:¬n.out=⟨#[]⟩
 ins:¬Cu n.ins ⟨#[]⟩=true
 att:BW n.attrs (Ca (CU (BR n.op).1))=0
 thn:(AU n.attrs).2=0
 val:Y8 n=0
end Go.Proofs.YtkkeehnldcdccaaGreatDoor
