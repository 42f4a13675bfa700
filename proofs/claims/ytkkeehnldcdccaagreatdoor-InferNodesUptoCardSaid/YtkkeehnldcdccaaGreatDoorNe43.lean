import Derived.Test.YtkkeehnldcdccaaGreatDoorNe39
import Derived.Test.YtkkeehnldcdccaaGreatDoorNe42
set_option linter.unusedVariables false
set_option linter.unusedSimpArgs false
set_option maxRecDepth 100000
set_option maxHeartbeats 32000000
namespace Go.Proofs.YtkkeehnldcdccaaGreatDoor
open Go.RowKit
open Go.Lib (hid)
def Rw(s:ByteArray)(f:Fm):Bool:=
 decide (Ev s=f.name)&&decide (Lib.hasSuffix (BU s).data.toList [42]=f.must)&&decide (Cc (Bo (BU s++(⟨#[32]⟩:ByteArray)) 0)=f.kind)&&decide (Cc (Bo s (f.name.size+1))=f.kind)
  &&decide (s.data.toList=f.name.data.toList++32::s.data.toList.drop (f.name.data.toList.length+1))&&f.name.data.toList.all (fun x=>decide (x≠32))&&(s.data.toList.drop (f.name.data.toList.length+1)).all (fun x=>decide (x≠32))
structure TZ(s:ByteArray)(f:Fm):Prop where
 n:Ev s=f.name
 m:Lib.hasSuffix (BU s).data.toList [42]=f.must
 k:Cc (Bo (BU s++(⟨#[32]⟩:ByteArray)) 0)=f.kind
 l:Cc (Bo s (f.name.size+1))=f.kind
 t:s.data.toList=f.name.data.toList++32::s.data.toList.drop (f.name.data.toList.length+1)
 a:∀x∈f.name.data.toList,x≠32
 b:∀x∈s.data.toList.drop (f.name.data.toList.length+1),x≠32
theorem XL{s:ByteArray}{f:Fm}(h:Rw s f=true):TZ s f:=by
 unfold Rw at h;simp only[Bool.and_eq_true,decide_eq_true_eq,List.all_eq_true]at h;obtain⟨⟨⟨⟨⟨⟨h1,h2⟩,h3⟩,h4⟩,h5⟩,h6⟩,h7⟩:=h;exact⟨h1,h2,h3,h4,h5,h6,h7⟩
theorem Iw:∀(nm n r:List UInt8),(∀x∈n,x≠32)→(∀x∈r,x≠32)→(nm++[32])<+: (n++32::r)→nm=n
 | [],[],_,_,_,_=>rfl
 | [],x::n,r,hn,_,h=>by
  obtain⟨t,ht⟩:=h;simp only[List.nil_append,List.cons_append,List.cons.injEq]at ht;exact absurd ht.1.symm (hn x (by simp))
 | y::nm,[],r,_,hr,h=>by
  obtain⟨t,ht⟩:=h;simp only[List.cons_append,List.nil_append,List.cons.injEq]at ht;have:(32:UInt8)∈r:=by rw[←ht.2];simp
  exact absurd rfl (hr 32 this)
 | y::nm,x::n,r,hn,hr,h=>by
  obtain⟨t,ht⟩:=h;simp only[List.cons_append,List.cons.injEq]at ht;rw[Iw nm n r (fun z hz=>hn z (by simp[hz])) hr ⟨t,by simpa using ht.2⟩,ht.1]
theorem TZ.has{s:ByteArray}{f:Fm}(h:TZ s f)(nm:ByteArray):Fp nm s=decide (f.name=nm):=by
 unfold Fp Lib.hasPrefix;by_cases e:f.name=nm
 ·rw[decide_eq_true e,List.isPrefixOf_iff_prefix];refine⟨s.data.toList.drop (f.name.data.toList.length+1),?_⟩
  conv=>rhs;rw[h.t]
  rw[←e];simp
 ·rw[decide_eq_false e];cases hp:(nm.data.toList++[32]).isPrefixOf s.data.toList with
  | false=>rfl
  | true=>
   exfalso;have h2:=List.isPrefixOf_iff_prefix.1 hp;rw[h.t]at h2;exact e (Od (Iw _ _ _ h.a h.b h2)).symm
theorem T0(nm:ByteArray):Fp nm ⟨#[]⟩=false:=by
 unfold Fp Lib.hasPrefix;cases hp:(nm.data.toList++[32]).isPrefixOf (⟨#[]⟩:ByteArray).data.toList with
 | false=>rfl
 | true=>
  obtain⟨t,ht⟩:=List.isPrefixOf_iff_prefix.1 hp;have:=congrArg List.length ht;simp at this
theorem PL(A:List At):Dz A ⟨#[]⟩=0:=by
 unfold Dz;rw[if_neg];intro c;have:Lib.hasSuffix (BU ⟨#[]⟩).data.toList [42]=false:=by decide+kernel
 rw[this]at c;exact absurd c.1 (by decide)
theorem TZ.err{s:ByteArray}{f:Fm}(h:TZ s f)(A:List At):Dz A s=C5 A f:=by
 unfold Dz C5;rw[h.n,h.m,h.k]
def PM:List ByteArray→List Fm→Bool
 | [],[]=>true
 | [],_::_=>false
 | s::ws,[]=>decide (s=⟨#[]⟩)&&PM ws []
 | s::ws,f::t=>(decide (s=⟨#[]⟩)&&PM ws (f::t))||(Rw s f&&PM ws t)
inductive Gv:List ByteArray→List Fm→Prop
 | nil:Gv [] []
 | skip {ws:List ByteArray} {fs:List Fm} (h:Gv ws fs):Gv (⟨#[]⟩::ws) fs
 | word {s:ByteArray} {f:Fm} {ws:List ByteArray} {fs:List Fm} (w:TZ s f) (h:Gv ws fs):Gv (s::ws) (f::fs)
theorem JZ:∀ {ws:List ByteArray} {fs:List Fm},PM ws fs=true→Gv ws fs
 | [],[],_=>.nil
 | [],_::_,h=>by cases h
 | s::ws,[],h=>by
  unfold PM at h;rw[Bool.and_eq_true,decide_eq_true_eq]at h;obtain⟨rfl,h⟩:=h;exact .skip (JZ h)
 | s::ws,f::t,h=>by
  unfold PM at h;rw[Bool.or_eq_true,Bool.and_eq_true,Bool.and_eq_true,decide_eq_true_eq]at h;rcases h with⟨rfl,h⟩| ⟨h1,h2⟩
  ·exact .skip (JZ h)
  ·exact .word (XL h1) (JZ h2)
theorem Gv.find{ws:List ByteArray}{fs:List Fm}(h:Gv ws fs)(nm:ByteArray) :
  (ws.find? (Fp nm)=none∧∀f∈fs,f.name≠nm)∨∃s f,ws.find? (Fp nm)=some s∧f∈fs∧f.name=nm∧Cc (Bo s (nm.size+1))=f.kind:=by
 induction h with
 | nil=>exact .inl ⟨rfl,by simp⟩
 | skip h ih=>
  rw[List.find?_cons_of_neg (by rw[T0];decide)];exact ih
 | @word s f ws fs w h ih=>
  by_cases e:f.name=nm
  ·refine .inr ⟨s,f,?_,by simp,e,by rw[←e];exact w.l⟩;rw[List.find?_cons_of_pos];rw[w.has,decide_eq_true e]
  ·rw[List.find?_cons_of_neg (by rw[w.has,decide_eq_false e];decide)];rcases ih with⟨h1,h2⟩| ⟨s',f',h1,h2,h3,h4⟩
   ·refine .inl ⟨h1,fun g hg=>?_⟩;rcases List.mem_cons.1 hg with rfl|hg
    ·exact e
    ·exact h2 g hg
   ·exact .inr ⟨s',f',h1,List.mem_cons_of_mem _ h2,h3,h4⟩
theorem Gv.loop{ws:List ByteArray}{fs:List Fm}(h:Gv ws fs)(A:List At):DA A ws=CM A fs:=by
 induction h with
 | nil=>rfl
 | skip h ih=>unfold DA;rw[if_pos (PL A),ih]
 | word w h ih=>unfold DA CM;rw[w.err,ih]
theorem bX{fs:List Fm}(hn:(fs.map (·.name)).Nodup){f g:Fm}(hf:f∈fs)(hg:g∈fs)(e:f.name=g.name):f=g:=by
 induction fs with
 | nil=>cases hf
 | cons x t ih=>
  rw[List.map_cons,List.nodup_cons]at hn;rcases List.mem_cons.1 hf with h1|h1<;>rcases List.mem_cons.1 hg with h2|h2
  ·rw[h1,h2]
  ·exact absurd (by rw[←h1,e];exact List.mem_map_of_mem h2) hn.1
  ·exact absurd (by rw[←h2,←e];exact List.mem_map_of_mem h1) hn.1
  ·exact ih hn.2 h1 h2
theorem Gv.att{ws:List ByteArray}{fs:List Fm}(h:Gv ws fs)(hn:(fs.map (·.name)).Nodup)(A:List At)(i:Nat)(a:At):E9 ws A i a=DG fs A i a:=by
 unfold E9 DG;rcases h.find a.name with⟨h1,h2⟩| ⟨s,f,h1,h2,h3,h4⟩
 ·rw[h1];have c1:fs.any (C4 a)=false:=List.any_eq_false.2 fun g hg=>by simp[C4,h2 g hg]
  have c2:fs.any (DY a)=false:=List.any_eq_false.2 fun g hg=>by simp[DY,h2 g hg]
  simp[c1,c2]
 ·rw[h1];have c2:fs.any (DY a)=true:=List.any_eq_true.2 ⟨f,h2,by simp[DY,h3]⟩;by_cases hk:f.kind=a.kind
  ·have c1:fs.any (C4 a)=false:=List.any_eq_false.2 fun g hg=>by
    by_cases e:g.name=a.name
    ·have:=bX hn hg h2 (e.trans h3.symm);subst this;simp[C4,hk]
    ·simp[C4,e]
   simp[c1,c2,h4,hk]
  ·have c1:fs.any (C4 a)=true:=List.any_eq_true.2 ⟨f,h2,by simp[C4,h3,hk]⟩;simp[c1,h4,hk]
theorem Gv.atts{ws:List ByteArray}{fs:List Fm}(h:Gv ws fs)(hn:(fs.map (·.name)).Nodup)(A:List At):∀(l:List At) (k:Nat),CN ws A k l=Cm fs A k l
 | [],k=>rfl
 | a::t,k=>by unfold CN Cm;rw[h.att hn,h.atts hn A t]
theorem Gv.attrs{ws:List ByteArray}{fs:List Fm}(h:Gv ws fs)(hn:(fs.map (·.name)).Nodup)(A:List At):BW A ws=BP A fs:=by
 unfold BW BP;rw[h.atts hn,h.loop]
structure Yb(r:Dw)(o:aI):Prop where
 ok:o.ok=true
 least:o.least=r.least
 most:o.most=r.most
 PM:Gv (Ca (CU r)) (o.forms++[DX])
 nodup:((o.forms++[DX]).map (·.name)).Nodup
def NM(r:Dw)(o:aI):Bool:=o.ok&&decide (o.least=r.least)&&decide (o.most=r.most)&&PM (Ca (CU r)) (o.forms++[DX])&&decide (((o.forms++[DX]).map (·.name)).Nodup)
theorem PN{r:Dw}{o:aI}(h:NM r o=true):Yb r o:=by
 unfold NM at h;simp only[Bool.and_eq_true,decide_eq_true_eq]at h;obtain⟨⟨⟨⟨h1,h2⟩,h3⟩,h4⟩,h5⟩:=h;exact⟨h1,h2,h3,JZ h4,h5⟩
theorem T3:(ID.all fun p=>NM p.2 (Br ⟨p.1.toArray⟩))=true:=by decide+kernel
theorem T4:NM ⟨1,1,[]⟩ ⟨1,1,[],true⟩=true:=by decide+kernel
theorem XM{tab:List (List UInt8×Dw)}{op:ByteArray}{r:Dw}(h:Ee tab op=some r):(op.toList,r)∈tab:=by
 induction tab with
 | nil=>cases h
 | cons p t ih=>
  obtain⟨l,r2⟩:=p;unfold Ee at h;split at h
  ·next e=>cases h;rw[eq_of_beq e];exact List.mem_cons_self ..
  ·exact List.mem_cons_of_mem _ (ih h)
theorem Wm{tab:List (List UInt8×Dw)}{op:ByteArray}(h:Ee tab op=none):∀l∈tab.map Prod.fst,op.toList≠l:=by
 induction tab with
 | nil=>simp
 | cons p t ih=>
  obtain⟨l,r2⟩:=p;unfold Ee at h;split at h
  ·cases h
  ·next e=>
   intro x hx;rcases List.mem_cons.1 hx with rfl|hx
   ·simpa using e
   ·exact ih h x hx
theorem T5{tab:List (List UInt8×Int×Int×List Fm)}{op:ByteArray}(h:∀l∈tab.map Prod.fst,op.toList≠l):EK tab op=none:=by
 induction tab with
 | nil=>rfl
 | cons p t ih=>
  obtain⟨l,r2⟩:=p;rw[AL (by simpa using h l (by simp))];exact ih fun x hx=>h x (by simp[hx])
theorem Y9:((Ld.map Prod.fst++EJ.map (fun s:ByteArray=>s.toList)++[[71,108,111,98,97,108,65,118,101,114,97,103,101,80,111,111,108],[77,97,116,77,117,108]]).all fun l=>(ID.map Prod.fst).contains l)=true:=by decide+kernel
theorem T6{op:ByteArray}(h:Ee ID op=none)(h1:Cq op=false):(Br op).ok=false:=by
 have hx:∀l,l∈Ld.map Prod.fst++EJ.map (fun s:ByteArray=>s.toList)++[[71,108,111,98,97,108,65,118,101,114,97,103,101,80,111,111,108],[77,97,116,77,117,108]]→op.toList≠l:=fun l hl=>by
  have:=List.all_eq_true.1 Y9 l hl;exact Wm h l (by simpa using this)
 have hG:(op.toList==([71,108,111,98,97,108,65,118,101,114,97,103,101,80,111,111,108]:List UInt8))=false:=by simpa using hx _ (by simp)
 have hM:(op.toList==([77,97,116,77,117,108]:List UInt8))=false:=by simpa using hx _ (by simp)
 have h2:Cu EJ op=false:=by
  cases e:Cu EJ op with
  | false=>rfl
  | true=>exact absurd rfl (hx op.toList (by rw[List.mem_append,List.mem_append];exact .inl (.inr (List.mem_map_of_mem (Kg.1 e)))))
 have hL:EK Ld op=none:=T5 fun l hl=>hx l (by rw[List.mem_append,List.mem_append];exact .inl (.inl hl));rw[Ch.of ⟨h1,hG,h2,hM⟩,hL]
theorem Wn(op:ByteArray):(Br op).ok=(BR op).2∧((BR op).2=true→Yb (BR op).1 (Br op)):=by
 cases h:Ee ID op with
 | some r=>
  have hm:=XM h;have ha:=PN (List.all_eq_true.1 T3 _ hm);have e:(⟨op.toList.toArray⟩:ByteArray)=op:=(Qm (s:=op) (l:=op.toList) (by simp)).symm;rw[e]at ha;rw[NS h];exact⟨ha.ok,fun _=>ha⟩
 | none=>
  rw[LU h];cases h1:Cq op with
  | true=>
   have e:Br op=⟨1,1,[],true⟩:=by unfold Br;rw[if_pos (Or.inl h1)]
   rw[e];exact⟨rfl,fun _=>PN T4⟩
  | false=>exact⟨T6 h h1,fun c=>(by cases c)⟩
theorem Ll{A:List At}:∀ {fs:List Fm},CM A fs=0→∀f∈fs,C5 A f=0
 | [],_,f,hf=>by cases hf
 | g::t,h,f,hf=>by
  unfold CM at h;split at h
  ·next e=>
   rcases List.mem_cons.1 hf with rfl|hf
   ·exact e
   ·exact Ll h f hf
  ·next e=>exact absurd h e
theorem Rx{A:List At}{fs:List Fm}(h:BP A fs=0){f:Fm}(hf:f∈fs)(hm:f.must=true):(Az A f.name f.kind).isSome=true:=by
 unfold BP at h;split at h
 ·have:=Ll h f hf;unfold C5 at this;cases e:(Az A f.name f.kind).isSome with
  | true=>rfl
  | false=>rw[if_pos ⟨hm,e⟩]at this;cases this
 ·next e=>exact absurd h e
theorem PO:(Br ⟨#[67,111,110,115,116,97,110,116]⟩).forms=[⟨⟨#[118,97,108,117,101]⟩,4,true⟩]:=by kernel_rfl
theorem PP(n:Nd):EL n=AA n:=by
 obtain⟨h0,h1⟩:=Wn n.op;unfold EL AA;rw[h0];cases hok:(BR n.op).2 with
 | false=>rw[if_pos rfl,if_pos rfl]
 | true=>
  obtain⟨g1,g2,g3,g4,g5⟩:=h1 hok;rw[if_neg (show ¬(true=false) by decide),if_neg (show ¬(true=false) by decide),g2,g3,g4.attrs g5];by_cases c1:(n.ins.length:Int)<(BR n.op).1.least
  ·rw[if_pos c1,if_pos c1]
  rw[if_neg c1,if_neg c1];by_cases c2:(BR n.op).1.most <(n.ins.length:Int)
  ·rw[if_pos c2,if_pos c2]
  rw[if_neg c2,if_neg c2];by_cases c3:n.out=⟨#[]⟩
  ·rw[if_pos c3,if_pos c3]
  rw[if_neg c3,if_neg c3];by_cases c4:Cu n.ins ⟨#[]⟩=true
  ·rw[if_pos c4,if_pos c4]
  rw[if_neg c4,if_neg c4];by_cases c5:BP n.attrs ((Br n.op).forms++[DX])≠0
  ·rw[if_pos c5,if_pos c5]
  rw[if_neg c5,if_neg c5];by_cases c6:(AU n.attrs).2≠0
  ·rw[if_pos c6,if_pos c6]
  rw[if_neg c6,if_neg c6];cases hf:Az n.attrs ⟨#[118,97,108,117,101]⟩ 4 with
  | some a=>rfl
  | none=>
   by_cases c7:n.op=⟨#[67,111,110,115,116,97,110,116]⟩
   ·exfalso;have h:=Rx (A:=n.attrs) (fs:=(Br n.op).forms++[DX]) (by simpa using c5) (f:=⟨⟨#[118,97,108,117,101]⟩,4,true⟩) (by rw[c7,PO];simp) rfl;rw[hf]at h;cases h
   ·rw[if_neg c7]
section
theorem DQ{fn:Func}{R:Ending→World→Prop}{a:Act}{W:World}{b p u:Nat}{v0 v1 v2:Value}{c:Int}(hr:fn.results=#[.cell p 31,.tmp u])(hb:Ac W b #[v0,v1,v2] 31)
  (hp:a.tmps.getD p undef=.pointer (some ⟨b,0,none⟩)) (hu:a.tmps.getD u undef=.int .i64 c) (hd:a.defers=[]) (h:R (.returned (.tuple #[.agg #[v0,v1,v2],.int .i64 c])) W):bodyPost Tryz.prog fn R .ret a W:=by
 refine bodyPost_ret ?_ hd h;have c0:=hb.cell 0 rfl;have c1:=hb.cell 1 rfl;have c2:=hb.cell 2 rfl;rw[results_cell_tmp hr,hp,hu];simp[go_sem,c0,c1,c2]
theorem Wo{w:World}{B b:Nat}{v v0 v1 v2:Value}{zs:List Int}(h:Ag w B v zs)(hb:b<B):Ag (Ef w b v0 v1 v2) B v zs:=by
 unfold Ag at h⊢;exact ownsRow_setCell_below (ownsRow_setCell_below (ownsRow_setCell_below h (a:=⟨b,0,none⟩) hb v0) (a:=⟨b,1,none⟩) hb v1) (a:=⟨b,2,none⟩) hb v2
theorem Wp:∀r∈VC,(r.1=[67,97,115,116]↔r.2.1=5):=by decide+kernel
theorem Wq{n:Nd}(h:AA n=0):n.op.toList=[67,97,115,116]↔AC n.op.toList=5:=by
 obtain⟨r,hr,ho,-,-⟩:=K9 h;rw[ho,(Sl r hr).1];exact Wp r hr
theorem XN{n:Nd}{ins:List Vl}(h5:AC n.op.toList≠5):(Bt n ins).1=0∨(Bt n ins).1=4:=by
 unfold Bt;split
 all_goals first
  | exact Or.inl rfl
  | (rename_i e;exact absurd e h5)
  | (unfold CH;split<;>simp)
  | (unfold Fc;split<;>simp)
  | (unfold Dg;split<;>simp)
  | (unfold IT;split<;>simp)
  | (unfold DF;split<;>simp)
  | (unfold Dh;split<;>simp)
  | (unfold Hh;split<;>simp)
theorem XO{t:Int}(h:Cz t 0=true):¬t=0:=by
 intro e;subst e;exact absurd h (by decide)
theorem Za{n:Nd}{ins:List Vl}(hc:AA n=0)(hl:ins.length=n.ins.length)(hi:CP ins=0)(h5:AC n.op.toList≠5):(Hq n ins=0∧(Bt n ins).1=4)∨(¬Hq n ins=0∧(Bt n ins).1=0∧Hq n ins=(Bt n ins).2):=by
 unfold Hq;rw[if_neg h5];rcases XN (ins:=ins) h5 with h|h
 ·rw[if_pos h];exact Or.inr ⟨XO (Mw hc hl hi h),h,rfl⟩
 ·rw[if_neg (by omega)];exact Or.inl ⟨rfl,h⟩
theorem XP{n:Nd}{ins:List Vl}(h5:AC n.op.toList=5):Hq n ins=1∧Bt n ins=JK (AH n.attrs JL 0):=by
 constructor
 ·unfold Hq;rw[if_pos h5]
 ·unfold Bt;rw[h5];rfl
attribute [local irreducible] AH Af A9 Bt Hq AC Ag CP AA EL AU FO AK Cz Fl.un
theorem Wr{w:World}{v vv:Value}{n:Nd}{ins:List Vl}(h:Ba w v n)(hs:BJ 3 AM w vv ins)(hax:(Af n.attrs AF []).length *8+48≤140737488351232) :
  Calls Tryz.prog 7 #[v,vv] w fun e w'=>Dx w n (BL n ins) e w':=by
 have hz:=C7 (nm:=JL) (other:=0) h Ij;have E1:=hid (fun h=>show BL n ins=(AA n,0,[])from He h);have E2:=hid (fun h g=>show BL n ins=(4,0,[])from KM h g);have E3:=hid (fun h g k=>show BL n ins=(CP ins,0,[])from Il h g k);have E4:=hid (fun h g k t=>show BL n ins=((Bt n ins).1,0,[])from Im h g k t);have E5:=hid (fun h g k t d=>show BL n ins=((A9 n ins).1,0,[])from IS h g k t d);have E6:=hid (fun h g k t d c=>show BL n ins=((AK (A9 n ins).2).2,0,[])from KN h g k t d c);have E7:=hid (fun h g k t d c f=>show BL n ins=(4,0,[])from KO h g k t d c f);have E8:=hid (fun h g k t d c f=>show BL n ins=(0,(Bt n ins).2,(A9 n ins).2)from M9 h g k t d c f);have hnl:n.ins.length*16≤140737488351232:=by
  obtain⟨_,_,rfl,hn⟩:=h;exact hn.is.len
 obtain⟨a1,c1,a2,c2,rfl,HN⟩:=Cr h;obtain⟨a3,c3,rfl⟩:=hs.form;have hsl:=hs.len;have HS:=hid hs;have HAx:=hid hax;have HZ:=hid hz;clear h hs hax hz;go_enter Tryz.func7,Tryz.ntmps7
 go_wp2_with fail
 generalize hW1:w.alloc _=W1;obtain⟨HB1,HF,HN⟩:=HN.out W1 hW1;have hs1:W1.heap.size=w.heap.size+1:=by rw[←hW1];simp
 clear hW1;have D1:Hid (Ac (W1.alloc (Obj.cells #[.string ⟨#[]⟩,.int .i64 0,.slice none 0 0] 31)) (w.heap.size+1) #[.string ⟨#[]⟩,.int .i64 0,.slice none 0 0] 31):=hid (by rw[←hs1];exact Ac.new _ _ _);have HW2:=hid ((Below.refl W1.heap.size W1).alloc (Nat.le_refl _) (Obj.cells #[.string ⟨#[]⟩,.int .i64 0,.slice none 0 0] 31));generalize W1.alloc _=W2 at D1 HW2⊢;refine(Rv (HN.out _ HW2.out)).mono ?_;rintro e w3⟨rfl,B3⟩;rw[PP];have D1:=hid (D1.out.below' B3);have HW3:=hid (HW2.out.trans (B3.mono HW2.out.size));have HB3:=hid (HB1.out.trans (HW3.out.mono HB1.out.size));clear B3 HW2;have k0:=D1.out.cell 0 rfl;have k1:=D1.out.cell 1 rfl;have k2:=D1.out.cell 2 rfl;have z0:=D1.out.frozen 0;have z1:=D1.out.frozen 1;have z2:=D1.out.frozen 2;by_cases hc:AA n=0
 case neg=>
  have E:=hid (E1.out hc);have HC:=hid hc;have hb:(AA n != 0)=true:=by simpa using hc
  clear hc;go_wp2_with fail
  exact DQ rfl (D1.out.put3 _ _ _) rfl rfl rfl (Dx.no E.out HC.out (Bp HB3.out (by omega)))
 rw[hc];have HC:=hid hc;obtain⟨f0,f1,f2,f3,f4⟩:=HF.out _ HW3.out;clear E1;by_cases hl:ins.length=n.ins.length
 case neg=>
  have E:=hid (E2.out hc hl);have hb:((ins.length:Int) != (n.ins.length:Int))=true:=by simp;omega
  have hb2:¬(ins.length:Int)=(n.ins.length:Int):=by omega
  clear hl hc;go_wp2_with fail
  exact DQ rfl (D1.out.put3 _ _ _) rfl rfl rfl (Dx.no E.out (by decide) (Bp HB3.out (by omega)))
 have HL:=hid hl;have hb2:(ins.length:Int)=(n.ins.length:Int):=by omega
 clear hl hc E2;go_wp2_with fail
 clear hb2 f0 f1 f2 f3 f4 k0 k1 k2 z0 z1 z2;go_loopw [7] (fun i wr=>∃(k:Nat),k≤ins.length∧i=.int .i64 (k:Int)∧Hid (CP ins=CP (ins.drop k))∧Hid (Below w3.heap.size w3 wr)) (fun i _=>ins.length-(intOf i).toNat)
 case atStart=>exact⟨0,Nat.zero_le _,rfl,hid (by rw[List.drop_zero]),hid (Below.refl _ _)⟩
 case round=>
  obtain⟨k,hk,rfl,hI,hW⟩:=hrel;have D1:=hid (D1.out.below' hW.out);have HBr:=hid (HB3.out.trans (hW.out.mono HB3.out.size));have k0:=D1.out.cell 0 rfl;have k1:=D1.out.cell 1 rfl;have k2:=D1.out.cell 2 rfl;have z0:=D1.out.frozen 0;have z1:=D1.out.frozen 1;have z2:=D1.out.frozen 2;by_cases hkl:k<ins.length
  ·have hki:(k:Int)<(ins.length:Int):=by omega
   obtain⟨u,hu⟩:∃u,ins[k]?=some u:=⟨_,List.getElem?_eq_getElem hkl⟩;obtain⟨bi,oi,cc,vd,hv,gi,-,g1,g2,-,-,hd⟩:=Bm HS.out hu;obtain⟨e1,-,-⟩:=Value.slice.inj hv;subst e1;have g1:=(HBr.out.cell gi).trans g1;have g2:=(HBr.out.cell gi).trans g2;have HD:=hid (hd.below HBr.out);have hn5:=hid (fun h=>hI.out.trans (OO hu h));have hnd:=hid (fun h g=>hI.out.trans (OP hu h g));have hnn:=hid (fun h g=>hI.out.trans (OQ hu h g));clear hu hv hd;go_wp2_with fail
   refine(Ho u.typ wr).mono ?_;rintro e w4⟨rfl,rfl⟩;by_cases ht:Cz u.typ 0=true
   case neg=>
    have ht:Cz u.typ 0=false:=by simpa using ht
    have h5:=hn5.out ht;have E:=hid (E3.out HC.out HL.out (by rw[h5];decide));rw[h5]at E;rw[ht];clear hn5 hnd hnn h5 ht;go_wp2_with fail
    exact DQ rfl (D1.out.put3 _ _ _) rfl rfl rfl (Dx.no E.out (by decide) (Bp HBr.out (by omega)))
   rw[ht];have hnd:=hid (hnd.out ht);have hnn:=hid (hnn.out ht);clear hn5 ht;go_wp2_with fail
   refine(Cj HD.out).mono ?_;rintro e w5⟨rfl,rfl⟩;generalize (AK u.dims).1=q1 at*;by_cases hz:(AK u.dims).2=0
   case neg=>
    have h5:=hnd.out hz;have E:=hid (E3.out HC.out HL.out (by rw[h5];exact hz));rw[h5]at E;have HZz:=hid hz;have hb:((AK u.dims).2 != 0)=true:=by simpa using hz
    clear hnd hnn h5 hz;go_wp2_with fail
    exact DQ rfl (D1.out.put3 _ _ _) rfl rfl rfl (Dx.no E.out HZz.out (Bp HBr.out (by omega)))
   have G:=hid (hnn.out hz);rw[hz];clear hnd hnn hz;go_wp2_with fail
   go_roundw
   case rel=>exact⟨k+1,by omega,by go_num,G,hW⟩
   case measure=>simp[intOf];omega
  ·have hki:¬(k:Int)<(ins.length:Int):=by omega
   have HI:=hid (hI.out.trans (RR hkl));have HWr:=hid (HW3.out.trans (hW.out.mono HW3.out.size));have HSm:=hid (VE HI.out);obtain⟨f0,f1,f2,f3,f4⟩:=HF.out _ HWr.out;clear E3 hI hkl;go_wp2_with fail
   refine(Rf (HN.out _ HWr.out) (HS.out.below (AZ HBr.out) HBr.out) HC.out HL.out).mono ?_;rintro e w4⟨rfl,B4⟩;have D1:=hid (D1.out.below' B4);have HW4:=hid (HWr.out.trans (B4.mono HWr.out.size));have HB4:=hid (HBr.out.trans (B4.mono HBr.out.size));clear B4 k0 k1 k2 z0 z1 z2 f0 f1 f2 f3 f4;obtain⟨f0,f1,f2,f3,f4⟩:=HF.out _ HW4.out;have k0:=D1.out.cell 0 rfl;have k1:=D1.out.cell 1 rfl;have k2:=D1.out.cell 2 rfl;have z0:=D1.out.frozen 0;have z1:=D1.out.frozen 1;have z2:=D1.out.frozen 2;have HCi:=hid (Wq HC.out);obtain⟨T,HT⟩:∃T,Hid ((Bt n ins).2=T):=⟨_,hid rfl⟩;have E7:=hid (fun h0 d c f=>E7.out HC.out HL.out HI.out h0 d c (by rw[HT.out];exact f));have E8:=hid (fun h0 d c f=>(E8.out HC.out HL.out HI.out h0 d c (by rw[HT.out];exact f)).trans (by rw[HT.out]));by_cases h5:AC n.op.toList=5
   case' pos=>
    have hop:=HCi.out.2 h5;obtain⟨hr,hty⟩:=XP (ins:=ins) h5;rw[hr];clear h5 hr HCi;go_wp2_with fail
    refine(DD (HN.out _ HW4.out) JL 0).mono ?_;rintro e w5⟨rfl,B5⟩;have D1:=hid (D1.out.below' B5);have HW5:=hid (HW4.out.trans (B5.mono HW4.out.size));have HB5:=hid (HB4.out.trans (B5.mono HB4.out.size));clear B5 k0 k1 k2 z0 z1 z2 f0 f1 f2 f3 f4;obtain⟨f0,f1,f2,f3,f4⟩:=HF.out _ HW5.out;have k0:=D1.out.cell 0 rfl;have k1:=D1.out.cell 1 rfl;have k2:=D1.out.cell 2 rfl;have z0:=D1.out.frozen 0;have z1:=D1.out.frozen 1;have z2:=D1.out.frozen 2;obtain⟨z,hze⟩:∃z,AH n.attrs JL 0=z:=⟨_,rfl⟩;have hz:=HZ.out;rw[hze]at hz hty⊢;obtain⟨y0,y1⟩:=hz;clear hze;go_wp2_with fail
    refine(Ho z w5).mono ?_;rintro e w6⟨rfl,rfl⟩;rcases(show Cz z 0=false∨Cz z 0=true by cases Cz z 0<;>simp)with ht|ht
    ·have hk:=RT (by rw[←Ir];exact ht);have E:=hid (E4.out HC.out HL.out HI.out (by rw[hty,hk];decide));have E:Hid (BL n ins=(5,0,[])):=hid (by rw[E.out,hty,hk]);rw[ht];clear hty hk ht;go_wp2_with fail
     exact DQ rfl (D1.out.put3 _ _ _) rfl rfl rfl (Dx.no E.out (by decide) (Bp HB5.out (by omega)))
    have hk:=OY (by rw[←Ir];exact ht);have H0:Hid ((Bt n ins).1=0):=hid (by rw[hty,hk]);obtain rfl:T=z:=by have:=HT.out;rw[hty,hk]at this;exact this.symm
    rw[ht];clear hty hk ht;go_wp2_with fail
   case' neg=>
    have hop:(n.op.toList==[67,97,115,116])=false:=by simpa using fun e=>h5 (HCi.out.1 e)
    rcases Za HC.out HL.out HI.out h5 with⟨hr,h4⟩| ⟨hr,h0,hr2⟩
    ·have E:=hid (E4.out HC.out HL.out HI.out (by rw[h4];decide));rw[h4]at E;rw[hr];clear hr h4 h5;go_wp2_with fail
     exact DQ rfl (D1.out.put3 _ _ _) rfl rfl rfl (Dx.no E.out (by decide) (Bp HB4.out (by omega)))
    have H0:=hid h0;have hr2:Hq n ins=T:=hr2.trans HT.out;rw[hr2]at hr⊢;have HB5:=HB4;have HW5:=HW4;clear hr2 h0 h5 HCi;go_wp2_with fail
   all_goals
    refine(TU (HN.out _ HW5.out) (HS.out.below (AZ HB5.out) HB5.out) HC.out HL.out HSm.out HAx.out).mono ?_;rintro e w6 h6;obtain⟨a6,k6,c6,rfl,B6,I6⟩:=h6.form;have D1:=hid (D1.out.below' B6.out);have HW6:=hid (HW5.out.trans (B6.out.mono HW5.out.size));have HB6:=hid (HB5.out.trans (B6.out.mono HB5.out.size));clear h6 B6 k0 k1 k2 z0 z1 z2 f0 f1 f2 f3 f4;obtain⟨f0,f1,f2,f3,f4⟩:=HF.out _ HW6.out;have k0:=D1.out.cell 0 rfl;have k1:=D1.out.cell 1 rfl;have k2:=D1.out.cell 2 rfl;have z0:=D1.out.frozen 0;have z1:=D1.out.frozen 1;have z2:=D1.out.frozen 2;rcases Decidable.em ((A9 n ins).1=0)with hd|hd
    rotate_left
    ·have E:=hid (E5.out HC.out HL.out HI.out H0.out hd);have Q:=hid hd;have hb:((A9 n ins).1 != 0)=true:=by simpa using hd
     clear hd;go_wp2_with fail
     exact DQ rfl (D1.out.put3 _ _ _) rfl rfl rfl (Dx.no E.out Q.out (Bp HB6.out (by omega)))
    obtain⟨rfl,J6⟩:=I6.out hd;have J6:=hid J6;have HDs:=hid hd;rw[hd];clear hd I6;go_wp2_with fail
    refine(Cj J6.out).mono ?_;rintro e w7⟨rfl,rfl⟩;generalize (AK (A9 n ins).2).1=q1 at*;rcases Decidable.em ((AK (A9 n ins).2).2=0)with hd|hd
    rotate_left
    ·have E:=hid (E6.out HC.out HL.out HI.out H0.out HDs.out hd);have Q:=hid hd;have hb:((AK (A9 n ins).2).2 != 0)=true:=by simpa using hd
     clear hd;go_wp2_with fail
     exact DQ rfl (D1.out.put3 _ _ _) rfl rfl rfl (Dx.no E.out Q.out (Bp HB6.out (by omega)))
    have E7:=hid (E7.out H0.out HDs.out hd);have E8:=hid (E8.out H0.out HDs.out hd);rw[hd];clear hd;go_wp2_with fail
    refine(MJ (HN.out _ HW6.out)).mono ?_;rintro e w8⟨B8,v8,rfl,S8⟩;obtain⟨a8,c8,rfl⟩:=S8.form;have hl8:=S8.len;have D1:=hid (D1.out.below' B8);have HW8:=hid (HW6.out.trans (B8.mono HW6.out.size));have HB8:=hid (HB6.out.trans (B8.mono HB6.out.size));have J8:=hid (J6.out.below B8);have S8:=hid S8;clear B8 k0 k1 k2 z0 z1 z2 f0 f1 f2 f3 f4;go_wp2_with fail
    go_loopw [16] (fun i wr=>∃(k:Nat),k≤(AU n.attrs).1.length∧i=.int .i64 (k:Int)∧Hid (FO ((AU n.attrs).1.take k) T=true)∧Hid (Below w8.heap.size w8 wr)) (fun i _=>(AU n.attrs).1.length -(intOf i).toNat)
    case atStart=>exact⟨0,Nat.zero_le _,rfl,hid (by rw[List.take_zero];unfold FO;rfl),hid (Below.refl _ _)⟩
    case round=>
     obtain⟨k,hk,rfl,hF,hW⟩:=hrel;have D1:=hid (D1.out.below' hW.out);have HBr:=hid (HB8.out.trans (hW.out.mono HB8.out.size));have HWr:=hid (HW8.out.trans (hW.out.mono HW8.out.size));have k0:=D1.out.cell 0 rfl;have k1:=D1.out.cell 1 rfl;have k2:=D1.out.cell 2 rfl;have z0:=D1.out.frozen 0;have z1:=D1.out.frozen 1;have z2:=D1.out.frozen 2;by_cases hkl:k<(AU n.attrs).1.length
     ·have hki:(k:Int)<((AU n.attrs).1.length:Int):=by omega
      obtain⟨s,hsk⟩:∃s,(AU n.attrs).1[k]?=some s:=⟨_,List.getElem?_eq_getElem hkl⟩;obtain⟨b,o,cc,hv,gb,hr⟩:=S8.out.rows k s hsk;obtain⟨e1,-,-⟩:=Value.slice.inj hv;subst e1;have us:=(hW.out.cell gb).trans (hr k s hsk);have HBad:=hid (fun h=>E7.out (RQ (t:=T) hsk h));have HNxt:=hid (fun h=>OM (t:=T) hsk h hF.out);clear hsk hv hr;go_wp2_with fail
      refine(Nm.Sv s T _).mono ?_;rintro e w9⟨y,rfl,G⟩;have B9:Below wr.heap.size wr w9:=G;have D1:=hid (D1.out.below' B9);have HB9:=hid (HBr.out.trans (B9.mono HBr.out.size));have HW9:=hid (hW.out.trans (B9.mono hW.out.size));clear G B9 us k0 k1 k2 z0 z1 z2;have k0:=D1.out.cell 0 rfl;have k1:=D1.out.cell 1 rfl;have k2:=D1.out.cell 2 rfl;have z0:=D1.out.frozen 0;have z1:=D1.out.frozen 1;have z2:=D1.out.frozen 2;obtain⟨q,hq⟩:∃q,(Fl.un s.toList T 0).2=q:=⟨_,rfl⟩;rw[hq]at HBad HNxt⊢;clear hq;by_cases hq:q=0
      ·have F:=hid (HNxt.out hq);rw[hq];clear HBad HNxt;go_wp2_with fail
       go_roundw
       case rel=>exact⟨k+1,by omega,by go_num,F,HW9⟩
       case measure=>simp[intOf];omega
      ·have E:=hid (HBad.out hq);have hb:(q != 0)=true:=by simpa using hq
       clear HBad HNxt hq;go_wp2_with fail
       exact DQ rfl (D1.out.put3 _ _ _) rfl rfl rfl (Dx.no E.out (by decide) (Bp HB9.out (by omega)))
     ·have hki:¬(k:Int)<((AU n.attrs).1.length:Int):=by omega
      have E:=hid (E8.out (by have:=hF.out;rwa [List.take_of_length_le (by omega)]at this));have J9:=hid (J8.out.below hW.out);have D1':=D1;clear E7 E8 k0 k1 k2 z0 z1 z2;go_wp2_with fail
      refine Ae 6 [0,1,2,3,4,5] (fun W'=>Below wr.heap.size wr W') (by kernel_rfl) (by kernel_rfl) (fun _ d _ _ _ h=>by cases d<;>exact h) (Below.refl _ _).drew ?_;have BD:Hid (Below wr.heap.size wr wr.drew):=hid (Below.refl _ _).drew;have HFw:Hid (∀W,Below wr.heap.size wr W→Below W1.heap.size W1 W):=hid fun W h=>HWr.out.trans (h.mono HWr.out.size);generalize wr.drew=wD at BD⊢
      repeat
       refine Ah (v:=?_) rfl rfl (Or.inl ⟨by rfl,?_⟩) ?_;rotate_left
       ·intro W' hSw;obtain⟨f0,f1,f2,f3,f4⟩:=HF.out _ (HFw.out _ hSw);go_simp
        try with_reducible rfl
       try simp only[Act.put,List.getElem_toArray,List.getElem_cons_zero,List.getElem_cons_succ,List.setIfInBounds_toArray,List.set_cons_zero,List.set_cons_succ]
      refine Av rfl rfl (fun K' hK=>?_);go_simp
      refine(Fx (J9.out.below BD.out)).mono ?_;rintro e wc⟨vc,rfl,hrc,Bc⟩;have hR:Ag wc wD.heap.size vc (A9 n ins).2:=by unfold Ag;exact hrc
      obtain⟨ac,cc,rfl⟩:=hR.form;have HR:=hid hR;have BC:=hid (BD.out.trans (Bc.mono BD.out.size));refine hK.out _ _ BC.out ?_;clear hK K' hrc Bc hR
      repeat
       refine Ah (v:=?_) rfl rfl (Or.inl ⟨by rfl,?_⟩) ?_;rotate_left
       ·intro W' hSw;go_simp
        try with_reducible rfl
       try simp only[Act.put,List.getElem_toArray,List.getElem_cons_zero,List.getElem_cons_succ,List.setIfInBounds_toArray,List.set_cons_zero,List.set_cons_succ]
      refine Aq rfl ?_;simp only[List.toList_toArray,List.drop_succ_cons,List.drop_zero];have D1:=hid (D1.out.below' BC.out);have HBc:=hid (HBr.out.trans (BC.out.mono HBr.out.size));have hlt:w.heap.size+1<wD.heap.size:=Nat.lt_of_lt_of_le D1'.out.lt BD.out.size;have k0:=D1.out.cell 0 rfl;have k1:=D1.out.cell 1 rfl;have k2:=D1.out.cell 2 rfl;have z0:=D1.out.frozen 0;have z1:=D1.out.frozen 1;have z2:=D1.out.frozen 2;go_wp2_with fail
      exact DQ rfl (D1.out.put3 _ _ _) rfl rfl rfl (Dx.yes E.out (Bp HBc.out (by omega)) ((Wo HR.out hlt).base (by omega)))
end
end Go.Proofs.YtkkeehnldcdccaaGreatDoor
