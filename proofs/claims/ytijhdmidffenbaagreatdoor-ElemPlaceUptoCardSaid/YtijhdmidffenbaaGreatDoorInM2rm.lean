import Derived.Test.YtijhdmidffenbaaGreatDoorSchPrm
import Derived.Test.YtijhdmidffenbaaGreatDoorVxMrm
import Derived.Test.YtijhdmidffenbaaGreatDoorGrArm
import Derived.Test.YtijhdmidffenbaaGreatDoorFlMrm
import Derived.Test.YtijhdmidffenbaaGreatDoorInM1rm
import Derived.Test.YtijhdmidffenbaaGreatDoorNmM2rm
import Derived.Test.YtijhdmidffenbaaGreatDoorRegrm
import Derived.BigQuiet
import Derived.Deep.QuietTactic
import Derived.Defers
import Derived.Recover
import Derived.Test.YtijhdmidffenbaaGreatDoorSchQrm
open Go.Lib (hid)
set_option linter.unusedVariables false
set_option linter.unusedSimpArgs false
namespace Go.Proofs.YtijhdmidffenbaaGreatDoor
section
open Go.RowKit
def inpE:List Vl→Int
 | []=>0
 | x :: l=>if chk x.typ 0=false then 5 else if (cnt x.dims).2≠0 then (cnt x.dims).2 else inpE l
def folB (l:List ByteArray) (t:Int):Bool:=l.all fun op=>decide ((Fl.un op.toList t 0).2=0)
def restP (n:Nd) (ty:Int × Int) (ds:Int × List Int):Int × Int × List Int :=
 if ty.1≠0 then (ty.1,0,[])
 else if ds.1≠0 then (ds.1,0,[])
 else if (cnt ds.2).2≠0 then ((cnt ds.2).2,0,[])
 else if folB (thenE n.attrs).1 ty.2=false then (4,0,[])
 else (0,ty.2,ds.2)
def outP (n:Nd) (ins:List Vl) (ty:Int × Int) (ds:Int × List Int):Int × Int × List Int :=
 if checkP n≠0 then (checkP n,0,[])
 else if ins.length≠n.ins.length then (4,0,[])
 else if inpE ins≠0 then (inpE ins,0,[])
 else restP n ty ds
theorem outP_rest {n:Nd} {ins:List Vl} {ty:Int × Int} {ds:Int × List Int} (h:checkP n=0) (g:ins.length=n.ins.length) (k:inpE ins=0):outP n ins ty ds=restP n ty ds:=by
 unfold outP;rw [if_neg (fun c=>c h),if_neg (fun c=>c g),if_neg (fun c=>c k)]
theorem outP_check {n:Nd} {ins:List Vl} {ty:Int × Int} {ds:Int × List Int} (h:checkP n≠0):outP n ins ty ds=(checkP n,0,[]):=if_pos h
theorem outP_len {n:Nd} {ins:List Vl} {ty:Int × Int} {ds:Int × List Int} (h:checkP n=0) (g:ins.length≠n.ins.length):outP n ins ty ds=(4,0,[]):=by
 unfold outP;rw [if_neg (fun c=>c h),if_pos g]
theorem outP_ins {n:Nd} {ins:List Vl} {ty:Int × Int} {ds:Int × List Int} (h:checkP n=0) (g:ins.length=n.ins.length) (k:inpE ins≠0):outP n ins ty ds=(inpE ins,0,[]):=by
 unfold outP;rw [if_neg (fun c=>c h),if_neg (fun c=>c g),if_pos k]
theorem outP_typ {n:Nd} {ins:List Vl} {ty:Int × Int} {ds:Int × List Int} (h:checkP n=0) (g:ins.length=n.ins.length) (k:inpE ins=0) (t:ty.1≠0):outP n ins ty ds=(ty.1,0,[]):=by
 rw [outP_rest h g k];unfold restP;rw [if_pos t]
theorem outP_dims {n:Nd} {ins:List Vl} {ty:Int × Int} {ds:Int × List Int} (h:checkP n=0) (g:ins.length=n.ins.length) (k:inpE ins=0) (t:ty.1=0) (d:ds.1≠0):outP n ins ty ds=(ds.1,0,[]):=by
 rw [outP_rest h g k];unfold restP;rw [if_neg (fun c=>c t),if_pos d]
theorem outP_cnt {n:Nd} {ins:List Vl} {ty:Int × Int} {ds:Int × List Int} (h:checkP n=0) (g:ins.length=n.ins.length) (k:inpE ins=0) (t:ty.1=0) (d:ds.1=0) (c:(cnt ds.2).2≠0):outP n ins ty ds=((cnt ds.2).2,0,[]):=by
 rw [outP_rest h g k];unfold restP;rw [if_neg (fun c=>c t),if_neg (fun c=>c d),if_pos c]
theorem outP_fol {n:Nd} {ins:List Vl} {ty:Int × Int} {ds:Int × List Int} (h:checkP n=0) (g:ins.length=n.ins.length) (k:inpE ins=0) (t:ty.1=0) (d:ds.1=0) (c:(cnt ds.2).2=0) (f:folB (thenE n.attrs).1 ty.2=false):outP n ins ty ds=(4,0,[]):=by
 rw [outP_rest h g k];unfold restP;rw [if_neg (fun c=>c t),if_neg (fun c=>c d),if_neg (fun x=>x c),if_pos f]
theorem outP_ok {n:Nd} {ins:List Vl} {ty:Int × Int} {ds:Int × List Int} (h:checkP n=0) (g:ins.length=n.ins.length) (k:inpE ins=0) (t:ty.1=0) (d:ds.1=0) (c:(cnt ds.2).2=0) (f:folB (thenE n.attrs).1 ty.2=true):outP n ins ty ds=(0,ty.2,ds.2):=by
 rw [outP_rest h g k];unfold restP;rw [if_neg (fun c=>c t),if_neg (fun c=>c d),if_neg (fun x=>x c),if_neg (by rw [f];decide)]
theorem look_memL:∀ (t:List (List UInt8 × Rul)) {op:ByteArray} {r:Rul},look t op=some r→(op.toList,r) ∈ t:=by
 intro t
 induction t with
 | nil=>intro op r h;cases h
 | cons a t ih =>
  intro op r h;obtain ⟨l,s⟩:=a;cases e:(op.toList==l) with
  | true =>
   rw [look_hit e] at h;obtain rfl:=Option.some.inj h;obtain rfl:op.toList=l:=by simpa using e
   exact List.mem_cons_self ..
  | false =>
   rw [look_miss e] at h;exact List.mem_cons_of_mem _ (ih h)
attribute [local irreducible] cnt
end
section
open Go.RowKit
set_option maxRecDepth 100000
theorem fol_bad {l:List ByteArray} {t:Int} {k:Nat} {s:ByteArray} (hs:l[k]?=some s) (h:(Fl.un s.toList t 0).2≠0):folB l t=false :=
 List.all_eq_false.2 ⟨s,List.mem_of_getElem? hs,by simpa using h⟩
theorem fol_next {l:List ByteArray} {t:Int} {k:Nat} {s:ByteArray} (hs:l[k]?=some s) (h:(Fl.un s.toList t 0).2=0) (g:folB (l.take k) t=true):folB (l.take (k+1)) t=true:=by
 rw [List.take_add_one,hs];unfold folB at *;rw [List.all_append,g]
 simpa using h
attribute [local irreducible] folB Fl.un thenE
set_option maxHeartbeats 4000000 in
theorem mthen_any {w:World} {v:Value} {n:Nd} {ins:List Vl} (t:Int) (h:MkV w v n ins) (hG:Glob w) :
  Calls Tryz.prog 34 #[v,.int .i64 t] w fun e w'=>((folB (thenE n.attrs).1 t=true∧e=.returned (.tuple #[]))∨(folB (thenE n.attrs).1 t=false∧e=brk 4))∧Below w.heap.size w w':=by
 obtain ⟨vin,vat,vv,rfl,hm⟩:=h;obtain ⟨a1,c1,rfl⟩:=hm.node.is.form;obtain ⟨a2,c2,rfl⟩:=hm.node.ia.form;obtain ⟨a3,c3,rfl⟩:=hm.ins.form;have HM:=hid hm;have HG:=hid hG;clear hm hG;have HY:=hid (fun (W:World)=>rule_yes W);have HNo:=hid (fun (W:World)=>rule_no W);have HUn:=hid (fun (W:World) (op:ByteArray)=>Nm.unary_any op t 0 (by decide) (by decide) W);have HB1:=hid ((Below.refl w.heap.size w).alloc (Nat.le_refl _) (.cells #[.string n.op,.string n.name,.slice a1 n.ins.length c1,.string n.out,.slice a2 n.attrs.length c2,.slice a3 ins.length c3] 63));go_enter Tryz.func34,Tryz.ntmps34
 go_wp2_with fail
 generalize World.alloc w _=W1 at HB1 ⊢;have hT:=then_any ⟨_,_,rfl,(HM.out.below HB1.out).node⟩ (HG.out.below HB1.out);unfold Nd.val at hT;refine hT.mono ?_;clear hT;rintro e w2 ⟨B2,v2,rfl,hs2⟩;have HB2:=hid (HB1.out.trans (B2.mono HB1.out.size));clear B2 HB1 HM HG;obtain ⟨l,hl⟩:∃ l,(thenE n.attrs).1=l:=⟨_,rfl⟩;have HL:=hid hl;rw [hl] at hs2;clear hl;have hll:=hs2.len;obtain ⟨a4,c4,rfl⟩:=hs2.form;have HS:=hid hs2;clear hs2;go_wp2_with fail
 go_loopw [18] (fun i wr=>∃ k:Nat,k≤l.length∧i=.int .i64 (k:Int)∧Hid (folB (l.take k) t=true)∧Hid (Below w2.heap.size w2 wr)) (fun i _=>l.length - (intOf i).toNat)
 case atStart=>exact ⟨0,Nat.zero_le _,rfl,hid (by rw [List.take_zero];unfold folB;rfl),hid (Below.refl _ _)⟩
 case round =>
  obtain ⟨k,hk,rfl,hE,hW⟩:=hrel;have hBw:=hid (HB2.out.trans (hW.out.mono HB2.out.size));by_cases hkl:k < l.length
  ·have hki:(k:Int) < (l.length:Int):=by omega
   obtain ⟨s,hs⟩:∃ s,l[k]?=some s:=⟨_,List.getElem?_eq_getElem hkl⟩;obtain ⟨b,off,cap,hv,hb,hr⟩:=HS.out.rows k s hs;obtain ⟨rfl,-,rfl⟩:=Value.slice.inj hv;clear hv;have c0:=(hW.out.cell (p:=⟨b,off+k,none⟩) hb).trans (hr k s hs);have HSk:=hid hs;clear hs hr;go_wp2_with fail
   refine (HUn.out _ s).mono ?_;rintro e w5 ⟨rfl,B5⟩;have B5:Below wr.heap.size wr w5:=B5;have hW5:=hid (hW.out.trans (B5.mono hW.out.size));have hBw5:=hid (hBw.out.trans (B5.mono hBw.out.size));clear B5;generalize (Fl.un s.toList t 0).1=r1;have HF1:=hid (fun h=>fol_bad (t:=t) HSk.out h);have HF2:=hid (fun h=>fol_next (t:=t) HSk.out h hE.out);generalize (Fl.un s.toList t 0).2=r2 at *;by_cases hr:r2=0
   ·have hrb:(r2==0)=true:=by simpa using hr
    have HE2:=hid (HF2.out hr);clear hr HF1 HF2;go_wp2_with fail
    refine (HY.out _).mono ?_;rintro e w' ⟨rfl,rfl⟩;go_wp2
    go_roundw
    case rel=>exact ⟨k+1,by omega,by go_num,HE2,hW5⟩
    case measure=>simp [intOf];omega
   ·have hrb:(r2==0)=false:=by simpa using hr
    have HE2:=hid (HF1.out hr);clear hr HF1 HF2;go_wp2_with fail
    refine (HNo.out _).mono ?_;rintro e w' ⟨rfl,rfl⟩;exact ⟨rfl,Or.inr ⟨by rw [HL.out];exact HE2.out,rfl⟩,hBw5.out⟩
  ·have hki:¬ (k:Int) < (l.length:Int):=by omega
   obtain rfl:k=l.length:=by omega
   have hF:Hid (folB l t=true):=hid (by have:=hE.out;rwa [List.take_length] at this);go_wp2
   go_end0
   exact ⟨Or.inl ⟨by rw [HL.out];exact hF.out,rfl⟩,hBw.out⟩
end
section
open Go.RowKit
set_option maxRecDepth 100000
theorem IntsIn.capI {w:World} {a:Option Addr} {n c:Nat} {zs:List Int} (h:IntsIn w (.slice a n c) zs):n=zs.length∧zs.length≤c:=by
 generalize hv:Value.slice a n c=v at h;cases h with
 | empty a0 cap=>obtain ⟨-,rfl,-⟩:=Value.slice.inj hv;exact ⟨rfl,Nat.zero_le _⟩
 | row b off cap _ h0 hc hb hr hlen hw=>obtain ⟨-,rfl,rfl⟩:=Value.slice.inj hv;exact ⟨rfl,hc⟩
theorem IntsIn.take {w:World} {a:Option Addr} {n c k:Nat} {zs:List Int} (h:IntsIn w (.slice a n c) zs) (hk:k≤zs.length):IntsIn w (.slice a k c) (zs.take k):=by
 generalize hv:Value.slice a n c=v at h;cases h with
 | empty a0 cap =>
  obtain rfl:k=0:=by simpa using hk
  exact .empty _ _
 | row b off cap _ h0 hc hb hr hlen hw =>
  obtain ⟨rfl,rfl,rfl⟩:=Value.slice.inj hv;by_cases h00:k=0
  ·subst h00;exact .empty _ _
  ·have hl:(zs.take k).length=k:=by rw [List.length_take];omega
   have:=IntsIn.row (w:=w) b off c (zs.take k) (by intro e;rw [e] at hl;simp at hl;omega) (by omega) hb (fun j hj=>by
    rw [hl] at hj;rw [hr j (by omega)];simp [List.getD,List.getElem?_take,hj]) (by omega) (fun z hz=>hw z (List.mem_of_mem_take hz))
   rwa [hl] at this
def productP (a b:List Int):Int × List Int :=
 if a.length < 2∨b.length < 2 then (4,[])
 else if a.getD (a.length - 1) 0≠b.getD (b.length - 2) 0 then (4,[])
 else if (Vb.bcO (a.take (a.length - 2)) (b.take (b.length - 2))).1≠0 then ((Vb.bcO (a.take (a.length - 2)) (b.take (b.length - 2))).1,[])
 else (0,(Vb.bcO (a.take (a.length - 2)) (b.take (b.length - 2))).2++[a.getD (a.length - 2) 0,b.getD (b.length - 1) 0])
theorem product_short {a b:List Int} (h:a.length < 2∨b.length < 2):productP a b=(4,[]):=if_pos h
theorem product_unlike {a b:List Int} {m k:Nat} (ha:a.length=m+2) (hb:b.length=k+2) (h:a.getD (m+1) 0≠b.getD k 0):productP a b=(4,[]):=by
 unfold productP;rw [if_neg (by omega),if_pos (by rw [ha,hb];exact h)]
theorem product_bad {a b:List Int} {m k:Nat} (ha:a.length=m+2) (hb:b.length=k+2) (h:a.getD (m+1) 0=b.getD k 0) (g:(Vb.bcO (a.take m) (b.take k)).1≠0):productP a b=((Vb.bcO (a.take m) (b.take k)).1,[]):=by
 unfold productP;rw [if_neg (by omega),if_neg (by rw [ha,hb];exact fun c=>c h),ha,hb];exact if_pos g
theorem product_good {a b:List Int} {m k:Nat} (ha:a.length=m+2) (hb:b.length=k+2) (h:a.getD (m+1) 0=b.getD k 0) (g:(Vb.bcO (a.take m) (b.take k)).1=0):productP a b=(0,(Vb.bcO (a.take m) (b.take k)).2++[a.getD m 0,b.getD (k+1) 0]):=by
 unfold productP;rw [if_neg (by omega),if_neg (by rw [ha,hb];exact fun c=>c h),ha,hb];exact if_neg (fun c=>c g)
theorem bc_len {a b:List Int} (h:(Vb.bcO a b).1=0):(Vb.bcO a b).2.length≤max a.length b.length:=by
 unfold Vb.bcO at h ⊢;split
 ·simp
 ·split
  ·simp
  ·split
   ·split
    ·simp
    ·simp [Vb.outL_length]
   ·simp
theorem RowI.push2 {w w':World} {B:Nat} {v v':Value} {zs:List Int} {x y:Int} (h:RowI w B v zs) (hr:w'.ownsRow B 3 1 v' (zs.length+2) (zs.map (Value.int .i64)++[.int .i64 x,.int .i64 y])):RowI w' B v' (zs++[x,y]):=by
 unfold RowI;rw [List.length_append,List.map_append];exact hr
attribute [local irreducible] Vb.bcO RowI productP
set_option maxHeartbeats 8000000 in
theorem product_any {w:World} {va vb:Value} {xa xb:List Int} (ha:IntsIn w va xa) (hb:IntsIn w vb xb) :
  Calls Tryz.prog 69 #[va,vb] w fun e w'=>ResE w (productP xa xb) e w':=by
 obtain ⟨i0,hi,hz0,hz1,hz2⟩:=info_parts info_int;obtain ⟨a1,c1,rfl⟩:=ha.shape;obtain ⟨a2,c2,rfl⟩:=hb.shape;have hla:=ha.wf.1;have hlb:=hb.wf.1;have hca:=ha.capI.2;have hcb:=hb.capI.2;have HA:=hid ha;have HB:=hid hb;clear ha hb;have HY:=hid (fun (W:World)=>rule_yes W);have HNo:=hid (fun (W:World)=>rule_no W);by_cases h1:2≤xa.length
 case neg =>
  have h1':¬ (2:Int)≤(xa.length:Int):=by omega
  have e:=hid (product_short (a:=xa) (b:=xb) (Or.inl (by omega)));go_enter Tryz.func69,Tryz.ntmps69
  go_wp2_with fail
  refine (HNo.out _).mono ?_;rintro e w' ⟨rfl,rfl⟩;exact ⟨rfl,ResE.no (by rw [e.out]) (by decide) (Below.refl _ _)⟩
 have h1':(2:Int)≤(xa.length:Int):=by omega
 by_cases h2:2≤xb.length
 case neg =>
  have h2':¬ (2:Int)≤(xb.length:Int):=by omega
  have e:=hid (product_short (a:=xa) (b:=xb) (Or.inr (by omega)));go_enter Tryz.func69,Tryz.ntmps69
  go_wp2_with fail
  refine (HNo.out _).mono ?_;rintro e w' ⟨rfl,rfl⟩;exact ⟨rfl,ResE.no (by rw [e.out]) (by decide) (Below.refl _ _)⟩
 have h2':(2:Int)≤(xb.length:Int):=by omega
 obtain ⟨m,hm⟩:∃ m,xa.length=m+2:=⟨xa.length - 2,by omega⟩;obtain ⟨k,hk⟩:∃ k,xb.length=k+2:=⟨xb.length - 2,by omega⟩;obtain ⟨b1,o1,rfl,-,hb1,x0,ix0⟩:=ints_at (k:=m+1) HA.out (by omega);obtain ⟨b2,o2,rfl,-,hb2,y0,iy0⟩:=ints_at (k:=k) HB.out (by omega);obtain ⟨b1',o1',e1,-,-,x1,-⟩:=ints_at (k:=m) HA.out (by omega);obtain ⟨e1,e1'⟩:b1=b1'∧o1=o1':=by simpa using e1
 subst e1 e1';obtain ⟨b2',o2',e2,-,-,y1,-⟩:=ints_at (k:=k+1) HB.out (by omega);obtain ⟨e2,e2'⟩:b2=b2'∧o2=o2':=by simpa using e2
 subst e2 e2';have HTA:=hid (HA.out.take (k:=m) (by omega));have HTB:=hid (HB.out.take (k:=k) (by omega));have HLA:Hid ((xa.take m).length≤m):=hid (by rw [List.length_take];omega);have HLB:Hid ((xb.take k).length≤k):=hid (by rw [List.length_take];omega);have E1:=hid (product_unlike hm hk);have E2:=hid (product_bad hm hk);have E3:=hid (product_good hm hk);rw [hm] at hla hca;rw [hk] at hlb hcb;have h1':(2:Int)≤(m:Int)+2:=by omega
 have h2':(2:Int)≤(k:Int)+2:=by omega
 rw [hm,hk];clear hm hk h1 h2 HA HB;have wm:IntKind.i64.wrap ((m:Int)+1)=(m:Int)+1:=by rw [IntKind.wrap_i64];omega
 have wk:IntKind.i64.wrap ((k:Int)+1)=(k:Int)+1:=by rw [IntKind.wrap_i64];omega
 have bm1:(0:Int)≤(m:Int)+1∧(m:Int)+1 < (m:Int)+2:=⟨by omega,by omega⟩;have bk1:(0:Int)≤(k:Int)+1∧(k:Int)+1 < (k:Int)+2:=⟨by omega,by omega⟩;have bm0:(0:Int)≤(m:Int)∧(m:Int) < (m:Int)+2:=⟨by omega,by omega⟩;have bk0:(0:Int)≤(k:Int)∧(k:Int) < (k:Int)+2:=⟨by omega,by omega⟩;have tm:((m:Int)+1).toNat=m+1:=by omega
 have tk:((k:Int)+1).toNat=k+1:=by omega
 have lm:m≤c1:=by omega
 have lk:k≤c2:=by omega
 generalize xa.getD (m+1) 0=p0 at *;generalize xb.getD k 0=q0 at *;generalize xa.getD m 0=p1 at *;generalize xb.getD (k+1) 0=q1 at *;go_enter Tryz.func69,Tryz.ntmps69
 go_wp2_with fail
 refine (HY.out _).mono ?_;rintro e w' ⟨rfl,rfl⟩;by_cases hpq:p0=q0
 case neg =>
  have e:=hid (E1.out hpq);have hb:(p0==q0)=false:=by simpa using hpq
  clear hpq;go_wp2_with fail
  refine wp_region_plan 10 [0,1,2,3,4,5,6,7,8,9] (fun W'=>Below w'.heap.size w' W') (by kernel_rfl) (by kernel_rfl) (fun _ d _ _ _ h=>by cases d<;>exact h) (Below.refl _ _).drew ?_
  repeat
   refine plan_read (v:=?_) rfl rfl (Or.inl ⟨by rfl,?_⟩) ?_;rotate_left
   ·intro W' hSw;have x0:=(hSw.cell (p:=⟨b1,o1+(m+1),none⟩) hb1).trans x0;have y0:=(hSw.cell (p:=⟨b2,o2+k,none⟩) hb2).trans y0;go_simp
    try with_reducible rfl
   try simp only [aPut]
  refine plan_tail rfl ?_;simp only [aDrp];go_wp2_with fail
  refine (HNo.out _).mono ?_;rintro e w' ⟨rfl,rfl⟩;exact ⟨rfl,ResE.no (by rw [e.out]) (by decide) (Below.refl _ _).drew⟩
 have hb:(p0==q0)=true:=by simpa using hpq
 have E2:=hid (E2.out hpq);have E3:=hid (E3.out hpq);clear hpq E1;go_wp2_with fail
 refine wp_region_plan 10 [0,1,2,3,4,5,6,7,8,9] (fun W'=>Below w'.heap.size w' W') (by kernel_rfl) (by kernel_rfl) (fun _ d _ _ _ h=>by cases d<;>exact h) (Below.refl _ _).drew ?_
 repeat
  refine plan_read (v:=?_) rfl rfl (Or.inl ⟨by rfl,?_⟩) ?_;rotate_left
  ·intro W' hSw;have x0:=(hSw.cell (p:=⟨b1,o1+(m+1),none⟩) hb1).trans x0;have y0:=(hSw.cell (p:=⟨b2,o2+k,none⟩) hb2).trans y0;go_simp
   try with_reducible rfl
  try simp only [aPut]
 refine plan_tail rfl ?_;simp only [aDrp];go_wp2_with fail
 refine (HY.out _).mono ?_;rintro e w2 ⟨rfl,rfl⟩;go_wp2_with fail
 have HB0:Hid (Below w'.heap.size w' w'.drew):=hid (Below.refl _ _).drew;have HTA:=hid (HTA.out.below HB0.out);have HTB:=hid (HTB.out.below HB0.out);have x1:=(HB0.out.cell (p:=⟨b1,o1+m,none⟩) hb1).trans x1;have y1:=(HB0.out.cell (p:=⟨b2,o2+(k+1),none⟩) hb2).trans y1;have hb1:b1 < w'.drew.heap.size:=hb1;have hb2:b2 < w'.drew.heap.size:=hb2;clear x0 y0 ix0 iy0 hb;generalize w'.drew=W0 at *;refine wp_region_tree 17 (Pl.reads [0,1,2,3,4,5,7,8,9,10,11,12,13,14,15] (.two 6 (.act 16 .tail) 16 (.act 6 .tail))) (fun W'=>Below W0.heap.size W0 W') (by kernel_rfl) (by kernel_rfl) (fun _ d _ _ _ h=>by cases d<;>exact h) (Below.refl _ _).drew ?_;simp only [Pl.reads];have B0:Hid (Below W0.heap.size W0 W0.drew):=hid (Below.refl _ _).drew;generalize W0.drew=wD at B0 ⊢
 repeat
  refine tree_read (v:=?_) rfl (Or.inl ⟨by rfl,?_⟩) ?_;rotate_left
  ·intro W' hSw;have x1:=(hSw.cell (p:=⟨b1,o1+m,none⟩) hb1).trans x1;have y1:=(hSw.cell (p:=⟨b2,o2+(k+1),none⟩) hb2).trans y1;go_simp
   try with_reducible rfl
  try simp only [aPut]
 refine tree_two rfl rfl (fun K' hK=>?_) (fun K' hK=>?_)
 ·go_simp
  refine (spread_any (HTA.out.below B0.out) (HTB.out.below B0.out)).mono ?_;rintro e w5 ⟨B5,hc⟩;have HB5:=hid (B0.out.trans (B5.mono B0.out.size));rcases hc with ⟨hz,rfl⟩ | ⟨hz,v5,rfl,hr5⟩
  ·have E:=hid (E2.out hz);exact ⟨rfl,ResE.no (by rw [E.out]) hz (HB0.out.trans (HB5.out.mono HB0.out.size))⟩
  have E:=hid (E3.out hz);have HLn:=hid (bc_len hz);have HR5:=hid hr5;have hbase:W0.heap.size≤wD.heap.size:=B0.out.size;clear hz E2 E3 hr5 B5;generalize (Vb.bcO (xa.take m) (xb.take k)).2=zs at *;have hzl:(zs.length+2) * 8≤140737488351232:=by have:=HLn.out;have:=HLA.out;have:=HLB.out;omega
  obtain ⟨a5,c5,rfl⟩:=HR5.out.form;refine hK.out _ _ HB5.out ?_;clear hK K';refine tree_act rfl (fun K' hK=>?_);go_simp
  have HB6:Hid (Below W0.heap.size W0 (w5.alloc (.cells #[.int .i64 p1,.int .i64 q1] 3))):=hid (HB5.out.alloc HB5.out.size _);have HNW:Hid ((w5.alloc (.cells #[.int .i64 p1,.int .i64 q1] 3)).heap[w5.heap.size]?=some (.cells #[.int .i64 p1,.int .i64 q1] 3)):=hid (heap_alloc_new w5 _);have HRX:Hid (RowI (w5.alloc (.cells #[.int .i64 p1,.int .i64 q1] 3)) W0.heap.size (.slice a5 zs.length c5) zs):=hid ((HR5.out.base hbase).below ((Below.refl _ w5).alloc (Nat.le_refl _) _));refine hK.out _ _ HB6.out ?_;clear hK K' HR5;generalize w5.alloc _=w6 at HB6 HNW HRX ⊢;refine tree_tail rfl ?_;simp only [aDrp];go_wp2_with (at_builtin;refine wpList_append_own _ rfl _ _ 27 rfl W0.heap.size 3 i0 (.int .i64 0) 1 8 Tryz.underlying27 hi hz0 hz1 hz2 rfl (by decide) _ _ _ rfl HRX.out.own ⟨w5.heap.size,0,none⟩ 2 2 (#[.int .i64 p1,.int .i64 q1]:Array Value).toList rfl rfl (World.news_of_block HNW.out) (by simp [Value.oneCell']) ?A3 ?A4 ?A5 ?_)
  case A3=>unfold maxLen;omega
  case A4=>omega
  case A5=>first | omega | (simp;omega) | (have:=HB6.out.size;omega) | (have:=HB5.out.size;omega)
  intro v' w8 hown' hgrow _;have hb8:Hid (Below W0.heap.size W0 w8):=hid (HB6.out.grown hgrow HB6.out.size fun g hg=>(HRX.out.own.lt g hg).1);have ho8:Hid (RowI w8 W0.heap.size v' (zs++[p1,q1])):=hid (RowI.push2 (zs:=zs) HRX.out hown');clear hown' hgrow;go_wp2
  go_ret
  exact ResE.yes (by rw [E.out]) (HB0.out.trans (hb8.out.mono HB0.out.size)) (by rw [E.out];exact ho8.out.base HB0.out.size)
 ·go_simp
  have HB6:Hid (Below W0.heap.size W0 (wD.alloc (.cells #[.int .i64 p1,.int .i64 q1] 3))):=hid (B0.out.alloc B0.out.size _);have HNW0:Hid ((wD.alloc (.cells #[.int .i64 p1,.int .i64 q1] 3)).heap[wD.heap.size]?=some (.cells #[.int .i64 p1,.int .i64 q1] 3)):=hid (heap_alloc_new wD _);have HSz:Hid (wD.heap.size < (wD.alloc (.cells #[.int .i64 p1,.int .i64 q1] 3)).heap.size):=hid (by rw [World.size_alloc];omega);refine hK.out _ _ HB6.out ?_;clear hK K';generalize wD.alloc _=w6 at HB6 HNW0 HSz ⊢;refine tree_act rfl (fun K' hK=>?_);go_simp
  refine (spread_any (HTA.out.below HB6.out) (HTB.out.below HB6.out)).mono ?_;rintro e w5 ⟨B5,hc⟩;have HB5:=hid (HB6.out.trans (B5.mono HB6.out.size));rcases hc with ⟨hz,rfl⟩ | ⟨hz,v5,rfl,hr5⟩
  ·have E:=hid (E2.out hz);exact ⟨rfl,ResE.no (by rw [E.out]) hz (HB0.out.trans (HB5.out.mono HB0.out.size))⟩
  have E:=hid (E3.out hz);have HLn:=hid (bc_len hz);have HNW:Hid (w5.heap[wD.heap.size]?=some (.cells #[.int .i64 p1,.int .i64 q1] 3)):=hid ((B5.block _ HSz.out).trans HNW0.out);have HRX:Hid (RowI w5 W0.heap.size v5 (Vb.bcO (xa.take m) (xb.take k)).2):=hid (hr5.base HB6.out.size);clear hz E2 E3 hr5 B5;generalize (Vb.bcO (xa.take m) (xb.take k)).2=zs at *;have hzl:(zs.length+2) * 8≤140737488351232:=by have:=HLn.out;have:=HLA.out;have:=HLB.out;omega
  obtain ⟨a5,c5,rfl⟩:=HRX.out.form;refine hK.out _ _ HB5.out ?_;clear hK K';refine tree_tail rfl ?_;simp only [aDrp];go_wp2_with (at_builtin;refine wpList_append_own _ rfl _ _ 27 rfl W0.heap.size 3 i0 (.int .i64 0) 1 8 Tryz.underlying27 hi hz0 hz1 hz2 rfl (by decide) _ _ _ rfl HRX.out.own ⟨wD.heap.size,0,none⟩ 2 2 (#[.int .i64 p1,.int .i64 q1]:Array Value).toList rfl rfl (World.news_of_block HNW.out) (by simp [Value.oneCell']) ?A3 ?A4 ?A5 ?_)
  case A3=>unfold maxLen;omega
  case A4=>omega
  case A5=>first | omega | (simp;omega) | (have:=HB6.out.size;omega) | (have:=HB5.out.size;omega)
  intro v' w8 hown' hgrow _;have hb8:Hid (Below W0.heap.size W0 w8):=hid (HB5.out.grown hgrow HB5.out.size fun g hg=>(HRX.out.own.lt g hg).1);have ho8:Hid (RowI w8 W0.heap.size v' (zs++[p1,q1])):=hid (RowI.push2 (zs:=zs) HRX.out hown');clear hown' hgrow;go_wp2
  go_ret
  exact ResE.yes (by rw [E.out]) (HB0.out.trans (hb8.out.mono HB0.out.size)) (by rw [E.out];exact ho8.out.base HB0.out.size)
end
section
open Go.RowKit
set_option maxRecDepth 100000
structure OutC (w:World) (B:Nat) (nm:ByteArray) (t:Int) (vd:Value) (e:Int):Prop where
 c0:w.cell? ⟨B,0,none⟩=some (.string nm)
 c1:w.cell? ⟨B,1,none⟩=some (.int .i64 t)
 c2:w.cell? ⟨B,2,none⟩=some vd
 c3:w.cell? ⟨B+1,0,none⟩=some (.int .i64 e)
 z0:w.frozen? ⟨B,0,none⟩=false
 z1:w.frozen? ⟨B,1,none⟩=false
 z2:w.frozen? ⟨B,2,none⟩=false
 z3:w.frozen? ⟨B+1,0,none⟩=false
theorem OutC.put {w:World} {B:Nat} {nm:ByteArray} {t:Int} {vd:Value} {e:Int} (h:OutC w B nm t vd e) (nm':ByteArray) (t':Int) (vd':Value) (e':Int) :
  OutC ((((w.setCell ⟨B,0,none⟩ (.string nm')).setCell ⟨B,1,none⟩ (.int .i64 t')).setCell ⟨B,2,none⟩ vd').setCell ⟨B+1,0,none⟩ (.int .i64 e')) B nm' t' vd' e':=by
 obtain ⟨c0,c1,c2,c3,z0,z1,z2,z3⟩:=h;refine ⟨?_,?_,?_,?_,?_,?_,?_,?_⟩<;>simp [go_sem,c0,c1,c2,c3,z0,z1,z2,z3]
theorem OutC.below {w w':World} {B:Nat} {nm:ByteArray} {t:Int} {vd:Value} {e:Int} (h:OutC w B nm t vd e) (hB:Below w.heap.size w w'):OutC w' B nm t vd e:=by
 obtain ⟨c0,c1,c2,c3,z0,z1,z2,z3⟩:=h;have hb:B < w.heap.size:=cell_in c0;have hb1:B+1 < w.heap.size:=cell_in c3;exact ⟨(hB.cell (p:=⟨B,0,none⟩) hb).trans c0,(hB.cell (p:=⟨B,1,none⟩) hb).trans c1,(hB.cell (p:=⟨B,2,none⟩) hb).trans c2,(hB.cell (p:=⟨B+1,0,none⟩) hb1).trans c3,
  (hB.frozen (p:=⟨B,0,none⟩) hb).trans z0,(hB.frozen (p:=⟨B,1,none⟩) hb).trans z1,(hB.frozen (p:=⟨B,2,none⟩) hb).trans z2,(hB.frozen (p:=⟨B+1,0,none⟩) hb1).trans z3⟩
theorem below_put4 {w:World} {B:Nat} (a b c d:Value):Below B w ((((w.setCell ⟨B,0,none⟩ a).setCell ⟨B,1,none⟩ b).setCell ⟨B,2,none⟩ c).setCell ⟨B+1,0,none⟩ d) :=
 ((((Below.refl B w).setCell (p:=⟨B,0,none⟩) (Nat.le_refl B) a).setCell (p:=⟨B,1,none⟩) (Nat.le_refl B) b).setCell (p:=⟨B,2,none⟩) (Nat.le_refl B) c).setCell (p:=⟨B+1,0,none⟩) (Nat.le_succ B) d
theorem as_broken (v:Value) (w:World):(Instr.typeAssert (.iface 56 v) 20 56 true).run Tryz.prog w=.ok (.tuple #[v,.bool true]) w:=by kernel_rfl
theorem catch_idle (p q:Addr) (w:World) :
  CallsD Tryz.prog 26 #[.pointer (some p),.pointer (some q)] .returning w fun e u' w'=>e=.returned (.tuple #[])∧u'=.returning∧w'=w:=by
 refine callsD_of_wpS Tryz.func26 rfl fun c₀ cs hu=>?_;apply wpS_seq;apply wpS_region;simp [wpOpsS,go_sem,recoverD,hu,Tryz.ntmps26,Exit.thenS];apply wpS_seq;apply wpS_region;simp [wpOpsS,go_sem,Exit.thenS,Array.replicate];refine wpS_cond (t:=false) (by simp [Act.eval,Array.replicate]) ?_;simp only [Bool.false_eq_true,if_false];refine wpS_of_wp (wp_skip ?_);cases c₀
 simp_all [bodyPostS,results,Tryz.results26]
set_option maxHeartbeats 2000000 in
theorem catch_broken (B:Nat) (c:Int) (w:World) {nm:ByteArray} {t x:Int} {vd:Value} (h:OutC w B nm t vd x) :
  CallsD Tryz.prog 26 #[.pointer (some ⟨B,0,none⟩),.pointer (some ⟨B+1,0,none⟩)] (.panicking [{ v:=.iface 56 (.int .i64 c),recovered:=false }]) w fun e u' w' =>
   e=.returned (.tuple #[])∧u'=.panicking [{ v:=.iface 56 (.int .i64 c),recovered:=true }]∧OutC w' B ⟨#[]⟩ 0 (.slice none 0 0) c∧Below B w w':=by
 have hP:=hid (h.put ⟨#[]⟩ 0 (.slice none 0 0) c);obtain ⟨c0,c1,c2,c3,z0,z1,z2,z3⟩:=h;have hta:=as_broken;refine callsD_of_wpS Tryz.func26 rfl fun c₀ cs hu=>?_;apply wpS_seq;apply wpS_region;simp [wpOpsS,go_sem,recoverD,hu,Tryz.ntmps26,Exit.thenS];apply wpS_seq;apply wpS_region;simp [wpOpsS,go_sem,Exit.thenS,Array.replicate];refine wpS_cond (t:=true) (by simp [Act.eval,Array.replicate]) ?_;simp only [if_true];refine wpS_of_wp ?_;go_wp2
 exact ⟨rfl,_,rfl,_,by simp [results,Tryz.results26],rfl,rfl,hP.out,below_put4 _ _ _ _⟩
end
section
open Go
section
variable {P:Program} {ops:Array Oper} {Q:Exit→Act→World→Prop} {md:Region.Mode} {S:World→Prop} {n:Nat}
theorem wpAnyP_of_planD (hsel:Region.noSelect ops=true) (hs:Region.sinkB md ops n=true) (hc:Region.chainB md ops n=true) (hn:n < ops.size)
  (hQ:∀ c (i:Nat) (o:Oper) (v:Value) a w,ops[i]?=some o→Q (.panic c) (a.put o.dst v) w→Q (.panic c) a w) :
  ∀ (pl:List Nat) (listed:Array Bool) (a:Act) (w:World),HeadInv md ops n listed→planB md ops n pl listed=true→S w→wpPlan P md ops Q S n pl a w →
   wpAnyP P md ops Q S n (pl.length+(ops.size - n)) listed a w
 | [],listed,a,w,inv,hB,hS,h=>by
  have h1:=wpAnyP_of_seq (S:=S) (n:=n) (ops.toList.drop n) n listed a w (Nat.le_refl _) (fun j=>by simp [List.getElem?_drop]) (by simpa [planB] using hB) h
  simpa using h1
 | i :: rest,listed,a,w,inv,hB,hS,h=>by
  unfold planB at hB;unfold wpPlan at h;cases ho:ops[i]? with
  | none=>rw [ho] at hB;cases hB
  | some o =>
   rw [ho] at hB h;simp only [Bool.and_eq_true,decide_eq_true_eq] at hB;obtain ⟨⟨hin,hr⟩,hB'⟩:=hB;rw [show (i :: rest).length+(ops.size - n)=(rest.length+(ops.size - n))+1 by rw [List.length_cons];omega];cases hq:quietOp o with
   | true =>
    simp only [hq,if_true,Bool.and_eq_true] at hr h;obtain ⟨v,hy,h⟩:=h;have hr':i ∈ Region.ready md ops listed:=by simpa using hr.1
    exact wpAnyP_first ho (Region.noSelect_spec hsel) hs hc hn hin (fun c a w h=>hQ c i o _ a w ho h) _ listed a w inv (Region.free_spec ho hr.2) hr' hy hS
     (wpAnyP_of_planD hsel hs hc hn hQ rest _ _ w (inv.set hr' hin) hB' hS h)
   | false =>
    simp only [hq,Bool.false_eq_true,if_false,decide_eq_true_eq] at hr h;refine ⟨fun h1=>(by rw [hr] at h1;cases h1),fun j hj=>?_⟩;have hj':=hj;rw [hr] at hj;obtain rfl:j=i:=by simpa using hj
    exact wpOp_mono (fun a' w' h'=>⟨fun _=>h'.1,wpAnyP_of_planD hsel hs hc hn hQ rest _ a' w' (inv.set hj' hin) hB' h'.1 h'.2⟩) h
theorem wp_region_planD {id:Nat} {a:Act} {w:World} (n:Nat) (pl:List Nat) (S:World→Prop) (hm:P.follows .mixedOrders=true) (hB:regB .any ops n pl=true)
  (hQ:∀ c (i:Nat) (o:Oper) (v:Value) a w,ops[i]?=some o→Q (.panic c) (a.put o.dst v) w→Q (.panic c) a w) (hS:S w.drew) (h:wpPlan P .any ops Q S n pl a w.drew):(Code.region id ops true).wp P Q a w:=by
 simp only [regB,Bool.and_eq_true,decide_eq_true_eq] at hB;obtain ⟨⟨⟨⟨⟨hsel,hn⟩,hs⟩,hc⟩,hp⟩,hl⟩:=hB;have inv0:HeadInv .any ops n (Array.replicate ops.size false) :=
  ⟨by simp,fun j oj _ hl=>(by rw [getD_replicate_false] at hl;cases hl),fun t _ ht=>getD_in (by simpa using ht) (getD_replicate_false _ _)⟩
 have H:=wpAnyP_of_planD hsel hs hc hn hQ pl _ a w.drew inv0 hp hS h;rw [hl,show n+(ops.size - n)=ops.size by omega] at H;exact wp_region_any hm (wpAny_of_P _ _ _ _ H)
end
theorem leaves_congr {P:Program} {fn:Func} {t t':Array Value} {R:Ending→World→Prop} (h:∀ w,(results fn t).run P w=(results fn t').run P w) :
  ∀ (ds:List Deferred) (u:FrameMode) (w:World),Leaves P fn t R ds u w→Leaves P fn t' R ds u w
 | [],.returning,w,⟨v,hr,hR⟩=>⟨v,(h w).symm.trans hr,hR⟩
 | [],.panicking c,w,hl=>hl
 | [],.run,w,hl=>hl
 | d :: ds,u,w,⟨hu,fv,cap,f,args,ht,hi,hc⟩=>⟨hu,fv,cap,f,args,ht,hi,hc.mono (fun e u' w' hx=>match e,hx with
   | .returned _,hx=>leaves_congr h ds _ _ hx
   | .panicked _,hx=>leaves_congr h ds _ _ hx
   | .outgrown,hx=>hx)⟩
end
section
open Go.RowKit
set_option maxRecDepth 100000
def TyR (r:Int × Int) (e:Ending):Prop:=(r.1≠0∧e=brk r.1)∨(r.1=0∧e=.returned (.int .i64 r.2))
theorem TyR.no {r:Int × Int} (h:r=(4,0)):TyR r (brk 4):=by subst h;exact Or.inl ⟨by decide,rfl⟩
theorem TyR.yes {r:Int × Int} {t:Int} (h:r=(0,t)):TyR r (.returned (.int .i64 t)):=by subst h;exact Or.inr ⟨rfl,rfl⟩
def alB (ins:List Vl) (t:Int):Bool:=!(ins.any fun x=>x.typ != t)
def typC (b:Int) (al:Bool):Int × Int:=if b=0∧al=true then (0,9) else (4,0)
def typA (b:Int) (al:Bool) (t:Int):Int × Int:=if b≠1∧al=true then (0,t) else (4,0)
def typU (b t:Int):Int × Int:=if b=0 then (0,t) else (4,0)
def typS (t z:Int):Int × Int:=if t=6∨t=7∨t=1 then (0,z) else (4,0)
def typD (al:Bool) (t:Int):Int × Int:=if al=true then (0,t) else (4,0)
theorem typC_bad {b:Int} {al:Bool} (h:b≠0):typC b al=(4,0):=if_neg (fun c=>h c.1)
theorem typC_no {b:Int} {al:Bool} (h:al=false):typC b al=(4,0):=if_neg (fun c=>by rw [h] at c;cases c.2)
theorem typC_yes {b:Int} {al:Bool} (h:b=0) (g:al=true):typC b al=(0,9):=if_pos ⟨h,g⟩
theorem typA_bad {b t:Int} {al:Bool} (h:b=1):typA b al t=(4,0):=if_neg (fun c=>c.1 h)
theorem typA_no {b t:Int} {al:Bool} (h:al=false):typA b al t=(4,0):=if_neg (fun c=>by rw [h] at c;cases c.2)
theorem typA_yes {b t:Int} {al:Bool} (h:b≠1) (g:al=true):typA b al t=(0,t):=if_pos ⟨h,g⟩
theorem typU_bad {b t:Int} (h:b≠0):typU b t=(4,0):=if_neg h
theorem typU_yes {b t:Int} (h:b=0):typU b t=(0,t):=if_pos h
theorem typD_no {t:Int} {al:Bool} (h:al=false):typD al t=(4,0):=if_neg (by rw [h];decide)
theorem typD_yes {t:Int} {al:Bool} (h:al=true):typD al t=(0,t):=if_pos h
theorem typ_at {w:World} {a:Option Addr} {c:Nat} {x:Vl} {ins:List Vl} (h:SlIn 3 rdValue w (.slice a ins.length c) ins) (hi:ins[0]?=some x):∃ b off,a=some ⟨b,off,none⟩∧w.cell? ⟨b,off+1,none⟩=some (.int .i64 x.typ):=by
 obtain ⟨b,off,cap,cs,hv,hb,hc,hl,⟨vd,rfl,_⟩,hr⟩:=h.rows 0 x hi;obtain ⟨rfl,-,-⟩:=Value.slice.inj hv;have:=hr 1 _ rfl;exact ⟨b,off,rfl,by simpa using this⟩
attribute [local irreducible] typC typA typU typS typD alB Fl.bin Fl.un
set_option maxHeartbeats 12000000 in
theorem g_typ_Equal {w:World} {v:Value} {n:Nd} {x:Vl} {ins:List Vl} (h:MkV w v n ins) (hi:ins[0]?=some x) (hl:n.op.toList=[69,113,117,97,108]∨n.op.toList=[76,101,115,115]∨n.op.toList=[71,114,101,97,116,101,114]) :
  Calls Tryz.prog 32 #[v] w fun e w'=>TyR (typC (Fl.bin n.op.toList x.typ 0 0).2 (alB ins x.typ)) e∧Below w.heap.size w w':=by
 rcases hl with hl | hl | hl
 all_goals
  obtain ⟨vin,vat,vv,rfl,hm⟩:=h;obtain ⟨a1,c1,rfl⟩:=hm.node.is.form;obtain ⟨a2,c2,rfl⟩:=hm.node.ia.form;obtain ⟨a3,c3,rfl⟩:=hm.ins.form;have HM:=hid hm;obtain ⟨bx,ox,rfl,g0⟩:=typ_at hm.ins hi;have hlen:0 < ins.length:=(List.getElem?_eq_some_iff.1 hi).1;clear hm hi;have HY:=hid (fun (W:World)=>rule_yes W);have HNo:=hid (fun (W:World)=>rule_no W);have g1:=cell_alloc g0 (.cells #[.string n.op,.string n.name,.slice a1 n.ins.length c1,.string n.out,.slice a2 n.attrs.length c2,.slice (some ⟨bx,ox,none⟩) ins.length c3] 63);have HB1:=hid ((Below.refl w.heap.size w).alloc (Nat.le_refl _) (.cells #[.string n.op,.string n.name,.slice a1 n.ins.length c1,.string n.out,.slice a2 n.attrs.length c2,.slice (some ⟨bx,ox,none⟩) ins.length c3] 63));have HA1:=hid (BoxN.new w #[.string n.op,.string n.name,.slice a1 n.ins.length c1,.string n.out,.slice a2 n.attrs.length c2,.slice (some ⟨bx,ox,none⟩) ins.length c3] 63);obtain ⟨b6,d6⟩:∃ b,(x.typ==6)=b:=⟨_,rfl⟩;cases b6
  all_goals
   go_enter Tryz.func32,Tryz.ntmps32
   go_wp2_with fail
   have HBi:=hid (fun (W:World)=>Nm.binary_any n.op x.typ 0 0 (by decide) (by decide) (by decide) (by decide) W);have HAl:=hid (fun (W:World) (hW:Below w.heap.size w W)=>alike_any (w:=W) (v:=.agg #[.string n.op,.string n.name,.slice a1 n.ins.length c1,.string n.out,.slice a2 n.attrs.length c2,.slice (some ⟨bx,ox,none⟩) ins.length c3]) x.typ ⟨_,_,_,rfl,HM.out.below hW⟩);generalize World.alloc w _=W1 at g1 HB1 HA1 ⊢
   with_reducible refine (HBi.out _).mono ?_
   rintro e w2 ⟨rfl,B2⟩;have B2:Below W1.heap.size W1 w2:=B2;have HB2:=hid (HB1.out.trans (B2.mono HB1.out.size));obtain ⟨k0,k1,k2,k3,k4,k5⟩:=(HA1.out.below' B2).six;clear B2 HBi HA1 HB1 g1 g0;generalize (Fl.bin n.op.toList x.typ 0 0).1=r1;obtain ⟨r2,hr2⟩:∃ r2,(Fl.bin n.op.toList x.typ 0 0).2=r2:=⟨_,rfl⟩;have HR2:=hid hr2;rw [hr2];clear hr2;by_cases hr:r2=0
   ·skip
    have HR:=hid hr;have hb:(r2==0)=true:=by simp [hr]
    clear hr;go_wp2_with fail
    refine (HAl.out _ HB2.out).mono ?_;rintro e w3 ⟨rfl,B3⟩;have HB3:=hid (HB2.out.trans (B3.mono HB2.out.size));clear B3 k0 k1 k2 k3 k4 k5;rw [show (!(ins.any fun y=>y.typ != x.typ))=alB ins x.typ by unfold alB;rfl];cases hal:alB ins x.typ with
    | false =>
     have HL:=hid hal;clear hal;go_wp2_with fail
     refine (HNo.out _).mono ?_;rintro e w' ⟨rfl,rfl⟩;exact ⟨rfl,TyR.no (typC_no HL.out),HB3.out⟩
    | true =>
     have HL:=hid hal;clear hal;go_wp2_with fail
     refine (HY.out _).mono ?_;rintro e w' ⟨rfl,rfl⟩;go_wp2
     go_ret
     exact ⟨TyR.yes (typC_yes (by rw [HR2.out];exact HR.out) HL.out),HB3.out⟩
   ·skip
    have HR:=hid hr;have hb:(r2==0)=false:=by simpa using hr
    clear hr;go_wp2_with fail
    refine (HNo.out _).mono ?_;rintro e w' ⟨rfl,rfl⟩;exact ⟨rfl,TyR.no (typC_bad (by rw [HR2.out];exact HR.out)),HB2.out⟩
theorem typ_Equal {w:World} {v:Value} {n:Nd} {x:Vl} {ins:List Vl} (h:MkV w v n ins) (hi:ins[0]?=some x) (hl:n.op.toList=[69,113,117,97,108]) :
  Calls Tryz.prog 32 #[v] w fun e w'=>TyR (typC (Fl.bin n.op.toList x.typ 0 0).2 (alB ins x.typ)) e∧Below w.heap.size w w' :=
 g_typ_Equal h hi (Or.inl hl)
theorem typ_Less {w:World} {v:Value} {n:Nd} {x:Vl} {ins:List Vl} (h:MkV w v n ins) (hi:ins[0]?=some x) (hl:n.op.toList=[76,101,115,115]) :
  Calls Tryz.prog 32 #[v] w fun e w'=>TyR (typC (Fl.bin n.op.toList x.typ 0 0).2 (alB ins x.typ)) e∧Below w.heap.size w w' :=
 g_typ_Equal h hi (Or.inr (Or.inl hl))
theorem typ_Greater {w:World} {v:Value} {n:Nd} {x:Vl} {ins:List Vl} (h:MkV w v n ins) (hi:ins[0]?=some x) (hl:n.op.toList=[71,114,101,97,116,101,114]) :
  Calls Tryz.prog 32 #[v] w fun e w'=>TyR (typC (Fl.bin n.op.toList x.typ 0 0).2 (alB ins x.typ)) e∧Below w.heap.size w w' :=
 g_typ_Equal h hi (Or.inr (Or.inr hl))
end
section
open Go.RowKit
set_option maxRecDepth 100000
def DimR (w:World) (o:Int × List Int) (e:Ending) (w':World):Prop:=Below w.heap.size w w'∧((o.1≠0∧e=brk o.1)∨(o.1=0∧∃ v,e=.returned v∧IntsIn w' v o.2))
theorem ResE.dim {w w' w0:World} {o:Int × List Int} {e:Ending} (h:ResE w o e w') (hB:Below w0.heap.size w0 w) (hl:o.1=0→o.2.length * 8≤140737488351232) (hi:∀ z ∈ o.2,InI z):DimR w0 o e w':=by
 obtain ⟨B,h | ⟨h0,v,rfl,hr⟩⟩:=h
 ·exact ⟨hB.trans (B.mono hB.size),Or.inl h⟩
 ·exact ⟨hB.trans (B.mono hB.size),Or.inr ⟨h0,v,rfl,hr.ints (hl h0) hi⟩⟩
def optO (x:Option (List Int)):Int × List Int:=match x with | none=>(4,[]) | some zs=>(0,zs)
theorem ResI.dim {w w' w0:World} {x:Option (List Int)} {e:Ending} (h:ResI w x e w') (hB:Below w0.heap.size w0 w) (hl:∀ zs,x=some zs→zs.length * 8≤140737488351232∧∀ z ∈ zs,InI z):DimR w0 (optO x) e w':=by
 obtain ⟨B,h⟩:=h;cases x with
 | none=>exact ⟨hB.trans (B.mono hB.size),Or.inl ⟨(show (4:Int)≠0 by decide),h⟩⟩
 | some zs =>
  obtain ⟨v,rfl,hr⟩:=h;exact ⟨hB.trans (B.mono hB.size),Or.inr ⟨rfl,v,rfl,hr.ints (hl _ rfl).1 (hl _ rfl).2⟩⟩
theorem bc_inI {a b:List Int} (ha:∀ z ∈ a,InI z) (hb:∀ z ∈ b,InI z):∀ z ∈ (Vb.bcO a b).2,InI z:=by
 unfold Vb.bcO;split
 ·simp
 ·split
  ·simp
  ·split
   ·split
    ·simp
    ·exact Vb.outL_inI ha hb
   ·simp
theorem product_inI {a b:List Int} (ha:∀ z ∈ a,InI z) (hb:∀ z ∈ b,InI z):∀ z ∈ (productP a b).2,InI z:=by
 unfold productP;split
 ·simp
 ·rename_i hl
  split
  ·simp
  ·split
   ·simp
   ·intro z hz;rcases List.mem_append.1 hz with hz | hz
    ·exact bc_inI (fun z hz=>ha z (List.mem_of_mem_take hz)) (fun z hz=>hb z (List.mem_of_mem_take hz)) z hz
    ·simp only [List.mem_cons,List.not_mem_nil,or_false] at hz;rcases hz with rfl | rfl
     ·exact ha _ (getD_mem (by omega))
     ·exact hb _ (getD_mem (by omega))
theorem product_len {a b:List Int} (h:(productP a b).1=0) (ha:a.length * 8≤140737488351232) (hb:b.length * 8≤140737488351232):(productP a b).2.length * 8≤140737488351232:=by
 unfold productP at h ⊢;split
 ·simp
 ·split
  ·simp
  ·split
   ·simp
   ·rename_i h1 h2 h3
    have:=bc_len (a:=a.take (a.length - 2)) (b:=b.take (b.length - 2)) (by simpa using h3);rw [List.length_take,List.length_take] at this;simp only [List.length_append,List.length_cons,List.length_nil];omega
theorem wou_inI {x gone:List Int} {keep:Bool} (hx:∀ z ∈ x,InI z):∀ k,k≤x.length→∀ z ∈ wouL x gone keep k,InI z:=by
 intro k
 induction k with
 | zero=>intro _ z hz;simp [wouL] at hz
 | succ k ih =>
  intro hk z hz;rw [wou_next] at hz;rcases List.mem_append.1 hz with hz | hz
  ·exact ih (by omega) z hz
  ·unfold cutI at hz;split at hz
   ·split at hz
    ·obtain rfl:z=1:=by simpa using hz
     exact inI_one
    ·cases hz
   ·obtain rfl:z=x.getD k 0:=by simpa using hz
    exact hx _ (getD_mem (by omega))
theorem reduced_inI {n:Nd} {x zs:List Int} (hx:∀ z ∈ x,InI z) (hl:x.length * 8≤140737488351232) (h:reducedP n x=some zs):zs.length * 8≤140737488351232∧∀ z ∈ zs,InI z:=by
 unfold reducedP at h;split at h
 ·cases h
 ·split at h
  ·obtain rfl:=Option.some.inj h;exact ⟨by have:=wou_len x (by assumption) (decide (intP n.attrs nmKeep 1=1)) x.length;omega,wou_inI hx _ (Nat.le_refl _)⟩
  ·cases h
theorem dims_at {w:World} {a:Option Addr} {c:Nat} {x:Vl} {ins:List Vl} (h:SlIn 3 rdValue w (.slice a ins.length c) ins) (hi:ins[0]?=some x):∃ b off vd,a=some ⟨b,off,none⟩∧w.cell? ⟨b,off+2,none⟩=some vd∧IntsIn w vd x.dims∧∀ y,ins[1]?=some y→∃ ve,w.cell? ⟨b,off+5,none⟩=some ve∧IntsIn w ve y.dims:=by
 obtain ⟨b,off,cap,vd,hv,hb,_,_,c2,_,_,hd⟩:=value_at h (j:=0) (x:=x) hi;obtain ⟨rfl,-,-⟩:=Value.slice.inj hv;refine ⟨b,off,vd,rfl,by simpa using c2,hd,fun y hj=>?_⟩;obtain ⟨b',off',cap',ve,hv',hb',_,_,c2',_,_,hd'⟩:=value_at h (j:=1) (x:=y) hj;obtain ⟨e,-,-⟩:=Value.slice.inj hv';obtain ⟨rfl,rfl⟩:b=b'∧off=off':=by simpa using e
 exact ⟨ve,by simpa using c2',hd'⟩
def redO (n:Nd) (x:List Int):Int × List Int:=optO (reducedP n x)
def softO (n:Nd) (x:List Int):Int × List Int:=match axisP (intP n.attrs nmAxis (-1)) x.length with | none=>(4,[]) | some _=>(0,x)
theorem soft_no {n:Nd} {x:List Int} (h:axisP (intP n.attrs nmAxis (-1)) x.length=none):softO n x=(4,[]):=by unfold softO;rw [h]
theorem soft_yes {n:Nd} {x:List Int} {k:Int} (h:axisP (intP n.attrs nmAxis (-1)) x.length=some k):softO n x=(0,x):=by unfold softO;rw [h]
attribute [local irreducible] Vb.bcO productP reducedP axisP intP RowI
set_option maxHeartbeats 12000000 in
theorem g_dims_Equal {w:World} {v:Value} {n:Nd} {x:Vl} {y:Vl} {ins:List Vl} (h:MkV w v n ins) (hi:ins[0]?=some x) (hj:ins[1]?=some y) (hl:n.op.toList=[69,113,117,97,108]∨n.op.toList=[76,101,115,115]∨n.op.toList=[71,114,101,97,116,101,114]) :
  Calls Tryz.prog 33 #[v] w fun e w'=>DimR w (Vb.bcO x.dims y.dims) e w':=by
 rcases hl with hl | hl | hl
 all_goals
  obtain ⟨vin,vat,vv,rfl,hm⟩:=h;obtain ⟨a1,c1,rfl⟩:=hm.node.is.form;obtain ⟨a2,c2,rfl⟩:=hm.node.ia.form;obtain ⟨a3,c3,rfl⟩:=hm.ins.form;have HM:=hid hm;obtain ⟨bx,ox,vd,rfl,g0,hd,hy⟩:=dims_at hm.ins hi;clear hm;obtain ⟨ve,g2,he⟩:=hy _ hj;have HE:=hid he;clear he;have hlen:1 < ins.length:=(List.getElem?_eq_some_iff.1 hj).1;clear hi hj;clear hy;have HD:=hid hd;clear hd;have HY:=hid (fun (W:World)=>rule_yes W);have HNo:=hid (fun (W:World)=>rule_no W);have g1:=cell_alloc g0 (.cells #[.string n.op,.string n.name,.slice a1 n.ins.length c1,.string n.out,.slice a2 n.attrs.length c2,.slice (some ⟨bx,ox,none⟩) ins.length c3] 63);have g3:=cell_alloc g2 (.cells #[.string n.op,.string n.name,.slice a1 n.ins.length c1,.string n.out,.slice a2 n.attrs.length c2,.slice (some ⟨bx,ox,none⟩) ins.length c3] 63);have HB1:=hid ((Below.refl w.heap.size w).alloc (Nat.le_refl _) (.cells #[.string n.op,.string n.name,.slice a1 n.ins.length c1,.string n.out,.slice a2 n.attrs.length c2,.slice (some ⟨bx,ox,none⟩) ins.length c3] 63));have HA1:=hid (BoxN.new w #[.string n.op,.string n.name,.slice a1 n.ins.length c1,.string n.out,.slice a2 n.attrs.length c2,.slice (some ⟨bx,ox,none⟩) ins.length c3] 63);obtain ⟨ad,cd,rfl⟩:=HD.out.shape;obtain ⟨ae,ce,rfl⟩:=HE.out.shape;go_enter Tryz.func33,Tryz.ntmps33
  go_wp2_with fail
  generalize World.alloc w _=W1 at g1 g3 HB1 HA1 ⊢;refine (spread_any (HD.out.below HB1.out) (HE.out.below HB1.out)).mono ?_;rintro e w2 hR;have hX:DimR w (Vb.bcO x.dims y.dims) e w2:=hR.dim HB1.out (fun h0=>by have:=bc_len h0;have:=HD.out.wf.1;have:=HE.out.wf.1;omega) (bc_inI HD.out.wf.2 HE.out.wf.2);have HX:=hid hX;clear hX;rcases hR with ⟨_,⟨_,rfl⟩ | ⟨_,v2,rfl,hr2⟩⟩
  ·exact ⟨rfl,HX.out⟩
  ·clear hr2;go_wp2
   go_ret
   exact HX.out
theorem dims_Equal {w:World} {v:Value} {n:Nd} {x:Vl} {y:Vl} {ins:List Vl} (h:MkV w v n ins) (hi:ins[0]?=some x) (hj:ins[1]?=some y) (hl:n.op.toList=[69,113,117,97,108]) :
  Calls Tryz.prog 33 #[v] w fun e w'=>DimR w (Vb.bcO x.dims y.dims) e w' :=
 g_dims_Equal h hi hj (Or.inl hl)
theorem dims_Less {w:World} {v:Value} {n:Nd} {x:Vl} {y:Vl} {ins:List Vl} (h:MkV w v n ins) (hi:ins[0]?=some x) (hj:ins[1]?=some y) (hl:n.op.toList=[76,101,115,115]) :
  Calls Tryz.prog 33 #[v] w fun e w'=>DimR w (Vb.bcO x.dims y.dims) e w' :=
 g_dims_Equal h hi hj (Or.inr (Or.inl hl))
theorem dims_Greater {w:World} {v:Value} {n:Nd} {x:Vl} {y:Vl} {ins:List Vl} (h:MkV w v n ins) (hi:ins[0]?=some x) (hj:ins[1]?=some y) (hl:n.op.toList=[71,114,101,97,116,101,114]) :
  Calls Tryz.prog 33 #[v] w fun e w'=>DimR w (Vb.bcO x.dims y.dims) e w' :=
 g_dims_Equal h hi hj (Or.inr (Or.inr hl))
set_option maxHeartbeats 4000000 in
theorem dims_Not {w:World} {v:Value} {n:Nd} {x:Vl} {ins:List Vl} (h:MkV w v n ins) (hi:ins[0]?=some x) (hl:n.op.toList=[78,111,116]) :
  Calls Tryz.prog 33 #[v] w fun e w'=>DimR w ((0,x.dims)) e w':=by
 obtain ⟨vin,vat,vv,rfl,hm⟩:=h;obtain ⟨a1,c1,rfl⟩:=hm.node.is.form;obtain ⟨a2,c2,rfl⟩:=hm.node.ia.form;obtain ⟨a3,c3,rfl⟩:=hm.ins.form;have HM:=hid hm;obtain ⟨bx,ox,vd,rfl,g0,hd,hy⟩:=dims_at hm.ins hi;clear hm;have hlen:0 < ins.length:=(List.getElem?_eq_some_iff.1 hi).1;clear hi;clear hy;have HD:=hid hd;clear hd;have HY:=hid (fun (W:World)=>rule_yes W);have HNo:=hid (fun (W:World)=>rule_no W);have g1:=cell_alloc g0 (.cells #[.string n.op,.string n.name,.slice a1 n.ins.length c1,.string n.out,.slice a2 n.attrs.length c2,.slice (some ⟨bx,ox,none⟩) ins.length c3] 63);have HB1:=hid ((Below.refl w.heap.size w).alloc (Nat.le_refl _) (.cells #[.string n.op,.string n.name,.slice a1 n.ins.length c1,.string n.out,.slice a2 n.attrs.length c2,.slice (some ⟨bx,ox,none⟩) ins.length c3] 63));have HA1:=hid (BoxN.new w #[.string n.op,.string n.name,.slice a1 n.ins.length c1,.string n.out,.slice a2 n.attrs.length c2,.slice (some ⟨bx,ox,none⟩) ins.length c3] 63);obtain ⟨ad,cd,rfl⟩:=HD.out.shape;go_enter Tryz.func33,Tryz.ntmps33
 go_wp2
 go_ret
 exact ⟨HB1.out,Or.inr ⟨rfl,_,rfl,HD.out.below HB1.out⟩⟩
set_option maxHeartbeats 4000000 in
theorem dims_Softmax {w:World} {v:Value} {n:Nd} {x:Vl} {ins:List Vl} (h:MkV w v n ins) (hi:ins[0]?=some x) (hl:n.op.toList=[83,111,102,116,109,97,120]) :
  Calls Tryz.prog 33 #[v] w fun e w'=>DimR w (softO n x.dims) e w':=by
 obtain ⟨vin,vat,vv,rfl,hm⟩:=h;obtain ⟨a1,c1,rfl⟩:=hm.node.is.form;obtain ⟨a2,c2,rfl⟩:=hm.node.ia.form;obtain ⟨a3,c3,rfl⟩:=hm.ins.form;have HM:=hid hm;obtain ⟨bx,ox,vd,rfl,g0,hd,hy⟩:=dims_at hm.ins hi;clear hm;have hlen:0 < ins.length:=(List.getElem?_eq_some_iff.1 hi).1;clear hi;clear hy;have HD:=hid hd;clear hd;have HY:=hid (fun (W:World)=>rule_yes W);have HNo:=hid (fun (W:World)=>rule_no W);have g1:=cell_alloc g0 (.cells #[.string n.op,.string n.name,.slice a1 n.ins.length c1,.string n.out,.slice a2 n.attrs.length c2,.slice (some ⟨bx,ox,none⟩) ins.length c3] 63);have HB1:=hid ((Below.refl w.heap.size w).alloc (Nat.le_refl _) (.cells #[.string n.op,.string n.name,.slice a1 n.ins.length c1,.string n.out,.slice a2 n.attrs.length c2,.slice (some ⟨bx,ox,none⟩) ins.length c3] 63));have HA1:=hid (BoxN.new w #[.string n.op,.string n.name,.slice a1 n.ins.length c1,.string n.out,.slice a2 n.attrs.length c2,.slice (some ⟨bx,ox,none⟩) ins.length c3] 63);obtain ⟨ad,cd,rfl⟩:=HD.out.shape;go_enter Tryz.func33,Tryz.ntmps33
 go_wp2_with fail
 generalize hW1:World.alloc w _=W1 at g1 HB1 HA1 ⊢;clear hW1;have hxl:=HD.out.wf.1;refine (sint_any (n:=n) ⟨_,_,rfl,(HM.out.below HB1.out).node⟩ nmAxis (-1)).mono ?_;rintro e w2 ⟨rfl,B2⟩;have HB2:=hid (HB1.out.trans (B2.mono HB1.out.size));have hz:=int_okP (nm:=nmAxis) (other:=-1) ⟨_,_,rfl,HM.out.node⟩ (by unfold InI;decide);have HS1:=hid (fun h=>soft_no (n:=n) (x:=x.dims) h);have HS2:=hid (fun k h=>soft_yes (n:=n) (x:=x.dims) (k:=k) h);generalize intP n.attrs nmAxis (-1)=z at *;have HAx:=hid (axis_any z x.dims.length hz (by omega) w2);clear B2 hz;go_wp2_with fail
 refine HAx.out.mono ?_;rintro e w3 ⟨hr,rfl⟩;cases ha:axisP z x.dims.length with
 | none =>
  rw [ha] at hr;obtain rfl:e=brk 4:=hr;have E:=hid (HS1.out ha);clear ha;exact ⟨rfl,HB2.out,Or.inl ⟨by rw [E.out];decide,by rw [E.out]⟩⟩
 | some k =>
  rw [ha] at hr;obtain rfl:e=.returned (.int .i64 k):=hr;have E:=hid (HS2.out k ha);clear ha;go_wp2
  go_ret
  exact ⟨HB2.out,Or.inr ⟨by rw [E.out],_,rfl,by rw [E.out];exact HD.out.below HB2.out⟩⟩
end
section
open Go.RowKit
set_option maxRecDepth 100000
def OutR (w:World) (n:Nd) (o:Int × Int × List Int) (e:Ending) (w':World):Prop :=
 Below w.heap.size w w'∧((o.1≠0∧e=.returned (.tuple #[.agg #[.string ⟨#[]⟩,.int .i64 0,.slice none 0 0],.int .i64 o.1])) ∨
  (o.1=0∧∃ v,e=.returned (.tuple #[.agg #[.string n.out,.int .i64 o.2.1,v],.int .i64 0])∧RowI w' w.heap.size v o.2.2))
theorem OutR.no {w w':World} {n:Nd} {o:Int × Int × List Int} {c:Int} (h:o=(c,0,[])) (hc:c≠0) (hB:Below w.heap.size w w'):OutR w n o (.returned (.tuple #[.agg #[.string ⟨#[]⟩,.int .i64 0,.slice none 0 0],.int .i64 c])) w':=by
 subst h;exact ⟨hB,Or.inl ⟨hc,rfl⟩⟩
theorem OutR.yes {w w':World} {n:Nd} {o:Int × Int × List Int} {t:Int} {ds:List Int} {v:Value} (h:o=(0,t,ds)) (hB:Below w.heap.size w w') (hr:RowI w' w.heap.size v ds):OutR w n o (.returned (.tuple #[.agg #[.string n.out,.int .i64 t,v],.int .i64 0])) w':=by
 subst h;exact ⟨hB,Or.inr ⟨rfl,v,rfl,hr⟩⟩
theorem inp_end {l:List Vl} {k:Nat} (h:¬ k < l.length):inpE (l.drop k)=0:=by
 rw [List.drop_eq_nil_of_le (by omega)];rfl
theorem inp_type {l:List Vl} {k:Nat} {x:Vl} (hx:l[k]?=some x) (h:chk x.typ 0=false):inpE (l.drop k)=5:=by
 obtain ⟨hk,rfl⟩:=List.getElem?_eq_some_iff.1 hx;rw [List.drop_eq_getElem_cons hk,inpE];exact if_pos h
theorem inp_dims {l:List Vl} {k:Nat} {x:Vl} (hx:l[k]?=some x) (h:chk x.typ 0=true) (g:(cnt x.dims).2≠0):inpE (l.drop k)=(cnt x.dims).2:=by
 obtain ⟨hk,rfl⟩:=List.getElem?_eq_some_iff.1 hx;rw [List.drop_eq_getElem_cons hk,inpE,if_neg (by rw [h];decide)];exact if_pos g
theorem inp_next {l:List Vl} {k:Nat} {x:Vl} (hx:l[k]?=some x) (h:chk x.typ 0=true) (g:(cnt x.dims).2=0):inpE (l.drop k)=inpE (l.drop (k+1)):=by
 obtain ⟨hk,rfl⟩:=List.getElem?_eq_some_iff.1 hx;rw [List.drop_eq_getElem_cons hk,inpE,if_neg (by rw [h];decide),if_neg (fun c=>c g)]
theorem put4_row {w:World} {D B0 B:Nat} {v a b c d:Value} {zs:List Int} (h:RowI w D v zs) (hl:B+1 < D) (hb:B0≤D) :
  RowI ((((w.setCell ⟨B,0,none⟩ a).setCell ⟨B,1,none⟩ b).setCell ⟨B,2,none⟩ c).setCell ⟨B+1,0,none⟩ d) B0 v zs:=by
 refine RowI.base (B:=D) ?_ hb;unfold RowI at *;exact ownsRow_setCell_below (ownsRow_setCell_below (ownsRow_setCell_below (ownsRow_setCell_below h (a:=⟨B,0,none⟩) (show B < D by omega) _) (a:=⟨B,1,none⟩) (show B < D by omega) _) (a:=⟨B,2,none⟩) (show B < D by omega) _) (a:=⟨B+1,0,none⟩) hl _
def keepsB (d:Option Tmp):Bool:=match d with | some k=>decide (k≠4∧k≠5) | none=>true
theorem leaves_put {R:Ending→World→Prop} {u:FrameMode} {w:World} {a:Act} {dst:Option Tmp} (hd:keepsB dst=true) (v:Value)
  (h:Leaves Tryz.prog Tryz.f9 (a.put dst v).tmps R (a.put dst v).defers u w):Leaves Tryz.prog Tryz.f9 a.tmps R a.defers u w:=by
 cases dst with
 | none=>exact h
 | some k =>
  have hk:k≠4∧k≠5:=by simpa [keepsB] using hd
  refine leaves_congr (fun W=>?_) _ _ _ h;have e4:(a.tmps.setIfInBounds k v).getD 4 undef=a.tmps.getD 4 undef:=by
   simp [Array.getD_eq_getD_getElem?,Array.getElem?_setIfInBounds,hk.1]
  have e5:(a.tmps.setIfInBounds k v).getD 5 undef=a.tmps.getD 5 undef:=by
   simp [Array.getD_eq_getD_getElem?,Array.getElem?_setIfInBounds,hk.2]
  show (results Tryz.f9 (a.tmps.setIfInBounds k v)).run Tryz.prog W=_;unfold results;rw [Tryz.results9];simp only [e4,e5,List.mapM_toArray,List.mapM_cons,List.mapM_nil]
attribute [local irreducible] cnt chk checkP inpE outP folB thenE RowI
set_option maxHeartbeats 16000000 in
theorem out_any {w:World} {vn vv:Value} {n:Nd} {ins:List Vl} (hn:NodeV w vn n) (hs:SlIn 3 rdValue w vv ins) (hG:Glob w) {ty:Int × Int} {ds:Int × List Int}
  (hT:checkP n=0→ins.length=n.ins.length→inpE ins=0→∀ (W:World) (v:Value),Below w.heap.size w W→MkV W v n ins→Calls Tryz.prog 32 #[v] W fun e w'=>TyR ty e∧Below W.heap.size W w')
  (hD:checkP n=0→ins.length=n.ins.length→inpE ins=0→ty.1=0→∀ (W:World) (v:Value),Below w.heap.size w W→MkV W v n ins→Calls Tryz.prog 33 #[v] W fun e w'=>DimR W ds e w') :
  Calls Tryz.prog 9 #[vn,vv] w fun e w'=>OutR w n (outP n ins ty ds) e w':=by
 have hmf:∀ (fn:Fn) (first cap:Array Value) (w:World),(Instr.makeFunc fn first cap).run Tryz.prog w=.ok (.func fn first cap) w:=fun _ _ _ _=>rfl;obtain ⟨vin,vat,rfl,hm⟩:=hn;obtain ⟨a1,c1,rfl⟩:=hm.is.form;obtain ⟨a2,c2,rfl⟩:=hm.ia.form;obtain ⟨a3,c3,rfl⟩:=hs.form;have hil:=hs.len;have hnl:=hm.is.len;have HN:=hid hm;have HS:=hid hs;have HG:=hid hG;have HT:=hid hT;have HD:=hid hD;clear hm hs hG hT hD;have HY:=hid (fun (W:World)=>rule_yes W);have HNo:=hid (fun (W:World)=>rule_no W);have HGY:=hid (fun (W:World)=>good_yes W);have HGN:=hid (fun (W:World) (c:Int) (h:c≠0)=>good_no c h W);unfold Nd.val;go_enter_defers Tryz.func9,Tryz.ntmps9
 go_wp2_with fail
 have HB1:Hid (Below w.heap.size w (((w.alloc (Obj.cells #[.string n.op,.string n.name,.slice a1 n.ins.length c1,.string n.out,.slice a2 n.attrs.length c2] 25)).alloc (Obj.cells #[.string ⟨#[]⟩,.int .i64 0,.slice none 0 0] 29)).alloc (Obj.cells #[.int .i64 0] 30))):=hid ((((Below.refl _ w).alloc (Nat.le_refl _) _).alloc (by simp) _).alloc (by simp;omega) _);have HND:Hid (BoxN (((w.alloc (Obj.cells #[.string n.op,.string n.name,.slice a1 n.ins.length c1,.string n.out,.slice a2 n.attrs.length c2] 25)).alloc (Obj.cells #[.string ⟨#[]⟩,.int .i64 0,.slice none 0 0] 29)).alloc (Obj.cells #[.int .i64 0] 30)) w.heap.size #[.string n.op,.string n.name,.slice a1 n.ins.length c1,.string n.out,.slice a2 n.attrs.length c2] 25):=hid ((BoxN.new w #[.string n.op,.string n.name,.slice a1 n.ins.length c1,.string n.out,.slice a2 n.attrs.length c2] 25).below' (((Below.refl _ _).alloc (Nat.le_refl _) _).alloc (by simp) _));have HOC:Hid (OutC (((w.alloc (Obj.cells #[.string n.op,.string n.name,.slice a1 n.ins.length c1,.string n.out,.slice a2 n.attrs.length c2] 25)).alloc (Obj.cells #[.string ⟨#[]⟩,.int .i64 0,.slice none 0 0] 29)).alloc (Obj.cells #[.int .i64 0] 30)) (w.heap.size+1) ⟨#[]⟩ 0 (.slice none 0 0) 0):=hid ⟨by simp [go_sem],by simp [go_sem],by simp [go_sem],by simp [go_sem],by simp [go_sem],by simp [go_sem],by simp [go_sem],by simp [go_sem]⟩;generalize World.alloc (World.alloc (World.alloc w _) _) _=W1 at HB1 HND HOC ⊢;refine (scheck_any (n:=n) ⟨_,_,rfl,HN.out.below HB1.out⟩ (HG.out.below HB1.out)).mono ?_;rintro e w2 ⟨rfl,B2⟩;have HB2:Hid (Below W1.heap.size W1 w2):=hid B2;clear B2;have HO1:=hid (fun h=>outP_check (n:=n) (ins:=ins) (ty:=ty) (ds:=ds) h);obtain ⟨r,hr⟩:∃ r,checkP n=r:=⟨_,rfl⟩;by_cases hz:r=0
 case neg =>
  have HR:Hid (outP n ins ty ds=(r,0,[])):=hid (by rw [HO1.out (by rw [hr];exact hz),hr]);have HZ:=hid hz;rw [hr];clear hr hz;go_wp2_with fail
  refine (HGN.out _ _ HZ.out).mono ?_;rintro e w' ⟨rfl,rfl⟩;refine leaves_cons (f:=26) (args:=#[.pointer (some ⟨w.heap.size+1,0,none⟩),.pointer (some ⟨w.heap.size+1+1,0,none⟩)]) (by simp) (by simp [go_sem]) ?_;refine (catch_broken (w.heap.size+1) r _ (HOC.out.below HB2.out)).mono ?_;rintro e u' w'' ⟨rfl,rfl,hC',hB'⟩;obtain ⟨k0,k1,k2,k3,-,-,-,-⟩:=hC';simp [Leaves,settle,results,Tryz.results9,go_sem,k0,k1,k2,k3];exact OutR.no HR.out HZ.out ((HB1.out.trans (HB2.out.mono HB1.out.size)).trans (hB'.mono (Nat.le_succ _)))
 subst hz;have HCk:=hid hr;rw [hr];clear hr HO1;go_wp2_with fail
 refine (HGY.out _).mono ?_;rintro e w' ⟨rfl,rfl⟩;obtain ⟨k0,k1,k2,k3,k4⟩:=(HND.out.below' HB2.out).five;by_cases hl:ins.length=n.ins.length
 case neg =>
  have HR:Hid (outP n ins ty ds=(4,0,[])):=hid (outP_len HCk.out hl);have hb:((ins.length:Int)==(n.ins.length:Int))=false:=by simp;omega
  clear hl;go_wp2_with fail
  refine (HNo.out _).mono ?_;rintro e w' ⟨rfl,rfl⟩;refine leaves_cons (f:=26) (args:=#[.pointer (some ⟨w.heap.size+1,0,none⟩),.pointer (some ⟨w.heap.size+1+1,0,none⟩)]) (by simp) (by simp [go_sem]) ?_;refine (catch_broken (w.heap.size+1) 4 _ (HOC.out.below HB2.out)).mono ?_;rintro e u' w'' ⟨rfl,rfl,hC',hB'⟩;obtain ⟨k0,k1,k2,k3,-,-,-,-⟩:=hC';simp [Leaves,settle,results,Tryz.results9,go_sem,k0,k1,k2,k3];exact OutR.no HR.out (by decide) ((HB1.out.trans (HB2.out.mono HB1.out.size)).trans (hB'.mono (Nat.le_succ _)))
 have HLn:=hid hl;have hb:((ins.length:Int)==(n.ins.length:Int))=true:=by simp;omega
 clear hl;go_wp2_with fail
 refine (HY.out _).mono ?_;rintro e w' ⟨rfl,rfl⟩;go_wp2_with fail
 clear hb k0 k1 k2 k3 k4;generalize hWq:w'=W2 at *;clear hWq;go_loopw [28] (fun i wr=>∃ k:Nat,k≤ins.length∧i=.int .i64 (k:Int)∧Hid (inpE ins=inpE (ins.drop k))∧Hid (Below W1.heap.size W1 wr)) (fun i _=>ins.length - (intOf i).toNat)
 case atStart=>exact ⟨0,Nat.zero_le _,rfl,hid rfl,HB2⟩
 case round =>
  obtain ⟨k,hk,rfl,hE,hW⟩:=hrel;have hBw:=hid (HB1.out.trans (hW.out.mono HB1.out.size));by_cases hkl:k < ins.length
  ·have hki:(k:Int) < (ins.length:Int):=by omega
   obtain ⟨x,hx⟩:∃ x,ins[k]?=some x:=⟨_,List.getElem?_eq_getElem hkl⟩;obtain ⟨b,off,cap,vd,hv,hb,c0,c1',c2',h1,h2,h3⟩:=value_at HS.out hx;obtain ⟨rfl,hle,rfl⟩:=Value.slice.inj hv;clear hle hv h1;have c0:=(hBw.out.cell (p:=⟨b,off+k * 3,none⟩) hb).trans c0;have c1':=(hBw.out.cell (p:=⟨b,off+k * 3+1,none⟩) hb).trans c1';have c2':=(hBw.out.cell (p:=⟨b,off+k * 3+2,none⟩) hb).trans c2';have HX:=hid hx;have HDm:=hid (h3.below hBw.out);obtain ⟨t0,t1⟩:=h2;clear hx h3;obtain ⟨ad,cd,rfl⟩:=HDm.out.shape;go_wp2_with fail
   have HW3:Hid (Below W1.heap.size W1 (wr.alloc (Obj.cells #[.string x.name,.int .i64 x.typ,.slice ad x.dims.length cd] 29))):=hid (hW.out.alloc hW.out.size _);have HP3:=hid (BoxN.new wr #[.string x.name,.int .i64 x.typ,.slice ad x.dims.length cd] 29);have HDm3:=hid (HDm.out.below ((Below.refl _ wr).alloc (Nat.le_refl _) (Obj.cells #[.string x.name,.int .i64 x.typ,.slice ad x.dims.length cd] 29)));generalize wr.alloc _=w3 at HW3 HP3 HDm3 ⊢;clear c0 c1' c2' HDm t0 t1
   with_reducible refine (check_any x.typ 0 (by decide) (by decide) w3).mono ?_
   rintro e w' ⟨rfl,rfl⟩;cases hc:chk x.typ 0 with
   | false =>
    have HI:=hid (hE.out.trans (inp_type HX.out hc));have HR:Hid (outP n ins ty ds=(5,0,[])):=hid (by rw [outP_ins HCk.out HLn.out (by rw [HI.out];decide),HI.out]);clear hc HI;obtain ⟨k0,k1,k2,k3,z0,z1,z2,z3⟩:=HOC.out.below HW3.out;go_wp2
    have hput:=(HOC.out.below HW3.out).put ⟨#[]⟩ 0 (.slice none 0 0) 5;clear k0 k1 k2 k3 z0 z1 z2 z3;refine leaves_cons (f:=26) (args:=#[.pointer (some ⟨w.heap.size+1,0,none⟩),.pointer (some ⟨w.heap.size+1+1,0,none⟩)]) (by simp) (by simp [go_sem]) ?_;refine (catch_idle _ _ _).mono ?_;rintro e u' w'' ⟨rfl,rfl,rfl⟩;obtain ⟨k0,k1,k2,k3,-,-,-,-⟩:=hput;simp [Leaves,settle,results,Tryz.results9,go_sem,k0,k1,k2,k3];exact OutR.no HR.out (by decide) ((HB1.out.trans (HW3.out.mono HB1.out.size)).trans ((below_put4 _ _ _ _).mono (Nat.le_succ _)))
   | true =>
    have HC:=hid hc;clear hc;have p2:=HP3.out.cell 2 rfl;go_wp2_with fail
    refine (count_any HDm3.out).mono ?_;rintro e w4 ⟨rfl,B4⟩;have HW4:=hid (HW3.out.trans (B4.mono HW3.out.size));clear B4 p2;obtain ⟨ce,hce⟩:∃ ce,(cnt x.dims).2=ce:=⟨_,rfl⟩;generalize (cnt x.dims).1=cf;by_cases hz:ce=0
    ·subst hz;have HN2:=hid (hE.out.trans (inp_next HX.out HC.out hce));rw [hce];clear hce;go_wp2_with fail
     refine (HGY.out _).mono ?_;rintro e w' ⟨rfl,rfl⟩;go_wp2
     go_roundw
     case rel=>exact ⟨k+1,by omega,by go_num,HN2,HW4⟩
     case measure=>simp [intOf];omega
    ·have HI:=hid (hE.out.trans (inp_dims HX.out HC.out (by rw [hce];exact hz)));have HR:Hid (outP n ins ty ds=(ce,0,[])):=hid (by rw [outP_ins HCk.out HLn.out (by rw [HI.out,hce];exact hz),HI.out,hce]);have HZ:=hid hz;rw [hce];clear hce hz HI;go_wp2_with fail
     refine (HGN.out _ _ HZ.out).mono ?_;rintro e w' ⟨rfl,rfl⟩;refine leaves_cons (f:=26) (args:=#[.pointer (some ⟨w.heap.size+1,0,none⟩),.pointer (some ⟨w.heap.size+1+1,0,none⟩)]) (by simp) (by simp [go_sem]) ?_;refine (catch_broken (w.heap.size+1) ce _ (HOC.out.below HW4.out)).mono ?_;rintro e u' w'' ⟨rfl,rfl,hC',hB'⟩;obtain ⟨k0,k1,k2,k3,-,-,-,-⟩:=hC';simp [Leaves,settle,results,Tryz.results9,go_sem,k0,k1,k2,k3];exact OutR.no HR.out HZ.out ((HB1.out.trans (HW4.out.mono HB1.out.size)).trans (hB'.mono (Nat.le_succ _)))
  ·have hki:¬ (k:Int) < (ins.length:Int):=by omega
   obtain rfl:k=ins.length:=by omega
   have HI0:Hid (inpE ins=0):=hid (hE.out.trans (inp_end (Nat.lt_irrefl _)));clear hE HB2;obtain ⟨k0,k1,k2,k3,k4⟩:=(HND.out.below' hW.out).five;go_wp2_with fail
   clear k0 k1 k2 k3 k4;have HW5:Hid (Below W1.heap.size W1 (wr.alloc (Obj.cells #[.string n.op,.string n.name,.slice a1 n.ins.length c1,.string n.out,.slice a2 n.attrs.length c2,.slice a3 ins.length c3] 63))):=hid (hW.out.alloc hW.out.size _);have HP5:=hid (BoxN.new wr #[.string n.op,.string n.name,.slice a1 n.ins.length c1,.string n.out,.slice a2 n.attrs.length c2,.slice a3 ins.length c3] 63);generalize wr.alloc _=w5 at HW5 HP5 ⊢;generalize wr.heap.size=bM at HP5 ⊢;have HMk:Hid (∀ W,Below W1.heap.size W1 W→MkV W (.agg #[.string n.op,.string n.name,.slice a1 n.ins.length c1,.string n.out,.slice a2 n.attrs.length c2,.slice a3 ins.length c3]) n ins):=hid fun W hB=>⟨_,_,_,rfl,HN.out.below (HB1.out.trans (hB.mono HB1.out.size)),HS.out.below (rdValue_below (HB1.out.trans (hB.mono HB1.out.size))) (HB1.out.trans (hB.mono HB1.out.size))⟩;clear hW hBw HS;refine (HT.out HCk.out HLn.out HI0.out _ _ (HB1.out.trans (HW5.out.mono HB1.out.size)) (HMk.out _ HW5.out)).mono ?_;rintro e w6 ⟨hty,B6⟩;have HW6:=hid (HW5.out.trans (B6.mono HW5.out.size));have HP6:=hid (HP5.out.below' B6);clear B6 HW5 HP5 HT;rcases hty with ⟨hz,rfl⟩ | ⟨hz,rfl⟩
   ·have HR:=hid (outP_typ (ds:=ds) HCk.out HLn.out HI0.out hz);have HZ:=hid hz;clear hz;refine leaves_cons (f:=26) (args:=#[.pointer (some ⟨w.heap.size+1,0,none⟩),.pointer (some ⟨w.heap.size+1+1,0,none⟩)]) (by simp) (by simp [go_sem]) ?_;refine (catch_broken (w.heap.size+1) ty.1 _ (HOC.out.below HW6.out)).mono ?_;rintro e u' w'' ⟨rfl,rfl,hC',hB'⟩;obtain ⟨k0,k1,k2,k3,-,-,-,-⟩:=hC';simp [Leaves,settle,results,Tryz.results9,go_sem,k0,k1,k2,k3];exact OutR.no HR.out HZ.out ((HB1.out.trans (HW6.out.mono HB1.out.size)).trans (hB'.mono (Nat.le_succ _)))
   have HTy:=hid hz;clear hz;obtain ⟨k0,k1,k2,k3,k4,k5⟩:=HP6.out.six;go_wp2_with fail
   clear k0 k1 k2 k3 k4 k5;refine (HD.out HCk.out HLn.out HI0.out HTy.out _ _ (HB1.out.trans (HW6.out.mono HB1.out.size)) (HMk.out _ HW6.out)).mono ?_;rintro e w7 ⟨B7,hc⟩;have HW7:=hid (HW6.out.trans (B7.mono HW6.out.size));have HP7:=hid (HP6.out.below' B7);clear B7 HW6 HP6 HD;rcases hc with ⟨hz,rfl⟩ | ⟨hz,v7,rfl,hi7⟩
   ·have HR:=hid (outP_dims HCk.out HLn.out HI0.out HTy.out hz);have HZ:=hid hz;clear hz;refine leaves_cons (f:=26) (args:=#[.pointer (some ⟨w.heap.size+1,0,none⟩),.pointer (some ⟨w.heap.size+1+1,0,none⟩)]) (by simp) (by simp [go_sem]) ?_;refine (catch_broken (w.heap.size+1) ds.1 _ (HOC.out.below HW7.out)).mono ?_;rintro e u' w'' ⟨rfl,rfl,hC',hB'⟩;obtain ⟨k0,k1,k2,k3,-,-,-,-⟩:=hC';simp [Leaves,settle,results,Tryz.results9,go_sem,k0,k1,k2,k3];exact OutR.no HR.out HZ.out ((HB1.out.trans (HW7.out.mono HB1.out.size)).trans (hB'.mono (Nat.le_succ _)))
   have HDz:=hid hz;have HI7:=hid hi7;clear hz;obtain ⟨ad,cd,rfl⟩:=hi7.shape;have hdl:=hi7.wf.1;clear hi7;go_wp2_with fail
   refine (count_any HI7.out).mono ?_;rintro e w8 ⟨rfl,B8⟩;have HW8:=hid (HW7.out.trans (B8.mono HW7.out.size));have HP8:=hid (HP7.out.below' B8);have HI8:=hid (HI7.out.below B8);clear B8 HW7 HP7 HI7;obtain ⟨ce,hce⟩:∃ ce,(cnt ds.2).2=ce:=⟨_,rfl⟩;generalize (cnt ds.2).1=cf;by_cases hz:ce=0
   case neg =>
    have HR:Hid (outP n ins ty ds=(ce,0,[])):=hid (by rw [outP_cnt HCk.out HLn.out HI0.out HTy.out HDz.out (by rw [hce];exact hz),hce]);have HZ:=hid hz;rw [hce];clear hce hz;go_wp2_with fail
    refine (HGN.out _ _ HZ.out).mono ?_;rintro e w' ⟨rfl,rfl⟩;refine leaves_cons (f:=26) (args:=#[.pointer (some ⟨w.heap.size+1,0,none⟩),.pointer (some ⟨w.heap.size+1+1,0,none⟩)]) (by simp) (by simp [go_sem]) ?_;refine (catch_broken (w.heap.size+1) ce _ (HOC.out.below HW8.out)).mono ?_;rintro e u' w'' ⟨rfl,rfl,hC',hB'⟩;obtain ⟨k0,k1,k2,k3,-,-,-,-⟩:=hC';simp [Leaves,settle,results,Tryz.results9,go_sem,k0,k1,k2,k3];exact OutR.no HR.out HZ.out ((HB1.out.trans (HW8.out.mono HB1.out.size)).trans (hB'.mono (Nat.le_succ _)))
   subst hz;have HCe:=hid hce;rw [hce];clear hce;go_wp2_with fail
   refine (HGY.out _).mono ?_;rintro e w' ⟨rfl,rfl⟩;obtain ⟨k0,k1,k2,k3,k4,k5⟩:=HP8.out.six;go_wp2_with fail
   clear k0 k1 k2 k3 k4 k5 HP8;refine (mthen_any ty.2 (HMk.out _ HW8.out) (HG.out.below (HB1.out.trans (HW8.out.mono HB1.out.size)))).mono ?_;rintro e w9 ⟨hf,B9⟩;have HW9:=hid (HW8.out.trans (B9.mono HW8.out.size));have HI9:=hid (HI8.out.below B9);clear B9 HW8 HI8;rcases hf with ⟨hf,rfl⟩ | ⟨hf,rfl⟩
   case inr =>
    have HR:=hid (outP_fol HCk.out HLn.out HI0.out HTy.out HDz.out HCe.out hf);clear hf;refine leaves_cons (f:=26) (args:=#[.pointer (some ⟨w.heap.size+1,0,none⟩),.pointer (some ⟨w.heap.size+1+1,0,none⟩)]) (by simp) (by simp [go_sem]) ?_;refine (catch_broken (w.heap.size+1) 4 _ (HOC.out.below HW9.out)).mono ?_;rintro e u' w'' ⟨rfl,rfl,hC',hB'⟩;obtain ⟨k0,k1,k2,k3,-,-,-,-⟩:=hC';simp [Leaves,settle,results,Tryz.results9,go_sem,k0,k1,k2,k3];exact OutR.no HR.out (by decide) ((HB1.out.trans (HW9.out.mono HB1.out.size)).trans (hB'.mono (Nat.le_succ _)))
   have HR:=hid (outP_ok HCk.out HLn.out HI0.out HTy.out HDz.out HCe.out hf);clear hf;go_wp2_with fail
   refine wp_region_planD 5 [0,1,2,3,4] (fun W'=>Below w9.heap.size w9 W') (by kernel_rfl) (by kernel_rfl) (fun c i o v a W ho hL=>?hQ) (Below.refl _ _).drew ?_
   case hQ =>
    have hd:keepsB o.dst=true:=by
     rcases i with _ | _ | _ | _ | _ | _ | _ | _ | i
     all_goals first | (simp at ho;subst ho;rfl) | (simp at ho)
    exact leaves_put hd v hL
   have B0:Hid (Below w9.heap.size w9 w9.drew):=hid (Below.refl _ _).drew;generalize w9.drew=wD at B0 ⊢
   repeat
    refine plan_read (v:=?_) rfl rfl (Or.inl ⟨by rfl,?_⟩) ?_;rotate_left
    ·intro W' hSw;obtain ⟨k0,k1,k2,k3,k4⟩:=(HND.out.below' (HW9.out.trans (hSw.mono HW9.out.size))).five;go_simp
     try with_reducible rfl
    try simp only [aPut]
   refine plan_act rfl rfl (fun K' hK=>?_);go_simp
   refine (Vb.clone_any (HI9.out.below B0.out)).mono ?_;rintro e w10 ⟨v10,rfl,hr10,B10⟩;have HB10:=hid (B0.out.trans (B10.mono B0.out.size));have HW10:=hid (HW9.out.trans (HB10.out.mono HW9.out.size));have HRow:Hid (RowI w10 w.heap.size v10 ds.2):=hid (by
    have h1:RowI w10 wD.heap.size v10 ds.2:=by unfold RowI;exact hr10
    exact h1.base (Nat.le_trans HB1.out.size (Nat.le_trans HW9.out.size B0.out.size)))
   have HRD:Hid (RowI w10 wD.heap.size v10 ds.2):=hid (by unfold RowI;exact hr10);have HLt:Hid (w.heap.size+1+1 < wD.heap.size):=hid (Nat.lt_of_lt_of_le (cell_in HOC.out.c3) (Nat.le_trans HW9.out.size B0.out.size));obtain ⟨a10,c10,rfl⟩:=HRow.out.form;clear hr10 B10;refine hK.out _ _ HB10.out ?_;clear hK K';refine plan_tail rfl ?_;simp only [aDrp];obtain ⟨k0,k1,k2,k3,z0,z1,z2,z3⟩:=HOC.out.below HW10.out;go_wp2
   clear k0 k1 k2 k3 z0 z1 z2 z3;have hput:=(HOC.out.below HW10.out).put n.out ty.2 (.slice a10 ds.2.length c10) 0;refine leaves_cons (f:=26) (args:=#[.pointer (some ⟨w.heap.size+1,0,none⟩),.pointer (some ⟨w.heap.size+1+1,0,none⟩)]) (by simp) (by simp [go_sem]) ?_;refine (catch_idle _ _ _).mono ?_;rintro e u' w'' ⟨rfl,rfl,rfl⟩;obtain ⟨k0,k1,k2,k3,-,-,-,-⟩:=hput;simp [Leaves,settle,results,Tryz.results9,go_sem,k0,k1,k2,k3];have HBp:Hid (Below w.heap.size w10 ((((w10.setCell ⟨w.heap.size+1,0,none⟩ (.string n.out)).setCell ⟨w.heap.size+1,1,none⟩ (.int .i64 ty.2)).setCell ⟨w.heap.size+1,2,none⟩ (.slice a10 ds.2.length c10)).setCell ⟨w.heap.size+1+1,0,none⟩ (.int .i64 0))):=hid ((below_put4 _ _ _ _).mono (Nat.le_succ _));exact OutR.yes HR.out ((HB1.out.trans (HW10.out.mono HB1.out.size)).trans HBp.out) (put4_row HRD.out HLt.out (Nat.le_trans HB1.out.size (Nat.le_trans HW9.out.size B0.out.size)))
end
end Go.Proofs.YtijhdmidffenbaaGreatDoor
