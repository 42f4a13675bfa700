import Derived.Test.YtijhdmidffenbaaGreatDoorElM2ec
import Derived.Test.YtijhdmidffenbaaGreatDoorElM2rm
import Derived.Test.YtijhdmidffenbaaGreatDoorElMec
import Derived.Test.YtijhdmidffenbaaGreatDoorElMrm
import Derived.Test.YtijhdmidffenbaaGreatDoorElM3ec
import Derived.Test.YtijhdmidffenbaaGreatDoorElM3rm
import Derived.Test.YtijhdmidffenbaaGreatDoorEpCec
import Derived.Test.YtijhdmidffenbaaGreatDoorJaM5rm
set_option linter.unusedVariables false
set_option linter.unusedSimpArgs false
namespace Go.Proofs.YtijhdmidffenbaaGreatDoor
section
namespace Vx
open Go.RowKit Vw Vb
def Spr (a W:List Int):Prop:=(cnt a).2=0∧(cnt W).2=0∧a.length≤W.length∧∀ i,bk a i=1∨bk a i=bk W i
theorem spr_of {a W:List Int} (h1:(bcO a W).1=0) (h2:(bcO a W).2=W):Spr a W:=by
 obtain ⟨g1,g2,g3,g4,g5⟩:=bc_good h1;have ho:outL a W=W:=by rw [g4] at h2;exact h2
 have hl:max a.length W.length=W.length:=by rw [←outL_length,ho]
 refine ⟨g1,g2,by omega,fun i=>?_⟩;have pa:=bk_pos (cnt_pos g1) i;by_cases hi:i < W.length
 ·have h3:=outL_get (a:=a) (b:=W) (j:=W.length - 1 - i) (by omega);rw [ho,hl,show W.length - 1 - (W.length - 1 - i)=i by omega,←bk_in hi] at h3;have h4:=(co1_if a W i).1 (g3 i (by omega));omega
 ·exact Or.inl (bk_out (by omega))
theorem Spr.bc {a W:List Int} (h:Spr a W):(bcO a W).1=0∧(bcO a W).2=W:=by
 obtain ⟨g1,g2,g3,g4⟩:=h;have ho:outL a W=W:=by
  refine list_getD (by rw [outL_length];omega) fun j hj=>?_;rw [outL_get (by omega),show max a.length W.length=W.length by omega];have h1:=bk_pos (cnt_pos g2) (W.length - 1 - j);have h2:=g4 (W.length - 1 - j);have h3:bk W (W.length - 1 - j)=W.getD j 0:=by rw [bk_in (by omega),show W.length - 1 - (W.length - 1 - j)=j by omega]
  omega
 have:bcO a W=(0,W):=by
  unfold bcO;rw [if_neg (fun c=>c g1),if_neg (fun c=>c g2),if_pos (show Co a W _ from fun i _=>(co1_if a W i).2 (by rcases g4 i with h | h<;>simp [h])),ho,if_neg (fun c=>c g2)]
 rw [this];exact ⟨rfl,rfl⟩
theorem Spr.trans {a U W:List Int} (h:Spr a U) (g:Spr U W):Spr a W:=by
 obtain ⟨h1,h2,h3,h4⟩:=h;obtain ⟨g1,g2,g3,g4⟩:=g;refine ⟨h1,g2,by omega,fun i=>?_⟩;rcases h4 i with h | h
 ·exact Or.inl h
 ·rw [h];exact g4 i
theorem spr_left {a b:List Int} (h:(bcO a b).1=0):Spr a (bcO a b).2:=by
 obtain ⟨e1,e2,-,-⟩:=bc_left h;exact spr_of e1 e2
theorem spr_right {a b:List Int} (h:(bcO a b).1=0):Spr b (bcO a b).2:=by
 obtain ⟨e1,e2⟩:=bc_right h;exact spr_of e1 e2
theorem spr_self {a:List Int} (h:(cnt a).2=0):Spr a a:=⟨h,h,Nat.le_refl _,fun _=>Or.inr rfl⟩
end Vx
open Go.RowKit
set_option maxRecDepth 100000
def unL:List (List UInt8):=[[73,100,101,110,116,105,116,121],[78,101,103],[65,98,115],[78,111,116],[82,101,108,117],[83,113,114,116],[70,108,111,111,114],[69,120,112],[83,105,103,109,111,105,100],[84,97,110,104]]
def lWhere:List UInt8:=[87,104,101,114,101]
def lClip:List UInt8:=[67,108,105,112]
def lCast:List UInt8:=[67,97,115,116]
def tn0:Tn:=(0,[],[])
def fA (n:Nd) (ts:List Tn):List Int→Int × Int :=
 if n.op.toList=lWhere then whereF
 else if n.op.toList=lClip then clipF (bitsP n.attrs ⟨#[109,105,110]⟩ 4286578688) (bitsP n.attrs ⟨#[109,97,120]⟩ 2139095040)
 else if n.op.toList=lCast then castF (ts.getD 0 tn0).1 (intP n.attrs ⟨#[116,111]⟩ 0)
 else if n.op.toList ∈ unL then fun xs=>Fl.un n.op.toList (ts.getD 0 tn0).1 (xs.getD 0 0)
 else fun xs=>Fl.bin n.op.toList (ts.getD 0 tn0).1 (xs.getD 0 0) (xs.getD 1 0)
def RA (n:Nd) (xs:List Int):Prop:=n.op.toList=lWhere→Bit xs
def begA (n:Nd) (ts:List Tn):Int × Int × List Int:=begO n ts (tyO n (ts.map tvV)) (dsO n (ts.map tvV))
def wA (n:Nd) (ts:List Tn):List Int:=(begA n ts).2.2
def atA (n:Nd) (ts:List Tn) (k:Nat):List Int:=rowAt (ts.map (spT (wA n ts))) k
def elA (n:Nd) (ts:List Tn):Int × Int × List Int × List Int :=
 if n.op.toList ∈ elNames then doO (begA n ts) (fun k=>fA n ts (atA n ts k)) (nW (wA n ts)) else elseO (begA n ts)
def arE (op:List UInt8):Nat:=if op=lWhere then 3 else if op ∈ cmpL++ariL then 2 else 1
theorem el_opT:∀ r ∈ opT,r.1 ∈ elNames→(r.2.2.1=arE r.1∧r.2.2.2=arE r.1)∧clsP r.1=r.2.1∧((r.1=lWhere∧r.2.1=4)∨(r.1=lClip∧r.2.1=18)∨(r.1=lCast∧r.2.1=5)∨(r.1 ∈ unL∧r.2.1=1)∨(r.1 ∈ cmpL∧r.2.1=2)∨(r.1 ∈ ariL∧r.2.1=3)):=by decide +kernel
theorem un_opT:∀ l ∈ unL,l≠lWhere∧l≠lClip∧l≠lCast:=by decide +kernel
theorem bi_opT:∀ l ∈ cmpL++ariL,l≠lWhere∧l≠lClip∧l≠lCast∧l ∉ unL:=by decide +kernel
theorem fA_where {n:Nd} {ts:List Tn} (h:n.op.toList=lWhere):fA n ts=whereF:=if_pos h
theorem fA_clip {n:Nd} {ts:List Tn} (h:n.op.toList=lClip):fA n ts=clipF (bitsP n.attrs ⟨#[109,105,110]⟩ 4286578688) (bitsP n.attrs ⟨#[109,97,120]⟩ 2139095040):=by
 unfold fA;rw [if_neg (by rw [h];decide),if_pos h]
theorem fA_cast {n:Nd} {ts:List Tn} (h:n.op.toList=lCast):fA n ts=castF (ts.getD 0 tn0).1 (intP n.attrs ⟨#[116,111]⟩ 0):=by
 unfold fA;rw [if_neg (by rw [h];decide),if_neg (by rw [h];decide),if_pos h]
theorem fA_un {n:Nd} {ts:List Tn} (h:n.op.toList ∈ unL):fA n ts=fun xs=>Fl.un n.op.toList (ts.getD 0 tn0).1 (xs.getD 0 0):=by
 obtain ⟨h1,h2,h3⟩:=un_opT _ h;unfold fA;rw [if_neg h1,if_neg h2,if_neg h3,if_pos h]
theorem fA_bin {n:Nd} {ts:List Tn} (h:n.op.toList ∈ cmpL++ariL):fA n ts=fun xs=>Fl.bin n.op.toList (ts.getD 0 tn0).1 (xs.getD 0 0) (xs.getD 1 0):=by
 obtain ⟨h1,h2,h3,h4⟩:=bi_opT _ h;unfold fA;rw [if_neg h1,if_neg h2,if_neg h3,if_neg h4]
attribute [local irreducible] cnt chk checkP inpE outP folB thenE RowI pbE begO pbAll doO rowAt SpOK PlaceC PlaceR spT nW Fl.bin Fl.un Fl.cst typ2 typU Vb.bcO tyO dsO elseO bitsP intP clipF castF whereF whereO
structure BegE (n:Nd) (ts:List Tn) (W:List Int):Prop where
 ok:checkP n=0
 ar:ts.length=arE n.op.toList
 ins:∀ t ∈ ts,pbE t.1 t.2.1 t.2.2=0
 ty:(tyO n (ts.map tvV)).1=0
 good:(cnt W).2=0
 spr:∀ t ∈ ts,Vx.Spr t.2.1 W
 beg:begA n ts=(0,(tyO n (ts.map tvV)).2,W)
 cls:(n.op.toList=lWhere∧clsP n.op.toList=4)∨(n.op.toList=lClip∧clsP n.op.toList=18)∨(n.op.toList=lCast∧clsP n.op.toList=5)∨(n.op.toList ∈ unL∧clsP n.op.toList=1)∨(n.op.toList ∈ cmpL∧clsP n.op.toList=2)∨(n.op.toList ∈ ariL∧clsP n.op.toList=3)
theorem tv_get {ts:List Tn} {j:Nat}:(ts.map tvV).getD j vlZ=tvV (ts.getD j tn0):=by
 by_cases h:j < ts.length
 ·simp [List.getD,h]
 ·simp only [List.getD];rw [List.getElem?_eq_none (by simpa using h),List.getElem?_eq_none (by omega)]
  rfl
theorem one_mem {ts:List Tn} (h:ts.length=1) {t:Tn} (ht:t ∈ ts):t=ts.getD 0 tn0:=by
 match ts,h with
 | [a],_=>simpa using ht
theorem two_mem {ts:List Tn} (h:ts.length=2) {t:Tn} (ht:t ∈ ts):t=ts.getD 0 tn0∨t=ts.getD 1 tn0:=by
 match ts,h with
 | [a,b],_=>simpa using ht
theorem three_mem {ts:List Tn} (h:ts.length=3) {t:Tn} (ht:t ∈ ts):t=ts.getD 0 tn0∨t=ts.getD 1 tn0∨t=ts.getD 2 tn0:=by
 match ts,h with
 | [a,b,c],_=>simpa using ht
theorem tvd (t:Tn):(tvV t).dims=t.2.1:=rfl
theorem beg_el {n:Nd} {ts:List Tn} (h:(begA n ts).1=0) (ho:n.op.toList ∈ elNames):BegE n ts (wA n ts):=by
 obtain ⟨h1,h2,h3⟩:=begO_yes h;obtain ⟨g1,g2,g3,g4,g5,g6,g7⟩:=outP_yes h2;obtain ⟨r,hr,e0,e1,e2⟩:=ops_of g1;obtain ⟨⟨c1,c2⟩,c3,c4⟩:=el_opT r hr (by rw [←e0];exact ho);rw [←e0] at c1 c2 c3 c4;have hl:ts.length=n.ins.length:=by simpa using g2
 have har:ts.length=arE n.op.toList:=by omega
 have hb:begA n ts=(0,(tyO n (ts.map tvV)).2,(dsO n (ts.map tvV)).2):=by unfold begA;rw [h3,g7]
 have hw:wA n ts=(dsO n (ts.map tvV)).2:=by unfold wA;rw [hb]
 have hins:∀ t ∈ ts,pbE t.1 t.2.1 t.2.2=0:=fun t ht=>pbAll_mem h1 ht;have hcn:∀ t ∈ ts,(cnt t.2.1).2=0:=fun t ht=>(pbE_zero (hins t ht)).2.1;have h0:∀ {j:Nat},j < ts.length→ts.getD j tn0 ∈ ts:=fun {j} hj=>by rw [List.getD,List.getElem?_eq_getElem hj];exact List.getElem_mem hj
 have hcls:(n.op.toList=lWhere∧clsP n.op.toList=4)∨(n.op.toList=lClip∧clsP n.op.toList=18)∨(n.op.toList=lCast∧clsP n.op.toList=5)∨(n.op.toList ∈ unL∧clsP n.op.toList=1)∨(n.op.toList ∈ cmpL∧clsP n.op.toList=2)∨(n.op.toList ∈ ariL∧clsP n.op.toList=3):=by rw [c3];exact c4
 have one:∀ (k:Nat),arE n.op.toList=1→dsO n (ts.map tvV)=(0,((ts.map tvV).getD 0 vlZ).dims)→∀ t ∈ ts,Vx.Spr t.2.1 (dsO n (ts.map tvV)).2:=fun k ha hd t ht=>by
  rw [hd,tv_get,one_mem (by omega) ht];exact Vx.spr_self (hcn _ (h0 (by omega)))
 have two:arE n.op.toList=2→dsO n (ts.map tvV)=Vb.bcO ((ts.map tvV).getD 0 vlZ).dims ((ts.map tvV).getD 1 vlZ).dims→∀ t ∈ ts,Vx.Spr t.2.1 (dsO n (ts.map tvV)).2:=fun ha hd t ht=>by
  rw [hd,tv_get,tv_get,tvd,tvd] at g5 ⊢;rcases two_mem (by omega) ht with rfl | rfl
  ·exact Vx.spr_left g5
  ·exact Vx.spr_right g5
 refine ⟨g1,har,hins,g4,by rw [hw];exact g6,?_,by rw [hw];exact hb,hcls⟩;rw [hw];have nw:∀ {l:List UInt8},n.op.toList=l→l≠lWhere→l ∉ cmpL++ariL→arE n.op.toList=1:=fun {l} e a b=>by unfold arE;rw [e,if_neg a,if_neg b]
 rcases hcls with ⟨a,b⟩ | ⟨a,b⟩ | ⟨a,b⟩ | ⟨a,b⟩ | ⟨a,b⟩ | ⟨a,b⟩
 ·have ha:arE n.op.toList=3:=if_pos a;have hd:dsO n (ts.map tvV)=whereO ((ts.map tvV).getD 0 vlZ).dims ((ts.map tvV).getD 1 vlZ).dims ((ts.map tvV).getD 2 vlZ).dims:=by unfold dsO;rw [b]<;>rfl
  intro t ht;rw [hd,tv_get,tv_get,tv_get,tvd,tvd,tvd] at g5 ⊢;by_cases hz:(Vb.bcO (ts.getD 0 tn0).2.1 (ts.getD 1 tn0).2.1).1=0
  ·rw [where_yes hz] at g5 ⊢;rcases three_mem (by omega) ht with rfl | rfl | rfl
   ·exact (Vx.spr_left hz).trans (Vx.spr_left g5)
   ·exact (Vx.spr_right hz).trans (Vx.spr_left g5)
   ·exact Vx.spr_right g5
  ·rw [where_no hz] at g5;exact absurd g5 hz
 ·exact one 0 (nw a (by decide) (by decide)) (by unfold dsO;rw [b]<;>rfl)
 ·exact one 0 (nw a (by decide) (by decide)) (by unfold dsO;rw [b]<;>rfl)
 ·exact one 0 (nw rfl (un_opT _ a).1 (fun c=>(bi_opT _ c).2.2.2 a)) (by unfold dsO;rw [b]<;>rfl)
 ·have hm:n.op.toList ∈ cmpL++ariL:=List.mem_append_left _ a;exact two (by unfold arE;rw [if_neg (bi_opT _ hm).1,if_pos hm]) (by unfold dsO;rw [b]<;>rfl)
 ·have hm:n.op.toList ∈ cmpL++ariL:=List.mem_append_right _ a;exact two (by unfold arE;rw [if_neg (bi_opT _ hm).1,if_pos hm]) (by unfold dsO;rw [b]<;>rfl)
theorem placed_un {w:World} {vn vv:Value} {n:Nd} {ts:List Tn} {x:Tn} (hn:NodeV w vn n) (hs:SlIn 3 rdTensor w vv ts) (hi:ts[0]?=some x) (ho:n.op.toList ∈ unL) :
  Calls Tryz.prog 40 #[vn,vv] w fun e w'=>∃ fn,e=.returned (.tuple #[fn,.bool true])∧PlaceC fn w' (fun xs=>Fl.un n.op.toList x.1 (xs.getD 0 0)) 1∧Below w.heap.size w w':=by
 simp only [unL,List.mem_cons,List.not_mem_nil,or_false] at ho;rcases ho with ho | ho | ho | ho | ho | ho | ho | ho | ho | ho
 ·exact placed_Identity hn hs hi ho
 ·exact placed_Neg hn hs hi ho
 ·exact placed_Abs hn hs hi ho
 ·exact placed_Not hn hs hi ho
 ·exact placed_Relu hn hs hi ho
 ·exact placed_Sqrt hn hs hi ho
 ·exact placed_Floor hn hs hi ho
 ·exact placed_Exp hn hs hi ho
 ·exact placed_Sigmoid hn hs hi ho
 ·exact placed_Tanh hn hs hi ho
theorem placed_el {w:World} {vn vv:Value} {n:Nd} {ts:List Tn} {W:List Int} (hn:NodeV w vn n) (hs:SlIn 3 rdTensor w vv ts) (hb:BegE n ts W) :
  Calls Tryz.prog 40 #[vn,vv] w fun e w'=>∃ fn,e=.returned (.tuple #[fn,.bool true])∧PlaceR fn w' (fA n ts) ts.length (RA n)∧Below w.heap.size w w':=by
 have hpos:0 < ts.length:=by
  rw [hb.ar];unfold arE
  repeat' split
  all_goals omega
 have hi:ts[0]?=some (ts.getD 0 tn0):=by rw [List.getD,List.getElem?_eq_getElem hpos];rfl
 rw [hb.ar];have nw:∀ {l:List UInt8},n.op.toList=l→l≠lWhere→l ∉ cmpL++ariL→arE n.op.toList=1:=fun {l} e a b=>by unfold arE;rw [e,if_neg a,if_neg b]
 have two:n.op.toList ∈ cmpL++ariL→Calls Tryz.prog 40 #[vn,vv] w fun e w'=>∃ fn,e=.returned (.tuple #[fn,.bool true])∧PlaceR fn w' (fA n ts) (arE n.op.toList) (RA n)∧Below w.heap.size w w':=fun hm=>by
  have ha:arE n.op.toList=2:=by unfold arE;rw [if_neg (bi_opT _ hm).1,if_pos hm]
  rw [fA_bin hm,ha];exact (placed_bin hn hs hi hm).mono (by rintro e w' ⟨fn,rfl,h1,h2⟩;exact ⟨fn,rfl,h1.toR _,h2⟩)
 rcases hb.cls with ⟨a,-⟩ | ⟨a,-⟩ | ⟨a,-⟩ | ⟨a,-⟩ | ⟨a,-⟩ | ⟨a,-⟩
 ·have ha:arE n.op.toList=3:=if_pos a;rw [fA_where a,ha];refine (placed_Where hn hs a).mono ?_;rintro e w' ⟨fn,rfl,h1,h2⟩;refine ⟨fn,rfl,?_,h2⟩;obtain ⟨g,lb,rfl,eg,H⟩:=h1.parts;unfold PlaceR;exact ⟨g,lb,rfl,eg,fun W v xs hW hx hl hR=>H W v xs hW hx hl (hR a)⟩
 ·rw [fA_clip a,nw a (by decide) (by decide)];exact (placed_Clip hn hs a).mono (by rintro e w' ⟨fn,rfl,h1,h2⟩;exact ⟨fn,rfl,h1.toR _,h2⟩)
 ·rw [fA_cast a,nw a (by decide) (by decide)];exact (placed_Cast hi hn hs a).mono (by rintro e w' ⟨fn,rfl,h1,h2⟩;exact ⟨fn,rfl,h1.toR _,h2⟩)
 ·rw [fA_un a,nw rfl (un_opT _ a).1 (fun c=>(bi_opT _ c).2.2.2 a)];exact (placed_un hn hs hi a).mono (by rintro e w' ⟨fn,rfl,h1,h2⟩;exact ⟨fn,rfl,h1.toR _,h2⟩)
 ·exact two (List.mem_append_left _ a)
 ·exact two (List.mem_append_right _ a)
theorem rowAt_g {rows:List (List Int)} {k j:Nat} (h:j < rows.length):(rowAt rows k).getD j 0=(rows.getD j []).getD k 0:=by
 unfold rowAt;simp [List.getD,h]
theorem atA_get {n:Nd} {ts:List Tn} {k j:Nat} (h:j < ts.length):(atA n ts k).getD j 0=(spT (wA n ts) (ts.getD j tn0)).getD k 0:=by
 unfold atA;rw [rowAt_g (by simpa using h)];simp [List.getD,h]
theorem at_mem {n:Nd} {ts:List Tn} (hb:BegE n ts (wA n ts)) {k j:Nat} (hj:j < ts.length) (hk:k < nW (wA n ts)):(atA n ts k).getD j 0 ∈ (ts.getD j tn0).2.2:=by
 have hm:ts.getD j tn0 ∈ ts:=by rw [List.getD,List.getElem?_eq_getElem hj];exact List.getElem_mem hj
 obtain ⟨-,g2,g3,-⟩:=pbE_zero (hb.ins _ hm);obtain ⟨e1,e2⟩:=(hb.spr _ hm).bc;rw [atA_get hj];unfold spT;refine Vx.spL_mem g2 g3 hb.good e1 e2 ?_;unfold nW at hk;exact hk
theorem where_typ {n:Nd} {ts:List Tn} {W:List Int} (hb:BegE n ts W) (a:n.op.toList=lWhere):(ts.getD 0 tn0).1=9∧(ts.getD 1 tn0).1=(ts.getD 2 tn0).1∧tyO n (ts.map tvV)=(0,(ts.getD 1 tn0).1):=by
 have hc:clsP n.op.toList=4:=by rw [a];decide
 have h:=hb.ty;have e:tyO n (ts.map tvV)=typW (ts.getD 0 tn0).1 (ts.getD 1 tn0).1 (ts.getD 2 tn0).1:=by unfold tyO;rw [hc];simp only [tv_get];rfl
 rw [e] at h ⊢;unfold typW at *;split at h
 ·rename_i c
  rw [if_pos c]
  simp_all
 ·exact absurd h (by decide)
theorem where_bit {n:Nd} {ts:List Tn} (hb:BegE n ts (wA n ts)) {k:Nat} (hk:k < nW (wA n ts)):RA n (atA n ts k):=fun a=>by
 have ha:arE n.op.toList=3:=if_pos a;have hl:=hb.ar;have h1:=at_mem hb (j:=0) (by omega) hk;have hm:ts.getD 0 tn0 ∈ ts:=by rw [List.getD,List.getElem?_eq_getElem (by omega:0 < ts.length)];exact List.getElem_mem _
 obtain ⟨-,-,-,g4⟩:=pbE_zero (hb.ins _ hm);have h2:=g4 _ h1;rw [(where_typ hb a).1] at h2;unfold Bit;unfold chk at h2
 simpa using h2
theorem do_all {w:World} {vn vv:Value} {n:Nd} {ts:List Tn} (hn:NodeV w vn n) (hs:SlIn 3 rdTensor w vv ts) (hG:Glob w) (hax:(intsP n.attrs nmAxes []).length * 8+48≤140737488351232) :
  Calls Tryz.prog 18 #[vn,vv] w (DoR w (elA n ts)):=by
 have hT:checkP n=0→ts.length=n.ins.length→pbAll ts=true→∀ (W:World) (v:Value),Below w.heap.size w W→MkV W v n (ts.map tvV)→Calls Tryz.prog 32 #[v] W fun e w'=>TyR (tyO n (ts.map tvV)) e∧Below W.heap.size W w' :=
  fun hc hl hp W v _ hm=>typ_any hm hc (by simpa using hl)
 have hD:checkP n=0→ts.length=n.ins.length→pbAll ts=true→(tyO n (ts.map tvV)).1=0→∀ (W:World) (v:Value),Below w.heap.size w W→MkV W v n (ts.map tvV)→Calls Tryz.prog 33 #[v] W fun e w'=>DimR W (dsO n (ts.map tvV)) e w' :=
  fun hc hl hp _ W v _ hm=>dims_any hm hc (by simpa using hl) (pbAll_inp hp) hax
 unfold elA;by_cases ho:n.op.toList ∈ elNames
 ·rw [if_pos ho];by_cases h:(begA n ts).1=0
  ·have hb:=beg_el h ho;have hl:=hb.ar;have h13:1≤arE n.op.toList∧arE n.op.toList≤3:=by
    unfold arE
    repeat' split
    all_goals omega
   have c6:=cnt_six hb.good;refine do_anyR (ty:=tyO n (ts.map tvV)) (ds:=dsO n (ts.map tvV)) hn hs hG hT hD (by omega) (by omega) (sp:=spT (wA n ts)) (f:=fA n ts) (N:=nW (wA n ts)) (R:=RA n) (by unfold nW;exact c6.2.2)
    (fun _ k hk=>where_bit hb hk) (fun _ W hB=>placed_el (node_belowV hn hB) (tensors_below hs hB) hb) (fun _=>?_)
   show (∀ t ∈ ts,SpOK (wA n ts) (nW (wA n ts)) t (spT (wA n ts) t))∧(wA n ts).length≤1000∧∀ z ∈ wA n ts,InI z;exact ⟨fun t ht=>spT_ok (hb.ins t ht) hb.good (hb.spr t ht).bc.1 (hb.spr t ht).bc.2,c6.1,c6.2.1⟩
  ·rw [doO_no h,←else_no h];exact do_else hn hs hG hT hD (fun c=>absurd c h)
 ·rw [if_neg ho];exact do_else hn hs hG hT hD (fun _=>ho)
end
section
namespace Fl
open Ieee Go.RowKit
theorem foi_ltJ (x:Int):floatOfInt .f32 x < 4294967296:=by unfold floatOfInt FloatKind.nearest FloatKind.encode;exact single.write_lt _
theorem cut_in {lo hi top:Int} {v:Nat} (h1:lo≤0) (h2:0≤hi) (h3:top≤hi+1):lo≤cutF lo hi top v∧cutF lo hi top v≤hi:=by
 have hV:(0:Int) < (V1:Int):=by
  have:0 < V1:=by unfold V1 pw;exact Nat.two_pow_pos _
  omega
 unfold cutF;split
 ·omega
 split
 ·omega
 split
 ·omega
 rename_i h4 h5
 generalize sv single v=s at *;generalize (V1:Int)=V at *;have a1:lo * V < s:=by omega
 have a2:s < top * V:=by omega
 constructor
 ·by_cases hs:0≤s
  ·have:=Int.tdiv_nonneg hs (Int.le_of_lt hV);omega
  ·have e:s.tdiv V=-((-s).tdiv V):=by rw [←Int.neg_tdiv,Int.neg_neg]
   have h6:(-s).tdiv V ≤ -lo:=by
    rw [Int.tdiv_eq_ediv_of_nonneg (by omega)];have:-s < (-lo) * V+1:=by rw [Int.neg_mul];omega
    have h7:(-s) / V≤((-lo) * V) / V:=Int.ediv_le_ediv hV (by omega)
    rwa [Int.mul_ediv_cancel _ (by omega)] at h7
   omega
 ·by_cases hs:0≤s
  ·rw [Int.tdiv_eq_ediv_of_nonneg hs];have:=Int.ediv_lt_of_lt_mul hV a2;omega
  ·have e:s.tdiv V=-((-s).tdiv V):=by rw [←Int.neg_tdiv,Int.neg_neg]
   have:=Int.tdiv_nonneg (a:=-s) (b:=V) (by omega) (Int.le_of_lt hV);omega
theorem toW_in (t:Int) (v:Nat):-9223372036854775808≤toW t v∧toW t v≤9223372036854775807∧(t=6 → -2147483648≤toW t v∧toW t v≤2147483647):=by
 unfold toW;by_cases h:t=6
 ·rw [if_pos h];have:=cut_in (lo:=-2147483648) (hi:=2147483647) (top:=2147483647) (v:=v) (by decide) (by decide) (by decide);generalize cutF (-2147483648) 2147483647 2147483647 v=q at *;omega
 ·rw [if_neg h];have:=cut_in (lo:=-9223372036854775808) (hi:=9223372036854775807) (top:=9223372036854775808) (v:=v) (by decide) (by decide) (by decide);generalize cutF (-9223372036854775808) 9223372036854775807 9223372036854775808 v=q at *;exact ⟨this.1,this.2,fun c=>absurd c h⟩
theorem chk_flg (b:Bool):chk 9 (flg b)=true:=by cases b<;>decide
theorem cst_stays (a b x:Int) (h:(cst a b x).2=0):chk b (cst a b x).1=true:=by
 unfold cst at *;split at h
 ·exact absurd h (by decide)
 rename_i h1
 rw [if_neg h1];have hx:chk a x=true:=by
  cases e:chk a x with
  | true=>rfl
  | false=>exact absurd (Or.inl e) h1
 have hb:chk b 0=true:=by
  cases e:chk b 0 with
  | true=>rfl
  | false=>exact absurd (Or.inr e) h1
 by_cases e1:a=b
 ·rw [if_pos e1];rw [←e1];exact hx
 rw [if_neg e1];by_cases e2:b=9∧a=1
 ·rw [if_pos e2,e2.1];exact chk_flg _
 rw [if_neg e2];by_cases e3:b=9
 ·rw [if_pos e3,e3];exact chk_flg _
 rw [if_neg e3];by_cases e4:b=1
 ·rw [if_pos e4,e4];rw [chk_one];exact okF_canon (foi_ltJ x)
 rw [if_neg e4];have hw:b=6∨b=7:=by
  unfold chk at hb;rw [if_neg e4] at hb;by_cases e5:b=6
  ·exact Or.inl e5
  ·rw [if_neg e5,if_neg e3] at hb;exact Or.inr (by simpa using hb)
 by_cases e5:a=1
 ·rw [if_pos e5];have:=toW_in b x.toNat
  rcases hw with rfl | rfl
  ·rw [chk_i32];exact decide_eq_true (this.2.2 rfl)
  ·exact chk_i64 _
 ·rw [if_neg e5];exact chk_cut (by rcases hw with rfl | rfl<;>rfl)
theorem cst_range {a b x:Int} (h0:-9223372036854775808≤x) (h1:x≤9223372036854775807):-9223372036854775808≤(cst a b x).1∧(cst a b x).1≤9223372036854775807:=by
 by_cases hb:b=7
 ·subst hb;unfold cst
  repeat' split
  all_goals (try dsimp only)
  all_goals first | omega | (have:=toW_in 7 x.toNat;omega) | (unfold cutT;rw [if_neg (by decide)];omega)
 ·by_cases h:(cst a b x).2=0
  ·exact chk_range hb (cst_stays a b x h)
  ·unfold cst at h ⊢;by_cases c:chk a x=false∨chk b 0=false
   ·rw [if_pos c];decide
   ·exfalso;apply h;rw [if_neg c]
    repeat' split
    all_goals rfl
end Fl
open Go.RowKit
set_option maxRecDepth 100000
theorem errAt_each {g:Nat→Int × Int}:∀ {N:Nat},errAt g N=0→∀ k,k < N→(g k).2=0
 | 0,_,k,h=>by omega
 | N+1,h,k,hk=>by
  rw [errAt] at h;split at h
  ·rename_i c;exact absurd h c
  ·rename_i c
   by_cases e:k=N
   ·rw [e];exact h
   ·exact errAt_each (by simpa using c) k (by omega)
theorem doO_err0 {o:Int × Int × List Int} {g:Nat→Int × Int} {N:Nat} (h:(doO o g N).1=0):errAt g N=0:=by
 unfold doO at h;split at h
 ·rename_i c;exact absurd h c
 split at h
 ·rename_i d;exact absurd h d
 ·rename_i d;simpa using d
theorem elA_ok {n:Nd} {ts:List Tn} (h:(elA n ts).1=0):n.op.toList ∈ elNames∧BegE n ts (wA n ts)∧(∀ k,k < nW (wA n ts)→(fA n ts (atA n ts k)).2=0)∧elA n ts=(0,(tyO n (ts.map tvV)).2,wA n ts,datAt (fun k=>fA n ts (atA n ts k)) (nW (wA n ts))):=by
 unfold elA at *;by_cases ho:n.op.toList ∈ elNames
 ·rw [if_pos ho] at h ⊢;obtain ⟨h0,e⟩:=doO_zero h;have hb:=beg_el h0 ho;refine ⟨ho,hb,errAt_each (doO_err0 h),?_⟩;rw [e];have:=hb.beg;rw [this]
 ·rw [if_neg ho] at h;exfalso;unfold elseO at h;split at h
  ·rename_i c;exact c h
  ·exact absurd h (by decide)
theorem elA_no {n:Nd} {ts:List Tn} (h:(elA n ts).1≠0):(elA n ts).2=(0,[],[]):=by
 unfold elA at *;split
 ·rename_i ho
  rw [if_pos ho] at h;exact doO_form h
 ·unfold elseO;split<;>rfl
theorem atA_in {n:Nd} {ts:List Tn} (h:∀ t ∈ ts,∀ z ∈ t.2.2,InI z) (k j:Nat):InI ((atA n ts k).getD j 0):=by
 have h0:InI 0:=by unfold InI;decide
 by_cases hj:j < ts.length
 ·rw [atA_get hj];exact spT_in (h _ (by rw [List.getD,List.getElem?_eq_getElem hj];exact List.getElem_mem hj)) k
 ·rw [List.getD,List.getElem?_eq_none (by unfold atA;rw [rowAt_len];simp;omega)];exact h0
theorem fA_in {n:Nd} {ts:List Tn} {w:World} {vn:Value} (hn:NodeV w vn n) {xs:List Int} (h:∀ j,InI (xs.getD j 0)):InI (fA n ts xs).1:=by
 unfold fA;split
 ·unfold whereF;dsimp only;split
  ·exact h 2
  ·exact h 1
 split
 ·unfold clipF;have hf:InI (bitsP n.attrs ⟨#[109,105,110]⟩ 4286578688):=bits_okP hn (by unfold InI;decide);have ht:InI (bitsP n.attrs ⟨#[109,97,120]⟩ 2139095040):=bits_okP hn (by unfold InI;decide);have:=max_inI (h 0) hf;exact Fl.bin_rangeA this.1 this.2 ht.1 ht.2
 split
 ·unfold castF;exact Fl.cst_range (h 0).1 (h 0).2
 split
 ·exact Fl.un_range _ _ _ (h 0).1 (h 0).2
 ·exact Fl.bin_rangeA (h 0).1 (h 0).2 (h 1).1 (h 1).2
theorem do_allU {w:World} {vn vv:Value} {n:Nd} {ts:List Tn} (hn:NodeV w vn n) (hs:SlIn 3 rdTensor w vv ts) (hG:Glob w) (hax:(intsP n.attrs nmAxes []).length * 8+48≤140737488351232) :
  Calls Tryz.prog 18 #[vn,vv] w (UniR w (elA n ts)):=by
 refine (do_all hn hs hG hax).mono fun e w' h=>?_;refine h.uni (fun h=>elA_no h) (fun h=>?_);obtain ⟨ho,hb,he,e⟩:=elA_ok h;rw [e];have c6:=cnt_six hb.good;refine ⟨⟨c6.1,c6.2.1⟩,?_,?_⟩
 ·dsimp only;rw [datAt_len];unfold nW;have:=c6.2.2;omega
 ·refine datAt_in fun k=>?_;exact fA_in hn (atA_in (fun t ht=>(tens_mem hs ht).2) k)
end
end Go.Proofs.YtijhdmidffenbaaGreatDoor
