import Derived.Test.YtijhdmidffenbaaGreatDoorVxM2rm
import Derived.Test.YtijhdmidffenbaaGreatDoorElMrm
import Derived.Test.YtijhdmidffenbaaGreatDoorFlM2rm
import Derived.Test.YtijhdmidffenbaaGreatDoorNuMrm
import Derived.Test.YtijhdmidffenbaaGreatDoorNmM2rm
import Derived.Test.YtijhdmidffenbaaGreatDoorGrCrm
import Derived.Test.YtijhdmidffenbaaGreatDoorSchNorm
import Derived.Maps.AppendAt
import Derived.Deep.AppendLies
import Derived.Test.YtijhdmidffenbaaGreatDoorInM1rm
import Derived.Test.YtijhdmidffenbaaGreatDoorInM3rm
open Go.Lib (hid)
set_option linter.unusedVariables false
set_option linter.unusedSimpArgs false
namespace Go.Proofs.YtijhdmidffenbaaGreatDoor.Vx
open Go.RowKit Vw Vb
def leftL (ds gone:List Int):List Int:=gone.foldl (fun l a=>l.set a.toNat 1) ds
theorem leftL_snoc (ds gone:List Int) (a:Int):leftL ds (gone++[a])=(leftL ds gone).set a.toNat 1:=by unfold leftL;rw [List.foldl_append];rfl
theorem leftL_length (ds gone:List Int):(leftL ds gone).length=ds.length:=by
 unfold leftL
 induction gone generalizing ds with
 | nil=>rfl
 | cons a l ih=>rw [List.foldl_cons,ih,List.length_set]
theorem leftL_get (ds gone:List Int) {j:Nat} (hj:j < ds.length):(leftL ds gone).getD j 0=if gone.any (fun a=>decide (a.toNat=j))=true then 1 else ds.getD j 0:=by
 induction gone generalizing ds with
 | nil=>simp [leftL]
 | cons a l ih =>
  show (leftL (ds.set a.toNat 1) l).getD j 0=_;rw [ih _ (by rw [List.length_set];exact hj)];by_cases h:l.any (fun a=>decide (a.toNat=j))=true
  ·rw [if_pos h,if_pos (by rw [List.any_cons,h,Bool.or_true])]
  ·rw [if_neg h];by_cases e:a.toNat=j
   ·subst e;rw [if_pos (by simp)];simp [List.getD,hj]
   ·rw [if_neg (by rw [List.any_cons,decide_eq_false e,Bool.false_or];exact h)];simp [List.getD,List.getElem?_set_ne e]
theorem leftL_cmp (ds gone:List Int):Cmp (leftL ds gone) ds:=cmp_of (by rw [leftL_length]) fun i hi=>by
 rw [leftL_length] at hi;rw [leftL_get _ _ hi];split
 ·exact Or.inr rfl
 ·exact Or.inl rfl
theorem cmp_pos:∀ {ls ds:List Int},Cmp ls ds→Pos ds→Pos ls
 | [],[],_,_=>fun z hz=>by simp at hz
 | l :: ls,d :: ds,h,hp=>fun z hz=>by
  rcases List.mem_cons.1 hz with rfl | hz
  ·have:=hp d (List.mem_cons_self ..);rcases h.1 with e | e<;>omega
  ·exact cmp_pos h.2 hp.tail z hz
 | [],_ :: _,h,_=>h.elim
 | _ :: _,[],h,_=>h.elim
theorem cmp_pr:∀ {ls ds:List Int},Cmp ls ds→Pos ds→pr ls≤pr ds
 | [],[],_,_=>Int.le_refl _
 | l :: ls,d :: ds,h,hp=>by
  have h1:=cmp_pr h.2 hp.tail;have h2:=pr_pos hp.tail;have h3:=pr_pos (cmp_pos h.2 hp.tail);have h4:=hp d (List.mem_cons_self ..);simp only [pr];have h5:l≤d:=by rcases h.1 with e | e<;>omega
  have a1:l * pr ls≤d * pr ls:=Int.mul_le_mul_of_nonneg_right h5 (by omega);have a2:d * pr ls≤d * pr ds:=Int.mul_le_mul_of_nonneg_left h1 (by omega);omega
 | [],_ :: _,h,_=>h.elim
 | _ :: _,[],h,_=>h.elim
theorem cntL_of:∀ {ds:List Int} {n:Int},Pos ds→1≤n→n * pr ds≤65536→cntLoop n ds=(n * pr ds,0)
 | [],n,_,_,_=>by simp [cntLoop,pr]
 | d :: ds,n,hp,hn,h=>by
  have h1:=hp d (List.mem_cons_self ..);have h2:=pr_pos hp.tail;simp only [pr] at h ⊢;rw [←Int.mul_assoc] at h;have h3:1≤n * d:=by have:=Int.mul_le_mul_of_nonneg_right hn (show 0≤d by omega);omega
  have h4:n * d≤65536:=by have:=Int.mul_le_mul_of_nonneg_left h2 (show 0≤n * d by omega);omega
  rw [cntLoop,if_neg (by first | omega | (rw [quo_test hn];omega)),cntL_of hp.tail h3 h,Int.mul_assoc]
theorem cnt_of' {ds:List Int} (hp:Pos ds) (hl:ds.length≤6) (h:pr ds≤65536):cnt ds=(pr ds,0):=by
 rw [cnt_loop (by rw [List.any_eq_false];intro d hd;have:=hp d hd;simp;omega) (by omega),cntL_of hp (Int.le_refl 1) (by omega),Int.one_mul]
theorem left_cnt {ds:List Int} (gone:List Int) (h:(cnt ds).2=0):cnt (leftL ds gone)=(pr (leftL ds gone),0):=by
 obtain ⟨-,h2,-,h4⟩:=cnt_good h;have hc:=leftL_cmp ds gone;refine cnt_of' (cmp_pos hc (cnt_pos h)) (by rw [leftL_length];exact h2) ?_;have:=cmp_pr hc (cnt_pos h);omega
def grp (ds left:List Int) (k:Nat):Nat:=(plc (strd left) (ownc left (crd ds (k:Int)))).toNat
theorem grp_lt {ds left:List Int} (hc:Cmp left ds) (hp:Pos ds) {k:Nat} (hk:(k:Int) < pr ds):(grp ds left k:Int) < pr left∧plc (strd left) (ownc left (crd ds (k:Int)))=(grp ds left k:Int):=by
 have hv:=crd_val hp (k:=(k:Int)) (by omega) hk;have h3:=(val_plc (cmp_pos hc hp) (ownc_val hc hv)).1;unfold grp;omega
theorem plc_crd {ds:List Int} (hp:Pos ds) {k:Int} (h0:0≤k) (h1:k < pr ds):plc (strd ds) (crd ds k)=k:=by
 have hv:=crd_val hp h0 h1;have h3:=val_plc hp hv;exact crd_inj hp h3.1.1 h3.1.2 h0 h1 h3.2
theorem val_up:∀ {ls ds cs:List Int},Cmp ls ds→Pos ds→Val ls cs→Val ds cs
 | [],[],[],_,_,_=>trivial
 | l :: ls,d :: ds,c :: cs,h,hp,hv=>by
  refine ⟨?_,val_up h.2 hp.tail hv.2⟩;have:=hp d (List.mem_cons_self ..);have:=hv.1;rcases h.1 with e | e<;>omega
 | [],_ :: _,_,h,_,_=>h.elim
 | _ :: _,[],_,h,_,_=>h.elim
 | [],[],_ :: _,_,_,h=>h.elim
 | _ :: _,_ :: _,[],_,_,h=>h.elim
theorem grp_onto {ds left:List Int} (hc:Cmp left ds) (hp:Pos ds) {j:Nat} (hj:(j:Int) < pr left):∃ k:Nat,(k:Int) < pr ds∧grp ds left k=j:=by
 have hpl:=cmp_pos hc hp;have hv:=crd_val hpl (k:=(j:Int)) (by omega) hj;have hd:=val_up hc hp hv;obtain ⟨⟨h1,h2⟩,h3⟩:=val_plc hp hd;refine ⟨(plc (strd ds) (crd left (j:Int))).toNat,by omega,?_⟩;unfold grp;rw [show ((plc (strd ds) (crd left (j:Int))).toNat:Int)=plc (strd ds) (crd left (j:Int)) by omega,h3,ownc_self hv,plc_crd hpl (by omega) hj];omega
def gps (left ss cs:List Int):Nat→Int
 | 0=>0
 | k+1=>gps left ss cs k+(if 1 < left.getD k 0 then cs.getD k 0 * ss.getD k 0 else 0)
theorem gps_cons (l s c:Int) (ls ss cs:List Int):∀ k,gps (l :: ls) (s :: ss) (c :: cs) (k+1)=(if 1 < l then c * s else 0)+gps ls ss cs k
 | 0=>by simp [gps]
 | k+1=>by
  rw [gps,gps_cons l s c ls ss cs k,gps];simp only [List.getD_cons_succ];omega
theorem gps_all:∀ {ls ss cs:List Int},Pos ls→ss.length=ls.length→cs.length=ls.length→gps ls ss cs ls.length=plc ss (ownc ls cs)
 | [],[],[],_,_,_=>by simp [gps,ownc,plc]
 | l :: ls,s :: ss,c :: cs,hp,h1,h2=>by
  have ih:=gps_all hp.tail (by simpa using h1) (by simpa using h2);have hl:=hp l (List.mem_cons_self ..);rw [List.length_cons,gps_cons,ih];simp only [ownc,plc];by_cases e:l=1
  ·rw [if_neg (by omega),if_pos e];simp
  ·rw [if_pos (by omega),if_neg e]
 | [],_ :: _,_,_,h,_=>by simp at h
 | [],[],_ :: _,_,_,h=>by simp at h
 | _ :: _,[],_,_,h,_=>by simp at h
 | _ :: _,_ :: _,[],_,_,h=>by simp at h
theorem gps_mono {ls ss cs:List Int} (hs:∀ j,0≤ss.getD j 0) (hc:∀ j,0≤cs.getD j 0) (k:Nat):∀ m,gps ls ss cs k≤gps ls ss cs (k+m)
 | 0=>Int.le_refl _
 | m+1=>by
  have ih:=gps_mono (ls:=ls) hs hc k m;rw [←Nat.add_assoc,gps];have:=Int.mul_nonneg (hc (k+m)) (hs (k+m));split<;>omega
theorem val_ge:∀ {ds cs:List Int},Val ds cs→∀ j,0≤cs.getD j 0
 | [],[],_,j=>by simp
 | d :: ds,c :: cs,h,0=>h.1.1
 | d :: ds,c :: cs,h,j+1=>by simpa using val_ge h.2 j
 | [],_ :: _,h,_=>h.elim
 | _ :: _,[],h,_=>h.elim
theorem val_get:∀ {ds cs:List Int},Val ds cs→∀ {j:Nat},j < ds.length→0≤cs.getD j 0∧cs.getD j 0 < ds.getD j 0
 | [],[],_,j,h=>by simp at h
 | d :: ds,c :: cs,h,0,_=>h.1
 | d :: ds,c :: cs,h,j+1,g=>by simpa using val_get h.2 (j:=j) (by simpa using g)
 | [],_ :: _,h,_,_=>h.elim
 | _ :: _,[],h,_,_=>h.elim
theorem getD_ge {xs:List Int} (h:∀ z ∈ xs,0≤z) (j:Nat):0≤xs.getD j 0:=by
 by_cases hj:j < xs.length
 ·exact h _ (getD_mem hj)
 ·rw [List.getD,List.getElem?_eq_none (by omega)];decide
theorem gps_rng {ds left:List Int} (hc:Cmp left ds) (h:(cnt ds).2=0) {k:Nat} (hk:(k:Int) < pr ds) {j:Nat} (hj:j≤left.length):0≤gps left (strd left) (crd ds (k:Int)) j∧gps left (strd left) (crd ds (k:Int)) j≤65536:=by
 have hp:=cnt_pos h;have hpl:=cmp_pos hc hp;have hv:=crd_val hp (k:=(k:Int)) (by omega) hk;have hlen:ds.length=left.length:=by
  have:∀ {l d:List Int},Cmp l d→d.length=l.length:=by
   intro l
   induction l with
   | nil=>intro d h;cases d with
    | nil=>rfl
    | cons=>exact h.elim
   | cons a l ih=>intro d h;cases d with
    | nil=>exact h.elim
    | cons b d=>simp [ih h.2]
  exact this hc
 have hs:∀ j,0≤(strd left).getD j 0:=getD_ge fun z hz=>by
  have hb:=cmp_pr hc hp;have h65:=(cnt_good h).2.2.2;have:=strd_le (fun d hd=>⟨hpl d hd,?_⟩) (by omega) z hz
  ·omega
  ·have:∀ {l:List Int},Pos l→∀ d ∈ l,d≤pr l:=by
    intro l
    induction l with
    | nil=>intro _ d hd;simp at hd
    | cons a l ih =>
     intro hp d hd;have q1:=pr_pos hp.tail;have q2:=hp a (List.mem_cons_self ..);simp only [pr];rcases List.mem_cons.1 hd with rfl | hd
     ·have:=Int.mul_le_mul_of_nonneg_left q1 (show 0≤d by omega);omega
     ·have q3:=ih hp.tail d hd;have:=Int.mul_le_mul_of_nonneg_right q2 (show 0≤pr l by omega);omega
   have:=this hpl d hd;omega
 have h1:=gps_mono (ls:=left) hs (val_ge hv) 0 j;have h2:=gps_mono (ls:=left) hs (val_ge hv) j (left.length - j);rw [show j+(left.length - j)=left.length by omega,gps_all hpl strd_length (by rw [crd_length,hlen])] at h2;have h3:=grp_lt hc hp hk;have h4:=cmp_pr hc hp;have h65:=(cnt_good h).2.2.2;rw [Nat.zero_add] at h1;simp only [gps] at h1;omega
theorem gps_end {ds left:List Int} (hc:Cmp left ds) (hp:Pos ds) (hl:left.length=ds.length) {k:Nat} (hk:(k:Int) < pr ds):gps left (strd left) (crd ds (k:Int)) left.length=(grp ds left k:Int):=by
 rw [gps_all (cmp_pos hc hp) strd_length (by rw [crd_length,hl]),(grp_lt hc hp hk).2]
def inc:List Int→List Int→List Int × Bool
 | d :: ds,c :: cs=>if (inc ds cs).2=true then (if c+1 < d then ((c+1) :: (inc ds cs).1,false) else (0 :: (inc ds cs).1,true)) else (c :: (inc ds cs).1,false)
 | _,_=>([],true)
theorem inc_law:∀ {ds cs:List Int},Pos ds→Val ds cs→Val ds (inc ds cs).1∧((inc ds cs).2=true→plc (strd ds) (inc ds cs).1=0∧plc (strd ds) cs+1=pr ds)∧((inc ds cs).2=false→plc (strd ds) (inc ds cs).1=plc (strd ds) cs+1)
 | [],[],_,_=>by simp [inc,strd,plc,pr,Val]
 | [],_ :: _,_,h=>h.elim
 | _ :: _,[],_,h=>h.elim
 | d :: ds,c :: cs,hp,h=>by
  obtain ⟨i1,i2,i3⟩:=inc_law hp.tail h.2;have hd:=hp d (List.mem_cons_self ..);have h0:=h.1;rw [inc];by_cases e:(inc ds cs).2=true
  ·obtain ⟨j1,j2⟩:=i2 e;rw [if_pos e];by_cases g:c+1 < d
   ·rw [if_pos g];refine ⟨⟨by omega,i1⟩,(fun k=>by cases k),fun _=>?_⟩;simp only [strd,plc];rw [j1,Int.add_mul,Int.one_mul];omega
   ·rw [if_neg g];refine ⟨⟨by omega,i1⟩,fun _=>⟨?_,?_⟩,(fun k=>by cases k)⟩
    ·simp only [strd,plc];rw [j1];simp
    ·simp only [strd,plc,pr];have e1:c=d - 1:=by omega
     rw [e1,Int.sub_mul,Int.one_mul];omega
  ·rw [if_neg e];have e':(inc ds cs).2=false:=by simpa using e
   refine ⟨⟨h0,i1⟩,(fun k=>by cases k),fun _=>?_⟩;simp only [strd,plc];rw [i3 e'];omega
theorem inc_crd {ds:List Int} (hp:Pos ds) {k:Nat} (hk:(k:Int)+1 < pr ds):(inc ds (crd ds (k:Int))).1=crd ds ((k:Int)+1):=by
 have hv:=crd_val hp (k:=(k:Int)) (by omega) (by omega);obtain ⟨i1,i2,i3⟩:=inc_law hp hv;have e:=plc_crd hp (k:=(k:Int)) (by omega) (by omega);have h2:(inc ds (crd ds (k:Int))).2=false:=by
  cases c:(inc ds (crd ds (k:Int))).2 with
  | false=>rfl
  | true=>have:=(i2 c).2;omega
 have h3:=i3 h2;rw [e] at h3;rw [←h3];exact (val_plc hp i1).2.symm
def odo (ds cs:List Int) (m:Nat):List Int:=cs.take m++(inc (ds.drop m) (cs.drop m)).1
def odoC (ds cs:List Int) (m:Nat):Bool:=(inc (ds.drop m) (cs.drop m)).2
theorem odo_all {ds cs:List Int} (h:cs.length=ds.length):odo ds cs ds.length=cs∧odoC ds cs ds.length=true:=by
 unfold odo odoC;rw [List.drop_length,←h,List.drop_length,List.take_length];simp [inc]
theorem odo_zero (ds cs:List Int):odo ds cs 0=(inc ds cs).1:=by simp [odo]
theorem inc_length:∀ {ds cs:List Int},cs.length=ds.length→(inc ds cs).1.length=ds.length
 | [],[],_=>rfl
 | [],_ :: _,h=>by simp at h
 | _ :: _,[],h=>by simp at h
 | d :: ds,c :: cs,h=>by
  have ih:=inc_length (ds:=ds) (cs:=cs) (by simpa using h);rw [inc];split
  ·split<;>simp [ih]
  ·simp [ih]
theorem odo_length {ds cs:List Int} (h:cs.length=ds.length) {m:Nat} (hm:m≤ds.length):(odo ds cs m).length=ds.length:=by
 unfold odo;rw [List.length_append,inc_length (by simp [h]),List.length_take,List.length_drop];omega
theorem odo_at {ds cs:List Int} {k:Nat} (h:cs.length=ds.length) (hk:k < ds.length):(odo ds cs (k+1)).getD k 0=cs.getD k 0:=by
 unfold odo;rw [List.getD,List.getElem?_append_left (by simp;omega),List.getElem?_take_of_lt (by omega)]
 rfl
theorem odo_step {ds cs:List Int} {k:Nat} (h:cs.length=ds.length) (hk:k < ds.length) (hC:odoC ds cs (k+1)=true) :
  (cs.getD k 0+1 < ds.getD k 0→(odo ds cs (k+1)).set k (cs.getD k 0+1)=odo ds cs k∧odoC ds cs k=false) ∧
  (¬ cs.getD k 0+1 < ds.getD k 0→(odo ds cs (k+1)).set k 0=odo ds cs k∧odoC ds cs k=true):=by
 have e1:ds.drop k=ds.getD k 0 :: ds.drop (k+1):=drop_next hk;have e2:cs.drop k=cs.getD k 0 :: cs.drop (k+1):=drop_next (by omega);have e3:∀ z:Int,(odo ds cs (k+1)).set k z=cs.take k++z :: (inc (ds.drop (k+1)) (cs.drop (k+1))).1:=fun z=>by
  unfold odo;have e4:cs.take (k+1)=cs.take k++[cs.getD k 0]:=by
   rw [List.take_add_one,List.getElem?_eq_getElem (by omega)];simp [List.getD,List.getElem?_eq_getElem (show k < cs.length by omega)]
  rw [e4,List.append_assoc,List.set_append_right _ _ (by simp;omega)];simp [show min k cs.length=k by omega]
 unfold odoC at hC ⊢;unfold odo;rw [e1,e2,inc,if_pos hC];constructor
 ·intro g;rw [if_pos g];refine ⟨?_,rfl⟩;rw [←e3];rfl
 ·intro g;rw [if_neg g];refine ⟨?_,rfl⟩;rw [←e3];rfl
theorem odo_stop {ds cs:List Int} (h:cs.length=ds.length):∀ {k:Nat},k≤ds.length→odoC ds cs k=false→odo ds cs k=odo ds cs 0
 | 0,_,_=>rfl
 | k+1,hk,hC=>by
  have e1:ds.drop k=ds.getD k 0 :: ds.drop (k+1):=drop_next (by omega);have e2:cs.drop k=cs.getD k 0 :: cs.drop (k+1):=drop_next (by omega);have e4:cs.take (k+1)=cs.take k++[cs.getD k 0]:=by
   rw [List.take_add_one,List.getElem?_eq_getElem (by omega)];simp [List.getD,List.getElem?_eq_getElem (show k < cs.length by omega)]
  have e5:odoC ds cs k=false∧odo ds cs (k+1)=odo ds cs k:=by
   unfold odoC at hC ⊢;unfold odo;rw [e1,e2,inc,if_neg (by rw [hC];decide),e4,List.append_assoc];exact ⟨rfl,rfl⟩
  rw [e5.2];exact odo_stop h (by omega) e5.1
def rowOf (G:Nat→Nat) (data:List Int) (N j:Nat):List Int:=((List.range N).filter fun k=>decide (G k=j)).map fun k=>data.getD k 0
theorem rowOf_next (G:Nat→Nat) (data:List Int) (N j:Nat):rowOf G data (N+1) j=if G N=j then rowOf G data N j++[data.getD N 0] else rowOf G data N j:=by
 unfold rowOf;rw [List.range_succ,List.filter_append,List.map_append];by_cases h:G N=j
 ·rw [if_pos h];simp [h]
 ·rw [if_neg h];simp [h]
theorem rowOf_zero (G:Nat→Nat) (data:List Int) (j:Nat):rowOf G data 0 j=[]:=by simp [rowOf]
theorem rowOf_some {G:Nat→Nat} {data:List Int} {N j k:Nat} (hk:k < N) (h:G k=j):rowOf G data N j≠[]:=by
 unfold rowOf;intro e;have:=List.map_eq_nil_iff.1 e;have hm:k ∈ (List.range N).filter fun k=>decide (G k=j):=List.mem_filter.2 ⟨List.mem_range.2 hk,by simpa using h⟩;rw [this] at hm;simp at hm
theorem rowOf_length (G:Nat→Nat) (data:List Int) (N j:Nat):(rowOf G data N j).length≤N:=by
 unfold rowOf;rw [List.length_map];exact Nat.le_trans (List.length_filter_le _ _) (by simp)
theorem rowOf_mem {G:Nat→Nat} {data:List Int} {N j:Nat} {z:Int} (hN:N≤data.length) (h:z ∈ rowOf G data N j):z ∈ data:=by
 unfold rowOf at h;obtain ⟨k,hk,rfl⟩:=List.mem_map.1 h;exact getD_mem (by have:=List.mem_range.1 (List.mem_filter.1 hk).1;omega)
end Go.Proofs.YtijhdmidffenbaaGreatDoor.Vx
namespace Go.Proofs.YtijhdmidffenbaaGreatDoor
section
open Go.RowKit
set_option maxRecDepth 100000
def grpL (ds left:List Int):List Int:=(List.range (Vx.Vw.pr ds).toNat).map fun k=>(Vx.grp ds left k:Int)
def grpK (ds left:List Int) (N k:Nat):List Int:=(List.range N).map fun q=>if q < k then (Vx.grp ds left q:Int) else 0
theorem grpK_len (ds left:List Int) (N k:Nat):(grpK ds left N k).length=N:=by simp [grpK]
theorem grpK_zero (ds left:List Int) (N:Nat):grpK ds left N 0=List.replicate N 0:=by
 refine List.ext_getElem (by simp [grpK]) fun j h1 h2=>?_;simp [grpK]
theorem grpK_all {ds left:List Int} {N:Nat} (h:(Vx.Vw.pr ds).toNat=N):grpK ds left N N=grpL ds left:=by
 unfold grpK grpL;rw [h];exact List.map_congr_left fun q hq=>by rw [if_pos (List.mem_range.1 hq)]
theorem grpK_at {ds left:List Int} {N k:Nat} (h:k < N):(grpK ds left N k).getD k 0=0:=by simp [grpK,List.getD,h]
theorem grpK_set {ds left:List Int} {N k:Nat} (h:k < N):(grpK ds left N k).set k (Vx.grp ds left k:Int)=grpK ds left N (k+1):=by
 refine List.ext_getElem (by simp [grpK]) fun j h1 h2=>?_;have hj:j < N:=by simpa [grpK] using h2
 by_cases e:k=j
 ·subst e;simp [grpK]
 ·rw [List.getElem_set_ne e];simp only [grpK,List.getElem_map,List.getElem_range];by_cases g:j < k
  ·rw [if_pos g,if_pos (by omega)]
  ·rw [if_neg g,if_neg (by omega)]
theorem set_self' {xs:List Int} {k:Nat}:xs.set k (xs.getD k 0)=xs:=by
 refine List.ext_getElem (by simp) fun j h1 h2=>?_;by_cases e:k=j
 ·subst e;simp [List.getD,List.getElem?_eq_getElem h2]
 ·rw [List.getElem_set_ne e]
theorem set_get {xs:List Int} {k:Nat} {z:Int} (h:k < xs.length):(xs.set k z).getD k 0=z:=by simp [List.getD,h]
theorem crd_start (ds:List Int):Vx.Vw.crd ds 0=List.replicate ds.length 0:=by rw [Vx.Vw.crd_zero,Vx.zeros_rep]
theorem reads_ints {w:World} {v:Value} {xs:List Int} (h:IntsIn w v xs) {k:Nat} (hk:k < xs.length) {a:Option Addr} {n c:Nat} (e:v=.slice a n c):∃ b off,a=some ⟨b,off,none⟩∧b < w.heap.size∧w.cell? ⟨b,off+k,none⟩=some (.int .i64 (xs.getD k 0))∧InI (xs.getD k 0):=by
 obtain ⟨b,off,cap,hv,hb,g0,x0⟩:=ints_cell h hk;rw [e] at hv;obtain ⟨rfl,-,-⟩:=Value.slice.inj hv;exact ⟨b,off,rfl,hb,g0,x0⟩
theorem cnt_inI_all {L:List Int} (h:(cnt L).2=0):∀ z ∈ L,InI z:=fun z hz=>by
 obtain ⟨h1,-,-,-⟩:=Vx.cnt_good h;have:=h1 z hz;unfold InI;omega
attribute [local irreducible] cnt grpK grpL Vx.gps Vx.odo Vx.odoC Vx.leftL Vx.strd Vx.Vw.crd Vx.grp Vx.Vw.pr
set_option maxHeartbeats 16000000 in
theorem groups_any {w:World} {vd vg:Value} {ds gone:List Int} (hd:IntsIn w vd ds) (hg:IntsIn w vg gone) (hc:(cnt ds).2=0) (ha:∀ a ∈ gone,0≤a∧a < (ds.length:Int)) :
  Calls Tryz.prog 87 #[vd,vg] w fun e w'=>∃ v,e=.returned v∧Below w.heap.size w w'∧RowI w' w.heap.size v (grpL ds (Vx.leftL ds gone)):=by
 obtain ⟨a1,c1,rfl⟩:=hd.shape;obtain ⟨a2,c2,rfl⟩:=hg.shape;obtain ⟨c65,hl6,hcp,hp65⟩:=Vx.cnt_good hc;have hPos:=Vx.cnt_pos hc;have hpr1:=Vx.Vw.pr_pos hPos;have hgl:=hg.wf.1;obtain ⟨N,hN⟩:∃ N:Nat,Vx.Vw.pr ds=(N:Int):=⟨(Vx.Vw.pr ds).toNat,by omega⟩;have hN65:N≤65536:=by omega
 have HPos:=hid hPos;have HD:=hid hd;have HG:=hid hg;have HC:=hid hc;have HA:=hid ha;have HN:=hid hN;have HCP:Hid ((cnt ds).1=(N:Int)):=hid (by rw [hcp];exact hN);have HP65:=hid hp65;clear hd hg hc ha hcp hPos c65 hpr1 hN hp65;go_enter Tryz.func87,Tryz.ntmps87
 go_wp2_with fail
 refine (Vb.clone_any HD.out).mono ?_;rintro e w1 ⟨v1,rfl,hf,B1⟩;obtain ⟨a3,c3,rfl⟩:=hf.form;have HF:Hid (Vb.Fresh w.heap.size w1 (.slice a3 ds.length c3) (Vx.leftL ds (gone.take 0))):=hid (by rw [List.take_zero];unfold Vx.leftL;exact hf);have HB1:=hid B1;clear hf B1;go_wp2_with fail
 go_loopw [22] (fun i wr=>∃ k:Nat,k≤gone.length∧i=.int .i64 (k:Int)∧Hid (Vb.Fresh w.heap.size wr (.slice a3 ds.length c3) (Vx.leftL ds (gone.take k)))∧Hid (Below w.heap.size w wr)) (fun i _=>gone.length - (intOf i).toNat)
 case atStart=>exact ⟨0,Nat.zero_le _,rfl,HF,HB1⟩
 case round =>
  obtain ⟨k,hk,rfl,hF,hW⟩:=hrel;by_cases hkl:k < gone.length
  ·have hki:(k:Int) < (gone.length:Int):=by omega
   obtain ⟨b,off,rfl,hb,g0,x0⟩:=reads_ints HG.out hkl rfl;have u0:=(hW.out.cell (p:=⟨b,off+k,none⟩) hb).trans g0;have hin:=HA.out _ (getD_mem hkl);have HT:Hid (gone.take (k+1)=gone.take k++[gone.getD k 0]):=hid (take_next hkl);obtain ⟨p,hp⟩:∃ p:Nat,gone.getD k 0=(p:Int):=⟨(gone.getD k 0).toNat,by omega⟩;rw [hp] at u0 HT hin;have hpl:(p:Int) < (ds.length:Int):=hin.2;obtain ⟨g,rfl,hgB,hcell,hfz,hset⟩:=hF.out.at (Vx.leftL_length _ _) (j:=p) (by omega);have hF':=hset 1;have e1:(Vx.leftL ds (gone.take k)).set p 1=Vx.leftL ds (gone.take (k+1)):=by rw [HT.out,Vx.leftL_snoc];simp
   rw [e1] at hF';have HF':=hid hF';have HW':=hid (hW.out.setCell (p:=⟨g,p,none⟩) hgB (.int .i64 1));clear hF' e1 hset hF hin x0 g0 hb hp HT hW;go_wp2_with fail
   go_roundw
   case rel=>exact ⟨k+1,by omega,by go_num,HF',HW'⟩
   case measure=>simp [intOf];omega
  ·have hki:¬ (k:Int) < (gone.length:Int):=by omega
   obtain rfl:k=gone.length:=by omega
   have hFt:=hF.out;rw [List.take_length] at hFt;have hLl:(Vx.leftL ds gone).length=ds.length:=Vx.leftL_length _ _;have hcmp:=Vx.leftL_cmp ds gone;have hLc:=Vx.left_cnt gone HC.out;generalize hL:Vx.leftL ds gone=L at hFt hLl hcmp hLc;have HLL:=hid hL;clear hL;have HLl:=hid hLl;have HCM:=hid hcmp;have HLP:=hid (Vx.cmp_pos hcmp HPos.out);have hLi:∀ z ∈ L,InI z:=(cnt_inI_all (L:=L) (by rw [hLc]));have HL:Hid (IntsIn wr (.slice a3 ds.length c3) L):=hid (by
    have:=IntsIn.of_owns (t:=3) hFt (by omega) hLi;exact this)
   have HLC:Hid ((cnt L).2=0):=hid (by rw [hLc]);clear hFt hF hLl hcmp hLc hLi;go_wp2_with fail
   refine (Vx.strides_any HL.out).mono ?_;rintro e w2 ⟨B2,⟨h0,-⟩ | ⟨-,v2,rfl,hs⟩⟩
   ·exact absurd HLC.out h0
   have hsf:=hs;obtain ⟨a4,c4,rfl⟩:=hs.form;have HS:Hid (IntsIn w2 (.slice a4 (Vx.strd L).length c4) (Vx.strd L)):=hid (hs.ints (by rw [Vx.strd_length,HLl.out];omega) (strd_inI HLC.out));have hsl:(Vx.strd L).length=ds.length:=by rw [Vx.strd_length,HLl.out]
   rw [hsl] at HS ⊢;have HW2:=hid (hW.out.trans (B2.mono hW.out.size));have HL2:=hid (HL.out.below B2);clear hs hsf B2 HL;go_wp2_with fail
   refine (count_any (HD.out.below HW2.out)).mono ?_;rintro e w3 ⟨rfl,B3⟩;rw [HCP.out,HC.out];have HW3:=hid (HW2.out.trans (B3.mono HW2.out.size));have HL3:=hid (HL2.out.below B3);have HS3:=hid (HS.out.below B3);clear B3 HL2 HS HW2;have hmk1:=Vx.run_make_ints w3 N (by omega);have hmk2:=Vx.run_make_ints (w3.alloc (.cells (Vx.intCells (List.replicate N 0)) 3)) ds.length (by omega);have hB5:Below w3.heap.size w3 ((w3.alloc (.cells (Vx.intCells (List.replicate N 0)) 3)).alloc (.cells (Vx.intCells (List.replicate ds.length 0)) 3)):=((Below.refl _ w3).alloc (Nat.le_refl _) _).alloc (by simp) _;have HO:Hid (Vx.RowAt ((w3.alloc (.cells (Vx.intCells (List.replicate N 0)) 3)).alloc (.cells (Vx.intCells (List.replicate ds.length 0)) 3)) w3.heap.size (List.replicate N 0)):=hid ((Vx.RowAt.new w3 _).keep (((Below.refl _ (w3.alloc (.cells (Vx.intCells (List.replicate N 0)) 3))).alloc (Nat.le_refl _) _).block _ (by simp)));have HT:Hid (Vx.RowAt ((w3.alloc (.cells (Vx.intCells (List.replicate N 0)) 3)).alloc (.cells (Vx.intCells (List.replicate ds.length 0)) 3)) (w3.heap.size+1) (List.replicate ds.length 0)):=hid (by
    have:=Vx.RowAt.new (w3.alloc (.cells (Vx.intCells (List.replicate N 0)) 3)) (List.replicate ds.length 0)
    simpa using this)
   have HB5:=hid hB5;clear hB5;go_wp2_with fail
   clear hmk1 hmk2;have hG3:w.heap.size≤w3.heap.size:=HW3.out.size;have HD3:=hid (HD.out.below HW3.out);generalize World.alloc (World.alloc w3 _) _=W5 at HO HT HB5 ⊢;have HLEFT:Hid (∀ W',Below w3.heap.size w3 W'→IntsIn W' (.slice a3 ds.length c3) L∧IntsIn W' (.slice a4 ds.length c4) (Vx.strd L)∧IntsIn W' (.slice a1 ds.length c1) ds):=hid fun W' h=>⟨HL3.out.below h,HS3.out.below h,HD3.out.below h⟩;clear HL3 HS3 HD3 HD HG HA;generalize hGO:w3.heap.size=GO at HO HT HB5 HLEFT hG3 ⊢;have HGE:=hid hGO;clear hGO;go_loopw [47] (fun i wr=>∃ (k:Nat) (cs:List Int),k≤N∧i=.int .i64 (k:Int)∧Hid (Vx.RowAt wr GO (grpK ds L N k))∧Hid (Vx.RowAt wr (GO+1) cs)∧Hid (cs.length=ds.length∧(k < N→cs=Vx.Vw.crd ds (k:Int)))∧Hid (Below GO w3 wr)) (fun i _=>N - (intOf i).toNat)
   case atStart=>exact ⟨0,List.replicate ds.length 0,Nat.zero_le _,rfl,by rw [grpK_zero];exact HO,HT,hid ⟨by simp,fun _=>(crd_start ds).symm⟩,HB5⟩
   case round =>
    clear HO HT HB5;obtain ⟨k,cs,hk,rfl,hO,hT,hC,hV⟩:=hrel;by_cases hkN:k < N
    ·have hkNi:(k:Int) < (N:Int):=by omega
     have hcs:=hC.out.2 hkN;have hcl:=hC.out.1;have HCl:=hid hcl;have HCS:=hid hcs;have hkp:(k:Int) < Vx.Vw.pr ds:=by have:=HN.out;omega
     have HVAL:=hid (Vx.crd_val HPos.out (k:=(k:Int)) (by omega) hkp);have HRNG:Hid (∀ j,j≤ds.length→0≤Vx.gps L (Vx.strd L) (Vx.Vw.crd ds (k:Int)) j∧Vx.gps L (Vx.strd L) (Vx.Vw.crd ds (k:Int)) j≤65536):=hid fun j hj=>Vx.gps_rng HCM.out HC.out hkp (by rw [HLl.out];exact hj);have HEND:Hid (Vx.gps L (Vx.strd L) (Vx.Vw.crd ds (k:Int)) ds.length=(Vx.grp ds L k:Int)):=hid (by have:=Vx.gps_end HCM.out HPos.out HLl.out hkp;rwa [HLl.out] at this);have HINC:Hid ((k:Int)+1 < Vx.Vw.pr ds→Vx.odo ds cs 0=Vx.Vw.crd ds ((k:Int)+1)):=hid fun h=>by rw [Vx.odo_zero,hcs];exact Vx.inc_crd HPos.out h
     rw [←hcs] at HRNG HEND HVAL;clear hcs hC hkp hcl;have hO0:Hid (Vx.RowAt wr GO ((grpK ds L N k).set k (Vx.gps L (Vx.strd L) cs 0))):=hid (by
      rw [show Vx.gps L (Vx.strd L) cs 0=(grpK ds L N k).getD k 0 by rw [grpK_at hkN];unfold Vx.gps;rfl,set_self'];exact hO.out)
     clear hO;go_wp2_with fail
     go_loopw [52] (fun i wr=>∃ (j:Nat),j≤ds.length∧i=.int .i64 (j:Int)∧Hid (Vx.RowAt wr GO ((grpK ds L N k).set k (Vx.gps L (Vx.strd L) cs j)))∧Hid (Vx.RowAt wr (GO+1) cs)∧Hid (Below GO w3 wr)) (fun i _=>ds.length - (intOf i).toNat)
     case atStart=>exact ⟨0,Nat.zero_le _,rfl,hO0,hT,hV⟩
     case round =>
      clear hO0 hT hV;obtain ⟨j,hj,rfl,hO,hT,hV⟩:=hrel;by_cases hjl:j < ds.length
      ·have hji:(j:Int) < (ds.length:Int):=by omega
       obtain ⟨iL,iS,iD⟩:=HLEFT.out _ hV.out;obtain ⟨b1,o1,rfl,hb1,r1,y1⟩:=reads_ints iL (k:=j) (by have:=HLl.out;omega) rfl;obtain ⟨b2,o2,rfl,hb2,r2,y2⟩:=reads_ints iS (k:=j) (by rw [Vx.strd_length];have:=HLl.out;omega) rfl;have t1:=hT.out.cell (j:=j) (by have:=HCl.out;omega);have q1:=hO.out.cell (j:=k) (by rw [List.length_set,grpK_len];exact hkN);rw [set_get (by rw [grpK_len];exact hkN)] at q1;have qf:=hO.out.frozen k;have hg0:=HRNG.out j (by omega);have hg1:=HRNG.out (j+1) (by omega);have HNX:=hid (show Vx.gps L (Vx.strd L) cs (j+1)=Vx.gps L (Vx.strd L) cs j+(if 1 < L.getD j 0 then cs.getD j 0 * (Vx.strd L).getD j 0 else 0) by rw [Vx.gps]);have HSET:=hid (fun z=>hO.out.set k z);have hcj:0≤cs.getD j 0:=Vx.val_ge HVAL.out j;generalize Vx.gps L (Vx.strd L) cs j=p0 at *;generalize hgp:Vx.gps L (Vx.strd L) cs (j+1)=p1 at *;have HGP:=hid hgp;clear hgp;generalize L.getD j 0=l at *;generalize cs.getD j 0=c at *;generalize (Vx.strd L).getD j 0=s at *;clear iL iS iD;by_cases hl:1 < l
       ·have hnx:=HNX.out;rw [if_pos hl] at hnx;have hw1:IntKind.i64.wrap (c * s)=c * s:=by rw [IntKind.wrap_i64];omega
        have hw2:IntKind.i64.wrap (p0+c * s)=p1:=by rw [IntKind.wrap_i64];omega
        have HSr:Hid (∀ W',Below wr.heap.size wr W'→W'.cell? ⟨b1,o1+j,none⟩=some (.int .i64 l)∧W'.cell? ⟨b2,o2+j,none⟩=some (.int .i64 s)∧W'.cell? ⟨GO+1,j,none⟩=some (.int .i64 c)∧W'.cell? ⟨GO,k,none⟩=some (.int .i64 p0)):=hid fun W' h=>⟨(h.cell (p:=⟨b1,o1+j,none⟩) hb1).trans r1,(h.cell (p:=⟨b2,o2+j,none⟩) hb2).trans r2,(h.cell (p:=⟨GO+1,j,none⟩) hT.out.lt).trans t1,(h.cell (p:=⟨GO,k,none⟩) hO.out.lt).trans q1⟩;clear hnx HNX HSET;go_wp2_with fail
        refine wp_region_plan 12 [0,1,2,3,4,5,6,7,8,9,10,11] (fun W'=>Below wr.heap.size wr W') (by kernel_rfl) (by kernel_rfl) (fun _ d _ _ _ h=>by cases d<;>exact h) (Below.refl _ _).drew ?_;have B0:Hid (Below wr.heap.size wr wr.drew):=hid (Below.refl _ _).drew;generalize wr.drew=wD at B0 ⊢;clear qf q1 t1 r1 r2
        repeat
         refine plan_read (v:=?_) rfl rfl (Or.inl ⟨by rfl,?_⟩) ?_;rotate_left
         ·intro W' hSw;obtain ⟨s0,s1,s2,s3⟩:=HSr.out W' hSw;go_simp
          try with_reducible rfl
         try simp only [aPut]
        have hOD:=hO.out.keep (B0.out.block _ hO.out.lt);have hTD:=hT.out.keep (B0.out.block _ hT.out.lt);have qf:=hOD.frozen k;have q1:wD.cell? ⟨GO,k,none⟩=some (.int .i64 p0):=(HSr.out _ B0.out).2.2.2;have hO':=hOD.set k p1;rw [List.set_set,←HGP.out] at hO';have HO':=hid hO';have HT':Hid (Vx.RowAt (wD.setCell ⟨GO,k,none⟩ (.int .i64 p1)) (GO+1) cs):=hid (hTD.keep (Below.heap_setCell _ _ _ _ (by show GO+1≠GO;omega)));have HV':=hid ((hV.out.trans (B0.out.mono (by rw [←HGE.out];exact hV.out.size))).setCell (p:=⟨GO,k,none⟩) (Nat.le_refl _) (.int .i64 p1));rw [HGP.out] at HO';clear hO' hOD hTD hO hT hV;refine plan_tail rfl ?_;simp only [aDrp];go_wp2_with fail
        go_roundw
        case rel=>exact ⟨j+1,by omega,by go_num,by rw [HGP.out];exact HO',HT',HV'⟩
        case measure=>simp [intOf];omega
       ·have hnx:=HNX.out;rw [if_neg hl,Int.add_zero] at hnx;have hO1:Hid (Vx.RowAt wr GO ((grpK ds L N k).set k (Vx.gps L (Vx.strd L) cs (j+1)))):=hid (by rw [HGP.out,hnx];exact hO.out);clear HNX HSET hnx;go_wp2_with fail
        go_roundw
        case rel=>exact ⟨j+1,by omega,by go_num,hO1,hT,hV⟩
        case measure=>simp [intOf];omega
      ·have hji:¬ (j:Int) < (ds.length:Int):=by omega
       obtain rfl:j=ds.length:=by omega
       have hO1:=hO.out;rw [HEND.out,grpK_set hkN] at hO1;have HO1:=hid hO1;have hod:=Vx.odo_all HCl.out;have HT1:Hid (Vx.RowAt wr (GO+1) (Vx.odo ds cs ds.length)):=hid (by rw [hod.1];exact hT.out);have HC1:=hid hod.2;clear hO1 hO hT hod;go_wp2_with fail
       go_loopw [17] (fun i wr=>∃ (m:Nat) (z:Int),m≤ds.length∧z=(m:Int) - 1∧i=.int .i64 z∧Hid (Vx.RowAt wr GO (grpK ds L N (k+1)))∧Hid (Vx.RowAt wr (GO+1) (Vx.odo ds cs m))∧Hid (Vx.odoC ds cs m=true)∧Hid (Below GO w3 wr)) (fun i _=>(intOf i+1).toNat)
       case atStart=>exact ⟨ds.length,_,Nat.le_refl _,rfl,rfl,HO1,HT1,HC1,hV⟩
       case round =>
        clear HO1 HT1 HC1 hV;obtain ⟨m,z,hm,hz,rfl,hO,hT,hCa,hV⟩:=hrel;by_cases hm0:0 < m
        ·obtain ⟨p,rfl⟩:∃ p,m=p+1:=⟨m - 1,by omega⟩;obtain rfl:z=(p:Int):=by omega
         clear hz;have hp0:(0:Int)≤(p:Int):=by omega
         have hpl:(p:Int) < (ds.length:Int):=by omega
         obtain ⟨iL,iS,iD⟩:=HLEFT.out _ hV.out;obtain ⟨b1,o1,rfl,hb1,r1,y1⟩:=reads_ints iD (k:=p) (by omega) rfl;have hlo:=Vx.odo_length HCl.out (m:=p+1) hm;have t1:=hT.out.cell (j:=p) (by omega);rw [Vx.odo_at HCl.out (by omega)] at t1;have tf:=hT.out.frozen p;have HST:=hid (Vx.odo_step HCl.out (k:=p) (by omega) hCa.out);have HSP:=hid (fun h=>Vx.odo_stop HCl.out (k:=p) (by omega) h);have hvc:=Vx.val_get HVAL.out (j:=p) (by omega);have hT1:=hT.out.set p (cs.getD p 0+1);have HT1:=hid hT1;have HO1:Hid (Vx.RowAt (wr.setCell ⟨GO+1,p,none⟩ (.int .i64 (cs.getD p 0+1))) GO (grpK ds L N (k+1))):=hid (hO.out.keep (Below.heap_setCell _ _ _ _ (by show GO≠GO+1;omega)));have HV1:=hid (hV.out.setCell (p:=⟨GO+1,p,none⟩) (by show GO≤GO+1;omega) (.int .i64 (cs.getD p 0+1)));have iD1:=(HLEFT.out _ HV1.out).2.2;obtain ⟨b1',o1',e1,hb1',r1',-⟩:=reads_ints iD1 (k:=p) (by omega) rfl;obtain ⟨rfl,rfl⟩:b1=b1'∧o1=o1':=by simpa using e1
         generalize cs.getD p 0=c at *;generalize ds.getD p 0=d at *;have hdI:d≤9223372036854775807:=y1.2;have hw:IntKind.i64.wrap (c+1)=c+1:=by rw [IntKind.wrap_i64];omega
         have t2:=HT1.out.cell (j:=p) (by rw [List.length_set];omega);rw [set_get (by omega)] at t2;have hgt:=HT1.out.lt;go_wp2_with fail
         generalize World.setCell wr _ _=WS at HT1 HO1 HV1 hb1' r1' t2 hgt ⊢;have HSr:Hid (∀ W',Below WS.heap.size WS W'→W'.cell? ⟨GO+1,p,none⟩=some (.int .i64 (c+1))∧W'.cell? ⟨b1,o1+p,none⟩=some (.int .i64 d)):=hid fun W' h=>⟨(h.cell (p:=⟨GO+1,p,none⟩) hgt).trans t2,(h.cell (p:=⟨b1,o1+p,none⟩) hb1').trans r1'⟩;clear t1 tf hT1 hT hO hV iL iS iD iD1 r1 r1' e1 hb1 hb1' t2 hgt;refine wp_region_plan 8 [0,1,2,3,4,5,6,7] (fun W'=>Below WS.heap.size WS W') (by kernel_rfl) (by kernel_rfl) (fun _ d _ _ _ h=>by cases d<;>exact h) (Below.refl _ _).drew ?_;have B0:Hid (Below WS.heap.size WS WS.drew):=hid (Below.refl _ _).drew;generalize WS.drew=wD at B0 ⊢
         repeat
          refine plan_read (v:=?_) rfl rfl (Or.inl ⟨by rfl,?_⟩) ?_;rotate_left
          ·intro W' hSw;obtain ⟨s0,s1⟩:=HSr.out W' hSw;go_simp
           try with_reducible rfl
          try simp only [aPut]
         refine plan_tail rfl ?_;simp only [aDrp];have HTD:=hid (HT1.out.keep (B0.out.block _ HT1.out.lt));have HOD:=hid (HO1.out.keep (B0.out.block _ HO1.out.lt));have HVD:=hid (HV1.out.trans (B0.out.mono (by rw [←HGE.out];exact HV1.out.size)));clear HT1 HO1 HV1 HSr B0;by_cases hcd:c+1 < d
         ·have hst:=HST.out.1 hcd;rw [hst.1,HSP.out hst.2] at HTD;clear hst HST HSP;go_wp2_with fail
          go_roundw
          case rel=>exact ⟨k+1,_,by omega,by go_num,HOD,HTD,hid ⟨Vx.odo_length HCl.out (Nat.zero_le _),fun h=>by rw [HINC.out (by have:=HN.out;omega)];congr 1⟩,HVD⟩
          case measure=>simp only [intOf];omega
         ·have hst:=HST.out.2 (by omega);have hT0:=HTD.out.set p 0;rw [List.set_set,hst.1] at hT0;have HT0:=hid hT0;have HO0:Hid (Vx.RowAt (wD.setCell ⟨GO+1,p,none⟩ (.int .i64 0)) GO (grpK ds L N (k+1))):=hid (HOD.out.keep (Below.heap_setCell _ _ _ _ (by show GO≠GO+1;omega)));have HV0:=hid (HVD.out.setCell (p:=⟨GO+1,p,none⟩) (by show GO≤GO+1;omega) (.int .i64 0));have HC0:=hid hst.2;have tf:=HTD.out.frozen p;have tc:=HTD.out.cell (j:=p) (by rw [List.length_set];omega);clear hst HST HSP hT0 HTD HOD HVD;go_wp2_with fail
          go_roundw
          case rel=>exact ⟨p,_,by omega,rfl,by go_num,HO0,HT0,HC0,HV0⟩
          case measure=>simp only [intOf];omega
        ·obtain rfl:m=0:=by omega
         obtain rfl:z=-1:=by omega
         clear hz;go_wp2_with fail
         go_roundw
         case rel=>exact ⟨k+1,_,by omega,by go_num,hO,hT,hid ⟨Vx.odo_length HCl.out (Nat.zero_le _),fun h=>by rw [HINC.out (by have:=HN.out;omega)];congr 1⟩,hV⟩
         case measure=>simp only [intOf];omega
    ·have hkNi:¬ (k:Int) < (N:Int):=by omega
     obtain rfl:k=N:=by omega
     have hO1:=hO.out;rw [grpK_all (by have:=HN.out;omega)] at hO1;have HO1:Hid (RowI wr w.heap.size (.slice (some ⟨GO,0,none⟩) k k) (grpL ds L)):=hid (by
      have:=Vb.Fresh.row (n:=k) hO1 hG3 (by unfold grpL;have:=HN.out;simp;omega) (by omega);exact this)
     have HEB:=hid (HW3.out.trans (hV.out.mono hG3));clear hO1 hO hT hC hV;go_wp2_with fail
     go_ret
     exact ⟨.slice (some ⟨GO,0,none⟩) k k,rfl,HEB.out,by rw [HLL.out];exact HO1.out⟩
end
section
open Go.RowKit
def lMax:List UInt8:=[77,97,120]
def lAdd:List UInt8:=[65,100,100]
def lSub:List UInt8:=[83,117,98]
def lDiv:List UInt8:=[68,105,118]
def lExp:List UInt8:=[69,120,112]
def lGreater:List UInt8:=[71,114,101,97,116,101,114]
def lRMax:List UInt8:=[82,101,100,117,99,101,77,97,120]
def lArg:List UInt8:=[65,114,103,77,97,120]
def lRSum:List UInt8:=[82,101,100,117,99,101,83,117,109]
def lRMean:List UInt8:=[82,101,100,117,99,101,77,101,97,110]
def twoP (op:List UInt8) (t x y:Int):Int:=(Fl.bin op t x y).1
def oneP (op:List UInt8) (x:Int):Int:=(Fl.un op 1 x).1
theorem twoP_in {op:List UInt8} {t x y:Int} (hx:InI x) (hy:InI y):InI (twoP op t x y):=Fl.bin_rangeA hx.1 hx.2 hy.1 hy.2
theorem oneP_in {op:List UInt8} {x:Int} (hx:InI x):InI (oneP op x):=Fl.un_range _ _ _ hx.1 hx.2
theorem fold_in {op:List UInt8} {t:Int}:∀ {l:List Int} {x:Int},InI x→(∀ z ∈ l,InI z)→InI (l.foldl (twoP op t) x)
 | [],x,h,_=>h
 | y :: l,x,h,g=>fold_in (l:=l) (x:=twoP op t x y) (twoP_in h (g y (List.mem_cons_self ..))) (fun z hz=>g z (List.mem_cons_of_mem _ hz))
def argB (t:Int) (l:List Int):Nat→Nat
 | 0=>0
 | k+1=>if twoP lGreater t (l.getD k 0) (l.getD (argB t l k) 0)=1 then k else argB t l k
theorem argB_lt {t:Int} {l:List Int} (h:l≠[]):∀ k,k≤l.length→argB t l k < l.length
 | 0,_=>List.length_pos_iff.2 h
 | k+1,hk=>by
  rw [argB];split
  ·omega
  ·exact argB_lt h k (by omega)
def manyP (n:Nat):Int:=(Fl.cst 7 1 (n:Int)).1
def togP (op:List UInt8) (t:Int) (l:List Int):Int :=
 if op=lRMax then (l.drop 1).foldl (twoP lMax t) (l.getD 0 0)
 else if op=lArg then (argB t l l.length:Int)
 else if op=lRSum then l.foldl (twoP lAdd t) 0
 else twoP lDiv t (l.foldl (twoP lAdd t) 0) (manyP l.length)
theorem togP_max {t:Int} {l:List Int}:togP lRMax t l=(l.drop 1).foldl (twoP lMax t) (l.getD 0 0):=if_pos rfl
theorem togP_arg {t:Int} {l:List Int}:togP lArg t l=(argB t l l.length:Int):=by unfold togP;rw [if_neg (by decide),if_pos rfl]
theorem togP_sum {t:Int} {l:List Int}:togP lRSum t l=l.foldl (twoP lAdd t) 0:=by unfold togP;rw [if_neg (by decide),if_neg (by decide),if_pos rfl]
theorem togP_mean {t:Int} {l:List Int}:togP lRMean t l=twoP lDiv t (l.foldl (twoP lAdd t) 0) (manyP l.length):=by unfold togP;rw [if_neg (by decide),if_neg (by decide),if_neg (by decide)]
theorem manyP_in (n:Nat):InI (manyP n):=by
 unfold manyP;have e:Fl.cst 7 1 (n:Int)=(Fl.canon (floatOfInt .f32 (n:Int)),0):=by
  unfold Fl.cst;rw [if_neg (by rw [show Fl.chk 7 (n:Int)=true from rfl,show Fl.chk 1 0=true by decide +kernel];decide),if_neg (by decide),if_neg (by decide),if_neg (by decide),if_pos rfl]
 rw [e];have h:=Fl.okF_canon (b:=floatOfInt .f32 (n:Int)) (by rw [Fl.foi32];exact Ieee.single.write_lt (.number _ _ _));exact Fl.okF_range h
theorem togP_in {op:List UInt8} {t:Int} {l:List Int} (h:l≠[]) (hl:l.length≤65536) (hz:∀ z ∈ l,InI z):InI (togP op t l):=by
 have h0:InI 0:=by unfold InI;decide
 unfold togP;split
 ·exact fold_in (hz _ (getD_mem (List.length_pos_iff.2 h))) fun z hz'=>hz z (List.mem_of_mem_drop hz')
 split
 ·have:=argB_lt (t:=t) h l.length (Nat.le_refl _);unfold InI;omega
 split
 ·exact fold_in h0 hz
 ·exact twoP_in (fold_in h0 hz) (manyP_in _)
def redR (op:List UInt8) (t:Int) (G:Nat→Nat) (data:List Int) (N P:Nat):List Int:=(List.range P).map fun j=>togP op t (Vx.rowOf G data N j)
def expP (G:Nat→Nat) (data:List Int) (N k:Nat):Int:=oneP lExp (twoP lSub 1 (data.getD k 0) (togP lRMax 1 (Vx.rowOf G data N (G k))))
def expL (G:Nat→Nat) (data:List Int) (N k:Nat):List Int:=(List.range k).map (expP G data N)
def smP (G:Nat→Nat) (data:List Int) (N k j:Nat):Int:=(Vx.rowOf G (expL G data N N) k j).foldl (twoP lAdd 1) 0
def softL (G:Nat→Nat) (data:List Int) (N:Nat):List Int:=(List.range N).map fun k=>twoP lDiv 1 (expP G data N k) (smP G data N N (G k))
end
section
open Go.RowKit
set_option maxRecDepth 100000
attribute [local irreducible] Fl.un Fl.bin Fl.cst
theorem two_any (op:ByteArray) (t x y:Int) (hx:InI x) (hy:InI y) (w:World) :
  Calls Tryz.prog 89 #[.string op,.int .i64 t,.int .i64 x,.int .i64 y] w fun e w'=>e=.returned (.int .i64 (twoP op.toList t x y))∧Below w.heap.size w w':=by
 have H:=hid (Nm.binary_any op t x y hx.1 hx.2 hy.1 hy.2 w);clear hx hy;go_enter Tryz.func89,Tryz.ntmps89
 go_wp2_with fail
 refine H.out.mono ?_;rintro e w' ⟨rfl,g⟩;have G:=hid g;clear g;go_wp2
 go_ret
 exact ⟨rfl,G.out⟩
theorem one_any (op:ByteArray) (x:Int) (hx:InI x) (w:World) :
  Calls Tryz.prog 88 #[.string op,.int .i64 x] w fun e w'=>e=.returned (.int .i64 (oneP op.toList x))∧Below w.heap.size w w':=by
 have H:=hid (Nm.unary_any op 1 x hx.1 hx.2 w);clear hx;go_enter Tryz.func88,Tryz.ntmps88
 go_wp2_with fail
 refine H.out.mono ?_;rintro e w' ⟨rfl,g⟩;have G:=hid g;clear g;go_wp2
 go_ret
 exact ⟨rfl,G.out⟩
def axZ (a:Int) (r:Nat):Int:=if a < 0 then a+(r:Int) else a
theorem axis_red (a:Int) (r:Nat) (h:-(r:Int)≤a∧a < (r:Int)) (hr:(r:Int)≤1000000) (w:World) :
  Calls Tryz.prog 48 #[.int .i64 a,.int .i64 (r:Int)] w fun e w'=>e=.returned (.int .i64 (axZ a r))∧w=w':=by
 by_cases h0:a < 0
 ·have hw:IntKind.i64.wrap (a+(r:Int))=a+(r:Int):=by rw [IntKind.wrap_i64];omega
  have HE:Hid (axZ a r=a+(r:Int)):=hid (if_pos h0);go_enter Tryz.func48,Tryz.ntmps48
  go_wp2
  go_ret
  exact ⟨ret_val (int_val HE.out.symm),rfl⟩
 ·have HE:Hid (axZ a r=a):=hid (if_neg h0);go_enter Tryz.func48,Tryz.ntmps48
  go_wp2
  go_ret
  exact ⟨ret_val (int_val HE.out.symm),rfl⟩
def StepC (fn:Value) (w0:World) (f:Int→Int→Int):Prop :=
 ∃ (g:Nat) (lb:Array Value),fn=.func (.func g) #[] lb∧(∀ args w,(callFunc g args).run Tryz.prog w=.ok (.enter g args) w) ∧
  ∀ (W:World) (x y:Int),Below w0.heap.size w0 W→InI x→InI y→Calls Tryz.prog g (#[.int .i64 x,.int .i64 y]++lb) W fun e w'=>e=.returned (.int .i64 (f x y))∧Below W.heap.size W w'
theorem eg_stp:∀ args w,(callFunc 142 args).run Tryz.prog w=.ok (.enter 142 args) w:=enters_of Tryz.func142 (by kernel_rfl) rfl
theorem stp_any (op:ByteArray) (t x y:Int) (hx:InI x) (hy:InI y) {bo bt:Nat} {W:World} (h0:W.cell? ⟨bo,0,none⟩=some (.string op)) (h1:W.cell? ⟨bt,0,none⟩=some (.int .i64 t)) :
  Calls Tryz.prog 142 #[.int .i64 x,.int .i64 y,.pointer (some ⟨bo,0,none⟩),.pointer (some ⟨bt,0,none⟩)] W fun e w'=>e=.returned (.int .i64 (twoP op.toList t x y))∧Below W.heap.size W w':=by
 have H:=hid (two_any op t x y hx hy W);clear hx hy;go_enter Tryz.func142,Tryz.ntmps142
 go_wp2_with fail
 refine H.out.mono ?_;rintro e w' ⟨rfl,g⟩;have G:=hid g;clear g;go_wp2
 go_ret
 exact ⟨rfl,G.out⟩
set_option maxHeartbeats 4000000 in
theorem stepper_any (op:ByteArray) (t:Int) (w:World) :
  Calls Tryz.prog 92 #[.string op,.int .i64 t] w fun e w'=>∃ fn,e=.returned fn∧StepC fn w' (twoP op.toList t)∧Below w.heap.size w w':=by
 have HB:Hid (Below w.heap.size w ((w.alloc (Obj.cells #[.string op] 9)).alloc (Obj.cells #[.int .i64 t] 3))):=hid (((Below.refl _ w).alloc (Nat.le_refl _) _).alloc (by simp) _);have HO:Hid (BoxN ((w.alloc (Obj.cells #[.string op] 9)).alloc (Obj.cells #[.int .i64 t] 3)) w.heap.size #[.string op] 9):=hid ((BoxN.new w #[.string op] 9).below' ((Below.refl _ _).alloc (Nat.le_refl _) _));have HT:Hid (BoxN ((w.alloc (Obj.cells #[.string op] 9)).alloc (Obj.cells #[.int .i64 t] 3)) (w.heap.size+1) #[.int .i64 t] 3):=hid (boxn_newE (by simp));go_enter Tryz.func92,Tryz.ntmps92
 go_wp2
 go_ret
 exact ⟨_,rfl,⟨142,_,rfl,eg_stp,fun W x y hW hx hy=>stp_any op t x y hx hy ((HO.out.below' hW).cell 0 rfl) ((HT.out.below' hW).cell 0 rfl)⟩,HB.out⟩
theorem foldl_next {f:Int→Int→Int} {l:List Int} {x:Int} {k:Nat} (h:k < l.length):(l.take (k+1)).foldl f x=f ((l.take k).foldl f x) (l.getD k 0):=by
 rw [take_next h,List.foldl_append];rfl
set_option maxHeartbeats 4000000 in
theorem from_any {w:World} {fn v:Value} {l:List Int} {f:Int→Int→Int} {x:Int} (hf:StepC fn w f) (hin:∀ x y,InI x→InI y→InI (f x y)) (hx:InI x) (hl:IntsIn w v l) :
  Calls Tryz.prog 91 #[.int .i64 x,v,fn] w fun e w'=>e=.returned (.int .i64 (l.foldl f x))∧Below w.heap.size w w':=by
 obtain ⟨a1,c1,rfl⟩:=hl.shape;obtain ⟨G,lb,rfl,eg,hcl⟩:=hf;have hln:=hl.wf.1;have HL:=hid hl;have HCL:=hid hcl;have HIN:=hid hin;have HX:=hid hx;clear hl hcl hin hx;go_enter Tryz.func91,Tryz.ntmps91
 go_wp2_with fail
 go_loopw [0,11] (fun a i wr=>∃ (k:Nat) (z:Int),k≤l.length∧i=.int .i64 (k:Int)∧a=.int .i64 z∧Hid (z=(l.take k).foldl f x)∧Hid (InI z)∧Hid (Below w.heap.size w wr)) (fun _ i _=>l.length - (intOf i).toNat)
 case atStart=>exact ⟨0,x,Nat.zero_le _,rfl,rfl,hid (by simp),HX,hid (Below.refl _ _)⟩
 case round =>
  obtain ⟨k,z,hk,rfl,rfl,hz,hzi,hW⟩:=hrel;by_cases hkl:k < l.length
  ·have hki:(k:Int) < (l.length:Int):=by omega
   obtain ⟨b,off,cap,hv,hb,g0,x0⟩:=ints_cell (HL.out.below hW.out) hkl;obtain ⟨rfl,-,rfl⟩:=Value.slice.inj hv;have HNX:=hid (foldl_next (f:=f) (x:=x) hkl);have HX0:=hid x0;generalize l.getD k 0=y at *;clear x0 hb hv;go_wp2_with (go_at_fn G;refine (HCL.out wr z y hW.out hzi.out HX0.out).mono ?_)
   rintro e w2 ⟨rfl,B2⟩;have HW2:=hid (hW.out.trans (B2.mono hW.out.size));have HZ2:Hid (f z y=(l.take (k+1)).foldl f x):=hid (by rw [HNX.out,hz.out]);have HZI:=hid (HIN.out z y hzi.out HX0.out);generalize f z y=z2 at *;clear B2 g0 HNX;go_wp2_with fail
   go_roundw
   case rel=>exact ⟨k+1,z2,by omega,by go_num,rfl,HZ2,HZI,HW2⟩
   case measure=>simp [intOf];omega
  ·have hki:¬ (k:Int) < (l.length:Int):=by omega
   obtain rfl:k=l.length:=by omega
   have hz':=hz.out;rw [List.take_length] at hz';have HZ:=hid hz';clear hz' hz;go_wp2
   go_ret
   exact ⟨ret_val (int_val HZ.out),hW.out⟩
set_option maxHeartbeats 4000000 in
theorem wide_any {w:World} {v:Value} {l:List Int} (hl:IntsIn w v l) :
  Calls Tryz.prog 51 #[v] w fun e w'=>∃ v',e=.returned v'∧RowL w' w.heap.size v' l∧Below w.heap.size w w':=by
 obtain ⟨i0,hi,hz0,hz1,hz2⟩:=info_parts (show (Tryz.prog.info? 2).map (fun i=>(i.zero,i.size,i.bytes))=some (some (.int .i64 0),1,8) by kernel_rfl);obtain ⟨a1,c1,rfl⟩:=hl.shape;have hln:=hl.wf.1;have HL:=hid hl;clear hl;go_enter Tryz.func51,Tryz.ntmps51
 go_wp2_with fail
 go_loopw [3,8] (fun o i wr=>∃ (k:Nat),k≤l.length∧i=.int .i64 (k:Int)∧Hid (RowL wr w.heap.size o (l.take k))∧Hid ((l.take k).length=k)∧Hid (Below w.heap.size w wr)) (fun _ i _=>l.length - (intOf i).toNat)
 case atStart=>exact ⟨0,Nat.zero_le _,rfl,hid (RowL.nil _ _),hid rfl,hid (Below.refl _ _)⟩
 case round =>
  obtain ⟨k,hk,rfl,hO,hL,hW⟩:=hrel;obtain ⟨xs,hxs⟩:∃ xs,l.take k=xs:=⟨_,rfl⟩;rw [hxs] at hO hL;have HXS:=hid hxs;clear hxs;obtain ⟨ao,co,rfl⟩:=hO.out.form;obtain rfl:xs.length=k:=hL.out;clear hL;by_cases hkl:xs.length < l.length
  ·have hki:(xs.length:Int) < (l.length:Int):=by omega
   obtain ⟨b,off,cap,hv,hb,g0,x0⟩:=ints_cell (HL.out.below hW.out) hkl;obtain ⟨rfl,-,rfl⟩:=Value.slice.inj hv;have HNX:=hid (show l.take (xs.length+1)=xs++[l.getD xs.length 0] by rw [take_next hkl,HXS.out]);have HX0:=hid x0;generalize l.getD xs.length 0=y at *;have hwy:IntKind.i64.wrap y=y:=by have:=HX0.out;unfold InI at this;rw [IntKind.wrap_i64];omega
   clear x0 hb hv;have hsz:=hW.out.size;go_wp2_with (at_builtin;refine wpList_append_own _ rfl _ _ 44 rfl w.heap.size 2 i0 (.int .i64 0) 1 8 Tryz.underlying44 hi hz0 hz1 hz2 rfl (by decide) _ _ _ rfl (hO.out.own.alloc _) ⟨wr.heap.size,0,none⟩ 1 1 (#[.int .i64 y]:Array Value).toList rfl rfl (World.news_of_block (heap_alloc_new wr _)) (by simp [Value.oneCell']) (by unfold maxLen;omega) (by omega) (by simp;omega) ?_)
   intro v' w6 hown' hgrow _;obtain ⟨a6,c6,rfl⟩:=owns_form hown';have hrE:=hO.out.own.alloc (Obj.cells #[.int .i64 y] 2);have hW6:=hid ((hW.out.alloc (by omega) _).grown hgrow (by simp;omega) (fun g hg=>by have:=(hrE.lt g hg).1;omega));have HR6:Hid (RowL w6 w.heap.size (.slice a6 (xs.length+1) c6) (l.take (xs.length+1))):=hid (by
    rw [HNX.out];exact hO.out.push hown')
   have HL6:Hid ((l.take (xs.length+1)).length=xs.length+1):=hid (by rw [List.length_take];omega);clear hown' hgrow hrE g0 hO hW hwy;go_wp2_with fail
   go_roundw
   case rel=>exact ⟨_,by omega,by go_num,HR6,HL6,hW6⟩
   case measure=>simp [intOf];omega
  ·have hki:¬ (xs.length:Int) < (l.length:Int):=by omega
   have hx2:=HXS.out;rw [List.take_of_length_le (by omega)] at hx2;subst hx2;go_wp2
   go_ret
   exact ⟨_,rfl,hO.out,hW.out⟩
end
section
open Go.RowKit
set_option maxRecDepth 100000
attribute [local irreducible] Fl.un Fl.bin Fl.cst twoP
theorem ints_tail {w:World} {b off n cap:Nat} {l:List Int} (h:IntsIn w (.slice (some ⟨b,off,none⟩) n cap) l) (hn:1≤n) {a:Option Addr} {m c:Nat} (hm:m=n - 1) (hc:m≤c) (ha:1 < n→a=some ⟨b,off+1,none⟩):IntsIn w (.slice a m c) (l.drop 1):=by
 obtain ⟨a',c',e⟩:=h.shape;obtain ⟨-,rfl,-⟩:=Value.slice.inj e;by_cases h1:1 < l.length
 ·obtain rfl:=ha h1;have hml:m=(l.drop 1).length:=by simp;omega
  subst hml;have hw:=h.wf;obtain ⟨b',o',cap',hv,hb,hr,-⟩:=h.rows (k:=0) (by omega);obtain ⟨e1,-,-⟩:=Value.slice.inj hv;obtain ⟨rfl,rfl⟩:b=b'∧off=o':=by simpa using e1
  refine .row b (off+1) c (l.drop 1) (by intro e;have:=congrArg List.length e;simp at this;omega) hc hb (fun j hj=>?_) (by simp;omega) (fun z hz=>hw.2 z (List.mem_of_mem_drop hz));have:=hr (j+1) (by simp at hj;omega);rw [show off+1+j=off+(j+1) by omega,this];simp [List.getD,List.getElem?_drop,Nat.add_comm]
 ·have e0:l.drop 1=[]:=List.drop_eq_nil_of_le (by omega);rw [e0];obtain rfl:m=0:=by omega
  exact .empty a c
set_option maxHeartbeats 2000000 in
theorem tog_max {w:World} {op:ByteArray} (t:Int) {v:Value} {l:List Int} (ho:op.toList=lRMax) (hl:IntsIn w v l) (h0:l≠[]) :
  Calls Tryz.prog 53 #[.string op,.int .i64 t,v] w fun e w'=>e=.returned (.int .i64 (togP op.toList t l))∧Below w.heap.size w w':=by
 rw [ho,togP_max];have q0:(op.toList==([82,101,100,117,99,101,77,97,120]:List UInt8))=true:=by rw [ho];decide
 clear ho;have hp:0 < l.length:=List.length_pos_iff.2 h0;obtain ⟨b,off,cap,rfl,hb,g0,x0⟩:=ints_cell hl hp;have hcap:l.length≤cap:=hl.capI.2;have HT:Hid (∀ (a:Option Addr) (m c:Nat),m=l.length - 1→m≤c→(1 < l.length→a=some ⟨b,off+1,none⟩)→IntsIn w (.slice a m c) (l.drop 1)):=hid fun a m c h1 h2 h3=>ints_tail hl hp h1 h2 h3;have HX:=hid x0;have HST:=hid (fun (W:World)=>stepper_any ⟨#[77,97,120]⟩ t W);have hts:(⟨#[77,97,120]⟩:ByteArray).toList=lMax:=by rw [ByteArray.toList_eq];rfl
 rw [hts] at HST;rw [Nat.add_zero] at g0;generalize l.getD 0 0=z0 at *;have HS:Hid (∀ W',Below w.heap.size w W'→W'.cell? ⟨b,off,none⟩=some (.int .i64 z0)):=hid fun W' h=>(h.cell (p:=⟨b,off,none⟩) hb).trans g0;have hli:(0:Int) < (l.length:Int):=by omega
 have hl1:(1:Int)≤(l.length:Int):=by omega
 have hlc:(l.length:Int)≤(cap:Int):=by omega
 have hlen:=hl.wf.1;clear hl x0 g0 h0 hts;go_enter Tryz.func53,Tryz.ntmps53
 go_wp2_with fail
 refine wp_region_plan 7 [0,1,2,3,4,5,6] (fun W'=>Below w.heap.size w W') (by kernel_rfl) (by kernel_rfl) (fun _ d _ _ _ h=>by cases d<;>exact h) (Below.refl _ _).drew ?_;have B0:Hid (Below w.heap.size w w.drew):=hid (Below.refl _ _).drew;generalize w.drew=wD at B0 ⊢
 repeat
  refine plan_read (v:=?_) rfl rfl (Or.inl ⟨by rfl,?_⟩) ?_;rotate_left
  ·intro W' hSw;have s0:=HS.out W' hSw;go_simp
   try with_reducible rfl
  try simp only [aPut]
 refine plan_act rfl rfl (fun K' hK=>?_);go_simp
 refine (HST.out _).mono ?_;rintro e w2 ⟨fn,rfl,hfn,B⟩;have B1:=hid (B0.out.trans (B.mono B0.out.size));have HF:=hid hfn;have HTb:Hid (∀ (a:Option Addr) (m c:Nat),m=l.length - 1→m≤c→(1 < l.length→a=some ⟨b,off+1,none⟩)→IntsIn w2 (.slice a m c) (l.drop 1)):=hid fun a m c h1 h2 h3=>(HT.out a m c h1 h2 h3).below B1.out;refine hK.out _ _ B1.out ?_;clear hK K' B hfn HT;refine plan_tail rfl ?_;simp only [aDrp];by_cases hc1:cap=1
 ·subst hc1;go_wp2_with fail
  with_reducible refine (from_any HF.out (fun x y=>twoP_in) HX.out (HTb.out _ _ _ ?m1 ?m2 ?m3)).mono ?_
  case m1=>omega
  case m2=>omega
  case m3=>intro h;exact absurd h (by omega)
  rintro e w3 ⟨rfl,B3⟩;have HB3:=hid (B1.out.trans (B3.mono B1.out.size));clear B3;generalize hr:List.foldl (twoP lMax t) z0 (List.drop 1 l)=r;have HR:=hid hr.symm;clear hr;go_wp2
  go_ret
  exact ⟨ret_val (int_val HR.out),HB3.out⟩
 ·go_wp2_with fail
  with_reducible refine (from_any HF.out (fun x y=>twoP_in) HX.out (HTb.out _ _ _ ?m1 ?m2 ?m3)).mono ?_
  case m1=>first | rfl | omega
  case m2=>omega
  case m3=>exact fun _=>rfl
  rintro e w3 ⟨rfl,B3⟩;have HB3:=hid (B1.out.trans (B3.mono B1.out.size));clear B3;generalize hr:List.foldl (twoP lMax t) z0 (List.drop 1 l)=r;have HR:=hid hr.symm;clear hr;go_wp2
  go_ret
  exact ⟨ret_val (int_val HR.out),HB3.out⟩
set_option maxHeartbeats 8000000 in
theorem tog_arg {w:World} {op:ByteArray} (t:Int) {v:Value} {l:List Int} (ho:op.toList=lArg) (hl:IntsIn w v l) (h0:l≠[]) (hl6:l.length≤65536) :
  Calls Tryz.prog 53 #[.string op,.int .i64 t,v] w fun e w'=>e=.returned (.int .i64 (togP op.toList t l))∧Below w.heap.size w w':=by
 rw [ho,togP_arg];have q0:(op.toList==([82,101,100,117,99,101,77,97,120]:List UInt8))=false:=by rw [ho];decide
 have q1:(op.toList==([65,114,103,77,97,120]:List UInt8))=true:=by rw [ho];decide
 clear ho;obtain ⟨a1,c1,rfl⟩:=hl.shape;have HL:=hid hl;have H0:=hid h0;have HTW:=hid (fun (x y:Int) (hx:InI x) (hy:InI y) (W:World)=>two_any ⟨#[71,114,101,97,116,101,114]⟩ t x y hx hy W);have hts:(⟨#[71,114,101,97,116,101,114]⟩:ByteArray).toList=lGreater:=by rw [ByteArray.toList_eq];rfl
 rw [hts] at HTW;clear hl h0 hts;go_enter Tryz.func53,Tryz.ntmps53
 go_wp2_with fail
 go_loopw [7,28] (fun bst i wr=>∃ (k p:Nat),k≤l.length∧i=.int .i64 (k:Int)∧bst=.int .i64 (p:Int)∧Hid (p=argB t l k)∧Hid (Below w.heap.size w wr)) (fun _ i _=>l.length - (intOf i).toNat)
 case atStart=>exact ⟨0,0,Nat.zero_le _,rfl,rfl,hid rfl,hid (Below.refl _ _)⟩
 case round =>
  obtain ⟨k,p,hk,rfl,rfl,hp,hW⟩:=hrel;have hpl:p < l.length:=by rw [hp.out];exact argB_lt H0.out k hk
  have hpi:(p:Int) < (l.length:Int):=by omega
  by_cases hkl:k < l.length
  ·have hki:(k:Int) < (l.length:Int):=by omega
   obtain ⟨b,off,rfl,hb,g0,x0⟩:=reads_ints (HL.out.below hW.out) hkl rfl;obtain ⟨b',off',e',hb',g1,x1⟩:=reads_ints (HL.out.below hW.out) hpl rfl;obtain ⟨rfl,rfl⟩:b=b'∧off=off':=by simpa using e'
   clear e' hb hb';have HX0:=hid x0;have HX1:=hid x1;have HNX:=hid (show argB t l (k+1)=if twoP lGreater t (l.getD k 0) (l.getD p 0)=1 then k else p by rw [argB,←hp.out]);generalize l.getD k 0=y at *;generalize l.getD p 0=z at *;clear x0 x1 hp;go_wp2_with fail
   refine (HTW.out y z HX0.out HX1.out wr).mono ?_;rintro e w2 ⟨rfl,B2⟩;have HW2:=hid (hW.out.trans (B2.mono hW.out.size));generalize twoP lGreater t y z=q at *;clear B2 g0 g1;by_cases hq:q=1
   ·have hn:=HNX.out;rw [if_pos hq] at hn;have HP:=hid hn.symm;clear hn HNX;go_wp2_with fail
    go_roundw
    case rel=>exact ⟨k+1,k,by omega,by go_num,rfl,HP,HW2⟩
    case measure=>simp [intOf];omega
   ·have hn:=HNX.out;rw [if_neg hq] at hn;have HP:=hid hn.symm;have hqb:(q==1)=false:=by simpa using hq
    clear hn HNX;go_wp2_with fail
    go_roundw
    case rel=>exact ⟨k+1,p,by omega,by go_num,rfl,HP,HW2⟩
    case measure=>simp [intOf];omega
  ·have hki:¬ (k:Int) < (l.length:Int):=by omega
   obtain rfl:k=l.length:=by omega
   go_wp2
   go_ret
   exact ⟨ret_val (int_val (by rw [hp.out])),hW.out⟩
set_option maxHeartbeats 8000000 in
theorem tog_sum {w:World} {op:ByteArray} (t:Int) {v:Value} {l:List Int} (ho:op.toList=lRSum) (hl:IntsIn w v l) :
  Calls Tryz.prog 53 #[.string op,.int .i64 t,v] w fun e w'=>e=.returned (.int .i64 (togP op.toList t l))∧Below w.heap.size w w':=by
 rw [ho,togP_sum];have q0:(op.toList==([82,101,100,117,99,101,77,97,120]:List UInt8))=false:=by rw [ho];decide
 have q1:(op.toList==([65,114,103,77,97,120]:List UInt8))=false:=by rw [ho];decide
 have q2:(op.toList==([82,101,100,117,99,101,83,117,109]:List UInt8))=true:=by rw [ho];decide
 clear ho;obtain ⟨a1,c1,rfl⟩:=hl.shape;have HL:=hid hl;have HST:=hid (fun (W:World)=>stepper_any ⟨#[65,100,100]⟩ t W);have hts:(⟨#[65,100,100]⟩:ByteArray).toList=lAdd:=by rw [ByteArray.toList_eq];rfl
 rw [hts] at HST;clear hl hts;go_enter Tryz.func53,Tryz.ntmps53
 go_wp2_with fail
 refine (HST.out _).mono ?_;rintro e w2 ⟨fn,rfl,hfn,B⟩;have HF:=hid hfn;have B1:=hid B;clear hfn B;go_wp2_with fail
 refine (from_any HF.out (fun x y=>twoP_in) (by unfold InI;decide) (HL.out.below B1.out)).mono ?_;rintro e w3 ⟨rfl,B3⟩;have HB3:=hid (B1.out.trans (B3.mono B1.out.size));clear B3;go_wp2
 go_ret
 exact ⟨rfl,HB3.out⟩
set_option maxHeartbeats 8000000 in
theorem tog_mean {w:World} {op:ByteArray} (t:Int) {v:Value} {l:List Int} (ho:op.toList=lRMean) (hl:IntsIn w v l) :
  Calls Tryz.prog 53 #[.string op,.int .i64 t,v] w fun e w'=>e=.returned (.int .i64 (togP op.toList t l))∧Below w.heap.size w w':=by
 rw [ho,togP_mean];have q0:(op.toList==([82,101,100,117,99,101,77,97,120]:List UInt8))=false:=by rw [ho];decide
 have q1:(op.toList==([65,114,103,77,97,120]:List UInt8))=false:=by rw [ho];decide
 have q2:(op.toList==([82,101,100,117,99,101,83,117,109]:List UInt8))=false:=by rw [ho];decide
 clear ho;obtain ⟨a1,c1,rfl⟩:=hl.shape;have hlen:=hl.wf.1;have HLW:=hid hl.wf.2;have HL:=hid hl;have HST:=hid (fun (W:World)=>stepper_any ⟨#[65,100,100]⟩ t W);have hts:(⟨#[65,100,100]⟩:ByteArray).toList=lAdd:=by rw [ByteArray.toList_eq];rfl
 rw [hts] at HST;have HTW:=hid (fun (x y:Int) (hx:InI x) (hy:InI y) (W:World)=>two_any ⟨#[68,105,118]⟩ t x y hx hy W);have htd:(⟨#[68,105,118]⟩:ByteArray).toList=lDiv:=by rw [ByteArray.toList_eq];rfl
 rw [htd] at HTW;have HCA:=hid (fun (W:World)=>Nm.cast_any 7 1 (l.length:Int) (by omega) (by omega) W);clear hl hts htd;go_enter Tryz.func53,Tryz.ntmps53
 go_wp2_with fail
 refine (HST.out _).mono ?_;rintro e w2 ⟨fn,rfl,hfn,B⟩;have HF:=hid hfn;have B1:=hid B;clear hfn B;go_wp2_with fail
 refine (from_any HF.out (fun x y=>twoP_in) (by unfold InI;decide) (HL.out.below B1.out)).mono ?_;rintro e w3 ⟨rfl,B3⟩;have HB3:=hid (B1.out.trans (B3.mono B1.out.size));have HSI:Hid (InI (l.foldl (twoP lAdd t) 0)):=hid (fold_in (by unfold InI;decide) HLW.out);clear B3;generalize hsm:l.foldl (twoP lAdd t) 0=sm at *;have HSM:=hid hsm;clear hsm;go_wp2_with fail
 refine (HCA.out _).mono ?_;rintro e w4 ⟨rfl,B4⟩;have HB4:=hid (HB3.out.trans (B4.mono HB3.out.size));have HMI:=hid (manyP_in l.length);have HM:Hid (manyP l.length=(Fl.cst 7 1 (l.length:Int)).1):=hid rfl;rw [←HM.out];clear B4;generalize hmn:manyP l.length=mn at *;have HMN:=hid hmn;clear hmn;generalize (Fl.cst 7 1 (l.length:Int)).2=ce at *;go_wp2_with fail
 refine (HTW.out _ _ HSI.out HMI.out _).mono ?_;rintro e w5 ⟨rfl,B5⟩;have HB5:=hid (HB4.out.trans (B5.mono HB4.out.size));clear B5;go_wp2
 go_ret
 exact ⟨ret_val (int_val (by rw [HSM.out,HMN.out])),HB5.out⟩
def redOps:List (List UInt8):=[lRSum,lRMax,lRMean,lArg]
theorem tog_any {w:World} {op:ByteArray} (t:Int) {v:Value} {l:List Int} (ho:op.toList ∈ redOps) (hl:IntsIn w v l) (h0:l≠[]) (hl6:l.length≤65536) :
  Calls Tryz.prog 53 #[.string op,.int .i64 t,v] w fun e w'=>e=.returned (.int .i64 (togP op.toList t l))∧Below w.heap.size w w':=by
 simp only [redOps,List.mem_cons,List.not_mem_nil,or_false] at ho;rcases ho with ho | ho | ho | ho
 ·exact tog_sum t ho hl
 ·exact tog_max t ho hl h0
 ·exact tog_mean t ho hl
 ·exact tog_arg t ho hl h0 hl6
end
section
open Go.RowKit
def KeepT (ts:List TypeId) (B:Nat) (w w':World):Prop:=∀ (g:Nat) cs t tm,B≤g→w.heap[g]?=some (.cells cs t tm)→t ∈ ts→w'.heap[g]?=w.heap[g]?
theorem KeepT.trans {ts:List TypeId} {B:Nat} {w w' w'':World} (h:KeepT ts B w w') (h2:KeepT ts B w' w''):KeepT ts B w w'':=fun g cs t tm hb hg ht=>by
 have h1:=h g cs t tm hb hg ht;rw [←h1] at hg;exact (h2 g cs t tm hb hg ht).trans h1
theorem KeepT.sub {ts ts':List TypeId} {B:Nat} {w w':World} (h:KeepT ts B w w') (hs:∀ t ∈ ts',t ∈ ts):KeepT ts' B w w':=fun g cs t tm hb hg ht=>h g cs t tm hb hg (hs t ht)
theorem keep_below {ts:List TypeId} {B:Nat} {w w':World} (h:Below w.heap.size w w'):KeepT ts B w w':=fun g cs t tm hb hg ht=>h.block g (Array.getElem?_eq_some_iff.1 hg).1
theorem keep_set {ts:List TypeId} {B:Nat} {w:World} {b i:Nat} {u:Value} {cs:Array Value} {t:TypeId} (h:BoxN w b cs t) (ht:t ∉ ts):KeepT ts B w (w.setCell ⟨b,i,none⟩ u):=fun g cs' t' tm hb hg ht'=>by
 refine Below.heap_setCell _ _ _ _ (fun e=>?_);have e':g=b:=e;subst e';rw [show w.heap[g]?=_ from h] at hg;simp only [Option.some.injEq,Obj.cells.injEq] at hg;exact ht (hg.2.1 ▸ ht')
theorem keep_grown {ts:List TypeId} {B b z n:Nat} {w w':World} {e:TypeId} {v:Value} {xs:List Value} (h:w.ownsRow b e z v n xs) (hg:w.grownBy w' v.ownBlock) (he:e ∉ ts):KeepT ts B w w':=fun g cs t tm hb hc ht=>by
 refine hg.block g (Array.getElem?_eq_some_iff.1 hc).1 (fun e'=>?_);rcases h.2 with ⟨rfl,_⟩ | ⟨g',cap',cur',rfl,_,hg',_⟩
 ·simp [Value.ownBlock] at e'
 ·simp [Value.ownBlock] at e';subst e';rw [hc] at hg';simp only [Option.some.injEq,Obj.cells.injEq] at hg';exact he (hg'.2.1 ▸ ht)
theorem owns_keep {ts:List TypeId} {b B z n:Nat} {w w':World} {e:TypeId} {v:Value} {xs:List Value} (h:w.ownsRow b e z v n xs) (hk:KeepT ts B w w') (hb:B≤b) (he:e ∈ ts):w'.ownsRow b e z v n xs :=
 owns_heap h fun g hg=>by
  rcases h.2 with ⟨rfl,_⟩ | ⟨g',cap',cur',rfl,hb',hg',_⟩
  ·simp [Value.ownBlock] at hg
  ·simp [Value.ownBlock] at hg;subst hg;exact hk _ _ _ _ (by omega) hg' he
variable {α τ:Type}
def rowG (C:α→τ→List Value):List α→List τ→List Value
 | x :: l,s :: ts=>C x s++rowG C l ts
 | _,_=>[]
theorem rowG_get {C:α→τ→List Value} {sz:Nat} (hC:∀ x s,(C x s).length=sz):∀ {l:List α} {ts:List τ} {j:Nat} {x:α} {s:τ} {i:Nat} {u:Value},l[j]?=some x→ts[j]?=some s→(C x s)[i]?=some u→(rowG C l ts)[j * sz+i]?=some u
 | [],_,j,x,s,i,u,h,_,_=>by simp at h
 | _ :: _,[],j,x,s,i,u,_,h,_=>by simp at h
 | b :: l,c :: ts,0,x,s,i,u,h1,h2,h3=>by
  obtain rfl:=Option.some.inj h1;obtain rfl:=Option.some.inj h2;have hi:=(List.getElem?_eq_some_iff.1 h3).1;rw [rowG,Nat.zero_mul,Nat.zero_add,List.getElem?_append_left hi];exact h3
 | b :: l,c :: ts,j+1,x,s,i,u,h1,h2,h3=>by
  rw [rowG,List.getElem?_append_right (by rw [hC,Nat.succ_mul];omega)];have e:(j+1) * sz+i - (C b c).length=j * sz+i:=by rw [hC,Nat.succ_mul];omega
  rw [e];exact rowG_get hC (by simpa using h1) (by simpa using h2) h3
structure RowO (t:TypeId) (sz:Nat) (C:α→τ→List Value) (A:World→Nat→α→τ→Prop) (w:World) (B:Nat) (l:List α) (v:Value) (ts:List τ):Prop where
 len:ts.length=l.length
 row:w.ownsRow B t sz v l.length (rowG C l ts)
 att:∀ (j:Nat) x s,l[j]?=some x→ts[j]?=some s→A w B x s
variable {t:TypeId} {sz:Nat} {C:α→τ→List Value} {A:World→Nat→α→τ→Prop}
theorem RowO.at' {w:World} {B:Nat} {l:List α} {v:Value} {ss:List τ} (h:RowO t sz C A w B l v ss) (hC:∀ x s,(C x s).length=sz) {j:Nat} {x:α} (hj:l[j]?=some x):∃ g cap s,v=.slice (some ⟨g,0,none⟩) l.length cap∧ss[j]?=some s∧A w B x s∧∀ (i:Nat) u,(C x s)[i]?=some u→w.cell? ⟨g,j * sz+i,none⟩=some u:=by
 obtain ⟨g,cap,rfl,_,_⟩:=h.row.form (by have:=(List.getElem?_eq_some_iff.1 hj).1;omega);obtain ⟨s,hs⟩:∃ s,ss[j]?=some s:=⟨_,List.getElem?_eq_getElem (by rw [h.len];exact (List.getElem?_eq_some_iff.1 hj).1)⟩;refine ⟨g,cap,s,rfl,hs,h.att j x s hj hs,fun i u hu=>?_⟩;have:=h.row.cells (g:=g) rfl _ u (rowG_get hC hj hs hu);rw [add_off] at this;rw [show j * sz+i=0+(j * sz+i) by omega];exact this
end
section
open Go.RowKit
set_option maxRecDepth 100000
structure GridD (w:World) (D:Nat) (svs:List Value) (rows:List (List Int)):Prop where
 len:svs.length=rows.length
 own:∀ (j:Nat) v r,svs[j]?=some v→rows[j]?=some r→w.ownsRow D 2 1 v r.length (r.map (Value.int .i64))
 apart:∀ (i j:Nat) v u,i≠j→svs[i]?=some v→svs[j]?=some u→v.ownBlock=none∨v.ownBlock≠u.ownBlock
theorem GridD.below {w w':World} {D:Nat} {svs:List Value} {rows:List (List Int)} (h:GridD w D svs rows) (hB:Below w.heap.size w w'):GridD w' D svs rows :=
 ⟨h.len,fun j v r h1 h2=>owns_below (h.own j v r h1 h2) hB,h.apart⟩
theorem GridD.set {w:World} {D b k:Nat} {u:Value} {svs:List Value} {rows:List (List Int)} (h:GridD w D svs rows) (hb:b < D):GridD (w.setCell ⟨b,k,none⟩ u) D svs rows :=
 ⟨h.len,fun j v r h1 h2=>ownsRow_setCell_below (h.own j v r h1 h2) (a:=⟨b,k,none⟩) hb _,h.apart⟩
theorem GridD.next {w w6:World} {D g:Nat} {svs:List Value} {rows:List (List Int)} {v v':Value} {r:List Int} {x:Int} (h:GridD w D svs rows) (hv:svs[g]?=some v) (hr:rows[g]?=some r)
  (hown:w6.ownsRow D 2 1 v' (r.length+1) (r.map (Value.int .i64)++[.int .i64 x])) (hgrow:w.grownBy w6 v.ownBlock) (hat:v'.ownBlock=v.ownBlock∨v'.ownBlock=some w.heap.size) :
  GridD w6 D (svs.set g v') (rows.set g (r++[x])):=by
 have hlt:∀ (j:Nat) (u:Value) (s:List Int),svs[j]?=some u→rows[j]?=some s→∀ b,u.ownBlock=some b→b < w.heap.size:=fun j u s h1 h2 b hb=>(World.ownsRow.lt (h.own j u s h1 h2) b hb).2;have hg:=(List.getElem?_eq_some_iff.1 hv).1;have hgr:g < rows.length:=by rw [←h.len];exact hg
 refine ⟨by simp [h.len],fun j u s h1 h2=>?_,fun i j u s hij h1 h2=>?_⟩
 ·by_cases e:g=j
  ·subst e;rw [List.getElem?_set_self hg] at h1;rw [List.getElem?_set_self hgr] at h2;obtain rfl:=Option.some.inj h1;obtain rfl:=Option.some.inj h2;rw [List.length_append,List.map_append];exact hown
  ·rw [List.getElem?_set_ne e] at h1 h2;refine owns_heap (h.own j u s h1 h2) fun b hb=>hgrow.block b (hlt j u s h1 h2 b hb) (fun c=>?_);rcases h.apart j g u v (Ne.symm e) h1 hv with a | a
   ·rw [a] at hb;cases hb
   ·exact a (by rw [hb,c])
 ·have hsome:∀ (j:Nat) (u:Value),svs[j]?=some u→∃ s,rows[j]?=some s:=fun j u hj=>⟨_,List.getElem?_eq_getElem (by rw [←h.len];exact (List.getElem?_eq_some_iff.1 hj).1)⟩;by_cases e:g=i
  ·subst e;rw [List.getElem?_set_self hg] at h1;rw [List.getElem?_set_ne hij] at h2;obtain rfl:=Option.some.inj h1;obtain ⟨s',hs'⟩:=hsome j s h2;rcases hat with a | a
   ·rw [a];exact h.apart g j v s hij hv h2
   ·refine Or.inr fun c=>?_;have:=hlt j s s' h2 hs' w.heap.size (by rw [←c,a]);omega
  ·rw [List.getElem?_set_ne e] at h1;by_cases e2:g=j
   ·subst e2;rw [List.getElem?_set_self hg] at h2;obtain rfl:=Option.some.inj h2;obtain ⟨s',hs'⟩:=hsome i u h1;rcases hat with a | a
    ·rw [a];exact h.apart i g u v hij h1 hv
    ·refine Or.inr fun c=>?_;have:=hlt i u s' h1 hs' w.heap.size (by rw [c,a]);omega
   ·rw [List.getElem?_set_ne e2] at h2;exact h.apart i j u s hij h1 h2
theorem GridD.nils (w:World) (D P:Nat):GridD w D (nilsS P) (List.replicate P []) :=
 ⟨by simp [nilsS],fun j v r h1 h2=>by
  obtain rfl:=(List.eq_of_mem_replicate (List.mem_of_getElem? h1));obtain rfl:=(List.eq_of_mem_replicate (List.mem_of_getElem? h2));exact World.ownsRow_nil _ _ _ _,fun i j v u hij h1 h2=>by
  obtain rfl:=(List.eq_of_mem_replicate (List.mem_of_getElem? h1));exact Or.inl rfl⟩
theorem box_keepT {ts:List TypeId} {B:Nat} {W W':World} {b:Nat} {cs:Array Value} {t:TypeId} (h:BoxN W b cs t) (hk:KeepT ts B W W') (hb:B≤b) (ht:t ∈ ts):BoxN W' b cs t:=(hk b cs t (0,0) hb h ht).trans h
def GatR (w:World) (P:Nat) (rows:List (List Int)) (e:Ending) (w':World):Prop :=
 ∃ S svs,e=.returned (.slice (some ⟨S,0,none⟩) P P)∧w.heap.size≤S∧BoxN w' S svs.toArray 44 ∧ GridD w' (S+1) svs rows∧S+1≤w'.heap.size∧Below w.heap.size w w'
def rowsAt (G:Nat→Nat) (data:List Int) (P k:Nat):List (List Int):=(List.range P).map fun j=>Vx.rowOf G data k j
theorem rowsAt_zero (G:Nat→Nat) (data:List Int) (P:Nat):rowsAt G data P 0=List.replicate P []:=by
 refine List.ext_getElem (by simp [rowsAt]) fun j h1 h2=>?_;simp [rowsAt,Vx.rowOf_zero]
theorem rowsAt_get {G:Nat→Nat} {data:List Int} {P k j:Nat} (h:j < P):(rowsAt G data P k)[j]?=some (Vx.rowOf G data k j):=by simp [rowsAt,h]
theorem rowsAt_next {G:Nat→Nat} {data:List Int} {P k:Nat} (h:G k < P):(rowsAt G data P k).set (G k) (Vx.rowOf G data k (G k)++[data.getD k 0])=rowsAt G data P (k+1):=by
 refine List.ext_getElem (by simp [rowsAt]) fun j h1 h2=>?_;have hj:j < P:=by simpa [rowsAt] using h2
 by_cases e:G k=j
 ·subst e;simp [rowsAt,Vx.rowOf_next]
 ·rw [List.getElem_set_ne e];simp [rowsAt,Vx.rowOf_next,e]
theorem rowsAt_len (G:Nat→Nat) (data:List Int) (P k:Nat):(rowsAt G data P k).length=P:=by simp [rowsAt]
theorem grpL_get {ds left:List Int} {k:Nat} (h:k < (Vx.Vw.pr ds).toNat):(grpL ds left).getD k 0=(Vx.grp ds left k:Int):=by simp [grpL,List.getD,h]
theorem grpL_len (ds left:List Int):(grpL ds left).length=(Vx.Vw.pr ds).toNat:=by simp [grpL]
attribute [local irreducible] cnt grpL Vx.leftL Vx.strd Vx.Vw.crd Vx.grp Vx.Vw.pr Vx.rowOf rowsAt RowI
set_option maxHeartbeats 16000000 in
theorem gather_any {w:World} {v vg:Value} {x:Tn} {gone:List Int} {P:Nat} (hv:TensV w v x) (hg:IntsIn w vg gone) (hc:(cnt x.2.1).2=0) (hd:(x.2.2.length:Int)=Vx.Vw.pr x.2.1) (ha:∀ a ∈ gone,0≤a∧a < (x.2.1.length:Int)) (hP:Vx.Vw.pr (Vx.leftL x.2.1 gone)=(P:Int)) :
  Calls Tryz.prog 52 #[v,vg,.int .i64 (P:Int)] w (GatR w P (rowsAt (Vx.grp x.2.1 (Vx.leftL x.2.1 gone)) x.2.2 P x.2.2.length)):=by
 obtain ⟨i0,hi,hz0,hz1,hz2⟩:=info_parts info_i64;obtain ⟨vd,vx,rfl,ht,hds,hxs⟩:=hv;obtain ⟨t,ds,xs⟩:=x;dsimp only at hc hd ha hP ht hds hxs ⊢;obtain ⟨a1,c1,rfl⟩:=hds.shape;obtain ⟨a2,c2,rfl⟩:=hxs.shape;obtain ⟨a3,c3,rfl⟩:=hg.shape;have hPos:=Vx.cnt_pos hc;have hp65:=(Vx.cnt_good hc).2.2.2;have hpr1:=Vx.Vw.pr_pos hPos;have hcm:=Vx.leftL_cmp ds gone;have hcp:=Vx.cmp_pr hcm hPos;have hP65:P≤65536:=by omega
 have hN65:xs.length≤65536:=by omega
 have HGL:Hid ((grpL ds (Vx.leftL ds gone)).length=xs.length):=hid (by rw [grpL_len];omega);have HLT:Hid (∀ k,k < xs.length→Vx.grp ds (Vx.leftL ds gone) k < P∧(grpL ds (Vx.leftL ds gone)).getD k 0=(Vx.grp ds (Vx.leftL ds gone) k:Int)):=hid fun k hk=>⟨by have:=(Vx.grp_lt hcm hPos (k:=k) (by omega)).1;omega,grpL_get (by omega)⟩;have HLI:Hid (∀ z ∈ grpL ds (Vx.leftL ds gone),InI z):=hid fun z hz=>by
  obtain ⟨k,hk⟩:=List.getElem?_of_mem hz;have hkl:=(List.getElem?_eq_some_iff.1 hk).1;rw [grpL_len] at hkl;have e:z=(grpL ds (Vx.leftL ds gone)).getD k 0:=by rw [List.getD_eq_getElem?_getD,hk];rfl
  rw [e,grpL_get hkl];have:=(Vx.grp_lt hcm hPos (k:=k) (by omega)).1;unfold InI;omega
 have HGR:=hid (fun (W:World) (h1:IntsIn W (.slice a1 ds.length c1) ds) (h2:IntsIn W (.slice a3 gone.length c3) gone)=>groups_any h1 h2 hc ha);generalize Vx.leftL ds gone=L at *;generalize Vx.grp ds L=G at *;generalize grpL ds L=gl at *;have HD:=hid hds;have HX:=hid hxs;have HGo:=hid hg;clear hds hxs hg hc hd ha hP ht hPos hp65 hpr1 hcm hcp;have hmk:=run_make_datas (w.alloc (Obj.cells #[.int .i64 t,.slice a1 ds.length c1,.slice a2 xs.length c2] 46)) P (by omega);go_enter Tryz.func52,Tryz.ntmps52
 go_wp2_with fail
 clear hmk;generalize hW:World.alloc (World.alloc w _) _=W2;obtain ⟨hB,hS,b1,b2⟩:=allocs2 hW;clear hW;have HTB:=hid (box_of b1);have hS2:BoxN W2 (w.heap.size+1) (nilsS P).toArray 44:=b2;have HS2:=hid hS2;have HB2:=hid hB;have HZ2:=hid hS;clear b1 b2 hB hS hS2;refine (HGR.out _ (HD.out.below HB2.out) (HGo.out.below HB2.out)).mono ?_;rintro e w3 ⟨v3,rfl,B3,hr⟩;have hro:w3.ownsRow W2.heap.size 3 1 v3 gl.length (gl.map (Value.int .i64)):=by unfold RowI at hr;exact hr
 obtain ⟨a4,c4,rfl⟩:∃ a c,v3=.slice a xs.length c:=by
  obtain ⟨a,c,h⟩:=owns_form hro;exact ⟨a,c,by rw [h,HGL.out]⟩
 have HRO:=hid hro;have HB3:=hid (HB2.out.trans (B3.mono HB2.out.size));have HTB3:=hid (HTB.out.below' B3);have HS3:=hid (HS2.out.below' B3);have hz3:w.heap.size+2≤w3.heap.size:=by have:=B3.size;have:=HZ2.out;omega
 clear hr hro B3 HTB HS2 HB2 HGR HZ2;generalize hSS:w.heap.size+1=S at HS3 ⊢;go_wp2_with fail
 go_loopw [17] (fun i wr=>∃ (k:Nat) (svs:List Value),k≤xs.length∧i=.int .i64 (k:Int)∧Hid (BoxN wr S svs.toArray 44)∧Hid (GridD wr (S+1) svs (rowsAt G xs P k))∧Hid (S+1≤wr.heap.size)∧Hid (KeepT [3,46] 0 w3 wr)∧Hid (Below w.heap.size w wr)) (fun i _=>xs.length - (intOf i).toNat)
 case atStart=>exact ⟨0,nilsS P,Nat.zero_le _,rfl,HS3,hid (by rw [rowsAt_zero];exact GridD.nils _ _ _),hid (by omega),hid (fun g cs t tm _ hg _=>rfl),HB3⟩
 case round =>
  clear HS3 HB3;obtain ⟨k,svs,hk,rfl,hS,hG,hZ,hK,hW⟩:=hrel;by_cases hkl:k < xs.length
  ·have hki:(k:Int) < (xs.length:Int):=by omega
   have hI:IntsIn wr (.slice a4 xs.length c4) gl:=IntsIn.of_owns (owns_keep HRO.out hK.out (Nat.zero_le _) (by simp)) (by have:=HGL.out;omega) HLI.out;obtain ⟨b4,o4,rfl,hb4,g4,-⟩:=reads_ints hI (k:=k) (by have:=HGL.out;omega) rfl;have hlt:=HLT.out k hkl;rw [hlt.2] at g4;obtain ⟨b2,o2,rfl,hb20,g20,y2⟩:=reads_ints HX.out hkl rfl;have hb2:b2 < S+1:=by omega
   have g2:=(hW.out.cell (p:=⟨b2,o2+k,none⟩) hb20).trans g20;clear g20 hb20;have hTB:=box_keepT HTB3.out hK.out (Nat.zero_le _) (by simp);have tb2:=hTB.cell 2 rfl;have htb:=hTB.lt;have hsl:svs.length=P:=by have:=hG.out.len;rwa [rowsAt_len] at this
   obtain ⟨v,hv⟩:=gAt svs (G k) (by omega);have hrk:=rowsAt_get (G:=G) (data:=xs) (k:=k) hlt.1;have how:=hG.out.own _ _ _ hv hrk;have hrl:=Vx.rowOf_length G xs k (G k);have HNX:=hid (rowsAt_next (G:=G) (data:=xs) (P:=P) (k:=k) hlt.1);obtain ⟨av,cv,rfl⟩:=owns_form how;have hpl:(G k:Int) < (P:Int):=by omega
   have sc:=hS.out.cell (G k) (v:=.slice av (Vx.rowOf G xs k (G k)).length cv) (by simpa using hv);have HV:=hid hv;have HRK:=hid hrk;have HOW:=hid how;have hSlt:=hS.out.lt;generalize Vx.rowOf G xs k (G k)=r at *;generalize xs.getD k 0=y at *;generalize G k=p at *;have htb1:w.heap.size < S+1:=by omega
   have hSs:S < S+1:=by omega
   have HSr:Hid (∀ W',Below (S+1) wr W'→W'.cell? ⟨S,p,none⟩=some (.slice av r.length cv)∧W'.cell? ⟨w.heap.size,2,none⟩=some (.slice (some ⟨b2,o2,none⟩) xs.length c2)∧W'.cell? ⟨b2,o2+k,none⟩=some (.int .i64 y)):=hid fun W' h=>⟨(h.cell (p:=⟨S,p,none⟩) hSs).trans sc,(h.cell (p:=⟨w.heap.size,2,none⟩) htb1).trans tb2,(h.cell (p:=⟨b2,o2+k,none⟩) hb2).trans g2⟩;clear hI hTB how hrk hv y2 hlt;go_wp2_with fail
   refine wp_region_plan 13 [0,1,2,3,4,5,6,7,8,9,10,11,12] (fun W'=>Below (S+1) wr W') (by kernel_rfl) (by kernel_rfl) (fun _ d _ _ _ h=>by cases d<;>exact h) (Below.refl _ _).drew ?_;have B0:Hid (Below wr.heap.size wr wr.drew):=hid (Below.refl _ _).drew;have B0S:Hid (Below (S+1) wr wr.drew):=hid (Below.refl _ _).drew;generalize wr.drew=wD at B0 B0S ⊢;clear sc tb2 g2 g4
   repeat
    refine plan_read (v:=?_) rfl rfl (Or.inl ⟨by rfl,?_⟩) ?_;rotate_left
    ·intro W' hSw;obtain ⟨s0,s1,s2⟩:=HSr.out W' hSw;go_simp
     try with_reducible rfl
    try simp only [aPut]
   have hSD:=hS.out.below' B0.out;have hGD:=hG.out.below B0.out;have hKD:KeepT [3,46] 0 w3 wD:=hK.out.trans (keep_below B0.out);have hWD:=hW.out.trans (B0.out.mono hW.out.size);have hown:=owns_below HOW.out B0.out;have hzD:S+1≤wD.heap.size:=by have:=hZ.out;have:=B0.out.size;omega
   have HSD:=hid hSD;have HGD:=hid hGD;have HKD:=hid hKD;have HWD:=hid hWD;have HON:=hid hown;clear hSD hGD hKD hWD hown hS hG hK hW hZ HOW HSr B0;refine plan_act rfl rfl (fun K' hK=>?_);go_simp
   have B1S:Hid (Below (S+1) wr (wD.alloc (Obj.cells #[.int .i64 y] 2))):=hid (B0S.out.alloc hzD _);refine hK.out _ _ B1S.out ?_;clear hK K'
   try simp only [aPut]
   refine plan_act rfl rfl (fun K' hK=>?_);refine Go.wp_append_lies _ _ _ 44 rfl (S+1) 2 i0 (.int .i64 0) 1 8 Tryz.underlying44 hi hz0 hz1 hz2 rfl (by decide) _ _ _ rfl (HON.out.alloc _) ⟨wD.heap.size,0,none⟩ 1 1 (#[.int .i64 y]:Array Value).toList rfl rfl (World.news_of_block (heap_alloc_new wD _)) (by simp [Value.oneCell']) (by omega) (by unfold maxLen;omega) (by omega) (by simp;omega) _ rfl ?_;intro a6 c6 w6 hown' hgrow hat0 hlt6;have hBE:Below wD.heap.size wD (wD.alloc (.cells #[.int .i64 y] 2)):=(Below.refl _ _).alloc (Nat.le_refl _) _;have hrE:=HON.out.alloc (Obj.cells #[.int .i64 y] 2);have hne:(Value.slice av r.length cv).ownBlock≠some S:=fun e=>by have:=(hrE.lt _ e).1;omega
   have hat:(Value.slice (some ⟨a6,0,none⟩) (r.length+1) c6).ownBlock=(Value.slice av r.length cv).ownBlock∨(Value.slice (some ⟨a6,0,none⟩) (r.length+1) c6).ownBlock=some (wD.alloc (Obj.cells #[.int .i64 y] 2)).heap.size:=by
    rcases hat0 with h | h
    ·exact Or.inl h.symm
    ·exact Or.inr (congrArg some h)
   refine hK.out _ _ (B1S.out.grown hgrow (by simp;omega) (fun g hg=>(hrE.lt g hg).1)) ?_;clear hK K' hat0;refine plan_tail rfl ?_;simp only [aDrp];have hS6:=box_grown (HSD.out.below' hBE) hgrow hne;have hG6:=(HGD.out.below hBE).next HV.out HRK.out hown' hgrow hat
   have hK6:KeepT [3,46] 0 w3 w6:=(HKD.out.trans (keep_below hBE)).trans (keep_grown hrE hgrow (by decide));have hW6:=(HWD.out.trans (hBE.mono HWD.out.size)).grown hgrow (by have:=HWD.out.size;simp;omega) (fun g hg=>by have:=(hrE.lt g hg).1;omega);have hz6:S+1≤w6.heap.size:=by have:=hgrow.size;simp at this;omega
   rw [HNX.out] at hG6;have s6:=hS6.frozen p;have s7:=hS6.cell p (v:=.slice av r.length cv) (by simpa using HV.out);have hS7:=hS6.set p (.slice (some ⟨a6,0,none⟩) (r.length+1) c6);rw [List.setIfInBounds_toArray] at hS7;have HS7:=hid hS7;have HG7:=hid (hG6.set (b:=S) (k:=p) (u:=.slice (some ⟨a6,0,none⟩) (r.length+1) c6) (by omega));have HK7:Hid (KeepT [3,46] 0 w3 (w6.setCell ⟨S,p,none⟩ (.slice (some ⟨a6,0,none⟩) (r.length+1) c6))):=hid (hK6.trans (keep_set hS6 (by decide)));have HW7:=hid (hW6.setCell (p:=⟨S,p,none⟩) (by show w.heap.size≤S;omega) (.slice (some ⟨a6,0,none⟩) (r.length+1) c6));have HZ7:Hid (S+1≤(w6.setCell ⟨S,p,none⟩ (.slice (some ⟨a6,0,none⟩) (r.length+1) c6)).heap.size):=hid (by have:=HS7.out.lt;omega);clear hown' hgrow hat hBE hrE hne hS6 hG6 hK6 hW6 hz6 hS7 hlt6 B1S B0S HSD HGD HKD HWD HON HV HRK;go_wp2_with fail
   go_roundw
   case rel=>exact ⟨k+1,_,by omega,by go_num,HS7,HG7,HZ7,HK7,HW7⟩
   case measure=>simp [intOf];omega
  ·have hki:¬ (k:Int) < (xs.length:Int):=by omega
   obtain rfl:k=xs.length:=by omega
   go_wp2_with fail
   go_ret
   exact ⟨S,svs,rfl,by omega,hS.out,hG.out,hZ.out,hW.out⟩
end
section
open Go.RowKit
namespace Vx
open Vw
theorem pr_set:∀ {ds:List Int} {a:Nat},a < ds.length→pr (ds.set a 1) * ds.getD a 0=pr ds
 | [],_,h=>by simp at h
 | d :: ds,0,_=>by simp [pr,Int.mul_comm]
 | d :: ds,a+1,h=>by
  have:=pr_set (ds:=ds) (a:=a) (by simpa using h);simp only [List.set_cons_succ,List.getD_cons_succ,pr];rw [Int.mul_assoc,this]
end Vx
theorem left_one (ds:List Int) (a:Int):Vx.leftL ds [a]=ds.set a.toNat 1:=rfl
def expK (G:Nat→Nat) (data:List Int) (N k:Nat):List Int:=(List.range N).map fun q=>if q < k then expP G data N q else 0
theorem expK_zero (G:Nat→Nat) (data:List Int) (N:Nat):expK G data N 0=List.replicate N 0:=by
 refine List.ext_getElem (by simp [expK]) fun j h1 h2=>?_;simp [expK]
theorem expK_len (G:Nat→Nat) (data:List Int) (N k:Nat):(expK G data N k).length=N:=by simp [expK]
theorem expK_set {G:Nat→Nat} {data:List Int} {N k:Nat} (h:k < N):(expK G data N k).set k (expP G data N k)=expK G data N (k+1):=by
 refine List.ext_getElem (by simp [expK]) fun j h1 h2=>?_;have hj:j < N:=by simpa [expK] using h2
 by_cases e:k=j
 ·subst e;simp [expK]
 ·rw [List.getElem_set_ne e];simp only [expK,List.getElem_map,List.getElem_range];by_cases g:j < k
  ·rw [if_pos g,if_pos (by omega)]
  ·rw [if_neg g,if_neg (by omega)]
theorem expK_at {G:Nat→Nat} {data:List Int} {N k:Nat} (h:k < N):(expK G data N (k+1)).getD k 0=expP G data N k:=by simp [expK,List.getD,h]
theorem expL_at {G:Nat→Nat} {data:List Int} {N k:Nat} (h:k < N):(expL G data N N).getD k 0=expP G data N k:=by simp [expL,List.getD,h]
def smK (G:Nat→Nat) (data:List Int) (N P k:Nat):List Int:=(List.range P).map fun j=>smP G data N k j
theorem smK_zero (G:Nat→Nat) (data:List Int) (N P:Nat):smK G data N P 0=List.replicate P 0:=by
 refine List.ext_getElem (by simp [smK]) fun j h1 h2=>?_;simp [smK,smP,Vx.rowOf_zero]
theorem smK_len (G:Nat→Nat) (data:List Int) (N P k:Nat):(smK G data N P k).length=P:=by simp [smK]
theorem smK_at {G:Nat→Nat} {data:List Int} {N P k j:Nat} (h:j < P):(smK G data N P k).getD j 0=smP G data N k j:=by simp [smK,List.getD,h]
theorem smP_next {G:Nat→Nat} {data:List Int} {N k j:Nat} (h:k < N):smP G data N (k+1) j=if G k=j then twoP lAdd 1 (smP G data N k j) (expP G data N k) else smP G data N k j:=by
 unfold smP;rw [Vx.rowOf_next,expL_at h];split
 ·rw [List.foldl_append];rfl
 ·rfl
theorem smK_set {G:Nat→Nat} {data:List Int} {N P k:Nat} (h:k < N) (hg:G k < P):(smK G data N P k).set (G k) (twoP lAdd 1 (smP G data N k (G k)) (expP G data N k))=smK G data N P (k+1):=by
 refine List.ext_getElem (by simp [smK]) fun j h1 h2=>?_;have hj:j < P:=by simpa [smK] using h2
 by_cases e:G k=j
 ·subst e;simp [smK,smP_next h]
 ·rw [List.getElem_set_ne e];simp [smK,smP_next h,e]
def dvK (G:Nat→Nat) (data:List Int) (N k:Nat):List Int:=(List.range N).map fun q=>if q < k then twoP lDiv 1 (expP G data N q) (smP G data N N (G q)) else expP G data N q
theorem dvK_zero (G:Nat→Nat) (data:List Int) (N:Nat):dvK G data N 0=expK G data N N:=by
 unfold dvK expK;exact List.map_congr_left fun q hq=>by rw [if_neg (by omega),if_pos (List.mem_range.1 hq)]
theorem dvK_all (G:Nat→Nat) (data:List Int) (N:Nat):dvK G data N N=softL G data N:=by
 unfold dvK softL;exact List.map_congr_left fun q hq=>by rw [if_pos (List.mem_range.1 hq)]
theorem dvK_len (G:Nat→Nat) (data:List Int) (N k:Nat):(dvK G data N k).length=N:=by simp [dvK]
theorem dvK_at {G:Nat→Nat} {data:List Int} {N k:Nat} (h:k < N):(dvK G data N k).getD k 0=expP G data N k:=by simp [dvK,List.getD,h]
theorem dvK_set {G:Nat→Nat} {data:List Int} {N k:Nat} (h:k < N):(dvK G data N k).set k (twoP lDiv 1 (expP G data N k) (smP G data N N (G k)))=dvK G data N (k+1):=by
 refine List.ext_getElem (by simp [dvK]) fun j h1 h2=>?_;have hj:j < N:=by simpa [dvK] using h2
 by_cases e:k=j
 ·subst e;simp [dvK]
 ·rw [List.getElem_set_ne e];simp only [dvK,List.getElem_map,List.getElem_range];by_cases g:j < k
  ·rw [if_pos g,if_pos (by omega)]
  ·rw [if_neg g,if_neg (by omega)]
theorem expP_in {G:Nat→Nat} {data:List Int} {N k:Nat} (hd:∀ z ∈ data,InI z) (hN:N≤data.length) (h65:N≤65536) (hk:k < N):InI (expP G data N k):=by
 unfold expP;refine oneP_in (twoP_in (hd _ (getD_mem (by omega))) (togP_in (Vx.rowOf_some hk rfl) (Nat.le_trans (Vx.rowOf_length _ _ _ _) h65) fun z hz=>hd z (Vx.rowOf_mem hN hz)))
theorem smP_in {G:Nat→Nat} {data:List Int} {N:Nat} (hd:∀ z ∈ data,InI z) (hN:N≤data.length) (h65:N≤65536) {k:Nat} (hk:k≤N) (j:Nat):InI (smP G data N k j):=by
 unfold smP;refine fold_in (by unfold InI;decide) fun z hz=>?_;have:=Vx.rowOf_mem (G:=G) (data:=expL G data N N) (N:=k) (by simp [expL];exact hk) hz;obtain ⟨q,hq,rfl⟩:=List.mem_map.1 this;exact expP_in hd hN h65 (List.mem_range.1 hq)
theorem softL_in {G:Nat→Nat} {data:List Int} {N:Nat} (hd:∀ z ∈ data,InI z) (hN:N≤data.length) (h65:N≤65536):∀ z ∈ softL G data N,InI z:=fun z hz=>by
 obtain ⟨q,hq,rfl⟩:=List.mem_map.1 hz;exact twoP_in (expP_in hd hN h65 (List.mem_range.1 hq)) (smP_in hd hN h65 (Nat.le_refl _) _)
end
section
open Go.RowKit
set_option maxRecDepth 100000
theorem axZ_of {a k:Int} {r:Nat} (h:axisP a r=some k):axZ a r=k ∧ -(r:Int)≤a∧a < (r:Int)∧0≤k∧k < (r:Int):=by
 have hk:=axis_lt h;unfold axisP at h;split at h
 ·rename_i c
  have e:=Option.some.inj h;exact ⟨e,c.1,c.2,hk⟩
 ·cases h
theorem axZ_in {a:Int} {r:Nat} (h:-(r:Int)≤a∧a < (r:Int)):0≤axZ a r∧axZ a r < (r:Int):=by
 unfold axZ;split<;>omega
theorem expP_eq (G:Nat→Nat) (data:List Int) (N k:Nat):oneP lExp (twoP lSub 1 (data.getD k 0) (togP lRMax 1 (Vx.rowOf G data N (G k))))=expP G data N k:=rfl
theorem owns_i64s {w:World} {B g n:Nat} {zs:List Int} (h:BoxN w g (i64s zs) 2) (hB:B≤g) (hn:n=zs.length) (hm:n≤1000000):w.ownsRow B 2 1 (.slice (some ⟨g,0,none⟩) n n) n (zs.map (Value.int .i64)):=by
 subst hn;refine ⟨by simp,.inr ⟨g,zs.length,i64s zs,rfl,hB,h,Nat.le_refl _,?_,?_,?_⟩⟩
 ·unfold maxLen;omega
 ·simp [i64s]
 ·simp only [i64s,Nat.mul_one];rw [List.take_of_length_le (by simp)]
attribute [local irreducible] cnt grpL Vx.leftL Vx.strd Vx.Vw.crd Vx.grp Vx.Vw.pr Vx.rowOf rowsAt RowI expP smP expK smK dvK softL twoP oneP togP intP axZ axisP
set_option maxHeartbeats 16000000 in
theorem softmax_any {w:World} {vn v:Value} {n:Nd} {x:Tn} {ax:Int} (hn:NodeV w vn n) (hv:TensV w v x) (h1:x.1=1) (hc:(cnt x.2.1).2=0) (hd:(x.2.2.length:Int)=Vx.Vw.pr x.2.1) (ha:axisP (intP n.attrs nmAxis (-1)) x.2.1.length=some ax) :
  Calls Tryz.prog 46 #[vn,v] w fun e w'=>∃ v',e=.returned v'∧w'.ownsRow w.heap.size 2 1 v' x.2.2.length ((softL (Vx.grp x.2.1 (Vx.leftL x.2.1 [ax])) x.2.2 x.2.2.length).map (Value.int .i64))∧Below w.heap.size w w':=by
 obtain ⟨vd,vx,rfl,ht,hds,hxs⟩:=hv;obtain ⟨t,ds,xs⟩:=x;dsimp only at h1 hc hd ha ht hds hxs ⊢;subst h1;have HNI:=hid (int_okP (nm:=nmAxis) (other:=-1) hn (by unfold InI;decide));have HNV:=hid hn;obtain ⟨vin,vat,rfl,hm⟩:=hn;obtain ⟨a1,c1,rfl⟩:=hm.is.form;obtain ⟨a2,c2,rfl⟩:=hm.ia.form;obtain ⟨a3,c3,rfl⟩:=hds.shape;obtain ⟨a4,c4,rfl⟩:=hxs.shape;unfold Nd.val at HNV ⊢;have hPos:=Vx.cnt_pos hc;obtain ⟨h65,hl6,-,hp65⟩:=Vx.cnt_good hc;have hpr1:=Vx.Vw.pr_pos hPos;obtain ⟨hz,hlo,hhi,hk0,hk1⟩:=axZ_of ha;obtain ⟨p,rfl⟩:∃ p:Nat,ax=(p:Int):=⟨ax.toNat,by omega⟩;have hpl:p < ds.length:=by omega
 have hdp:=hPos _ (getD_mem hpl);have hd65:=(h65 _ (getD_mem hpl)).2;have hps:=Vx.pr_set hpl;have hLe:Vx.leftL ds [(p:Int)]=ds.set p 1:=by rw [left_one];simp
 have hcm:=Vx.leftL_cmp ds [(p:Int)];have hpL:=Vx.Vw.pr_pos (Vx.cmp_pos hcm hPos);have hcp:=Vx.cmp_pr hcm hPos;rw [←hLe] at hps;obtain ⟨P,hP⟩:∃ P:Nat,Vx.Vw.pr (Vx.leftL ds [(p:Int)])=(P:Int):=⟨(Vx.Vw.pr (Vx.leftL ds [(p:Int)])).toNat,by omega⟩;have hN65:xs.length≤65536:=by omega
 have hP65:P≤65536:=by omega
 have hq:(xs.length:Int) / ds.getD p 0=(P:Int):=by
  rw [hd,←hps,hP];exact Int.mul_ediv_cancel _ (by omega)
 have hqt:(xs.length:Int).tdiv (ds.getD p 0)=(P:Int):=by
  rw [Int.tdiv_eq_ediv_of_nonneg (by omega)];exact hq
 have hxi:=hxs.wf.2;have HGR:=hid (fun (W:World) (h1:IntsIn W (.slice a3 ds.length c3) ds) (v:Value) (h2:IntsIn W v [(p:Int)])=>groups_any h1 h2 hc (by intro a ha;simp at ha;omega));have HGA:=hid (fun (W:World) (h1:IntsIn W (.slice a3 ds.length c3) ds) (h0:IntsIn W (.slice a4 xs.length c4) xs) (v:Value) (h2:IntsIn W v [(p:Int)])=>gather_any (w:=W) (x:=(1,ds,xs)) (P:=P) ⟨_,_,rfl,ht,h1,h0⟩ h2 hc hd (by intro a ha;simp at ha;show 0≤a∧a < (ds.length:Int);omega) hP);dsimp only at HGA;have HLT:Hid (∀ k,k < xs.length→Vx.grp ds (Vx.leftL ds [(p:Int)]) k < P∧(grpL ds (Vx.leftL ds [(p:Int)])).getD k 0=(Vx.grp ds (Vx.leftL ds [(p:Int)]) k:Int)):=hid fun k hk=>⟨by have:=(Vx.grp_lt hcm hPos (k:=k) (by omega)).1;omega,grpL_get (by omega)⟩;have HGL:Hid ((grpL ds (Vx.leftL ds [(p:Int)])).length=xs.length):=hid (by rw [grpL_len];omega);have HLI:Hid (∀ z ∈ grpL ds (Vx.leftL ds [(p:Int)]),InI z):=hid fun z hz=>by
  obtain ⟨k,hk⟩:=List.getElem?_of_mem hz;have hkl:=(List.getElem?_eq_some_iff.1 hk).1;rw [grpL_len] at hkl;have e:z=(grpL ds (Vx.leftL ds [(p:Int)])).getD k 0:=by rw [List.getD_eq_getElem?_getD,hk];rfl
  rw [e,grpL_get hkl];have:=(Vx.grp_lt hcm hPos (k:=k) (by omega)).1;unfold InI;omega
 generalize Vx.leftL ds [(p:Int)]=L at *;generalize Vx.grp ds L=G at *;generalize grpL ds L=gl at *;have HTW:=hid (fun (op:ByteArray) (x y:Int) (hx:InI x) (hy:InI y) (W:World)=>two_any op 1 x y hx hy W);have HON:=hid (fun (op:ByteArray) (x:Int) (hx:InI x) (W:World)=>one_any op x hx W);have hls:(⟨#[83,117,98]⟩:ByteArray).toList=lSub:=by rw [ByteArray.toList_eq];rfl
 have hla:(⟨#[65,100,100]⟩:ByteArray).toList=lAdd:=by rw [ByteArray.toList_eq];rfl
 have hld:(⟨#[68,105,118]⟩:ByteArray).toList=lDiv:=by rw [ByteArray.toList_eq];rfl
 have hle:(⟨#[69,120,112]⟩:ByteArray).toList=lExp:=by rw [ByteArray.toList_eq];rfl
 have hlm:(⟨#[82,101,100,117,99,101,77,97,120]⟩:ByteArray).toList=lRMax:=by rw [ByteArray.toList_eq];rfl
 have HLS:=hid hls;have HLA:=hid hla;have HLD:=hid hld;have HLE:=hid hle;have HLM:=hid hlm;have HSI:=hid (fun (W:World) (h:Below w.heap.size w W)=>sint_any (n:=n) (HNV.out.below h) nmAxis (-1));have HAX:=hid (fun (W:World)=>axis_red (intP n.attrs nmAxis (-1)) ds.length ⟨hlo,hhi⟩ (by omega) W);rw [hz] at HAX;have HD:=hid hds;have HX:=hid hxs;have HXI:=hid hxi;generalize intP n.attrs nmAxis (-1)=ia at *;clear hls hla hld hle hlm hz hlo hhi hm hds hxs hxi hc hd ha hPos h65 hp65 hpr1 hps hLe hcm hpL hcp hP ht;go_enter Tryz.func46,Tryz.ntmps46
 go_wp2_with fail
 generalize hW:World.alloc (World.alloc w _) _=W1;obtain ⟨hB,hS,b1,b2⟩:=allocs2 hW;clear hW;have HB1:=hid hB;have HNB:=hid (box_of b1);have HTB:=hid (box_of b2);clear b1 b2 hB hS;have HSr:Hid (∀ W',Below W1.heap.size W1 W'→BoxN W' w.heap.size #[.string n.op,.string n.name,.slice a1 n.ins.length c1,.string n.out,.slice a2 n.attrs.length c2] 25 ∧ BoxN W' (w.heap.size+1) #[.int .i64 1,.slice a3 ds.length c3,.slice a4 xs.length c4] 46):=hid fun W' h=>⟨HNB.out.below' h,HTB.out.below' h⟩;refine wp_region_plan 5 [0,2,3,4,1] (fun W'=>Below W1.heap.size W1 W') (by kernel_rfl) (by kernel_rfl) (fun _ d _ _ _ h=>by cases d<;>exact h) (Below.refl _ _).drew ?_;have B0:Hid (Below W1.heap.size W1 W1.drew):=hid (Below.refl _ _).drew;generalize W1.drew=wD at B0 ⊢
 repeat
  refine plan_read (v:=?_) rfl rfl (Or.inl ⟨by rfl,?_⟩) ?_;rotate_left
  ·intro W' hSw;obtain ⟨s0,s1⟩:=HSr.out W' hSw;obtain ⟨k0,k1,k2,k3,k4⟩:=s0.five;obtain ⟨t0,t1,t2⟩:=s1.three;go_simp
   try with_reducible rfl
  try simp only [aPut]
 refine plan_act rfl rfl (fun K' hK=>?_);go_simp
 refine (HSI.out _ (HB1.out.trans (B0.out.mono HB1.out.size))).mono ?_;rintro e w2 ⟨rfl,B⟩;have B1:=hid (B0.out.trans (B.mono B0.out.size));refine hK.out _ _ B1.out ?_;clear hK K' B B0
 try simp only [aPut]
 refine plan_tail rfl ?_;simp only [aDrp];go_wp2_with fail
 refine (HAX.out _).mono ?_;rintro e _ ⟨rfl,rfl⟩;have HTB2:=hid (HTB.out.below' B1.out);have t1:=HTB2.out.cell 1 rfl;have HB2:=hid (HB1.out.trans (B1.out.mono HB1.out.size));go_wp2_with fail
 clear t1;generalize hW:World.alloc w2 _=W3;obtain ⟨hB,hS,b1⟩:=allocs1 hW;clear hW;have HB3:=hid (HB2.out.trans (hB.mono HB2.out.size));have HTB3:=hid (HTB2.out.below' hB);refine (HGR.out W3 (HD.out.below HB3.out) _ (ints_boxE (zs:=[(p:Int)]) b1 rfl (by simp) (by simp) (by intro z hz;simp at hz;unfold InI;omega))).mono ?_;rintro e w4 ⟨v4,rfl,B4,hr⟩;have hro:w4.ownsRow W3.heap.size 3 1 v4 gl.length (gl.map (Value.int .i64)):=by unfold RowI at hr;exact hr
 obtain ⟨a6,c6,rfl⟩:∃ a c,v4=.slice a xs.length c:=by
  obtain ⟨a,c,h⟩:=owns_form hro;exact ⟨a,c,by rw [h,HGL.out]⟩
 have HIW:Hid (IntsIn w4 (.slice a6 xs.length c6) gl):=hid (IntsIn.of_owns hro (by have:=HGL.out;omega) HLI.out);have HB4:=hid (HB3.out.trans (B4.mono HB3.out.size));have HTB4:=hid (HTB3.out.below' B4);clear hr hro b1 hB hS B4 HTB3 HTB2 HB2 HB3 HSr HNB HTB;obtain ⟨b3,o3,rfl,hb3,g3,y3⟩:=reads_ints HD.out hpl rfl;have hpli:(p:Int) < (ds.length:Int):=by omega
 have hp0:(0:Int)≤(p:Int):=by omega
 have HSr:Hid (∀ W',Below w4.heap.size w4 W'→BoxN W' (w.heap.size+1) #[.int .i64 1,.slice (some ⟨b3,o3,none⟩) ds.length c3,.slice a4 xs.length c4] 46 ∧ W'.cell? ⟨b3,o3+p,none⟩=some (.int .i64 (ds.getD p 0))):=hid fun W' h=>⟨HTB4.out.below' h,((HB4.out.trans (h.mono HB4.out.size)).cell (p:=⟨b3,o3+p,none⟩) hb3).trans g3⟩;generalize ds.getD p 0=dp at *;have hdz:(dp==0)=false:=by simp;omega
 have hdn:¬ dp=0:=by omega
 have hwq:IntKind.i64.wrap (P:Int)=(P:Int):=by rw [IntKind.wrap_i64];omega
 go_wp2_with fail
 refine wp_region_plan 12 [0,1,3,4,5,6,7,8,9,10,11,2] (fun W'=>Below w4.heap.size w4 W') (by kernel_rfl) (by kernel_rfl) (fun _ d _ _ _ h=>by cases d<;>exact h) (Below.refl _ _).drew ?_;have B0:Hid (Below w4.heap.size w4 w4.drew):=hid (Below.refl _ _).drew;generalize w4.drew=wD at B0 ⊢
 repeat
  refine plan_read (v:=?_) rfl rfl (Or.inl ⟨by rfl,?_⟩) ?_;rotate_left
  ·intro W' hSw;obtain ⟨s0,s1⟩:=HSr.out W' hSw;obtain ⟨t0,t1,t2⟩:=s0.three;go_simp
   try with_reducible rfl
  try simp only [aPut]
 refine plan_act rfl rfl (fun K' hK=>?_);go_simp
 have B1S:Hid (Below w4.heap.size w4 (wD.alloc (Obj.cells #[.int .i64 (p:Int)] 3))):=hid (B0.out.alloc B0.out.size _);refine hK.out _ _ B1S.out ?_;clear hK K' B1S
 try simp only [aPut]
 generalize hW:World.alloc wD _=W5;obtain ⟨hB,hS,b1⟩:=allocs1 hW;clear hW;have HBD:=hid (HB4.out.trans (B0.out.mono HB4.out.size));have HB5:=hid (HBD.out.trans (hB.mono HBD.out.size));have HTB5:=hid ((HTB4.out.below' B0.out).below' hB);have HIW5:=hid ((HIW.out.below B0.out).below hB);have hb5:=hid (ints_boxE (zs:=[(p:Int)]) b1 rfl (by simp) (by simp) (by intro z hz;simp at hz;unfold InI;omega));clear b1 hB hS HBD HB4 HTB4 HIW HSr B0 B1 g3 y3;refine plan_tail rfl ?_;simp only [aDrp];go_wp2_with fail
 refine (HGA.out W5 (HD.out.below HB5.out) (HX.out.below HB5.out) _ hb5.out).mono ?_;rintro e w6 ⟨S,svs,rfl,hS0,hSb,hGd,hZ6,B6⟩;have HB6:=hid (HB5.out.trans (B6.mono HB5.out.size));have HTB6:=hid (HTB5.out.below' B6);have HIW6:=hid (HIW5.out.below B6);have HSB:=hid hSb;have HGD:=hid hGd;have hsl:svs.length=P:=by have:=hGd.len;rwa [rowsAt_len] at this
 have hwb:w.heap.size≤w6.heap.size:=HB6.out.size;clear HB5 HTB5 HIW5 hb5 hSb hGd B6 HGA HGR HSI HAX;have HPERS:Hid (∀ W',Below w6.heap.size w6 W'→BoxN W' (w.heap.size+1) #[.int .i64 1,.slice (some ⟨b3,o3,none⟩) ds.length c3,.slice a4 xs.length c4] 46 ∧ BoxN W' S svs.toArray 44 ∧ GridD W' (S+1) svs (rowsAt G xs P xs.length)∧IntsIn W' (.slice a6 xs.length c6) gl∧IntsIn W' (.slice a4 xs.length c4) xs):=hid fun W' h=>⟨HTB6.out.below' h,HSB.out.below' h,HGD.out.below h,HIW6.out.below h,(HX.out.below HB6.out).below h⟩;have t2:=HTB6.out.cell 2 rfl;have hmk1:=run_make_i64s w6 xs.length (by omega);have hmk2:=run_make_i64s (w6.alloc (.cells (i64s (List.replicate xs.length 0)) 2)) P (by omega);clear HTB6 HIW6 HSB HGD;go_wp2_with fail
 clear hmk1 hmk2 t2;generalize hW:World.alloc (World.alloc w6 _) _=W7;obtain ⟨hB,hS,b1,b2⟩:=allocs2 hW;clear hW;have HO:Hid (BoxN W7 w6.heap.size (i64s (expK G xs xs.length 0)) 2):=hid (by rw [expK_zero];exact b1);have HS:Hid (BoxN W7 (w6.heap.size+1) (i64s (smK G xs xs.length P 0)) 2):=hid (by rw [smK_zero];exact b2);have HV:=hid hB;clear b1 b2 hB hS;generalize hOB:w6.heap.size=OB at HO HS HV HPERS hwb ⊢;have HOBE:=hid hOB;clear hOB;go_loopw [48] (fun i wr=>∃ (k:Nat),k≤xs.length∧i=.int .i64 (k:Int)∧Hid (BoxN wr OB (i64s (expK G xs xs.length k)) 2)∧Hid (BoxN wr (OB+1) (i64s (smK G xs xs.length P k)) 2)∧Hid (Below OB w6 wr)) (fun i _=>xs.length - (intOf i).toNat)
 case atStart=>exact ⟨0,Nat.zero_le _,rfl,HO,HS,HV⟩
 case round =>
  clear HO HS HV;obtain ⟨k,hk,rfl,hO,hSm,hV⟩:=hrel;by_cases hkl:k < xs.length
  ·have hki:(k:Int) < (xs.length:Int):=by omega
   obtain ⟨hTB,hSB,hGD,hIW,hIX⟩:=HPERS.out wr hV.out;have hlt:=HLT.out k hkl;obtain ⟨bw,ow,rfl,hbw,gw,-⟩:=reads_ints hIW (k:=k) (by have:=HGL.out;omega) rfl;rw [hlt.2] at gw;have hgP:(G k:Int) < (P:Int):=by omega
   obtain ⟨v,hv⟩:=gAt svs (G k) (by omega);have how:=hGD.own _ _ _ hv (rowsAt_get hlt.1);have hrl:=Vx.rowOf_length G xs xs.length (G k);have hrne:=Vx.rowOf_some (G:=G) (data:=xs) hkl rfl;have hrin:∀ z ∈ Vx.rowOf G xs xs.length (G k),InI z:=fun z hz=>HXI.out z (Vx.rowOf_mem (Nat.le_refl _) hz);obtain ⟨av,cv,rfl⟩:=owns_form how;have hIR:IntsIn wr (.slice av (Vx.rowOf G xs xs.length (G k)).length cv) (Vx.rowOf G xs xs.length (G k)):=IntsIn.of_owns how (by omega) hrin;have sc:=hSB.cell (G k) (v:=.slice av (Vx.rowOf G xs xs.length (G k)).length cv) (by simpa using hv);have HIR:=hid hIR;have HRN:=hid hrne;have HRI:=hid hrin;have HEQ:=hid (expP_eq G xs xs.length k);have HEN:=hid (expK_set (G:=G) (data:=xs) hkl);have HSN:=hid (smK_set (G:=G) (data:=xs) (P:=P) hkl hlt.1);have HSA:=hid (smK_at (G:=G) (data:=xs) (N:=xs.length) (k:=k) hlt.1);have HEA:=hid (expK_at (G:=G) (data:=xs) hkl);have HEI:=hid (expP_in (G:=G) HXI.out (Nat.le_refl _) hN65 hkl);have HSII:=hid (smP_in (G:=G) HXI.out (Nat.le_refl _) hN65 (Nat.le_of_lt hkl) (G k));have HXK:=hid (HXI.out _ (getD_mem hkl));have HGK:=hid hlt.1;generalize Vx.rowOf G xs xs.length (G k)=r at *;generalize smP G xs xs.length k (G k)=sp at *;generalize expP G xs xs.length k=ek at *;generalize hye:xs.getD k 0=y at *;have HYE:=hid hye;clear hye;clear hv how hIR hrne hrin hIW hIX hGD hlt;go_wp2_with fail
   refine (tog_max (op:=⟨#[82,101,100,117,99,101,77,97,120]⟩) 1 HLM.out HIR.out HRN.out).mono ?_;rintro e w8 ⟨rfl,B8⟩;rw [HLM.out];have HMI:Hid (InI (togP lRMax 1 r)):=hid (togP_in HRN.out (by omega) HRI.out);generalize togP lRMax 1 r=m at *;have hV8:=hid (hV.out.trans (B8.mono (by rw [←HOBE.out];exact hV.out.size)));have hO8:=hid (hO.out.below' B8);have hSm8:=hid (hSm.out.below' B8);clear B8 hV hO hSm gw sc HIR HRN HRI hTB hSB;obtain ⟨hTB,-,-,-,hIX⟩:=HPERS.out w8 hV8.out;obtain ⟨bx,ox,rfl,hbx,gx,-⟩:=reads_ints hIX (k:=k) hkl rfl;have ex:xs.getD k 0=y:=HYE.out;rw [ex] at gx;have tb2:=hTB.cell 2 rfl;clear hTB hIX ex;go_wp2_with fail
   clear tb2 gx;refine (HTW.out _ y m HXK.out HMI.out _).mono ?_;rintro e w9 ⟨rfl,B9⟩;rw [HLS.out];have HQI:Hid (InI (twoP lSub 1 y m)):=hid (twoP_in HXK.out HMI.out);have hV9:=hid (hV8.out.trans (B9.mono (by rw [←HOBE.out];exact hV8.out.size)));have hO9:=hid (hO8.out.below' B9);have hSm9:=hid (hSm8.out.below' B9);generalize twoP lSub 1 y m=q at *;clear B9 hV8 hO8 hSm8;go_wp2_with fail
   refine (HON.out _ q HQI.out _).mono ?_;rintro e w10 ⟨rfl,B10⟩;rw [HLE.out,HEQ.out];have hV10:=hV9.out.trans (B10.mono (by rw [←HOBE.out];exact hV9.out.size));have hO10:=hO9.out.below' B10;have hSm10:=hSm9.out.below' B10;have of:=hO10.frozen k;have oc:=hO10.cell k (v:=.int .i64 ((expK G xs xs.length k).getD k 0)) (i64s_at (by rw [expK_len];exact hkl));have hO11:=hO10.set k (.int .i64 ek);rw [i64s_set,HEN.out] at hO11;have hSm11:BoxN (w10.setCell ⟨OB,k,none⟩ (.int .i64 ek)) (OB+1) (i64s (smK G xs xs.length P k)) 2:=(Below.heap_setCell _ _ _ _ (by show OB+1≠OB;omega)).trans hSm10;have hV11:Below OB w6 (w10.setCell ⟨OB,k,none⟩ (.int .i64 ek)):=hV10.setCell (p:=⟨OB,k,none⟩) (Nat.le_refl _) _;have HO11:=hid hO11;have HSM11:=hid hSm11;have HV11:=hid hV11;clear B10 hV9 hO9 hSm9 hV10 hO10 hSm10 hO11 hSm11 hV11 HMI HQI HEQ HEN;go_wp2_with fail
   clear of oc;generalize World.setCell w10 _ _=W11 at HO11 HSM11 HV11 ⊢;have HSr:Hid (∀ W',Below W11.heap.size W11 W'→W'.cell? ⟨OB,k,none⟩=some (.int .i64 ek)∧W'.cell? ⟨OB+1,G k,none⟩=some (.int .i64 sp)):=hid fun W' h=>⟨((HO11.out.below' h).cell k (i64s_at (by rw [expK_len];exact hkl))).trans (by rw [HEA.out]),((HSM11.out.below' h).cell (G k) (i64s_at (by rw [smK_len];exact HGK.out))).trans (by rw [HSA.out])⟩;refine wp_region_plan 11 [0,1,2,3,4,5,6,7,8,9,10] (fun W'=>Below W11.heap.size W11 W') (by kernel_rfl) (by kernel_rfl) (fun _ d _ _ _ h=>by cases d<;>exact h) (Below.refl _ _).drew ?_;have B0:Hid (Below W11.heap.size W11 W11.drew):=hid (Below.refl _ _).drew;generalize W11.drew=wD at B0 ⊢
   repeat
    refine plan_read (v:=?_) rfl rfl (Or.inl ⟨by rfl,?_⟩) ?_;rotate_left
    ·intro W' hSw;obtain ⟨s0,s1⟩:=HSr.out W' hSw;go_simp
     try with_reducible rfl
    try simp only [aPut]
   have hV12:=HV11.out.trans (B0.out.mono (by rw [←HOBE.out];exact HV11.out.size));have HO12:=hid (HO11.out.below' B0.out);have HSM12:=hid (HSM11.out.below' B0.out);have HV12:=hid hV12;clear HSr HO11 HSM11 HV11 hV12;refine plan_act rfl rfl (fun K' hK=>?_);go_simp
   refine (HTW.out _ sp ek HSII.out HEI.out _).mono ?_;rintro e w13 ⟨rfl,B13⟩;rw [HLA.out];refine hK.out _ _ (B0.out.trans (B13.mono B0.out.size)) ?_;clear hK K' B0;refine plan_tail rfl ?_;simp only [aDrp];have hV13:=HV12.out.trans (B13.mono (by rw [←HOBE.out];exact HV12.out.size));have hO13:=HO12.out.below' B13;have hSm13:=HSM12.out.below' B13;have sf:=hSm13.frozen (G k);have sc:=hSm13.cell (G k) (v:=.int .i64 sp) ((i64s_at (by rw [smK_len];exact HGK.out)).trans (by rw [HSA.out]));have hSm14:=hSm13.set (G k) (.int .i64 (twoP lAdd 1 sp ek));rw [i64s_set,HSN.out] at hSm14;have hO14:BoxN (w13.setCell ⟨OB+1,G k,none⟩ (.int .i64 (twoP lAdd 1 sp ek))) OB (i64s (expK G xs xs.length (k+1))) 2:=(Below.heap_setCell _ _ _ _ (by show OB≠OB+1;omega)).trans hO13;have hV14:Below OB w6 (w13.setCell ⟨OB+1,G k,none⟩ (.int .i64 (twoP lAdd 1 sp ek))):=hV13.setCell (p:=⟨OB+1,G k,none⟩) (by show OB≤OB+1;omega) _;have HO14:=hid hO14;have HSM14:=hid hSm14;have HV14:=hid hV14;clear B13 hV13 hO13 hSm13 hSm14 hO14 hV14 HO12 HSM12 HV12;go_wp2_with fail
   go_roundw
   case rel=>exact ⟨k+1,by omega,by go_num,HO14,HSM14,HV14⟩
   case measure=>simp [intOf];omega
  ·have hki:¬ (k:Int) < (xs.length:Int):=by omega
   obtain rfl:k=xs.length:=by omega
   have hOd:Hid (BoxN wr OB (i64s (dvK G xs xs.length 0)) 2):=hid (by rw [dvK_zero];exact hO.out);clear hO;go_wp2_with fail
   go_loopw [84] (fun i wq=>∃ (j:Nat),j≤xs.length∧i=.int .i64 (j:Int)∧Hid (BoxN wq OB (i64s (dvK G xs xs.length j)) 2)∧Hid (BoxN wq (OB+1) (i64s (smK G xs xs.length P xs.length)) 2)∧Hid (Below OB w6 wq)) (fun i _=>xs.length - (intOf i).toNat)
   case atStart=>exact ⟨0,Nat.zero_le _,rfl,hOd,hSm,hV⟩
   case round =>
    clear hOd hSm hV;obtain ⟨j,hj,rfl,hO,hSm,hV⟩:=hrel;by_cases hjl:j < xs.length
    ·have hji:(j:Int) < (xs.length:Int):=by omega
     obtain ⟨-,-,-,hIW,-⟩:=HPERS.out wr hV.out;have hlt:=HLT.out j hjl;obtain ⟨bw,ow,rfl,hbw,gw,-⟩:=reads_ints hIW (k:=j) (by have:=HGL.out;omega) rfl;rw [hlt.2] at gw;have hgP:(G j:Int) < (P:Int):=by omega
     have HDN:=hid (dvK_set (G:=G) (data:=xs) hjl);have HSA:=hid (smK_at (G:=G) (data:=xs) (N:=xs.length) (k:=xs.length) hlt.1);have HEA:=hid (dvK_at (G:=G) (data:=xs) hjl);have HEI:=hid (expP_in (G:=G) HXI.out (Nat.le_refl _) hN65 hjl);have HSII:=hid (smP_in (G:=G) HXI.out (Nat.le_refl _) hN65 (Nat.le_refl _) (G j));have HGK:=hid hlt.1;generalize smP G xs xs.length xs.length (G j)=sp at *;generalize expP G xs xs.length j=ek at *;have HSr:Hid (∀ W',Below wr.heap.size wr W'→W'.cell? ⟨OB,j,none⟩=some (.int .i64 ek)∧W'.cell? ⟨OB+1,G j,none⟩=some (.int .i64 sp)):=hid fun W' h=>⟨((hO.out.below' h).cell j (i64s_at (by rw [dvK_len];exact hjl))).trans (by rw [HEA.out]),((hSm.out.below' h).cell (G j) (i64s_at (by rw [smK_len];exact HGK.out))).trans (by rw [HSA.out])⟩;clear hIW hlt;go_wp2_with fail
     clear gw;refine wp_region_plan 11 [0,1,2,3,4,5,6,7,8,9,10] (fun W'=>Below wr.heap.size wr W') (by kernel_rfl) (by kernel_rfl) (fun _ d _ _ _ h=>by cases d<;>exact h) (Below.refl _ _).drew ?_;have B0:Hid (Below wr.heap.size wr wr.drew):=hid (Below.refl _ _).drew;generalize wr.drew=wD at B0 ⊢
     repeat
      refine plan_read (v:=?_) rfl rfl (Or.inl ⟨by rfl,?_⟩) ?_;rotate_left
      ·intro W' hSw;obtain ⟨s0,s1⟩:=HSr.out W' hSw;go_simp
       try with_reducible rfl
      try simp only [aPut]
     have hV12:=hV.out.trans (B0.out.mono (by rw [←HOBE.out];exact hV.out.size));have HO12:=hid (hO.out.below' B0.out);have HSM12:=hid (hSm.out.below' B0.out);have HV12:=hid hV12;clear HSr hO hSm hV hV12;refine plan_act rfl rfl (fun K' hK=>?_);go_simp
     refine (HTW.out _ ek sp HEI.out HSII.out _).mono ?_;rintro e w13 ⟨rfl,B13⟩;rw [HLD.out];refine hK.out _ _ (B0.out.trans (B13.mono B0.out.size)) ?_;clear hK K' B0;refine plan_tail rfl ?_;simp only [aDrp];have hV13:=HV12.out.trans (B13.mono (by rw [←HOBE.out];exact HV12.out.size));have hO13:=HO12.out.below' B13;have hSm13:=HSM12.out.below' B13;have sf:=hO13.frozen j;have sc:=hO13.cell j (v:=.int .i64 ek) ((i64s_at (by rw [dvK_len];exact hjl)).trans (by rw [HEA.out]));have hO14:=hO13.set j (.int .i64 (twoP lDiv 1 ek sp));rw [i64s_set,HDN.out] at hO14;have hSm14:BoxN (w13.setCell ⟨OB,j,none⟩ (.int .i64 (twoP lDiv 1 ek sp))) (OB+1) (i64s (smK G xs xs.length P xs.length)) 2:=(Below.heap_setCell _ _ _ _ (by show OB+1≠OB;omega)).trans hSm13;have hV14:Below OB w6 (w13.setCell ⟨OB,j,none⟩ (.int .i64 (twoP lDiv 1 ek sp))):=hV13.setCell (p:=⟨OB,j,none⟩) (Nat.le_refl _) _;have HO14:=hid hO14;have HSM14:=hid hSm14;have HV14:=hid hV14;clear B13 hV13 hO13 hSm13 hSm14 hO14 hV14 HO12 HSM12 HV12;go_wp2_with fail
     go_roundw
     case rel=>exact ⟨j+1,by omega,by go_num,HO14,HSM14,HV14⟩
     case measure=>simp [intOf];omega
    ·have hji:¬ (j:Int) < (xs.length:Int):=by omega
     obtain rfl:j=xs.length:=by omega
     have hO1:=hO.out;rw [dvK_all] at hO1;have HOW:=hid (owns_i64s (B:=w.heap.size) hO1 (by omega) (show xs.length=(softL G xs xs.length).length by unfold softL;simp) (by omega));have HEB:=hid (HB6.out.trans (hV.out.mono hwb));clear hO1 hO hSm hV;go_wp2_with fail
     go_ret
     exact ⟨.slice (some ⟨OB,0,none⟩) xs.length xs.length,rfl,HOW.out,HEB.out⟩
end
section
open Go.RowKit
namespace Vx
open Vw
theorem pr_append:∀ (a b:List Int),pr (a++b)=pr a * pr b
 | [],b=>by simp [pr]
 | d :: a,b=>by simp [pr,pr_append a b,Int.mul_assoc]
theorem wou_pr {ds ks:List Int} {keep:Bool} (hk:∀ a ∈ ks,0≤a):∀ {k:Nat},k≤ds.length→pr (wouL ds ks keep k)=pr ((leftL ds ks).take k)
 | 0,_=>by simp [wouL,pr]
 | k+1,h=>by
  have ih:=wou_pr (ds:=ds) (keep:=keep) hk (k:=k) (by omega);rw [wou_next,pr_append,ih,take_next (l:=leftL ds ks) (k:=k) (by rw [leftL_length];omega),pr_append,leftL_get _ _ (by omega)]
  congr 1
  have e:ks.any (fun a=>decide (a.toNat=k))=ks.contains (k:Int):=by
   rw [Bool.eq_iff_iff,List.any_eq_true,List.contains_iff_mem];constructor
   ·rintro ⟨a,ha,h2⟩;have:=of_decide_eq_true h2;have:=hk a ha;have e:a=(k:Int):=by omega
    rwa [e] at ha
   ·intro hm;exact ⟨_,hm,decide_eq_true (by omega)⟩
  rw [e];unfold cutI;by_cases c:ks.contains (k:Int)=true
  ·rw [if_pos c,if_pos c];split<;>simp [pr]
  ·rw [if_neg c,if_neg c]
end Vx
theorem axesF_map {r:Nat}:∀ (l acc ks:List Int),axesF r acc l=some ks→ks=acc++l.map (fun a=>axZ a r)∧∀ a ∈ l,-(r:Int)≤a∧a < (r:Int)
 | [],acc,ks,h=>by
  simp only [axesF,Option.some.injEq] at h;subst h;simp
 | a :: l,acc,ks,h=>by
  unfold axesF at h;cases hax:axisP a r with
  | none=>rw [hax] at h;cases h
  | some k =>
   rw [hax] at h;dsimp only at h;split at h
   ·cases h
   ·obtain ⟨h1,h2,h3,-⟩:=axZ_of hax;obtain ⟨e,g⟩:=axesF_map l (acc++[k]) ks h;refine ⟨by rw [e,List.map_cons,h1];simp,fun b hb=>?_⟩;rcases List.mem_cons.1 hb with rfl | hb
    ·exact ⟨h2,h3⟩
    ·exact g b hb
def rTy (op:List UInt8) (t:Int):Int × Int:=if op=lArg then typS t 7 else if op=lRMean then typD (decide (t=1)) t else typS t t
def rB (n:Nd) (x:Tn):Int × Int × List Int:=begO n [x] (rTy n.op.toList x.1) (redO n x.2.1)
def goneL (n:Nd) (r:Nat):List Int:=(redL n r).map fun a=>axZ a r
def redG (n:Nd) (x:Tn):Nat→Nat:=Vx.grp x.2.1 (Vx.leftL x.2.1 (goneL n x.2.1.length))
def redPn (n:Nd) (x:Tn):Nat:=(Vx.Vw.pr (Vx.leftL x.2.1 (goneL n x.2.1.length))).toNat
def redD (n:Nd) (x:Tn):Int × Int × List Int × List Int :=
 if (rB n x).1≠0 then ((rB n x).1,0,[],[]) else (0,(rB n x).2.1,(rB n x).2.2,redR n.op.toList x.1 (redG n x) x.2.2 x.2.2.length (redPn n x))
theorem redD_no {n:Nd} {x:Tn} (h:(rB n x).1≠0):redD n x=((rB n x).1,0,[],[]):=if_pos h
theorem redD_yes {n:Nd} {x:Tn} (h:(rB n x).1=0):redD n x=(0,(rB n x).2.1,(rB n x).2.2,redR n.op.toList x.1 (redG n x) x.2.2 x.2.2.length (redPn n x)):=if_neg (fun c=>c h)
theorem alB_one (x:Vl) (t:Int):alB [x] t=decide (x.typ=t):=by
 unfold alB;by_cases h:x.typ=t<;>simp [h]
theorem rB_yes {n:Nd} {x:Tn} (h:(rB n x).1=0):checkP n=0∧n.ins.length=1∧pbE x.1 x.2.1 x.2.2=0∧(rTy n.op.toList x.1).1=0∧(∀ a ∈ redL n x.2.1.length,-(x.2.1.length:Int)≤a∧a < (x.2.1.length:Int)) ∧
  (intP n.attrs nmKeep 1=0∨intP n.attrs nmKeep 1=1)∧(∃ ks,axesP (redL n x.2.1.length) x.2.1.length=some ks) ∧
  rB n x=(0,(rTy n.op.toList x.1).2,wouL x.2.1 (goneL n x.2.1.length) (decide (intP n.attrs nmKeep 1=1)) x.2.1.length)∧cnt (rB n x).2.2=((redPn n x:Int),0):=by
 obtain ⟨h1,h2,h3⟩:=begO_yes h;obtain ⟨g1,g2,g3,g4,g5,g6,g7⟩:=outP_yes h2;have hp:=pbAll_mem h1 (t:=x) (by simp);have hr:rB n x=(0,(rTy n.op.toList x.1).2,(redO n x.2.1).2):=by unfold rB;rw [h3,g7]
 unfold redO at g5 g6 hr;cases hq:reducedP n x.2.1 with
 | none=>rw [hq] at g5;exact absurd g5 (by decide)
 | some W =>
  rw [hq] at g6 hr;have hq':=hq;unfold reducedP at hq;cases ha:axesP (redL n x.2.1.length) x.2.1.length with
  | none=>rw [ha] at hq;cases hq
  | some ks =>
   rw [ha] at hq;dsimp only at hq;split at hq
   case isFalse=>cases hq
   rename_i hk
   have hW:=Option.some.inj hq;obtain ⟨e,hin⟩:=axesF_map _ _ _ ha;rw [List.nil_append] at e;have e2:goneL n x.2.1.length=ks:=e.symm;have hge:∀ a ∈ ks,0≤a:=fun a ha'=>by
    rw [e] at ha';obtain ⟨b,hb,rfl⟩:=List.mem_map.1 ha';exact (axZ_in (hin b hb)).1
   have hWe:(optO (some W)).2=W:=rfl;rw [hWe] at g6 hr;obtain ⟨-,-,c3,-⟩:=Vx.cnt_good g6;have hpw:Vx.Vw.pr W=Vx.Vw.pr (Vx.leftL x.2.1 ks):=by
    rw [←hW,Vx.wou_pr hge (Nat.le_refl _),List.take_of_length_le (by rw [Vx.leftL_length];exact Nat.le_refl _)]
   have hpos:=Vx.Vw.pr_pos (Vx.cmp_pos (Vx.leftL_cmp x.2.1 ks) (Vx.cnt_pos (pbE_zero hp).2.1));refine ⟨g1,by simpa using g2.symm,hp,g4,hin,hk,⟨ks,rfl⟩,by rw [hr,e2,hW],?_⟩;rw [hr];show cnt W=_;unfold redPn;rw [e2];refine Prod.ext ?_ g6;rw [c3,hpw];show Vx.Vw.pr (Vx.leftL x.2.1 ks)=((Vx.Vw.pr (Vx.leftL x.2.1 ks)).toNat:Int);omega
theorem gone_in {n:Nd} {r:Nat} (h:∀ a ∈ redL n r,-(r:Int)≤a∧a < (r:Int)):∀ a ∈ goneL n r,0≤a∧a < (r:Int):=fun a ha=>by
 obtain ⟨b,hb,rfl⟩:=List.mem_map.1 ha;exact axZ_in (h b hb)
theorem typ_red {w:World} {v:Value} {n:Nd} {x:Vl} (h:MkV w v n [x]) (ho:n.op.toList ∈ redOps) :
  Calls Tryz.prog 32 #[v] w fun e w'=>TyR (rTy n.op.toList x.typ) e∧Below w.heap.size w w':=by
 simp only [redOps,List.mem_cons,List.not_mem_nil,or_false] at ho;rcases ho with ho | ho | ho | ho
 ·have:=typ_ReduceSum (x:=x) h rfl ho;rw [ho];exact this
 ·have:=typ_ReduceMax (x:=x) h rfl ho;rw [ho];exact this
 ·have:=typ_ReduceMean (x:=x) h rfl ho;rw [alB_one] at this;rw [ho];exact this
 ·have:=typ_ArgMax (x:=x) h rfl ho;rw [ho];exact this
theorem dims_red {w:World} {v:Value} {n:Nd} {x:Vl} (h:MkV w v n [x]) (ho:n.op.toList ∈ redOps) :
  Calls Tryz.prog 33 #[v] w fun e w'=>DimR w (redO n x.dims) e w':=by
 simp only [redOps,List.mem_cons,List.not_mem_nil,or_false] at ho;rcases ho with ho | ho | ho | ho
 ·exact dims_ReduceSum (x:=x) h rfl ho
 ·exact dims_ReduceMax (x:=x) h rfl ho
 ·exact dims_ReduceMean (x:=x) h rfl ho
 ·exact dims_ArgMax (x:=x) h rfl ho
end
section
open Go.RowKit
set_option maxRecDepth 100000
attribute [local irreducible] cnt chk checkP inpE outP folB thenE RowI pbE begO pbAll
set_option maxHeartbeats 16000000 in
theorem rbegin_any {w:World} {vn vv:Value} {n:Nd} {ts:List Tn} (hn:NodeV w vn n) (hs:SlIn 3 rdTensor w vv ts) (hG:Glob w) {ty:Int × Int} {ds:Int × List Int}
  (hT:checkP n=0→ts.length=n.ins.length→pbAll ts=true→∀ (W:World) (v:Value),Below w.heap.size w W→MkV W v n (ts.map tvV)→Calls Tryz.prog 32 #[v] W fun e w'=>TyR ty e∧Below W.heap.size W w')
  (hD:checkP n=0→ts.length=n.ins.length→pbAll ts=true→ty.1=0→∀ (W:World) (v:Value),Below w.heap.size w W→MkV W v n (ts.map tvV)→Calls Tryz.prog 33 #[v] W fun e w'=>DimR W ds e w') :
  Calls Tryz.prog 45 #[vn,vv] w fun e w'=>OutR w n (begO n ts ty ds) e w':=by
 obtain ⟨i0,hi,hz0,hz1,hz2⟩:=info_parts info_val;have hll:=hs.len;obtain ⟨a3,c3,rfl⟩:=hs.form;have HN:=hid hn;obtain ⟨vin,vat,rfl,hm⟩:=hn;obtain ⟨a1,c1,rfl⟩:=hm.is.form;obtain ⟨a2,c2,rfl⟩:=hm.ia.form;have HS:=hid hs;have HG:=hid hG;have HT:=hid hT;have HD:=hid hD;clear hm hs hG hT hD;unfold Nd.val at HN ⊢;have HB1:Hid (Below w.heap.size w ((w.alloc (Obj.cells #[.string n.op,.string n.name,.slice a1 n.ins.length c1,.string n.out,.slice a2 n.attrs.length c2] 25)).alloc (Obj.cells #[.string ⟨#[]⟩,.int .i64 0,.slice none 0 0] 29))):=hid (((Below.refl _ w).alloc (Nat.le_refl _) _).alloc (by simp) _);have HND:Hid (BoxN ((w.alloc (Obj.cells #[.string n.op,.string n.name,.slice a1 n.ins.length c1,.string n.out,.slice a2 n.attrs.length c2] 25)).alloc (Obj.cells #[.string ⟨#[]⟩,.int .i64 0,.slice none 0 0] 29)) w.heap.size #[.string n.op,.string n.name,.slice a1 n.ins.length c1,.string n.out,.slice a2 n.attrs.length c2] 25):=hid ((BoxN.new w #[.string n.op,.string n.name,.slice a1 n.ins.length c1,.string n.out,.slice a2 n.attrs.length c2] 25).below' ((Below.refl _ _).alloc (Nat.le_refl _) _));have HOC:Hid (BoxN ((w.alloc (Obj.cells #[.string n.op,.string n.name,.slice a1 n.ins.length c1,.string n.out,.slice a2 n.attrs.length c2] 25)).alloc (Obj.cells #[.string ⟨#[]⟩,.int .i64 0,.slice none 0 0] 29)) (w.heap.size+1) #[.string ⟨#[]⟩,.int .i64 0,.slice none 0 0] 29):=hid (boxn_newE (by simp));go_enter Tryz.func45,Tryz.ntmps45
 go_wp2_with fail
 generalize World.alloc (World.alloc w _) _=W1 at HB1 HND HOC ⊢;go_loopw [6,11] (fun ov i wr=>∃ (k:Nat) (dv:List Value),k≤ts.length∧i=.int .i64 (k:Int)∧Hid (ValsB w wr W1.heap.size ((ts.map tvV).take k) ov dv)∧Hid (((ts.map tvV).take k).length=k)∧Hid (pbAll (ts.take k)=true)∧Hid (Below W1.heap.size W1 wr)) (fun _ i _=>ts.length - (intOf i).toNat)
 case atStart=>exact ⟨0,[],Nat.zero_le _,rfl,hid ⟨rfl,World.ownsRow_nil _ _ _ _,by simp⟩,hid rfl,hid (by simp [pbAll]),hid (Below.refl _ _)⟩
 case round =>
  obtain ⟨k,dv,hk,rfl,hV,hL,hP,hW⟩:=hrel;have HBw:=hid (HB1.out.trans (hW.out.mono HB1.out.size));by_cases hkl:k < ts.length
  ·have hki:(k:Int) < (ts.length:Int):=by omega
   obtain ⟨x,hx⟩:∃ x,ts[k]?=some x:=⟨_,List.getElem?_eq_getElem hkl⟩;obtain ⟨b,off,cap,vd,vx,hv,hb,c0,c1',c2',h1,h2,h3⟩:=tensor_at HS.out hx;obtain ⟨rfl,-,rfl⟩:=Value.slice.inj hv;have u0:=(HBw.out.cell (p:=⟨b,off+k * 3,none⟩) hb).trans c0;have u1:=(HBw.out.cell (p:=⟨b,off+k * 3+1,none⟩) hb).trans c1';have u2:=(HBw.out.cell (p:=⟨b,off+k * 3+2,none⟩) hb).trans c2';have HX:=hid hx;have HTy:=hid h1;have HI0:=hid h2;have H2:=hid (h2.below HBw.out);have H3:=hid (h3.below HBw.out);obtain ⟨ad,cd,rfl⟩:=h2.shape;obtain ⟨ax,cx,rfl⟩:=h3.shape;clear c0 c1' c2' h1 h2 h3 hv hx;go_wp2_with fail
   have hB2:Below wr.heap.size wr (wr.alloc (Obj.cells #[.int .i64 x.1,.slice ad x.2.1.length cd,.slice ax x.2.2.length cx] 46)):=(Below.refl _ _).alloc (Nat.le_refl _) _;have HTB:=hid (BoxN.new wr #[.int .i64 x.1,.slice ad x.2.1.length cd,.slice ax x.2.2.length cx] 46);have H2:=hid (H2.out.below hB2);have H3:=hid (H3.out.below hB2);have hV:=hid (hV.out.below hB2);have hW:=hid (hW.out.trans (hB2.mono hW.out.size));clear u0 u1 u2 hB2;generalize World.alloc wr _=W2 at HTB H2 H3 hV hW ⊢;generalize wr.heap.size=P2 at HTB ⊢;refine (pb_any x.1 x.2.1 x.2.2 H2.out H3.out).mono ?_;rintro e w3 ⟨rfl,B3⟩;have HTB3:=hid (HTB.out.below' B3);have HV3:=hid (hV.out.below B3);have HW3:=hid (hW.out.trans (B3.mono hW.out.size));have HI3:=hid (H2.out.below B3);clear B3 HTB hV hW H3 H2;by_cases hz:pbE x.1 x.2.1 x.2.2=0
   ·have HP':=hid (pbAll_next HX.out hP.out hz);rw [hz];clear hz;have k0:w3.cell? ⟨P2,0,none⟩=some (.int .i64 x.1):=HTB3.out.cell 0 rfl;have k1:w3.cell? ⟨P2,1,none⟩=some (.slice ad x.2.1.length cd):=HTB3.out.cell 1 rfl;have hsw:=HW3.out.size;have hlk:=hL.out;go_wp2_with (at_builtin;refine wpList_append_own _ rfl _ _ 26 rfl W1.heap.size 29 i0 (.agg #[.string ⟨#[]⟩,.int .i64 0,.slice none 0 0]) 3 48 Tryz.underlying26 hi hz0 hz1 hz2 rfl (by decide) _ _ _ rfl (HV3.out.row.alloc _) ⟨w3.heap.size,0,none⟩ 1 1 (#[.string ⟨#[]⟩,.int .i64 x.1,.slice ad x.2.1.length cd]:Array Value).toList rfl rfl (World.news_of_block (heap_alloc_new w3 _)) (by simp [Value.oneCell']) (by unfold maxLen;omega) (by omega) (by simp;omega) ?_)
    intro v' w6 hown' hgrow _;obtain ⟨a6,c6,rfl⟩:=owns_form hown';have hx':=HX.out;have hrE:Hid ((w3.alloc (.cells #[.string ⟨#[]⟩,.int .i64 x.1,.slice ad x.2.1.length cd] 29)).ownsRow W1.heap.size 29 3 _ _ (rowV ((ts.map tvV).take k) dv)):=hid (HV3.out.row.alloc _);have hW6:Below W1.heap.size W1 w6:=(HW3.out.alloc (by omega) _).grown hgrow (by simp;omega) (fun g hg=>by have:=(hrE.out.lt g hg).1;omega);have hT:(ts.map tvV).take (k+1)=(ts.map tvV).take k++[tvV x]:=by rw [List.take_add_one,List.getElem?_map,hx'];rfl
    have HV6:Hid (ValsB w w6 W1.heap.size ((ts.map tvV).take (k+1)) (.slice a6 (k+1) c6) (dv++[.slice ad x.2.1.length cd])):=hid {
     len:=by rw [hT,List.length_append,List.length_append,HV3.out.len];rfl
     row:=by
      rw [hT,rowV_snoc _ _ HV3.out.len.symm,List.length_append,hlk];exact hown'
     att:=fun j y d h1 h2=>by
      rw [hT] at h1;by_cases hj:j < ((ts.map tvV).take k).length
      ·rw [List.getElem?_append_left hj] at h1;rw [List.getElem?_append_left (by rw [HV3.out.len];exact hj)] at h2;exact HV3.out.att j y d h1 h2
      ·rw [List.getElem?_append_right (by omega)] at h1;rw [List.getElem?_append_right (by rw [HV3.out.len];omega),HV3.out.len] at h2;have hj0:j - ((ts.map tvV).take k).length=0:=by
        rcases Nat.eq_zero_or_pos (j - ((ts.map tvV).take k).length) with h | h
        ·exact h
        ·rw [List.getElem?_eq_none (by simp;omega)] at h1;cases h1
       rw [hj0] at h1 h2;have e1:=Option.some.inj h1;obtain rfl:=Option.some.inj h2;rw [←e1];exact ⟨(by show ByteArray.size ⟨#[]⟩≤_;decide),HTy.out,HI0.out⟩ }
    have HW6:=hid hW6;clear hown' hgrow hrE hT;go_wp2
    go_roundw
    case rel=>exact ⟨k+1,_,by omega,by go_num,HV6,hid (by rw [List.length_take,List.length_map];omega),HP',HW6⟩
    case measure=>simp [intOf];omega
   ·have HR:Hid (begO n ts ty ds=(1,0,[])):=hid (begO_bad HX.out hz);have hb':(pbE x.1 x.2.1 x.2.2 != 0)=true:=by simpa using hz
    generalize pbE x.1 x.2.1 x.2.2=q at *;clear hz;have HOC3:=HOC.out.below' HW3.out;have f0:=HOC3.frozen 0;have f1:=HOC3.frozen 1;have f2:=HOC3.frozen 2;have g0:=HOC3.cell 0 rfl;have g1:=HOC3.cell 1 rfl;have g2:=HOC3.cell 2 rfl;have HBE:=hid (HB1.out.trans (HW3.out.mono HB1.out.size));have hend:Hid (BoxN (put3 w3 (w.heap.size+1) (.string ⟨#[]⟩) (.int .i64 0) (.slice none 0 0)) (w.heap.size+1) #[(.string ⟨#[]⟩),(.int .i64 0),(.slice none 0 0)] 29 ∧ Below w.heap.size w (put3 w3 (w.heap.size+1) (.string ⟨#[]⟩) (.int .i64 0) (.slice none 0 0))):=hid ⟨HOC3.put3 _ _ _,below_put3 HBE.out (by omega)⟩;clear HOC3;go_wp2_with fail
    obtain ⟨hx1,hx2⟩:=hend.out;obtain ⟨x0,x1',x2'⟩:=hx1.three;unfold put3 at x0 x1' x2' hx2;exact bodyPost_ret (v:=.tuple #[.agg #[.string ⟨#[]⟩,.int .i64 0,.slice none 0 0],.int .i64 1]) (by simp [results,Tryz.f45,go_sem,x0,x1',x2']) rfl (OutR.no HR.out (by decide) hx2)
  ·have hki:¬ (k:Int) < (ts.length:Int):=by omega
   obtain rfl:k=ts.length:=by omega
   have hP:=hid (by have:=hP.out;rwa [List.take_length] at this);have hV:=hid (by have:=hV.out;rwa [List.take_of_length_le (by simp)] at this);obtain ⟨k0,k1,k2,k3,k4⟩:=(HND.out.below' hW.out).five;have hsl:=hid (hV.out.sl (by simpa using hll) HBw.out);have hpl:=hP.out;have HOU:=hid (out_any (w:=wr) (n:=n) (ins:=ts.map tvV) (ty:=ty) (ds:=ds) (HN.out.below HBw.out) hsl.out (HG.out.below HBw.out) (fun h1 h2 h3 W v hB=>HT.out h1 (by simpa using h2) hpl W v (HBw.out.trans (hB.mono HBw.out.size))) (fun h1 h2 h3 h4 W v hB=>HD.out h1 (by simpa using h2) hpl h4 W v (HBw.out.trans (hB.mono HBw.out.size))));have HE:Hid (begO n ts ty ds=outP n (ts.map tvV) ty ds):=hid (begO_good hpl);clear hpl;go_wp2_with fail
   refine HOU.out.mono ?_;rintro e w5 ⟨B5,hr⟩;have HW5:=hid (hW.out.trans (B5.mono hW.out.size));have HBE:=hid (HBw.out.trans (B5.mono HBw.out.size));have HOC3:=HOC.out.below' HW5.out;have f0:=HOC3.frozen 0;have f1:=HOC3.frozen 1;have f2:=HOC3.frozen 2;have g0:=HOC3.cell 0 rfl;have g1:=HOC3.cell 1 rfl;have g2:=HOC3.cell 2 rfl;have hlt:=HOC.out.lt;have hws:=hW.out.size;clear B5 k0 k1 k2 k3 k4;generalize outP n (ts.map tvV) ty ds=O at *;rcases hr with ⟨hne,rfl⟩ | ⟨h0,v,rfl,hr⟩
   ·have HNE:=hid hne;have hend:Hid (BoxN (put3 w5 (w.heap.size+1) (.string ⟨#[]⟩) (.int .i64 0) (.slice none 0 0)) (w.heap.size+1) #[(.string ⟨#[]⟩),(.int .i64 0),(.slice none 0 0)] 29 ∧ Below w.heap.size w (put3 w5 (w.heap.size+1) (.string ⟨#[]⟩) (.int .i64 0) (.slice none 0 0))):=hid ⟨HOC3.put3 _ _ _,below_put3 HBE.out (by omega)⟩;clear HOC3 hne;go_wp2_with fail
    obtain ⟨hx1,hx2⟩:=hend.out;obtain ⟨x0,x1',x2'⟩:=hx1.three;unfold put3 at x0 x1' x2' hx2;exact bodyPost_ret (v:=.tuple #[.agg #[.string ⟨#[]⟩,.int .i64 0,.slice none 0 0],.int .i64 O.1]) (by simp [results,Tryz.f45,go_sem,x0,x1',x2']) rfl ⟨hx2,Or.inl ⟨by rw [HE.out];exact HNE.out,by rw [HE.out]⟩⟩
   ·have H0:=hid h0;have hrp:RowI (put3 w5 (w.heap.size+1) (.string n.out) (.int .i64 O.2.1) v) w.heap.size v O.2.2:=put3_row hr (by omega) (by omega);have HRP:=hid hrp;obtain ⟨av,cv,rfl⟩:=hr.form;have hend:Hid (BoxN (put3 w5 (w.heap.size+1) (.string n.out) (.int .i64 O.2.1) (.slice av O.2.2.length cv)) (w.heap.size+1) #[(.string n.out),(.int .i64 O.2.1),(.slice av O.2.2.length cv)] 29 ∧ Below w.heap.size w (put3 w5 (w.heap.size+1) (.string n.out) (.int .i64 O.2.1) (.slice av O.2.2.length cv))):=hid ⟨HOC3.put3 _ _ _,below_put3 HBE.out (by omega)⟩;clear HOC3 h0 hr hrp;go_wp2_with fail
    obtain ⟨hx1,hx2⟩:=hend.out;obtain ⟨x0,x1',x2'⟩:=hx1.three;have hrp:=HRP.out;unfold put3 at x0 x1' x2' hx2 hrp;exact bodyPost_ret (v:=.tuple #[.agg #[.string n.out,.int .i64 O.2.1,.slice av O.2.2.length cv],.int .i64 0]) (by simp [results,Tryz.f45,go_sem,x0,x1',x2']) rfl ⟨hx2,Or.inr ⟨by rw [HE.out];exact H0.out,_,by rw [HE.out],by rw [HE.out];exact hrp⟩⟩
end
end Go.Proofs.YtijhdmidffenbaaGreatDoor
