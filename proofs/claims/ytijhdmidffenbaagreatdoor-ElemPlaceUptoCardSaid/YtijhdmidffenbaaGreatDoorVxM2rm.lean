import Derived.Test.YtijhdmidffenbaaGreatDoorVxMrm
import Derived.Test.YtijhdmidffenbaaGreatDoorShelfrm
set_option linter.unusedVariables false
set_option linter.unusedSimpArgs false
namespace Go.Proofs.YtijhdmidffenbaaGreatDoor.Vx
open Go.RowKit Vw
def Box3 (W:World) (b:Nat) (x y z:Value):Prop:=W.heap[b]?=some (.cells #[x,y,z] 78 (0,0))
theorem Box3.c0 {W:World} {b:Nat} {x y z:Value} (h:Box3 W b x y z):W.cell? ⟨b,0,none⟩=some x:=by simp [World.cell?,show W.heap[b]?=_ from h]
theorem Box3.c1 {W:World} {b:Nat} {x y z:Value} (h:Box3 W b x y z):W.cell? ⟨b,1,none⟩=some y:=by simp [World.cell?,show W.heap[b]?=_ from h]
theorem Box3.c2 {W:World} {b:Nat} {x y z:Value} (h:Box3 W b x y z):W.cell? ⟨b,2,none⟩=some z:=by simp [World.cell?,show W.heap[b]?=_ from h]
theorem Box3.modify {W:World} {b:Nat} {x y z:Value} (h:Box3 W b x y z) (j:Nat) (v:Value):(W.setCell ⟨b,j,none⟩ v).heap[b]?=some (.cells (#[x,y,z].setIfInBounds j v) 78 (0,0)):=by
 obtain ⟨hlt,hk⟩:=Array.getElem?_eq_some_iff.1 h;show (W.heap.modify b _)[b]?=_;rw [Array.getElem?_eq_getElem (by rw [Array.size_modify];exact hlt),Array.getElem_modify_self,hk]
 rfl
attribute [local irreducible] cnt strd
end Go.Proofs.YtijhdmidffenbaaGreatDoor.Vx
namespace Go.Proofs.YtijhdmidffenbaaGreatDoor.Vx
open Go.RowKit Vw Vb
def spA (ds ss W:List Int) (j:Nat):Int:=if W.length - ds.length≤j∧ds.getD (j - (W.length - ds.length)) 0=W.getD j 0 then ss.getD (j - (W.length - ds.length)) 0 else 0
def spS (ds ss W:List Int):List Int:=(List.range W.length).map (spA ds ss W)
def spO (off:Int) (ds ss W:List Int):Int × Int × List Int × List Int :=
 if mayV off ds ss=false then (1,0,[],[]) else if (bcO ds W).1≠0 then ((bcO ds W).1,0,[],[]) else if (bcO ds W).2≠W then (4,0,[],[]) else (0,off,W,spS ds ss W)
attribute [local irreducible] cnt mayV bcO outL spS spA spO
end Go.Proofs.YtijhdmidffenbaaGreatDoor.Vx
namespace Go.Proofs.YtijhdmidffenbaaGreatDoor.Vx
open Go.RowKit Vw Vb
theorem strd_le:∀ {zs:List Int},(∀ d ∈ zs,1≤d∧d≤65536)→pr zs≤65536→∀ z ∈ strd zs,1≤z∧z≤65536
 | [],_,_,z,hz=>by simp [strd] at hz
 | d :: ds,h,g,z,hz=>by
  have hp:Pos ds:=fun x hx=>(h x (List.mem_cons_of_mem _ hx)).1;have h1:=pr_pos hp;have hd:=(h d (List.mem_cons_self ..)).1;rw [pr] at g;have h2:pr ds≤65536:=by
   have:=Int.mul_le_mul_of_nonneg_right hd (by omega:0≤pr ds);rw [Int.one_mul] at this;omega
  rw [strd] at hz;rcases List.mem_cons.1 hz with rfl | hz
  ·exact ⟨h1,h2⟩
  ·exact strd_le (fun x hx=>h x (List.mem_cons_of_mem _ hx)) h2 z hz
def Val:List Int→List Int→Prop
 | [],[]=>True
 | d :: ds,c :: cs=>(0≤c∧c < d)∧Val ds cs
 | _,_=>False
theorem val_plc:∀ {ds cs:List Int},Pos ds→Val ds cs→(0≤plc (strd ds) cs∧plc (strd ds) cs < pr ds)∧crd ds (plc (strd ds) cs)=cs
 | [],[],_,_=>by simp [strd,plc,pr,crd]
 | [],_ :: _,_,h=>h.elim
 | _ :: _,[],_,h=>h.elim
 | d :: ds,c :: cs,hp,h=>by
  obtain ⟨⟨h1,h2⟩,h3⟩:=h;obtain ⟨⟨i1,i2⟩,i3⟩:=val_plc hp.tail h3;have hpp:=pr_pos hp.tail;simp only [strd,plc,pr,crd];generalize plc (strd ds) cs=r at *;generalize pr ds=P at *;have m1:0≤c * P:=Int.mul_nonneg h1 (by omega);have m2:(c+1) * P≤d * P:=Int.mul_le_mul_of_nonneg_right (by omega) (by omega);rw [Int.add_mul,Int.one_mul] at m2;have e1:(c * P+r) / P=c:=by
   rw [Int.add_comm,Int.add_mul_ediv_right _ _ (by omega),Int.ediv_eq_zero_of_lt i1 i2];omega
  have e2:(c * P+r) % P=r:=by
   rw [Int.add_comm,Int.add_mul_emod_self_right,Int.emod_eq_of_lt i1 i2]
  rw [e1,e2,i3];exact ⟨⟨by omega,by omega⟩,rfl⟩
theorem crd_val:∀ {ds:List Int} {k:Int},Pos ds→0≤k→k < pr ds→Val ds (crd ds k)
 | [],k,_,_,_=>trivial
 | d :: ds,k,hp,h0,h1=>by
  have hpp:=pr_pos hp.tail;simp only [pr] at h1;refine ⟨⟨Int.ediv_nonneg h0 (by omega),Int.ediv_lt_of_lt_mul (by omega) h1⟩,?_⟩;exact crd_val hp.tail (Int.emod_nonneg k (by omega)) (Int.emod_lt_of_pos k (by omega))
theorem val_length:∀ {ds cs:List Int},Val ds cs→cs.length=ds.length
 | [],[],_=>rfl
 | [],_ :: _,h=>h.elim
 | _ :: _,[],h=>h.elim
 | d :: ds,c :: cs,h=>by simp [val_length h.2]
def ownc:List Int→List Int→List Int
 | d :: ds,c :: cs=>(if d=1 then 0 else c) :: ownc ds cs
 | _,_=>[]
def Cmp:List Int→List Int→Prop
 | [],[]=>True
 | d :: ds,w :: ws=>(d=w∨d=1)∧Cmp ds ws
 | _,_=>False
theorem ownc_val:∀ {ds ws cs:List Int},Cmp ds ws→Val ws cs→Val ds (ownc ds cs)
 | [],[],[],_,_=>trivial
 | d :: ds,w :: ws,c :: cs,h1,h2=>by
  refine ⟨?_,ownc_val h1.2 h2.2⟩;obtain ⟨g1,g2⟩:=h2.1;by_cases f:d=1
  ·rw [if_pos f];omega
  ·rw [if_neg f];have:=h1.1.resolve_right f;omega
 | [],_ :: _,_,h,_=>h.elim
 | _ :: _,[],_,h,_=>h.elim
 | _,_ :: _,[],_,h=>h.elim
 | _,[],_ :: _,_,h=>h.elim
theorem cmp_of:∀ {ds ws:List Int},ws.length=ds.length→(∀ i,i < ds.length→ds.getD i 0=ws.getD i 0∨ds.getD i 0=1)→Cmp ds ws
 | [],[],_,_=>trivial
 | [],_ :: _,h,_=>by simp at h
 | _ :: _,[],h,_=>by simp at h
 | d :: ds,w :: ws,h,g=>⟨by simpa using g 0 (by simp),cmp_of (by simpa using h) fun i hi=>by simpa using g (i+1) (by simpa using hi)⟩
theorem ownc_self:∀ {W cs:List Int},Val W cs→ownc W cs=cs
 | [],[],_=>by simp [ownc]
 | [],_ :: _,h=>h.elim
 | _ :: _,[],h=>h.elim
 | d :: ds,c :: cs,h=>by
  obtain ⟨⟨h1,h2⟩,h3⟩:=h;rw [ownc,ownc_self h3]
  congr 1
  first | omega | (split<;>omega)
end Go.Proofs.YtijhdmidffenbaaGreatDoor.Vx
