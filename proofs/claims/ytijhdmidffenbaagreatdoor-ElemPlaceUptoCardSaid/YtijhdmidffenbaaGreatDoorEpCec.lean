import Derived.Test.YtijhdmidffenbaaGreatDoorSchCorm
import Derived.Test.YtijhdmidffenbaaGreatDoorSchCarm
import Derived.Test.YtijhdmidffenbaaGreatDoorVxMrm
import Derived.Test.YtijhdmidffenbaaGreatDoorViewArm
import Derived.RangeFuncFrom
import Derived.RangeFuncBox
import Derived.RangeFuncLeaves
import Derived.Shelf.Abstract
import Derived.OwnWalkIn
import Derived.TacticsInMore
import Derived.LoopNIn
import Derived.LoopIn
import Derived.Maps.AppendAt
import Derived.Deep.Draws
import Derived.Sort.QuietIn
import Derived.RegionIn
import Derived.Shelf.RegionOpen
import Derived.Test.YtijhdmidffenbaaGreatDoorShelfrm
import Derived.Test.YtijhdmidffenbaaGreatDoorOpenrm
import Derived.Laws.OwnMore
import Derived.Test.YtijhdmidffenbaaGreatDoorVxM2rm
import Derived.Test.YtijhdmidffenbaaGreatDoorInM2rm
import Derived.Test.YtijhdmidffenbaaGreatDoorSchPrm
import Derived.Test.YtijhdmidffenbaaGreatDoorGrArm
import Derived.Test.YtijhdmidffenbaaGreatDoorFlMrm
import Derived.Test.YtijhdmidffenbaaGreatDoorInM1rm
import Derived.Test.YtijhdmidffenbaaGreatDoorNmM2rm
import Derived.Test.YtijhdmidffenbaaGreatDoorRegrm
import Derived.BigQuiet
import Derived.Deep.QuietTactic
import Derived.Defers
import Derived.Recover
import Derived.Test.YtijhdmidffenbaaGreatDoorSchQrm
import Derived.Test.YtijhdmidffenbaaGreatDoorInM3rm
import Derived.Test.YtijhdmidffenbaaGreatDoorFlM2rm
import Derived.Test.YtijhdmidffenbaaGreatDoorJaM5rm
import Derived.Test.YtijhdmidffenbaaGreatDoorJaM3rm
import Derived.Test.YtijhdmidffenbaaGreatDoorJaM2rm
import Derived.Test.YtijhdmidffenbaaGreatDoorJaM4rm
set_option linter.unusedVariables false
set_option linter.unusedSimpArgs false
namespace Go.Proofs.YtijhdmidffenbaaGreatDoor
open Go.RowKit
theorem owns_apart {w:World} {b0 b1:Nat} {e1 e2:TypeId} {z1 z2 n1 n2:Nat} {v1 v2:Value} {x1 x2:List Value} (h1:w.ownsRow b0 e1 z1 v1 n1 x1) (h2:w.ownsRow b1 e2 z2 v2 n2 x2) (hne:e1≠e2):v1.ownBlock=none∨v1.ownBlock≠v2.ownBlock:=by
 rcases h1.2 with ⟨rfl,_⟩ | ⟨g,cap,cur,rfl,_,hg,_⟩
 ·exact .inl rfl
 ·right;rcases h2.2 with ⟨rfl,_⟩ | ⟨g',cap',cur',rfl,_,hg',_⟩
  ·simp [Value.ownBlock]
  ·intro e;simp [Value.ownBlock] at e;subst e;rw [hg] at hg';simp only [Option.some.injEq,Obj.cells.injEq] at hg';exact hne hg'.2.1
end Go.Proofs.YtijhdmidffenbaaGreatDoor

open Go.Lib (hid)
set_option linter.unusedVariables false
set_option linter.unusedSimpArgs false
namespace Go.Proofs.YtijhdmidffenbaaGreatDoor.Vx
open Go.RowKit
theorem any_next {zs:List Int} {k:Nat} (h:k < zs.length) (p:Int→Bool):(zs.drop k).any p=(p (zs.getD k 0) || (zs.drop (k+1)).any p):=by
 rw [drop_next h];rfl
theorem mul_top {n d:Int} (h1:1≤n) (h2:n≤65536) (h3:1≤d) (h:d≤65536):n * d≤4294967296:=by
 have:n * d≤65536 * 65536:=Int.mul_le_mul h2 h (by omega) (by omega);omega
attribute [local irreducible] cnt cntLoop
theorem rcount_empty (a0:Option Addr) (cap:Nat) (w:World) :
  Calls Tryz.prog 14 #[.slice a0 0 cap] w fun e w'=>e=.returned (.tuple #[.int .i64 (cnt []).1,.int .i64 (cnt []).2])∧w=w':=by
 have e:cnt []=(1,0):=by unfold cnt;unfold cntLoop;decide
 rw [e];go_enter Tryz.func14,Tryz.ntmps14
 go_wp2
 go_rounds 1
 go_wp2
 go_rounds 1
 go_wp2
 go_ret2
 exact ⟨rfl,rfl⟩
theorem rcount_any {w:World} {v:Value} {zs:List Int} (h:IntsIn w v zs) :
  Calls Tryz.prog 14 #[v] w fun e w'=>e=.returned (.tuple #[.int .i64 (cnt zs).1,.int .i64 (cnt zs).2])∧w=w':=by
 cases h with
 | empty a0 cap=>exact rcount_empty a0 cap w
 | row b off cap _ h0 hc hb hr hlen hw=>exact rcount_row b off cap zs hlen (hid hw) w (hid hr)
end Go.Proofs.YtijhdmidffenbaaGreatDoor.Vx
namespace Go.Proofs.YtijhdmidffenbaaGreatDoor.Vx
namespace Vw
def nxt:List Int→List Int→Option (List Int)
 | d :: ds,c :: cs=>match nxt ds cs with
  | some t=>some (c :: t)
  | none=>if c+1 < d then some ((c+1) :: zeros ds) else none
 | _,_=>none
theorem nxt_crd:∀ {ds:List Int} {k:Int},Pos ds→0≤k→k < pr ds→nxt ds (crd ds k)=if k+1 < pr ds then some (crd ds (k+1)) else none
 | [],k,_,h0,h1=>by
  have:k=0:=by simp [pr] at h1;omega
  subst this;simp [nxt,pr]
 | d :: ds,k,h,h0,h1=>by
  have hP:=pr_pos h.tail;have hd:=h.head;have hm0:=Int.emod_nonneg k (show pr ds≠0 by omega);have hm1:=Int.emod_lt_of_pos k (show 0 < pr ds by omega);have ih:=nxt_crd (ds:=ds) (k:=k % pr ds) h.tail hm0 hm1;have hdm:=Int.mul_ediv_add_emod k (pr ds);have hq0:0≤k / pr ds:=Int.ediv_nonneg h0 (by omega);have hqd:k / pr ds < d:=Int.ediv_lt_of_lt_mul (by omega) h1;show (match nxt ds (crd ds (k % pr ds)) with | some t=>some (k / pr ds :: t) | none=>if k / pr ds+1 < d then some ((k / pr ds+1) :: zeros ds) else none)=if k+1 < d * pr ds then some ((k+1) / pr ds :: crd ds ((k+1) % pr ds)) else none;rw [ih];generalize pr ds=P at *;generalize hq:k / P=q at *;generalize hr:k % P=r at *;by_cases g:r+1 < P
  ·rw [if_pos g];have e1:(k+1) / P=q:=by
    rw [←hdm,show P * q+r+1=(r+1)+P * q by omega,Int.add_mul_ediv_left _ _ (by omega),Int.ediv_eq_zero_of_lt (by omega) g];omega
   have e2:(k+1) % P=r+1:=by
    rw [←hdm,show P * q+r+1=(r+1)+P * q by omega,Int.add_mul_emod_self_left,Int.emod_eq_of_lt (by omega) g]
   have e3:k+1 < d * P:=by
    have:(q+1) * P≤d * P:=Int.mul_le_mul_of_nonneg_right (by omega) (by omega);have e4:(q+1) * P=P * q+P:=by rw [Int.add_mul,Int.mul_comm];omega
    omega
   rw [if_pos e3,e1,e2]
  ·rw [if_neg g];have hr1:r+1=P:=by omega
   have e0:k+1=P * (q+1):=by rw [←hdm,Int.mul_add];omega
   have e1:(k+1) / P=q+1:=by rw [e0,Int.mul_ediv_cancel_left _ (by omega)]
   have e2:(k+1) % P=0:=by rw [e0,Int.mul_emod_right]
   by_cases g2:q+1 < d
   ·have e3:k+1 < d * P:=by
     rw [e0,Int.mul_comm];exact Int.mul_lt_mul_of_pos_right g2 (by omega)
    simp only [if_pos g2,if_pos e3,e1,e2,crd_zero]
   ·have e3:¬ k+1 < d * P:=by
     have:d * P≤(q+1) * P:=Int.mul_le_mul_of_nonneg_right (by omega) (by omega);rw [e0,Int.mul_comm P];omega
    simp only [if_neg g2,if_neg e3]
theorem crd_range:∀ {ds:List Int} {k:Int},Pos ds→0≤k→k < pr ds→∀ j,j < ds.length→0≤(crd ds k).getD j 0∧(crd ds k).getD j 0 < ds.getD j 0
 | [],k,_,_,_,j,hj=>by simp at hj
 | d :: ds,k,h,h0,h1,j,hj=>by
  have hP:=pr_pos h.tail;cases j with
  | zero =>
   show 0≤k / pr ds∧k / pr ds < d;exact ⟨Int.ediv_nonneg h0 (by omega),Int.ediv_lt_of_lt_mul (by omega) h1⟩
  | succ j =>
   have:=crd_range (ds:=ds) (k:=k % pr ds) h.tail (Int.emod_nonneg k (by omega)) (Int.emod_lt_of_pos k (by omega)) j (by simpa using hj)
   simpa [crd] using this
theorem nxt_at:∀ {ds cs:List Int} {i:Nat} {t:List Int},cs.length=ds.length→i≤ds.length→nxt (ds.drop i) (cs.drop i)=some t→nxt ds cs=some (cs.take i++t)
 | ds,cs,0,t,_,_,h=>by simpa using h
 | [],cs,i+1,t,_,hi,_=>by simp at hi
 | d :: ds,[],i+1,t,hl,_,_=>by simp at hl
 | d :: ds,c :: cs,i+1,t,hl,hi,h=>by
  have:=nxt_at (ds:=ds) (cs:=cs) (i:=i) (t:=t) (by simpa using hl) (by simpa using hi) (by simpa using h);simp [nxt,this]
theorem nxt_here {ds cs:List Int} {i:Nat} (hl:cs.length=ds.length) (hi:i < ds.length) (h:nxt (ds.drop (i+1)) (cs.drop (i+1))=none) :
  nxt (ds.drop i) (cs.drop i)=if cs.getD i 0+1 < ds.getD i 0 then some ((cs.getD i 0+1) :: zeros (ds.drop (i+1))) else none:=by
 rw [drop_next hi,drop_next (zs:=cs) (by omega)];simp only [nxt,h]
theorem plc_split:∀ {ss cs:List Int} {i:Nat},i≤ss.length→i≤cs.length→plc ss cs=plc (ss.take i) (cs.take i)+plc (ss.drop i) (cs.drop i)
 | ss,cs,0,_,_=>by simp [plc]
 | [],_,i+1,h,_=>by simp at h
 | _ :: _,[],i+1,_,h=>by simp at h
 | s :: ss,c :: cs,i+1,h,g=>by
  have:=plc_split (ss:=ss) (cs:=cs) (i:=i) (by simpa using h) (by simpa using g);simp only [plc,List.take_succ_cons,List.drop_succ_cons];omega
theorem plc_zeros:∀ {ss ds:List Int},plc ss (zeros ds)=0
 | [],_=>by simp [plc]
 | s :: ss,[]=>by simp [plc,zeros]
 | s :: ss,d :: ds=>by simp [plc,zeros,plc_zeros]
end Vw
end Go.Proofs.YtijhdmidffenbaaGreatDoor.Vx
namespace Go.Proofs.YtijhdmidffenbaaGreatDoor.Vx
open Go Go.RowKit
variable {F:Fence} {n:Nat} {P:Program}
def SeqCells (F:Fence) (n:Nat) (P:Program) (g:Nat) (lb:Array Value) (Kp:World→World→Prop) (B:Nat) (all:List Int) (w:World):Prop :=
 ∀ (l:Nat) (J Jx:List Int→World→Prop) (W:World),Below w.heap.size w W→W.heap.size=B→AbC B J→AbC B Jx →
  (∀ pre x W1,J pre W1→B < W1.heap.size→(∃ rest,all=pre++x :: rest)→YieldAt F (n - 1) P l #[.int .i64 x] W1 fun e W' =>
   (e=.returned (.bool true)∧J (pre++[x]) W'∧Kp W1 W')∨(e=.returned (.bool false)∧Jx (pre++[x]) W')) →
  J [] W →
  CallsIn F n P g (#[.func (.yield l) #[] #[]]++lb) W fun e W'=>(∃ v,e=.returned v)∧(J all W'∨∃ pre,Jx pre W')
def bodyEnd (Kp:World→World→Prop) (I Ix:List Int→World→Prop) (xs:List Int) (W:World):Exit→Act→World→Prop
 | .normal,_,W'=>KeepsOthers W W'∧Kp W W'∧I xs W'
 | .ret,_,W'=>KeepsOthers W W'∧Ix xs W'
 | _,_,_=>False
theorem keep_block {A A':World} {row:Option Nat} {B l:Nat} {o:Obj} (hg:A.grownBy A' row) (hr:∀ r,row=some r→r=B) (hl:A.heap[l]?=some o) (hne:l≠B):A'.heap[l]?=some o :=
 (hg.block l (Array.getElem?_eq_some_iff.1 hl).1 (fun e=>hne (hr l e.symm))).trans hl
theorem range_cells {g:Operand} {p:Tmp} {assign body:Code} {Q:Exit→Act→World→Prop} {a:Act} {w:World}
  (hro:F.round=none) (h1:1≤n) {gf:Nat} {lb:Array Value} (hg:a.eval g=.func (.func gf) #[] lb) (hF:F.fn gf) (eg:∀ args w,(callFunc gf args).run P w=.ok (.enter gf args) w)
  {Kp:World→World→Prop} {all:List Int} {w0:World} (hseq:SeqCells F (n - 1) P gf lb Kp (w.heap.size+2) all w0) (hb0:Below w0.heap.size w0 w)
  (hKt:∀ {A B C:World},Kp A B→Kp B C→Kp A C) (hKl:∀ (W:World) (o o':Obj),W.heap[w.heap.size+1]?=some o→Kp W (W.putObj (w.heap.size+1) o'))
  (I Ix:List Int→World→Prop) (hI:OwnFrom w.heap.size I) (hIx:OwnFrom w.heap.size Ix) (hIc:AbC (w.heap.size+2) I) (hIxc:AbC (w.heap.size+2) Ix) (h0:I [] w) (a₁:Int→Act)
  (hassign:∀ (l:Nat) (x:Int) (W:World) (K:Act→World→Prop),K (a₁ x) W →
   assign.wpIn (F.inRound l) (n - 1 - 1) P (Exit.then K (fun _ _ _=>False)) { tmps:=a.tmps.setIfInBounds p (.int .i64 x),defers:=[] } W)
  (hbody:∀ (l:Nat) (pre:List Int) (x:Int) (W:World),I pre W→w.heap.size+2 < W.heap.size→(∃ rest,all=pre++x :: rest)→body.wpIn (F.inRound l) (n - 1 - 1) P (bodyEnd Kp I Ix (pre++[x]) W) (a₁ x) W)
  (hdone:∀ (D:Nat) (W:World),w.heap.size≤D→I all W→W.heap[D]?=some (.deferred (some []))→Q .normal { a with defers:={ target:=.collected D,args:=#[] } :: a.defers } W)
  (hstop:∀ (D:Nat) (pre:List Int) (W:World),w.heap.size≤D→Ix pre W→W.heap[D]?=some (.deferred (some []))→Code.ret.wpIn F n P Q { a with defers:={ target:=.collected D,args:=#[] } :: a.defers } W) :
  (Code.rangeFunc g #[p] assign body).wpIn F n P Q a w:=by
 refine wpIn_rangeFunc fun fn hfn=>?_;rw [hro];obtain ⟨rec,hrec⟩:∃ rec:LoopState→Option Code→Loop,rec=fun st pe=>{ state:=st,pending:=pe,fn,tmps:=a.tmps,params:=#[p],assign,body,defers:=w.heap.size }:=⟨_,rfl⟩;generalize hS:w.heap.size=S at *;obtain ⟨W1,hW1⟩:∃ W1,(w.alloc (.deferred (some []))).alloc (.loop (rec .ready none))=W1:=⟨_,rfl⟩;have z1:W1.heap.size=S+2:=by rw [←hW1];simp [hS]
 have l1:W1.heap[S+1]?=some (.loop (rec .ready none)):=by
  have:=World.alloc_heap_new (w.alloc (.deferred (some []))) (.loop (rec .ready none));rw [World.size_alloc,hS] at this;rw [←hW1];exact this
 have d1:W1.heap[S]?=some (.deferred (some [])):=by
  rw [←hW1,Below.heap_alloc _ _ _ (by simp [hS])];have:=World.alloc_heap_new w (.deferred (some []))
  rwa [hS] at this
 have i1:I [] W1:=by rw [←hW1];exact hI.alloc _ (hI.alloc _ h0)
 have b1:Below w0.heap.size w0 W1:=by
  rw [←hW1];exact (hb0.alloc hb0.size _).alloc (by have:=hb0.size;simp;omega) _
 refine ⟨S+1,[{ target:=.collected S,args:=#[] }],W1,{ target:=.fn (.func gf) lb,args:=#[.func (.yield (S+1)) #[] #[]] },W1,gf,#[.func (.yield (S+1)) #[] #[]]++lb,W1,?_,?_,?_,?_,fun _=>h1,?_⟩
 ·rw [←hW1,hrec,←hS];exact run_enterLoop_outer _ _ _ _ _
 ·simp only [resolve,hg];simp [go_sem]
 ·intro f' hf';simp [Target.leads] at hf';subst hf';exact hF
 ·simp [invoke,go_sem,eg]
 have step:∀ (K:List Int→World→Prop),AbC (S+2) K→∀ o:Obj,AbC (S+2) (fun pre W=>K pre W∧W.heap[S+1]?=some o∧W.heap[S]?=some (.deferred (some []))):=fun K hK o s A A' row hs hg' hr =>
  ⟨hK s A A' row hs.1 hg' hr,keep_block hg' hr hs.2.1 (by omega),keep_block hg' hr hs.2.2 (by omega)⟩
 refine (hseq (S+1) (fun pre W=>I pre W∧W.heap[S+1]?=some (.loop (rec .ready none))∧W.heap[S]?=some (.deferred (some [])))
  (fun pre W=>Ix pre W∧W.heap[S+1]?=some (.loop (rec .done (some .ret)))∧W.heap[S]?=some (.deferred (some []))) W1 b1 z1 (step I hIc _) (step Ix hIxc _) ?_ ⟨i1,l1,d1⟩).mono ?_
 ·rintro pre x W ⟨hi,hl,hd⟩ hz hx;have hlt:S+1 < W.heap.size:=(Array.getElem?_eq_some_iff.1 hl).1;have hy:=run_yield (P:=P) (args:=#[.int .i64 x]) hl (by rw [hrec];rfl);rw [hrec] at hy;refine ⟨fn,_,assign,body,hy,roundIn_of_wpIn hfn ?_⟩;have ez:((#[p].zip #[Value.int .i64 x]).foldl (fun t (p,v)=>t.setIfInBounds p v) a.tmps)=a.tmps.setIfInBounds p (.int .i64 x):=by simp
  rw [ez];refine hassign _ x W _ ?_;refine ⟨_,run_beginRound hl (by rw [hrec]),?_⟩;generalize hW2:W.putObj (S+1) (.loop { rec .ready none with state:=.busy })=W2;have l2:W2.heap[S+1]?=some (.loop { rec .ready none with state:=.busy }):=by rw [←hW2];exact World.putObj_heap_same hlt
  have d2:W2.heap[S]?=some (.deferred (some [])):=by rw [←hW2];exact (World.putObj_heap_other (by omega)).trans hd
  have k2:Kp W W2:=by rw [←hW2];exact hKl _ _ _ hl
  have i2:I pre W2:=by rw [←hW2];exact hI.putObj _ hi (by omega) hl rfl
  have z2:S+2 < W2.heap.size:=by rw [←hW2];simpa [World.putObj] using hz
  refine wpIn_mono (hbody _ pre x W2 i2 z2 hx) ?_;rintro e a3 W3 hp;have fin:∀ (jump:Option Code),KeepsOthers W2 W3→W3.heap[S+1]?=some (.loop { rec .ready none with state:=.busy })∧W3.heap[S]?=some (.deferred (some [])) ∧
    (Instr.endRound (S+1) jump).run P W3=.ok (.bool jump.isNone) (W3.putObj (S+1) (.loop (rec (if jump.isNone then .ready else .done) jump))):=fun jump hk=>by
   have l3:=hk.same _ _ l2 rfl;refine ⟨l3,hk.same _ _ d2 rfl,?_⟩;have:=run_endRound (P:=P) jump l3;rw [hrec] at this ⊢;exact this
  have own:∀ o',W3.heap[S+1]?=some (.loop { rec .ready none with state:=.busy })→(W3.putObj (S+1) o').heap[S+1]?=some o':=fun o' h=>World.putObj_heap_same (Array.getElem?_eq_some_iff.1 h).1;cases e with
  | normal =>
   obtain ⟨hk,hkp,hi3⟩:=hp;obtain ⟨l3,d3,hr⟩:=fin none hk;exact ⟨_,_,hr,.inl ⟨rfl,⟨hI.putObj _ hi3 (by omega) l3 rfl,own _ l3,(World.putObj_heap_other (by omega)).trans d3⟩,hKt (hKt k2 hkp) (hKl _ _ _ l3)⟩⟩
  | ret =>
   obtain ⟨hk,hi3⟩:=hp;obtain ⟨l3,d3,hr⟩:=fin (some .ret) hk;exact ⟨_,_,hr,.inr ⟨rfl,hIx.putObj _ hi3 (by omega) l3 rfl,own _ l3,(World.putObj_heap_other (by omega)).trans d3⟩⟩
  | exit id=>exact hp.elim
  | goto t=>exact hp.elim
  | panic ch=>exact hp.elim
  | outgrown=>exact hp.elim
 ·rintro e W2 ⟨⟨v,rfl⟩,(⟨hi,hl,hd⟩ | ⟨pre,hi,hl,hd⟩)⟩
  all_goals
   have he:=run_endLoop (P:=P) hl (by rw [hrec];simp);rw [hrec] at he
  ·exact ⟨none,_,he,hdone _ _ (by omega) (hI.putObj _ hi (by omega) hl rfl) ((World.putObj_heap_other (by omega)).trans hd)⟩
  ·exact ⟨some .ret,_,he,hstop _ pre _ (by omega) (hIx.putObj _ hi (by omega) hl rfl) ((World.putObj_heap_other (by omega)).trans hd)⟩
end Go.Proofs.YtijhdmidffenbaaGreatDoor.Vx
namespace Go.Proofs.YtijhdmidffenbaaGreatDoor.Vx
open Go.RowKit
attribute [local irreducible] cnt
set_option maxHeartbeats 1000000 in
theorem fine_any {w:World} {off:Int} {d s:Value} {ds ss:List Int} (hd:IntsIn w d ds) (hs:IntsIn w s ss) :
  Calls Tryz.prog 84 #[.agg #[.int .i64 off,d,s]] w fun e w'=>e=.returned (.bool (mayV off ds ss))∧Below w.heap.size w w':=by
 have hb:Below w.heap.size w (w.alloc (.cells #[.int .i64 off,d,s] 78)):=(Below.refl _ w).alloc (Nat.le_refl _) _;have HC:=hid (count_any (hd.below hb));have HF:=hid (containsLow_any (hs.below hb) (.func (.func 140) #[] #[]) _ (Or.inr ⟨rfl,rfl⟩));obtain ⟨a1,c1,rfl⟩:=hd.form;obtain ⟨a2,c2,rfl⟩:=hs.form;have hl1:=hd.wf.1;have hl2:=hs.wf.1;have HB:=hid hb;have e:Hid (mayV off ds ss=(decide ((cnt ds).2=0)&&decide (ss.length=ds.length)&&decide (0≤off)&&decide (off < 65536) && !ss.any (fun d=>decide (d < 0∨65536 < d)))):=hid rfl;generalize cnt ds=cc at *;generalize ss.any (fun d=>decide (d < 0∨65536 < d))=fa at *;clear hd hs hb;go_enter Tryz.func84,Tryz.ntmps84
 go_wp2_with (first | (go_at_call 31;refine HC.out.mono ?_;rintro e w' ⟨rfl,rfl⟩) | (go_at_call 60;refine HF.out.mono ?_;rintro e w' ⟨rfl,rfl⟩))
 all_goals
  go_ret
  go_light
  refine ⟨ret_val (bool_val ?_),HB.out⟩;rw [e.out]
  grind
end Go.Proofs.YtijhdmidffenbaaGreatDoor.Vx
namespace Go.Proofs.YtijhdmidffenbaaGreatDoor.Vx
open Go.RowKit Go.Shelf Vw
attribute [local go_sem] Oper.semAt_some
open Classical in
theorem left_eq {B:Nat} {ds:List Int} {w:World} {k:Int} (hp:Pos ds) (h0:0≤k) (h1:k < pr ds) (h:RowAt w B (crd ds k)):left B ds w=(pr ds - k).toNat:=by
 have hex:∃ k:Int,0≤k∧k < pr ds∧RowAt w B (crd ds k):=⟨k,h0,h1,h⟩;unfold left;rw [dif_pos hex];obtain ⟨a,b,c⟩:=Classical.choose_spec hex;have e:crd ds (Classical.choose hex)=crd ds k:=by
  have:=(show w.heap[B]?=_ from c).symm.trans h;simp only [Option.some.injEq,Obj.cells.injEq,intCells,and_true] at this;have h2:=congrArg Array.toList this;simp only at h2;exact (List.map_inj_right (fun x y e=>by injection e)).1 h2
 rw [crd_inj hp a b h0 h1 e]
theorem places_length (off:Int) (ds ss:List Int) (n:Nat):(places off ds ss n).length=n:=by simp [places]
theorem places_next (off:Int) (ds ss:List Int) (k:Nat):places off ds ss (k+1)=places off ds ss k++[off+plc ss (crd ds (k:Int))]:=by
 simp [places,List.range_succ]
theorem places_part (off:Int) (ds ss:List Int) {k n:Nat} (h:k < n):∃ rest,places off ds ss n=places off ds ss k++(off+plc ss (crd ds (k:Int))) :: rest:=by
 refine ⟨((List.range (n - (k+1))).map (fun (j:Nat)=>off+plc ss (crd ds ((k+1+j:Nat):Int)))),?_⟩;have e:n=(k+1)+(n - (k+1)):=by omega
 have:List.range n=List.range (k+1)++(List.range (n - (k+1))).map (k+1 + ·):=by
  conv=>lhs;rw [e]
  exact List.range_add
 unfold places;rw [this,List.map_append,List.range_succ,List.map_append];simp
end Go.Proofs.YtijhdmidffenbaaGreatDoor.Vx
namespace Go.Proofs.YtijhdmidffenbaaGreatDoor.Vx
open Go.RowKit Go.Shelf Vw
attribute [local go_sem] Oper.semAt_some
theorem grown_set (W:World) (b j:Nat) (v:Value):W.grownBy (W.setCell ⟨b,j,none⟩ v) (some b) :=
 ⟨rfl,rfl,rfl,(KeepsWalks.setCell W _ v).size,fun k _ hk=>Below.heap_setCell _ _ _ k (fun e=>hk (by rw [e]))⟩
def Keep (n₁ bv B:Nat) (A A':World):Prop:=Below n₁ A A'∧A'.heap[bv]?=A.heap[bv]? ∧ A'.heap[B]?=A.heap[B]?
variable {w0:World} {bv B:Nat} {off:Int} {a1 a2:Option Addr} {c1 c2 r:Nat} {J:List Int→World→Prop} {pre xs:List Int} {W:World}
theorem St.set (h:St w0 bv B off a1 a2 c1 c2 r J pre xs W) (hJ:AbC B J) (hbv:bv≠B) (hB:w0.heap.size≤B) (j:Nat) (x:Int):St w0 bv B off a1 a2 c1 c2 r J pre (xs.set j x) (W.setCell ⟨B,j,none⟩ (.int .i64 x)) :=
 ⟨⟨(Below.heap_setCell _ _ _ bv hbv).trans h.1.box,h.1.below.setCell (p:=⟨B,j,none⟩) hB _⟩,h.2.1.set j x,hJ _ _ _ _ h.2.2 (grown_set W B j _) (fun r e=>by cases e;rfl)⟩
theorem St.box0 (h:St w0 bv B off a1 a2 c1 c2 r J pre xs W):W.cell? ⟨bv,0,none⟩=some (.int .i64 off):=by simp [World.cell?,h.1.box]
theorem St.box1 (h:St w0 bv B off a1 a2 c1 c2 r J pre xs W):W.cell? ⟨bv,1,none⟩=some (.slice a1 r c1):=by simp [World.cell?,h.1.box]
theorem St.box2 (h:St w0 bv B off a1 a2 c1 c2 r J pre xs W):W.cell? ⟨bv,2,none⟩=some (.slice a2 r c2):=by simp [World.cell?,h.1.box]
theorem plc_bound:∀ {ss cs:List Int},(∀ s ∈ ss,0≤s∧s≤65536)→(∀ c ∈ cs,0≤c∧c≤65536)→0≤plc ss cs∧plc ss cs≤cs.length * 4294967296
 | [],cs,_,_=>by simp [plc];omega
 | s :: ss,[],_,_=>by simp [plc]
 | s :: ss,c :: cs,h,g=>by
  have ih:=plc_bound (ss:=ss) (cs:=cs) (fun x hx=>h x (by simp [hx])) (fun x hx=>g x (by simp [hx]));have h1:=h s (by simp);have g1:=g c (by simp);have m0:0≤c * s:=Int.mul_nonneg g1.1 h1.1;have m1:c * s≤65536 * 65536:=Int.mul_le_mul g1.2 h1.2 h1.1 (by decide);simp only [plc,List.length_cons];omega
theorem take_set {c:List Int} {i:Nat} {t:List Int} {x:Int} (hi:i < c.length):(c.take (i+1)++t).set i x=c.take i++x :: t:=by
 rw [List.take_add_one,List.getElem?_eq_getElem hi];simp only [Option.toList_some,List.append_assoc];rw [List.set_append_right _ _ (by simp;omega)];simp [Nat.min_eq_left (Nat.le_of_lt hi)]
theorem set_at {c:List Int} {i:Nat} {t:List Int} {x y:Int} (hi:i≤c.length):(c.take i++x :: t).set i y=c.take i++y :: t:=by
 rw [List.set_append_right _ _ (by simp;omega)];simp [Nat.min_eq_left hi]
theorem take_get {c:List Int} {i:Nat} {t:List Int} (hi:i < c.length):(c.take (i+1)++t).getD i 0=c.getD i 0:=by
 rw [List.getD_eq_getElem?_getD,List.getElem?_append_left (by simp;omega),List.getElem?_take_of_lt (by omega)];simp [List.getD]
theorem here_get {c:List Int} {i:Nat} {t:List Int} {x:Int} (hi:i≤c.length):(c.take i++x :: t).getD i 0=x:=by
 rw [List.getD_eq_getElem?_getD,List.getElem?_append_right (by simp;omega)];simp [Nat.min_eq_left hi]
theorem plc_take {ss c:List Int} {i:Nat} (h:i < ss.length) (g:i < c.length):plc (ss.take (i+1)) (c.take (i+1))=plc (ss.take i) (c.take i)+c.getD i 0 * ss.getD i 0:=by
 have h1:=plc_split (ss:=ss.take (i+1)) (cs:=c.take (i+1)) (i:=i) (by simp;omega) (by simp;omega);have e1:(ss.take (i+1)).drop i=[ss.getD i 0]:=by
  rw [List.drop_take,drop_next h];simp
 have e2:(c.take (i+1)).drop i=[c.getD i 0]:=by
  rw [List.drop_take,drop_next g];simp
 rw [h1,e1,e2,List.take_take,List.take_take,Nat.min_eq_left (by omega)];simp [plc]
theorem plc_here {ss c:List Int} {ds:List Int} {i:Nat} {x:Int} (h:i < ss.length) (g:i≤c.length):plc ss (c.take i++x :: zeros ds)=plc (ss.take i) (c.take i)+x * ss.getD i 0:=by
 have h1:=plc_split (ss:=ss) (cs:=c.take i++x :: zeros ds) (i:=i) (by omega) (by simp;omega);rw [h1,List.take_append_of_le_length (by simp;omega),List.take_take,Nat.min_self,List.drop_append_of_le_length (by simp;omega)];have e0:(c.take i).drop i=[]:=List.drop_eq_nil_of_le (by simp;omega);rw [e0,drop_next h];simp [plc,plc_zeros]
theorem St.set0 {c t:List Int} {i:Nat} {x:Int} (h:St w0 bv B off a1 a2 c1 c2 r J pre (c.take i++x :: t) W) (hJ:AbC B J) (hbv:bv≠B) (hB:w0.heap.size≤B) (hi:i≤c.length) (y:Int) :
  St w0 bv B off a1 a2 c1 c2 r J pre (c.take i++y :: t) (W.setCell ⟨B,i,none⟩ (.int .i64 y)):=by
 have:=h.set hJ hbv hB i y
 rwa [set_at hi] at this
end Go.Proofs.YtijhdmidffenbaaGreatDoor.Vx
namespace Go.Proofs.YtijhdmidffenbaaGreatDoor.Vx
open Go.RowKit Go.Shelf Vw
attribute [local go_sem] Oper.semAt_some
attribute [local irreducible] crd plc zeros pr nxt places
theorem nxt_nil:nxt [] []=none:=by unfold nxt;rfl
theorem zeros_nil:zeros []=[]:=by unfold zeros;rfl
theorem zeros_cons {d:Int} {ds:List Int}:zeros (d :: ds)=0 :: zeros ds:=by rw [zeros]
set_option maxRecDepth 100000 in
set_option maxHeartbeats 4000000 in
theorem places_walk (n:Nat) (hn:1≤n) (l:Nat) (w0:World) (bv B:Nat) (off:Int) (a1 a2:Option Addr) (c1 c2:Nat) (ds ss:List Int)
  (hd:Hid (RowsAt w0 a1 ds)) (hs:Hid (RowsAt w0 a2 ss)) (hss:ss.length=ds.length) (hlen:ds.length≤6) (hD:Hid (∀ d ∈ ds,1≤d∧d≤65536)) (hS:Hid (∀ s ∈ ss,0≤s∧s≤65536)) (ho0:0≤off) (ho1:off≤65535)
  (J Jx:List Int→World→Prop) (hJ:Hid (AbC B J)) (hJx:Hid (AbC B Jx))
  (hY:Hid (∀ pre x W1,J pre W1→B < W1.heap.size→(∃ rest,places off ds ss (pr ds).toNat=pre++x :: rest)→YieldAt Fence.wide (n - 1) Tryz.prog l #[.int .i64 x] W1 fun e W' =>
   (e=.returned (.bool true)∧J (pre++[x]) W'∧Keep w0.heap.size bv B W1 W')∨(e=.returned (.bool false)∧Jx (pre++[x]) W')))
  (W:World) (hW:W.heap.size=B) (hbv:bv < B) (hw0:w0.heap.size≤B) (hst:Stands w0 bv off a1 a2 c1 c2 ds.length W) (h0:J [] W) :
  CallsIn Fence.wide n Tryz.prog 141 #[.func (.yield l) #[] #[],.pointer (some ⟨bv,0,none⟩)] W fun e W'=>(∃ v,e=.returned v)∧(J (places off ds ss (pr ds).toNat) W'∨∃ pre,Jx pre W'):=by
 have hpos:Hid (Pos ds):=hid fun d hd'=>(hD.out d hd').1;have hP:=hid (pr_pos hpos.out);have hmk:=fun w=>run_make_ints w ds.length (by omega);have b0:W.cell? ⟨bv,0,none⟩=some (.int .i64 off):=by simp [World.cell?,hst.box]
 have b1:W.cell? ⟨bv,1,none⟩=some (.slice a1 ds.length c1):=by simp [World.cell?,hst.box]
 have hst0:Hid (St w0 bv B off a1 a2 c1 c2 ds.length J [] (crd ds 0) (W.alloc (.cells (intCells (List.replicate ds.length 0)) 3))):=hid ⟨⟨(Below.heap_alloc W _ bv (by omega)).trans hst.box,hst.below.alloc (by omega) _⟩,
  by rw [crd_zero,zeros_rep,←hW];exact RowAt.new W _,hJ.out _ _ _ none h0 (World.grownBy_alloc W _ none) (fun r e=>by cases e)⟩
 have b0':(W.alloc (.cells (intCells (List.replicate ds.length 0)) 3)).cell? ⟨bv,0,none⟩=some (.int .i64 off):=hst0.out.box0;refine callsIn_of_wp Tryz.func141 rfl trivial ?_ rfl;simp only [Tryz.ntmps141,List.size_toArray,List.length_cons,List.length_nil,Nat.reduceAdd,Nat.reduceSub,Array.replicate_succ,Array.replicate_zero,List.push_toArray,List.append_toArray,List.nil_append,List.cons_append]
 gi_wp2
 gi_loopw [4] (fun p wr=>∃ k:Nat,Hid ((k:Int) < pr ds)∧p=.int .i64 (off+plc ss (crd ds (k:Int)))∧Hid (St w0 bv B off a1 a2 c1 c2 ds.length J (places off ds ss k) (crd ds (k:Int)) wr)) (fun _ wr=>left B ds wr)
 case atStart=>exact ⟨0,hid (by have:=hP.out;omega),by simp [crd_zero,plc_zeros],hid (by simpa [places] using hst0.out)⟩
 case round =>
  obtain ⟨k,hk,rfl,st⟩:=hrel;have hkP:=hk.out;obtain ⟨fn,tmps,assign,body,hy,hR⟩:=hY.out (places off ds ss k) (off+plc ss (crd ds (k:Int))) wr st.out.2.2 st.out.2.1.lt (places_part off ds ss (by omega))
  gi_wp2
  refine hR.mono ?_;rintro e W3 (⟨rfl,hJ3,hk3⟩ | ⟨rfl,hJx3⟩)
  ·have st3:Hid (St w0 bv B off a1 a2 c1 c2 ds.length J (places off ds ss (k+1)) (crd ds (k:Int)) W3):=hid ⟨⟨hk3.2.1.trans st.out.1.box,st.out.1.below.trans hk3.1⟩,st.out.2.1.keep hk3.2.2,by rw [places_next];exact hJ3⟩;have hcl:(crd ds (k:Int)).length=ds.length:=crd_length;have hnx:=hid (nxt_crd (ds:=ds) (k:=(k:Int)) hpos.out (by omega) hkP);have hcr:=hid (crd_range (ds:=ds) (k:=(k:Int)) hpos.out (by omega) hkP);have hdS:Hid (nxt (ds.drop ds.length) ((crd ds (k:Int)).drop ds.length)=none):=hid (by rw [List.drop_length,List.drop_eq_nil_of_le (by omega)];exact nxt_nil);have eT:(crd ds (k:Int)).take ds.length=crd ds (k:Int):=List.take_of_length_le (by omega);have eS:ss.take ds.length=ss:=List.take_of_length_le (by omega);have st4:Hid (St w0 bv B off a1 a2 c1 c2 ds.length J (places off ds ss (k+1)) ((crd ds (k:Int)).take ds.length++zeros (ds.drop ds.length)) W3):=hid (by rw [eT,List.drop_length,zeros_nil,List.append_nil];exact st3.out);have eP:Hid (off+plc ss (crd ds (k:Int))=off+plc (ss.take ds.length) ((crd ds (k:Int)).take ds.length)):=hid (by rw [eT,eS]);have hL:=hid (left_eq (B:=B) (ds:=ds) hpos.out (by omega) hkP st.out.2.1);clear hR hy st hk3 hJ3 st3 eT eS;generalize hc:crd ds (k:Int)=c at *;obtain ⟨wo,hwo⟩:∃ wo,wo=W3:=⟨_,rfl⟩;subst hwo
   gi_wp2
   gi_loopw [4,5] (fun p i wr=>∃ (m:Nat) (q:Int),m≤ds.length∧Hid (q=(m:Int) - 1)∧p=.int .i64 (off+plc (ss.take m) (c.take m))∧i=.int .i64 q∧Hid (nxt (ds.drop m) (c.drop m)=none)∧Hid (St w0 bv B off a1 a2 c1 c2 ds.length J (places off ds ss (k+1)) (c.take m++zeros (ds.drop m)) wr)) (fun _ i _=>(intOf i+1).toNat)
   case atStart=>exact ⟨ds.length,(ds.length:Int) - 1,Nat.le_refl _,hid rfl,by rw [eP.out],by go_num,hdS,st4⟩
   case round =>
    obtain ⟨m,q,hm,hq,rfl,rfl,hno,sti⟩:=hrel;rcases (match m with | 0=>Or.inl rfl | i+1=>Or.inr ⟨i,rfl⟩:m=0∨∃ i,m=i+1) with e0 | ⟨i,e0⟩
    ·subst e0;obtain rfl:q=-1:=hq.out;have hend:Hid ((k:Int)+1=pr ds):=hid (by
      have h1:=hnx.out;have h2:nxt ds c=none:=hno.out;rw [h2] at h1;by_cases g:(k:Int)+1 < pr ds
      ·rw [if_pos g] at h1;cases h1
      ·omega)
     gi_wp2
     refine bodyPost_ret (results_none rfl _ _ _) rfl ?_;refine ⟨⟨_,rfl⟩,.inl ?_⟩;have e1:(pr ds).toNat=k+1:=by have:=hend.out;omega
     rw [e1];exact sti.out.2.2
    ·subst e0;obtain rfl:q=(i:Int):=by have:=hq.out;omega
     have hi:i < ds.length:=by omega
     have hic:i < c.length:=by omega
     have his:i < ss.length:=by omega
     obtain ⟨bd,od,rfl,hbd,hrd⟩:=hd.out i hi;obtain ⟨bs,os,rfl,hbs,hrs⟩:=hs.out i his;have x1:wr.cell? ⟨B,i,none⟩=some (.int .i64 (c.getD i 0)):=by rw [sti.out.2.1.cell (by simp;omega),take_get hic]
     have f1:wr.frozen? ⟨B,i,none⟩=false:=sti.out.2.1.frozen i;have sta:=sti.out.set hJ.out (by omega) hw0 i (c.getD i 0+1);rw [take_set hic] at sta;have xi:=sta.2.1.cell (j:=i) (by simp;omega);rw [here_get (by omega)] at xi;have xf:=sta.2.1.frozen i;have y0:=sta.box0;have y1:=sta.box1;have y2:=sta.box2;have yd:=(sta.1.below.cell (p:=⟨bd,od+i,none⟩) hbd).trans (hrd i hi);have ys:=(sta.1.below.cell (p:=⟨bs,os+i,none⟩) hbs).trans (hrs i his);have cd:=hcr.out i hi;have dd:=hD.out _ (getD_mem hi);have sd:=hS.out _ (getD_mem his);have eH:Hid (nxt (ds.drop i) (c.drop i)=if c.getD i 0+1 < ds.getD i 0 then some ((c.getD i 0+1) :: zeros (ds.drop (i+1))) else none):=hid (nxt_here hcl hi hno.out);have eT:=hid (plc_take (ss:=ss) (c:=c) (i:=i) his hic);have eH2:=hid (plc_here (ss:=ss) (c:=c) (ds:=ds.drop (i+1)) (i:=i) (x:=c.getD i 0+1) his (by omega));have bnd:=plc_bound (ss:=ss.take i) (cs:=c.take i) (fun s hs'=>hS.out s (List.mem_of_mem_take hs')) (fun x hx'=>by
      obtain ⟨j,hj,rfl⟩:=List.getElem_of_mem hx';have hj':j < ds.length:=by simp at hj;omega
      have h1:=hcr.out j hj';have h2:=hD.out _ (getD_mem hj');rw [show c.getD j 0=(c.take i)[j] by simp [List.getD,List.getElem?_eq_getElem (show j < c.length by omega)]] at h1;omega)
     have hll:((c.take i).length:Int)≤6:=by simp;omega
     have stBk:Hid (c.getD i 0+1 < ds.getD i 0→(k:Int)+1 < pr ds∧crd ds ((k:Int)+1)=c.take i++(c.getD i 0+1) :: zeros (ds.drop (i+1))):=hid fun h=>by
      have h1:=hnx.out;have h3:=eH.out;rw [if_pos h] at h3;rw [nxt_at hcl (by omega) h3] at h1;by_cases g:(k:Int)+1 < pr ds
      ·rw [if_pos g] at h1;exact ⟨g,(Option.some.inj h1).symm⟩
      ·rw [if_neg g] at h1;cases h1
     have m0:0≤c.getD i 0 * ss.getD i 0:=Int.mul_nonneg cd.1 sd.1;have m1:c.getD i 0 * ss.getD i 0≤65536 * 65536:=Int.mul_le_mul (by omega) sd.2 sd.1 (by decide);have m2:(c.getD i 0+1) * ss.getD i 0=c.getD i 0 * ss.getD i 0+ss.getD i 0:=by rw [Int.add_mul];omega
     rw [eT.out];have hk3:Hid (c.getD i 0+1 < ds.getD i 0→(k:Int)+1 < pr ds∧off+(plc (ss.take i) (c.take i)+c.getD i 0 * ss.getD i 0)+ss.getD i 0=off+plc ss (crd ds ((k+1:Nat):Int))∧St w0 bv B off (some ⟨bd,od,none⟩) (some ⟨bs,os,none⟩) c1 c2 ds.length J (places off ds ss (k+1)) (crd ds ((k+1:Nat):Int)) (wr.setCell ⟨B,i,none⟩ (.int .i64 (c.getD i 0+1)))):=hid fun h=>by
      obtain ⟨g1,g2⟩:=stBk.out h;rw [show ((k+1:Nat):Int)=(k:Int)+1 by omega,g2,eH2.out];exact ⟨g1,by omega,sta⟩
     have hk4:Hid (¬ c.getD i 0+1 < ds.getD i 0→nxt (ds.drop i) (c.drop i)=none):=hid fun h=>by rw [eH.out,if_neg h]
     have eZ:Hid (zeros (ds.drop i)=0 :: zeros (ds.drop (i+1))):=hid (by rw [drop_next hi];exact zeros_cons);have HS:=hid sta;clear sti sta stBk eH eT eH2 hno hcr hnx;generalize hpl:plc (ss.take i) (c.take i)=pl at *;have HP:=hid hpl;clear hpl;generalize c.getD i 0=ci at *;generalize ss.getD i 0=si at *;generalize ds.getD i 0=di at *;generalize ci * si=mm at *;by_cases hlt:ci+1 < di
     ·gi_wp2
      gi_quiet (fail)
      gi_wp2
      go_roundw
      case rel =>
       obtain ⟨g1,g2,g3⟩:=hk3.out hlt;exact ⟨k+1,hid (by omega),by rw [g2],hid (g3.drewN hJ.out _)⟩
      case measure =>
       obtain ⟨g1,g2,g3⟩:=hk3.out hlt;rw [hL.out,left_eq (k:=((k+1:Nat):Int)) hpos.out (by omega) (by omega) (g3.drewN hJ.out _).2.1];omega
     ·gi_wp2
      gi_quiet (fail)
      gi_wp2
      gi_quiet (fail)
      gi_wp2
      go_roundw
      case rel =>
       exact ⟨i,(i:Int) - 1,by omega,hid rfl,by rw [HP.out];refine int_val ?_;omega,by go_num,hid (hk4.out hlt),hid (by rw [eZ.out];exact (HS.out.drewN hJ.out _).set0 hJ.out (by omega) hw0 (by omega) 0)⟩
      case measure=>simp [intOf]
  ·gi_wp2
   refine bodyPost_ret (results_none rfl _ _ _) rfl ?_;exact ⟨⟨_,rfl⟩,.inr ⟨_,hJx3⟩⟩
end Go.Proofs.YtijhdmidffenbaaGreatDoor.Vx
namespace Go.Proofs.YtijhdmidffenbaaGreatDoor.Vx
open Go.RowKit Go.Shelf Vw
attribute [local go_sem] Oper.semAt_some
theorem wanted_none {o:Oper} (h:o.guard=none) (y:Nat→Option Bool):Region.wanted o y=true:=by
 unfold Region.wanted;rw [h]
theorem op_append {F:Fence} {n:Nat} {P:Program} {o:Oper} {a:Act} {w w':World} {K:Act→World→Prop} {Q:Exit→Act→World→Prop} {s x:Operand} {t:TypeId} {v u v':Value}
  (hop:o.op=Op.call { callee:=Callee.builtin Builtin.append,args:=#[s,x],argTypes:=#[t,t] }) (hs:a.eval s=v) (hx:a.eval x=u)
  (hrun:(Builtin.append_ #[t,t] o.type #[v,u]).run P w=.ok v' w') (hK:K (a.put o.dst v') w'):o.wpIn F n P a w K Q:=by
 unfold Oper.wpIn;refine ⟨?_,?_⟩
 ·simp [Oper.about,hop,resolve,Target.leads,Sem.run_pure]
 ·rw [Oper.semAt_plain F _ _ (by rw [hop];intro c hc';cases hc')];simp [execOp,hop,resolve,invoke,builtin,hs,hx,hrun,Result.andThen];exact hK
theorem places_any (b0:Int) (d s:Value) (w:World) :
  Calls Tryz.prog 86 #[.agg #[.int .i64 b0,d,s]] w fun e w'=>e=.returned (.func (.func 141) #[] #[.pointer (some ⟨w.heap.size,0,none⟩)])∧w'=w.alloc (.cells #[.int .i64 b0,d,s] 78):=by
 go_enter Tryz.func86,Tryz.ntmps86
 go_wp2
 go_ret
 exact ⟨rfl,rfl⟩
def got (data:List Int) (ps:List Int):List Value:=ps.map fun p=>Value.int .i64 (data.getD p.toNat 0)
theorem appended_below {W w1:World} {S B:Nat} {t e:TypeId} {v v':Value} {k m:Nat} {xs ys:List Value} {tmp:Obj}
  (hv:Boxed W S t v) (hrow:W.ownsRow (B+1) e 1 v k xs) (hS:S < B) (hB:B < W.heap.size)
  (hown':w1.ownsRow (B+1) e 1 v' m ys) (hgrow:(W.alloc tmp).grownBy w1 v.ownBlock) :
  Boxed w1 S t v∧Boxed (w1.setCell ⟨S,0,none⟩ v') S t v'∧(w1.setCell ⟨S,0,none⟩ v').ownsRow (B+1) e 1 v' m ys∧KeepsOthers W (w1.setCell ⟨S,0,none⟩ v') ∧
   (∀ n₁,n₁≤S→Below n₁ W (w1.setCell ⟨S,0,none⟩ v'))∧∀ b,b≤B→b≠S→(w1.setCell ⟨S,0,none⟩ v').heap[b]?=W.heap[b]?:=by
 have hge:∀ g,v.ownBlock=some g→B+1≤g:=fun g hg=>(hrow.lt g hg).1;have hne:∀ b,b≤B→some b≠v.ownBlock:=fun b hb e'=>by have:=hge b e'.symm;omega
 have hblk:∀ b,b≤B→w1.heap[b]?=W.heap[b]?:=fun b hb=>(hgrow.block b (by simp;omega) (hne b hb)).trans (Below.heap_alloc W tmp b (by omega));have hv1:Boxed w1 S t v:=(hblk S (by omega)).trans hv;refine ⟨hv1,hv1.set v',hown'.kept (grownBy_setCell' w1 S v') ?_,?_,?_,?_⟩
 ·rcases hown'.2 with ⟨rfl,_⟩ | ⟨g,cap,cur,rfl,hg,_⟩
  ·exact .inl rfl
  ·refine .inr fun e'=>?_;have:g=S:=by simpa [Value.ownBlock] using e'
   omega
 ·refine ((KeepsOthers.alloc W tmp).trans (KeepsOthers.of_grownBy hgrow fun j o ej hj=>?_)).trans (KeepsOthers.setCell _ _ _);rcases (hrow.alloc tmp).2 with ⟨rfl,_⟩ | ⟨g,cap,cur,rfl,_,hgb,_⟩
  ·simp [Value.ownBlock] at ej
  ·obtain rfl:g=j:=by simpa [Value.ownBlock] using ej
   rw [hgb] at hj;cases hj;rfl
 ·intro n₁ hn;exact (((Below.refl n₁ W).alloc (by omega) tmp).grown hgrow (by simp;omega) fun j ej=>by have:=hge j ej;omega).setCell (p:=⟨S,0,none⟩) hn v'
 ·intro b hb hbS;exact (Below.heap_setCell _ _ _ b hbS).trans (hblk b hb)
structure RdI (w0:World) (R1 R2 R3 S B:Nat) (dv:Value) (data:List Int) (pre:List Int) (W:World):Prop where
 inr:∀ p ∈ pre,p < data.length
 out:∃ v,Boxed W S 44 v∧W.ownsRow (B+1) 2 1 v pre.length (got data pre)
 dat:Boxed W R1 44 dv
 res:Boxed W R2 44 (.slice none 0 0)
 err:Boxed W R3 30 (.int .i64 0)
 below:Below w0.heap.size w0 W
structure RdX (w0:World) (R2 R3:Nat) (data all:List Int) (W:World):Prop where
 bad:∃ p ∈ all,(data.length:Int)≤p
 res:Boxed W R2 44 (.slice none 0 0)
 err:Boxed W R3 30 (.int .i64 1)
 below:Below w0.heap.size w0 W
theorem boxed_grown {A A':World} {row:Option Nat} {b:Nat} {t:TypeId} {v:Value} (h:Boxed A b t v) (hg:A.grownBy A' row) (hne:∀ r,row=some r→r≠b):Boxed A' b t v :=
 h.kept hg (fun e=>hne b e.symm rfl)
variable {w0:World} {R1 R2 R3 S B:Nat} {dv:Value} {data all pre:List Int}
theorem rdI_grown {A A':World} {row:Option Nat} (h:RdI w0 R1 R2 R3 S B dv data pre A) (hS:S < B) (hR1:R1 < S) (hR2:R2 < S) (hR3:R3 < S) (h0:w0.heap.size≤S) (hg:A.grownBy A' row) (hr:∀ r,row=some r→S < r∧(r≤B∨∃ o,A.heap[r]?=some o∧o.isCells=false)):RdI w0 R1 R2 R3 S B dv data pre A':=by
 obtain ⟨v,hv,hrow⟩:=h.out;have hne:∀ b,b≤S→∀ r,row=some r→r≠b:=fun b hb r e=>by have:=(hr r e).1;omega
 refine ⟨h.inr,⟨v,boxed_grown hv hg (hne S (by omega)),hrow.kept hg ?_⟩,boxed_grown h.dat hg (hne _ (by omega)),boxed_grown h.res hg (hne _ (by omega)),boxed_grown h.err hg (hne _ (by omega)),h.below.grown hg h.below.size (fun k e=>by have:=(hr k e).1;omega)⟩;rcases hrow.2 with ⟨rfl,_⟩ | ⟨g,cap,cur,rfl,hge,hgb,_⟩
 ·exact .inl rfl
 ·refine .inr fun e'=>?_;rcases (hr g (by simpa [Value.ownBlock] using e'.symm)).2 with h1 | ⟨o,ho,hc⟩
  ·omega
  ·rw [hgb] at ho;cases ho;cases hc
theorem rdX_grown {A A':World} {row:Option Nat} (h:RdX w0 R2 R3 data all A) (hg:A.grownBy A' row) (hr:∀ r,row=some r→R2 < r∧R3 < r∧w0.heap.size≤r):RdX w0 R2 R3 data all A' :=
 ⟨h.bad,boxed_grown h.res hg (fun r e=>by have:=hr r e;omega),boxed_grown h.err hg (fun r e=>by have:=hr r e;omega),h.below.grown hg h.below.size (fun k e=>by have:=hr k e;omega)⟩
theorem rows_mono {W:World} {base base':Nat} {e:TypeId} {size:Nat} {v:Value} {k:Nat} {xs:List Value} (h:W.ownsRow base e size v k xs) (hb:base'≤base):W.ownsRow base' e size v k xs:=by
 obtain ⟨h1,h2⟩:=h;refine ⟨h1,?_⟩;rcases h2 with h | ⟨g,cap,cur,a,b,c⟩
 ·exact Or.inl h
 ·exact Or.inr ⟨g,cap,cur,a,by omega,c⟩
theorem box_cells {W:World} {b:Nat} {x y z:Value} {t:TypeId} (h:W.heap[b]?=some (.cells #[x,y,z] t (0,0))):W.cell? ⟨b,0,none⟩=some x∧W.cell? ⟨b,1,none⟩=some y∧W.cell? ⟨b,2,none⟩=some z:=by
 refine ⟨?_,?_,?_⟩<;>simp [World.cell?,h]
theorem info_int64:(Tryz.prog.info? 2).map (fun i=>(i.zero,i.size,i.bytes))=some (some (.int .i64 0),1,8):=by kernel_rfl
theorem places_bound {off:Int} {ds ss:List Int} (hss:ss.length=ds.length) (hlen:ds.length≤6) (hD:∀ d ∈ ds,1≤d∧d≤65536) (hS:∀ s ∈ ss,0≤s∧s≤65536) (h0:0≤off) (h1:off≤65535) :
  ∀ x ∈ places off ds ss (pr ds).toNat,0≤x∧x≤1099511627776:=by
 intro x hx;obtain ⟨k,hk,rfl⟩:=List.mem_map.1 hx;have hpos:Pos ds:=fun d hd=>(hD d hd).1;have hP:=pr_pos hpos;rw [List.mem_range] at hk;have b:=plc_bound (ss:=ss) (cs:=crd ds (k:Int)) hS (fun c hc=>by
  obtain ⟨j,hj,rfl⟩:=List.getElem_of_mem hc;have hj':j < ds.length:=by rw [crd_length] at hj;exact hj
  have h1:=crd_range hpos (k:=(k:Int)) (by omega) (by omega) j hj';have h2:=hD _ (getD_mem hj');rw [show (crd ds (k:Int)).getD j 0=(crd ds (k:Int))[j] by simp [List.getD,List.getElem?_eq_getElem hj]] at h1;omega)
 rw [crd_length] at b;omega
attribute [local irreducible] crd plc zeros pr nxt places mayV
set_option maxRecDepth 100000 in
set_option maxHeartbeats 2000000 in
theorem read_may (n:Nat) (hn:4≤n) (off:Int) (a1 a2 ad:Option Addr) (c1 c2 cd:Nat) (ds ss data:List Int) (w:World)
    (hd:Hid (IntsIn w (.slice a1 ds.length c1) ds)) (hs:Hid (IntsIn w (.slice a2 ds.length c2) ss)) (hdat:Hid (IntsIn w (.slice ad data.length cd) data)) (hm:Hid (mayV off ds ss=true))
    (hss:Hid (ss.length=ds.length)) (hlen:ds.length≤6) (hD:Hid (∀ d ∈ ds,1≤d∧d≤65536)) (hS:Hid (∀ s ∈ ss,0≤s∧s≤65536)) (ho0:0≤off) (ho1:off≤65535) (hN:Hid (pr ds≤65536)) :
    CallsIn Fence.wide n Tryz.prog 43 #[.agg #[.int .i64 off,.slice a1 ds.length c1,.slice a2 ds.length c2],.slice ad data.length cd] w fun e w' =>
      Below w.heap.size w w'∧((∃ l v,readL off ds ss data=some l∧e=.returned (.tuple #[v,.int .i64 0])∧w'.ownsRow w.heap.size 2 1 v l.length (l.map (Value.int .i64)))∨(readL off ds ss data=none∧e=.returned (.tuple #[.slice none 0 0,.int .i64 1]))):=by
  obtain ⟨i0,hi,hz0,hz1,hz2⟩:=info_parts info_int64;obtain ⟨WA,hWA⟩:∃ WA,(((w.alloc (.cells #[.int .i64 off,.slice a1 ds.length c1,.slice a2 ds.length c2] 78)).alloc (.cells #[.slice ad data.length cd] 44)).alloc (.cells #[.slice none 0 0] 44)).alloc (.cells #[.int .i64 0] 30)=WA:=⟨_,rfl⟩;have zA:Hid (WA.heap.size=w.heap.size+4):=hid (by rw [←hWA];simp);have bA:Hid (Below w.heap.size w WA):=hid (by
    rw [←hWA];exact ((((Below.refl _ w).alloc (Nat.le_refl _) _).alloc (by simp) _).alloc (by simp;omega) _).alloc (by simp;omega) _)
  have xv:Hid (WA.heap[w.heap.size]?=some (.cells #[.int .i64 off,.slice a1 ds.length c1,.slice a2 ds.length c2] 78 (0,0))):=hid (by
    rw [←hWA,Below.heap_alloc _ _ _ (by simp;omega),Below.heap_alloc _ _ _ (by simp;omega),Below.heap_alloc _ _ _ (by simp)];exact World.alloc_heap_new w _)
  have xd:Hid (Boxed WA (w.heap.size+1) 44 (.slice ad data.length cd)):=hid (by
    rw [←hWA];have:=((Boxed.new (w.alloc (.cells #[.int .i64 off,.slice a1 ds.length c1,.slice a2 ds.length c2] 78)) 44 (.slice ad data.length cd)).alloc (.cells #[.slice none 0 0] 44)).alloc (.cells #[.int .i64 0] 30)
    rwa [World.size_alloc] at this)
  have xr:Hid (Boxed WA (w.heap.size+1+1) 44 (.slice none 0 0)):=hid (by
    rw [←hWA];have:=(Boxed.new ((w.alloc (.cells #[.int .i64 off,.slice a1 ds.length c1,.slice a2 ds.length c2] 78)).alloc (.cells #[.slice ad data.length cd] 44)) 44 (.slice none 0 0)).alloc (.cells #[.int .i64 0] 30)
    rwa [World.size_alloc,World.size_alloc] at this)
  have xe:Hid (Boxed WA (w.heap.size+1+1+1) 30 (.int .i64 0)):=hid (by
    rw [←hWA];have:=Boxed.new (((w.alloc (.cells #[.int .i64 off,.slice a1 ds.length c1,.slice a2 ds.length c2] 78)).alloc (.cells #[.slice ad data.length cd] 44)).alloc (.cells #[.slice none 0 0] 44)) 30 (.int .i64 0)
    rwa [World.size_alloc,World.size_alloc,World.size_alloc] at this)
  have HF:=hid (fine_any (off:=off) (hd.out.below bA.out) (hs.out.below bA.out));rw [hm.out,←hWA] at HF;have hEq:=hid hWA;clear hWA;have h1:1≤n:=by omega
  have hf1:Fence.wide.fn 84:=trivial;have hf2:Fence.wide.fn 86:=trivial;refine callsIn_of_wp_marks Tryz.func43 rfl trivial ?_ rfl;simp only [Tryz.ntmps43,List.size_toArray,List.length_cons,List.length_nil,Nat.reduceAdd,Nat.reduceSub,Array.replicate_succ,Array.replicate_zero,List.push_toArray,List.append_toArray,List.nil_append,List.cons_append]
  gi_wp2_with (first | (gi_at_call 84;refine (callsIn_wide.2 HF.out).mono ?_;rintro e w1 ⟨rfl,hB1⟩;rw [hEq.out] at hB1;obtain ⟨y0,y1,y2⟩:=box_cells ((Below.heap_alloc w1 (.cells #[.slice none 0 0] 44) w.heap.size (by have:=zA.out;have:=hB1.size;omega)).trans ((hB1.block w.heap.size (by have:=zA.out;omega)).trans xv.out));have HB1:=hid hB1;clear hB1) | (gi_at_call 86;refine (callsIn_wide.2 (places_any _ _ _ _)).mono ?_;rintro e w2 ⟨rfl,rfl⟩))
  obtain ⟨WC,hWC⟩:∃ WC,(w1.alloc (.cells #[.slice none 0 0] 44)).alloc (.cells #[.int .i64 off,.slice a1 ds.length c1,.slice a2 ds.length c2] 78)=WC:=⟨_,rfl⟩;have zC:WC.heap.size=w1.heap.size+2:=by rw [←hWC];simp
  have z1:w.heap.size+4≤w1.heap.size:=by have:=zA.out;have:=HB1.out.size;omega
  have hC:∀ b,b < w1.heap.size→WC.heap[b]?=w1.heap[b]?:=fun b hb=>by
    rw [←hWC,Below.heap_alloc _ _ _ (by simp;omega),Below.heap_alloc _ _ _ hb]
  have bC:Below w.heap.size w WC:=by
    rw [←hWC];exact ((bA.out.trans (HB1.out.mono (by have:=zA.out;omega))).alloc (by omega) _).alloc (by simp;omega) _
  have kC:∀ {b:Nat} {t:TypeId} {v:Value},Boxed WA b t v→Boxed WC b t v:=fun {b t v} h=>(hC b (by have:=h.lt;have:=zA.out;omega)).trans ((HB1.out.block b (by have:=h.lt;have:=zA.out;omega)).trans h);have oC:Boxed WC w1.heap.size 44 (.slice none 0 0):=by
    rw [←hWC];exact (Boxed.new w1 44 (.slice none 0 0)).alloc _
  have vC:WC.heap[w1.heap.size+1]?=some (.cells #[.int .i64 off,.slice a1 ds.length c1,.slice a2 ds.length c2] 78 (0,0)):=by
    rw [←hWC];have:=World.alloc_heap_new (w1.alloc (.cells #[.slice none 0 0] 44)) (.cells #[.int .i64 off,.slice a1 ds.length c1,.slice a2 ds.length c2] 78)
    rwa [World.size_alloc] at this
  rw [hWC];have hseq:SeqCells Fence.wide (n - 1) Tryz.prog 141 #[.pointer (some ⟨w1.heap.size+1,0,none⟩)] (Keep w.heap.size (w1.heap.size+1) (WC.heap.size+2)) (WC.heap.size+2) (places off ds ss (pr ds).toNat) WC:=by
    intro l J Jx W hBW hW hJ hJx hY h0;have b2:Below w.heap.size w W:=bC.trans (hBW.mono (by omega));exact places_walk (n - 1) (by omega) l w (w1.heap.size+1) (WC.heap.size+2) off a1 a2 c1 c2 ds ss (hid hd.out.rowsV.2) (hid hs.out.rowsV.2) hss.out hlen hD hS ho0 ho1 J Jx (hid hJ) (hid hJx) (hid hY) W hW (by omega) (by omega) ⟨(hBW.block _ (by omega)).trans vC,b2⟩ h0
  have hpl:Hid (∀ x ∈ places off ds ss (pr ds).toNat,0≤x∧x≤1099511627776):=hid (places_bound hss.out hlen hD.out hS.out ho0 ho1);refine range_cells (a:=_) rfl h1 (gf:=141) (lb:=#[.pointer (some ⟨w1.heap.size+1,0,none⟩)]) rfl trivial (enters_of Tryz.func141 (by kernel_rfl) rfl) hseq (Below.refl _ _)
    (fun {A B C} h k=>⟨h.1.trans k.1,k.2.1.trans h.2.1,k.2.2.trans h.2.2⟩) (fun W o o' ho=>⟨(Below.refl _ _).grown (grownBy_putObj' W _ o') (by have:=(Array.getElem?_eq_some_iff.1 ho).1;omega) (fun k e=>by cases e;omega),World.putObj_heap_other (by omega),World.putObj_heap_other (by omega)⟩)
    (fun pre W=>RdI w (w.heap.size+1) (w.heap.size+1+1) (w.heap.size+1+1+1) w1.heap.size (WC.heap.size+2) (.slice ad data.length cd) data pre W)
    (fun pre W=>RdX w (w.heap.size+1+1) (w.heap.size+1+1+1) data (places off ds ss (pr ds).toNat) W)
    (fun s A A' row h hg hr=>rdI_grown h (by omega) (by omega) (by omega) (by omega) (by omega) hg (fun r e=>⟨by have:=(hr r e).1;omega,Or.inr (hr r e).2⟩))
    (fun s A A' row h hg hr=>rdX_grown h hg (fun r e=>by have:=(hr r e).1;omega))
    (fun s A A' row h hg hr=>rdI_grown h (by omega) (by omega) (by omega) (by omega) (by omega) hg (fun r e=>by have:=hr r e;omega))
    (fun s A A' row h hg hr=>rdX_grown h hg (fun r e=>by have:=hr r e;omega))
    ⟨by simp,⟨_,oC,World.ownsRow_nil _ _ _ _⟩,kC xd.out,kC xr.out,kC xe.out,bC⟩
    (fun x=>{ tmps:=#[.agg #[.int .i64 off,.slice a1 ds.length c1,.slice a2 ds.length c2],.slice ad data.length cd,.pointer (some ⟨w.heap.size,0,none⟩),.pointer (some ⟨w.heap.size+1,0,none⟩),.pointer (some ⟨w.heap.size+1+1,0,none⟩),.pointer (some ⟨w.heap.size+1+1+1,0,none⟩),.pointer (some ⟨w1.heap.size,0,none⟩),.int .i64 x,
      .agg #[.int .i64 off,.slice a1 ds.length c1,.slice a2 ds.length c2],.bool true,.bool false,.agg #[.int .i64 off,.slice a1 ds.length c1,.slice a2 ds.length c2],.func (.func 141) #[] #[.pointer (some ⟨w1.heap.size+1,0,none⟩)],.int .i64 x,undef,undef,undef,undef,undef,undef,undef,undef,undef,undef,undef,undef],defers:=[] }) ?assign ?body ?done ?stop
  case assign =>
    intro l x W K hK
    gi_wp2
    exact hK
  case body =>
    rintro l pre x W hI hz ⟨rest,hall⟩;have hx:=hpl.out x (by rw [hall];simp);have cd1:=hI.dat.cell;have cr:=hI.res.cell;have fr:=hI.res.frozen;have ce:=hI.err.cell;have fe:=hI.err.frozen;have HI:=hid hI;have HA:=hid hall;clear hI hall;by_cases hlt:x < data.length
    · obtain ⟨bd,od,rfl,hbd,hrd⟩:=hdat.out.rowsV.2 x.toNat (by omega)
      obtain ⟨v,hv,hrow⟩:=HI.out.out;obtain ⟨xn,rfl⟩:=Int.eq_ofNat_of_zero_le hx.1;have cx:=(HI.out.below.cell (p:=⟨bd,od+xn,none⟩) hbd).trans (hrd xn (by omega));have co:=hv.cell;have hdl:=hdat.out.wf.1;have hpre:Hid (pre.length≤65536):=hid (by
        have h1:=congrArg List.length HA.out;rw [places_length] at h1;have:=hN.out;simp at h1;omega)
      generalize hdx:data.getD xn 0=dx at *;obtain ⟨g,cp,w1x,hap⟩:∃ (g cp:World→Nat) (w1x:World→World),∀ X:World,X.heap=W.heap →
          (Builtin.append_ #[44,44] 44 #[v,.slice (some ⟨W.heap.size,0,none⟩) 1 1]).run Tryz.prog (X.alloc (.cells #[.int .i64 dx] 2))=.ok (.slice (some ⟨g X,0,none⟩) (pre.length+1) (cp X)) (w1x X) ∧
          (w1x X).ownsRow (WC.heap.size+2+1) 2 1 (.slice (some ⟨g X,0,none⟩) (pre.length+1) (cp X)) (pre.length+1) (got data pre++[.int .i64 dx])∧(X.alloc (.cells #[.int .i64 dx] 2)).grownBy (w1x X) v.ownBlock:=by
        have key:∀ X:World,X.heap=W.heap→∃ (gg cc:Nat) (ww:World),(Builtin.append_ #[44,44] 44 #[v,.slice (some ⟨W.heap.size,0,none⟩) 1 1]).run Tryz.prog (X.alloc (.cells #[.int .i64 dx] 2))=.ok (.slice (some ⟨gg,0,none⟩) (pre.length+1) cc) ww ∧
            ww.ownsRow (WC.heap.size+2+1) 2 1 (.slice (some ⟨gg,0,none⟩) (pre.length+1) cc) (pre.length+1) (got data pre++[.int .i64 dx])∧(X.alloc (.cells #[.int .i64 dx] 2)).grownBy ww v.ownBlock:=by
          intro X hX;have hrX:X.ownsRow (WC.heap.size+2+1) 2 1 v pre.length (got data pre):=by
            obtain ⟨q1,q2⟩:=hrow;refine ⟨q1,?_⟩;rw [hX];exact q2
          have hzX:X.heap.size=W.heap.size:=by rw [hX]
          obtain ⟨v',w',e1,e2,e3,_⟩:=run_append_own (P:=Tryz.prog) (w:=X.alloc (.cells #[.int .i64 dx] 2)) (WC.heap.size+2+1) 44 44 2 i0 (.int .i64 0) 1 8 Tryz.underlying44 hi hz0 hz1 hz2 rfl (by decide) v pre.length (got data pre) (hrX.alloc _) ⟨W.heap.size,0,none⟩ 1 1 [.int .i64 dx] rfl (by rw [←hzX];exact cell_one_new _ _ _) (by simp [Value.oneCell']) (by have:=hpre.out;unfold maxLen;omega) (by have:=hpre.out;omega) (by simp;omega);obtain ⟨gg,cc,rfl⟩:=ownsRow_succ e2;exact ⟨gg,cc,w',e1,e2,e3⟩
        have key2:∀ X:World,∃ q:Nat × Nat × World,X.heap=W.heap→(Builtin.append_ #[44,44] 44 #[v,.slice (some ⟨W.heap.size,0,none⟩) 1 1]).run Tryz.prog (X.alloc (.cells #[.int .i64 dx] 2))=.ok (.slice (some ⟨q.1,0,none⟩) (pre.length+1) q.2.1) q.2.2 ∧
            q.2.2.ownsRow (WC.heap.size+2+1) 2 1 (.slice (some ⟨q.1,0,none⟩) (pre.length+1) q.2.1) (pre.length+1) (got data pre++[.int .i64 dx])∧(X.alloc (.cells #[.int .i64 dx] 2)).grownBy q.2.2 v.ownBlock:=fun X=>by
          by_cases hX:X.heap=W.heap
          · obtain ⟨gg,cc,ww,h⟩:=key X hX
            exact ⟨(gg,cc,ww),fun _=>h⟩
          · exact ⟨(0,0,X),fun h=>absurd h hX⟩
        exact ⟨fun X=>(Classical.choose (key2 X)).1,fun X=>(Classical.choose (key2 X)).2.1,fun X=>(Classical.choose (key2 X)).2.2,fun X hX=>Classical.choose_spec (key2 X) hX⟩
      have ha1:(Builtin.append_ #[44,44] 44 #[v,.slice (some ⟨W.heap.size,0,none⟩) 1 1]).run Tryz.prog (W.alloc (.cells #[.int .i64 dx] 2)).drew=.ok (.slice (some ⟨g W.drew,0,none⟩) (pre.length+1) (cp W.drew)) (w1x W.drew):=(hap W.drew rfl).1;have hb:=fun X (hX:X.heap=W.heap)=>appended_below (W:=X) (t:=44) (B:=WC.heap.size+2) ((show X.heap[w1.heap.size]?=_ by rw [hX];exact hv)) (by obtain ⟨q1,q2⟩:=hrow;exact ⟨q1,by rw [hX];exact q2⟩) (by omega) (by rw [hX];omega) (hap X hX).2.1 (hap X hX).2.2;have ha2:(w1x W.drew).cell? ⟨w1.heap.size,0,none⟩=some v:=(hb W.drew rfl).1.cell;have ha3:(w1x W.drew).frozen? ⟨w1.heap.size,0,none⟩=false:=(hb W.drew rfl).1.frozen;have hfin:Hid (KeepsOthers W ((w1x W.drew).setCell ⟨w1.heap.size,0,none⟩ (.slice (some ⟨g W.drew,0,none⟩) (pre.length+1) (cp W.drew))) ∧
          Keep w.heap.size (w1.heap.size+1) (WC.heap.size+2) W ((w1x W.drew).setCell ⟨w1.heap.size,0,none⟩ (.slice (some ⟨g W.drew,0,none⟩) (pre.length+1) (cp W.drew))) ∧
          RdI w (w.heap.size+1) (w.heap.size+1+1) (w.heap.size+1+1+1) w1.heap.size (WC.heap.size+2) (.slice (some ⟨bd,od,none⟩) data.length cd) data (pre++[(xn:Int)]) ((w1x W.drew).setCell ⟨w1.heap.size,0,none⟩ (.slice (some ⟨g W.drew,0,none⟩) (pre.length+1) (cp W.drew)))):=hid (by
        obtain ⟨r1,r2,r3,r4,r5,r6⟩:=hb W.drew rfl;have rb:∀ {b:Nat} {t:TypeId} {u:Value},b < w1.heap.size→Boxed W b t u→Boxed ((w1x W.drew).setCell ⟨w1.heap.size,0,none⟩ (.slice (some ⟨g W.drew,0,none⟩) (pre.length+1) (cp W.drew))) b t u:=fun {b t u} hlt' h=>(r6 b (by omega) (by omega)).trans h;refine ⟨(KeepsOthers.of_grownBy (grown_drew W none) (fun j o e _=>by cases e)).trans r4,⟨(Below.refl _ W).drew.trans (r5 _ (by omega)),r6 _ (by omega) (by omega),r6 _ (by omega) (by omega)⟩,?_,⟨_,r2,?_⟩,rb (by omega) HI.out.dat,rb (by omega) HI.out.res,rb (by omega) HI.out.err,HI.out.below.drew.trans (r5 _ (by omega))⟩
        · intro p hp
          rcases List.mem_append.1 hp with h | h
          · exact HI.out.inr p h
          · simp at h;subst h;omega
        · rw [List.length_append]
          unfold got at r3 ⊢;rw [List.map_append];have hdx':data[xn]?.getD 0=dx:=by rw [←hdx];simp [List.getD]
          simpa [hdx'] using r3)
      clear hb hap;have co2:(W.alloc (.cells #[.int .i64 dx] 2)).cell? ⟨w1.heap.size,0,none⟩=some v:=(hv.alloc _).cell;have hd2:1≤n - 1 - 1:=by omega
      have hmx:Tryz.prog.follows .mixedOrders=true:=by kernel_rfl
      gi_wp2
      refine wpIn_region_any (by kernel_rfl) ?_
      (try (change wpAnyIn _ _ _ _ _ _ _ _ _ (World.drew _)))
      repeat' (first
        | (exact AllReadyIn.nil)
        | (refine AllReadyIn.cons rfl (fun K hK=>?_) ?_;go_simp;refine hK _ _ ?_;clear hK K)
        | (refine wpAnyIn_done (by decide +kernel) ?_ _)
        | (refine wpAnyIn_ready (rs:=[6]) (by decide +kernel) (by simp) ?_;refine AllReadyIn.cons rfl (fun K hK=>?_) AllReadyIn.nil;simp only [List.getElem_toArray,List.getElem_cons_succ,List.getElem_cons_zero];refine Eq.mpr (if_pos (wanted_none rfl _)) ?_;refine op_append (t:=44) (s:=.tmp 18) (x:=.tmp 23) rfl rfl rfl ha1 ?_;go_simp;refine hK _ _ ?_;clear hK K)
        | (refine wpAnyIn_ready (rs:=[3]) (by decide +kernel) (by simp) ?_;refine AllReadyIn.cons rfl (fun K hK=>?_) AllReadyIn.nil;go_simp;refine hK _ _ ?_;clear hK K)
        | (refine wpAnyIn_ready (rs:=[4]) (by decide +kernel) (by simp) ?_;refine AllReadyIn.cons rfl (fun K hK=>?_) AllReadyIn.nil;go_simp;refine hK _ _ ?_;clear hK K)
        | (refine wpAnyIn_ready (rs:=[5]) (by decide +kernel) (by simp) ?_;refine AllReadyIn.cons rfl (fun K hK=>?_) AllReadyIn.nil;go_simp;refine hK _ _ ?_;clear hK K)
        | (refine wpAnyIn_ready (rs:=[1]) (by decide +kernel) (by simp) ?_;refine AllReadyIn.cons rfl (fun K hK=>?_) AllReadyIn.nil;go_simp;refine hK _ _ ?_;clear hK K)
        | (refine wpAnyIn_ready (rs:=[2]) (by decide +kernel) (by simp) ?_;refine AllReadyIn.cons rfl (fun K hK=>?_) AllReadyIn.nil;go_simp;refine hK _ _ ?_;clear hK K)
        | (refine wpAnyIn_ready (rs:=[0]) (by decide +kernel) (by simp) ?_;refine AllReadyIn.cons rfl (fun K hK=>?_) AllReadyIn.nil;go_simp;refine hK _ _ ?_;clear hK K)
        | (refine wpAnyIn_ready (rs:=[7]) (by decide +kernel) (by simp) ?_;refine AllReadyIn.cons rfl (fun K hK=>?_) AllReadyIn.nil;go_simp;refine hK _ _ ?_;clear hK K)
        | (refine wpAnyIn_ready (rs:=[0,1,2]) (by decide +kernel) (by simp) ?_)
        | (refine wpAnyIn_ready (rs:=[0,1]) (by decide +kernel) (by simp) ?_)
        | (refine wpAnyIn_ready (rs:=[0,2]) (by decide +kernel) (by simp) ?_)
        | (refine wpAnyIn_ready (rs:=[1,2]) (by decide +kernel) (by simp) ?_)
        | (refine wpAnyIn_ready (rs:=[0,3]) (by decide +kernel) (by simp) ?_)
        | (refine wpAnyIn_ready (rs:=[0,4]) (by decide +kernel) (by simp) ?_)
        | (refine wpAnyIn_ready (rs:=[0,5]) (by decide +kernel) (by simp) ?_))
      all_goals gi_wp2
      all_goals exact hfin.out
    · have hbad:Hid (∃ p ∈ places off ds ss (pr ds).toNat,(data.length:Int)≤p):=hid ⟨x,by rw [HA.out];simp,by omega⟩
      have b2:Boxed (W.setCell ⟨w.heap.size+1+1,0,none⟩ (.slice none 0 0)) (w.heap.size+1+1+1) 30 (.int .i64 0):=(Below.heap_setCell _ _ _ _ (by simp)).trans HI.out.err;have ce2:=b2.cell;have fe2:=b2.frozen;have hfin:Hid (KeepsOthers W ((W.setCell ⟨w.heap.size+1+1,0,none⟩ (.slice none 0 0)).setCell ⟨w.heap.size+1+1+1,0,none⟩ (.int .i64 1)) ∧
          RdX w (w.heap.size+1+1) (w.heap.size+1+1+1) data (places off ds ss (pr ds).toNat) ((W.setCell ⟨w.heap.size+1+1,0,none⟩ (.slice none 0 0)).setCell ⟨w.heap.size+1+1+1,0,none⟩ (.int .i64 1))):=hid
        ⟨(KeepsOthers.setCell _ _ _).trans (KeepsOthers.setCell _ _ _),hbad.out,(Below.heap_setCell _ _ _ _ (by simp)).trans (HI.out.res.set _),b2.set _,(HI.out.below.setCell (p:=⟨w.heap.size+1+1,0,none⟩) (by simp;omega) _).setCell (p:=⟨w.heap.size+1+1+1,0,none⟩) (by simp;omega) _⟩
      clear b2
      gi_wp2
      exact hfin.out
  case done =>
    rintro D W hD hI hK;obtain ⟨v,hv,hrow⟩:=hI.out;have co:=hv.cell;have cr:=hI.res.cell;have fr:=hI.res.frozen;have b2:Boxed (W.setCell ⟨w.heap.size+1+1,0,none⟩ v) (w.heap.size+1+1+1) 30 (.int .i64 0):=(Below.heap_setCell _ _ _ _ (by simp)).trans hI.err;have ce2:=b2.cell;have fe2:=b2.frozen;have hr:readL off ds ss data=some ((places off ds ss (pr ds).toNat).map fun p=>data.getD p.toNat 0):=by
      unfold readL;rw [if_pos ⟨hm.out,hI.inr⟩]
    have hfin:Hid (Below w.heap.size w ((W.setCell ⟨w.heap.size+1+1,0,none⟩ v).setCell ⟨w.heap.size+1+1+1,0,none⟩ (.int .i64 0))∧((W.setCell ⟨w.heap.size+1+1,0,none⟩ v).setCell ⟨w.heap.size+1+1+1,0,none⟩ (.int .i64 0)).heap[D]?=some (.deferred (some [])) ∧
        Boxed ((W.setCell ⟨w.heap.size+1+1,0,none⟩ v).setCell ⟨w.heap.size+1+1+1,0,none⟩ (.int .i64 0)) (w.heap.size+1+1) 44 v∧Boxed ((W.setCell ⟨w.heap.size+1+1,0,none⟩ v).setCell ⟨w.heap.size+1+1+1,0,none⟩ (.int .i64 0)) (w.heap.size+1+1+1) 30 (.int .i64 0) ∧
        ((W.setCell ⟨w.heap.size+1+1,0,none⟩ v).setCell ⟨w.heap.size+1+1+1,0,none⟩ (.int .i64 0)).ownsRow (WC.heap.size+2+1) 2 1 v (places off ds ss (pr ds).toNat).length (got data (places off ds ss (pr ds).toNat))):=hid
      ⟨(hI.below.setCell (p:=⟨w.heap.size+1+1,0,none⟩) (by simp;omega) _).setCell (p:=⟨w.heap.size+1+1+1,0,none⟩) (by simp;omega) _,
       (Below.heap_setCell _ _ _ _ (by simp;omega)).trans ((Below.heap_setCell _ _ _ _ (by simp;omega)).trans hK),(Below.heap_setCell _ _ _ _ (by simp)).trans (hI.res.set _),b2.set _,
       ownsRow_setCell_below (ownsRow_setCell_below hrow (by simp;omega) _) (by simp;omega) _⟩
    have HR:=hid hr;have HRow:=hid hrow;clear b2 hr hI hK hrow;have hform:v=.slice none 0 0∨∃ g n cap,v=.slice (some ⟨g,0,none⟩) n cap:=by
      rcases HRow.out.2 with ⟨rfl,_⟩ | ⟨g,cap,cur,rfl,_⟩
      · exact Or.inl rfl
      · exact Or.inr ⟨_,_,_,rfl⟩
    rcases hform with rfl | ⟨g,nn,cap,rfl⟩
    · gi_wp2
      obtain ⟨q1,q2,q3,q4,q5⟩:=hfin.out;refine ⟨by simp,.inl ⟨_,_,rfl,run_takeDeferred q2,?_⟩⟩;have c1:=cell_kept q3.cell (grownBy_putObj' _ D (.deferred none)) (fun r e=>by cases e;exact ⟨_,q2,rfl⟩);have c2:=cell_kept q4.cell (grownBy_putObj' _ D (.deferred none)) (fun r e=>by cases e;exact ⟨_,q2,rfl⟩);refine ⟨.tuple #[.slice none 0 0,.int .i64 0],by simp [results,Tryz.f43,go_sem,c1,c2],q1.grown (grownBy_putObj' _ D (.deferred none)) q1.size (fun k e=>by cases e;omega),Or.inl ⟨_,_,HR.out,rfl,?_⟩⟩;have q6:=rows_mono (ownsRow_putObj q5 (.deferred none) q2 rfl) (show w.heap.size≤_ by omega)
      simpa [got,List.map_map,Function.comp_def] using q6
    · gi_wp2
      obtain ⟨q1,q2,q3,q4,q5⟩:=hfin.out;refine ⟨by simp,.inl ⟨_,_,rfl,run_takeDeferred q2,?_⟩⟩;have c1:=cell_kept q3.cell (grownBy_putObj' _ D (.deferred none)) (fun r e=>by cases e;exact ⟨_,q2,rfl⟩);have c2:=cell_kept q4.cell (grownBy_putObj' _ D (.deferred none)) (fun r e=>by cases e;exact ⟨_,q2,rfl⟩);refine ⟨.tuple #[.slice (some ⟨g,0,none⟩) nn cap,.int .i64 0],by simp [results,Tryz.f43,go_sem,c1,c2],q1.grown (grownBy_putObj' _ D (.deferred none)) q1.size (fun k e=>by cases e;omega),Or.inl ⟨_,_,HR.out,rfl,?_⟩⟩;have q6:=rows_mono (ownsRow_putObj q5 (.deferred none) q2 rfl) (show w.heap.size≤_ by omega)
      simpa [got,List.map_map,Function.comp_def] using q6
  case stop =>
    rintro D pre W hD hX hK;have hr:readL off ds ss data=none:=by
      unfold readL;rw [if_neg];rintro ⟨_,h⟩;obtain ⟨p,hp,hge⟩:=hX.bad;have:=h p hp;omega
    have hfin:Hid (RdX w (w.heap.size+1+1) (w.heap.size+1+1+1) data (places off ds ss (pr ds).toNat) W∧W.heap[D]?=some (.deferred (some []))):=hid ⟨hX,hK⟩;have HR:=hid hr;clear hr hX hK
    gi_wp2
    obtain ⟨q1,q2⟩:=hfin.out;refine ⟨by simp,.inl ⟨_,_,rfl,run_takeDeferred q2,?_⟩⟩;have c1:=cell_kept q1.res.cell (grownBy_putObj' _ D (.deferred none)) (fun r e=>by cases e;exact ⟨_,q2,rfl⟩);have c2:=cell_kept q1.err.cell (grownBy_putObj' _ D (.deferred none)) (fun r e=>by cases e;exact ⟨_,q2,rfl⟩);exact ⟨.tuple #[.slice none 0 0,.int .i64 1],by simp [results,Tryz.f43,go_sem,c1,c2],q1.below.grown (grownBy_putObj' _ D (.deferred none)) q1.below.size (fun k e=>by cases e;omega),Or.inr ⟨HR.out,rfl⟩⟩
attribute [local irreducible] readL
end Go.Proofs.YtijhdmidffenbaaGreatDoor.Vx
namespace Go.Proofs.YtijhdmidffenbaaGreatDoor.Vx
open Go.RowKit Vw
theorem may_good {off:Int} {ds ss:List Int} (h:mayV off ds ss=true):(∀ d ∈ ds,1≤d∧d≤65536)∧ds.length≤6∧(cnt ds).1=pr ds∧pr ds≤65536∧ss.length=ds.length∧0≤off∧off≤65535∧(∀ s ∈ ss,0≤s∧s≤65536):=by
 unfold mayV at h;simp only [Bool.and_eq_true,decide_eq_true_eq,Bool.not_eq_true'] at h;obtain ⟨⟨⟨⟨h1,h2⟩,h3⟩,h4⟩,h5⟩:=h;obtain ⟨a,b,c,d⟩:=cnt_good h1;refine ⟨a,b,c,d,h2,h3,by omega,fun s hs=>?_⟩;have:=List.any_eq_false.1 h5 s hs;unfold farS at this;simp at this;omega
theorem may_none {off:Int} {ds ss data:List Int} (h:mayV off ds ss=false):readL off ds ss data=none:=by
 unfold readL;rw [h];simp
set_option maxHeartbeats 1000000 in
theorem read_not (off:Int) (a1 a2:Option Addr) (dv:Value) (n1 n2 c1 c2:Nat) (ds ss:List Int) (w:World)
  (hd:Hid (IntsIn w (.slice a1 n1 c1) ds)) (hs:Hid (IntsIn w (.slice a2 n2 c2) ss)) (hm:Hid (mayV off ds ss=false)) (a0:Option Addr) (n0 c0:Nat) (hdv:dv=.slice a0 n0 c0) :
  Calls Tryz.prog 43 #[.agg #[.int .i64 off,.slice a1 n1 c1,.slice a2 n2 c2],dv] w fun e w' =>
   Below w.heap.size w w'∧e=.returned (.tuple #[.slice none 0 0,.int .i64 1]):=by
 subst hdv;obtain ⟨WA,hWA⟩:∃ WA,(((w.alloc (.cells #[.int .i64 off,.slice a1 n1 c1,.slice a2 n2 c2] 78)).alloc (.cells #[.slice a0 n0 c0] 44)).alloc (.cells #[.slice none 0 0] 44)).alloc (.cells #[.int .i64 0] 30)=WA:=⟨_,rfl⟩;have zA:Hid (WA.heap.size=w.heap.size+4):=hid (by rw [←hWA];simp);have bA:Hid (Below w.heap.size w WA):=hid (by
  rw [←hWA];exact ((((Below.refl _ w).alloc (Nat.le_refl _) _).alloc (by simp) _).alloc (by simp;omega) _).alloc (by simp;omega) _)
 have xr:Hid (Boxed WA (w.heap.size+1+1) 44 (.slice none 0 0)):=hid (by
  rw [←hWA];have:=(Boxed.new ((w.alloc (.cells #[.int .i64 off,.slice a1 n1 c1,.slice a2 n2 c2] 78)).alloc (.cells #[.slice a0 n0 c0] 44)) 44 (.slice none 0 0)).alloc (.cells #[.int .i64 0] 30)
  rwa [World.size_alloc,World.size_alloc] at this)
 have xe:Hid (Boxed WA (w.heap.size+1+1+1) 30 (.int .i64 0)):=hid (by
  rw [←hWA];have:=Boxed.new (((w.alloc (.cells #[.int .i64 off,.slice a1 n1 c1,.slice a2 n2 c2] 78)).alloc (.cells #[.slice a0 n0 c0] 44)).alloc (.cells #[.slice none 0 0] 44)) 30 (.int .i64 0)
  rwa [World.size_alloc,World.size_alloc,World.size_alloc] at this)
 have HF:=hid (fine_any (off:=off) (hd.out.below bA.out) (hs.out.below bA.out));rw [hm.out,←hWA] at HF;have hEq:=hid hWA;clear hWA;go_enter Tryz.func43,Tryz.ntmps43
 go_wp2_with (go_at_call 84;refine HF.out.mono ?_;rintro e w1 ⟨rfl,hB1⟩;rw [hEq.out] at hB1;have yr:Boxed w1 (w.heap.size+1+1) 44 (.slice none 0 0):=((hB1.block _ (by have:=zA.out;omega)).trans xr.out);have ye:Boxed (w1.setCell ⟨w.heap.size+1+1,0,none⟩ (.slice none 0 0)) (w.heap.size+1+1+1) 30 (.int .i64 0):=(Below.heap_setCell _ _ _ _ (by simp)).trans ((hB1.block _ (by have:=zA.out;omega)).trans xe.out);have y1:=yr.cell;have y2:=yr.frozen;have y3:=ye.cell;have y4:=ye.frozen;have YR:=hid yr;have YE:=hid ye;clear yr ye;have HB1:=hid hB1;clear hB1)
 have b2:Below w.heap.size w ((w1.setCell ⟨w.heap.size+1+1,0,none⟩ (.slice none 0 0)).setCell ⟨w.heap.size+1+1+1,0,none⟩ (.int .i64 1)):=((bA.out.trans (HB1.out.mono (by have:=zA.out;omega))).setCell (p:=⟨w.heap.size+1+1,0,none⟩) (by simp;omega) _).setCell (p:=⟨w.heap.size+1+1+1,0,none⟩) (by simp;omega) _;have r1:Boxed ((w1.setCell ⟨w.heap.size+1+1,0,none⟩ (.slice none 0 0)).setCell ⟨w.heap.size+1+1+1,0,none⟩ (.int .i64 1)) (w.heap.size+1+1) 44 (.slice none 0 0):=(Below.heap_setCell _ _ _ _ (by simp)).trans (YR.out.set _);have r2:Boxed ((w1.setCell ⟨w.heap.size+1+1,0,none⟩ (.slice none 0 0)).setCell ⟨w.heap.size+1+1+1,0,none⟩ (.int .i64 1)) (w.heap.size+1+1+1) 30 (.int .i64 1):=YE.out.set _;have c1:=r1.cell;have c2:=r2.cell;exact bodyPost_ret (v:=.tuple #[.slice none 0 0,.int .i64 1]) (by simp [results,Tryz.f43,go_sem,c1,c2]) rfl ⟨b2,rfl⟩
def ReadOut (w:World) (o:Option (List Int)) (e:Ending) (w':World):Prop :=
 Below w.heap.size w w'∧((∃ l v,o=some l∧e=.returned (.tuple #[v,.int .i64 0])∧w'.ownsRow w.heap.size 2 1 v l.length (l.map (Value.int .i64)))∨(o=none∧e=.returned (.tuple #[.slice none 0 0,.int .i64 1])))
theorem read_any {w:World} {off:Int} {d s dv:Value} {ds ss data:List Int} (hd:IntsIn w d ds) (hs:IntsIn w s ss) (hdat:IntsIn w dv data) :
  Calls Tryz.prog 43 #[.agg #[.int .i64 off,d,s],dv] w (ReadOut w (readL off ds ss data)):=by
 obtain ⟨a1,c1,rfl⟩:=hd.form;obtain ⟨a2,c2,rfl⟩:=hs.form;obtain ⟨a3,c3,rfl⟩:=hdat.form;cases hm:mayV off ds ss
 ·refine (read_not off a1 a2 _ _ _ c1 c2 ds ss w (hid hd) (hid hs) (hid hm) a3 _ c3 rfl).mono ?_;rintro e w' ⟨h1,h2⟩;exact ⟨h1,Or.inr ⟨may_none hm,h2⟩⟩
 ·obtain ⟨h1,h2,h3,h4,h5,h6,h7,h8⟩:=may_good hm;have hs':=hs;rw [h5] at hs' ⊢;exact (callsIn_wide (n:=8)).1 (read_may 8 (by decide) off a1 a2 a3 c1 c2 c3 ds ss data w (hid hd) (hid hs') (hid hdat) (hid hm) (hid h5) h2 (hid h1) (hid h8) h6 h7 (hid h4))
end Go.Proofs.YtijhdmidffenbaaGreatDoor.Vx
namespace Go.Proofs.YtijhdmidffenbaaGreatDoor.Vx
open Go.RowKit Vw
attribute [local irreducible] cnt strd pr strRow
theorem Fresh.below {B:Nat} {w w':World} {v:Value} {zs:List Int} (h:Fresh B w v zs) (hb:Below w.heap.size w w'):Fresh B w' v zs:=by
 rcases h with h | ⟨g,cap,cur,e,hB,hg,hc,ht⟩
 ·exact Or.inl h
 ·exact Or.inr ⟨g,cap,cur,e,hB,(hb.block g (Array.getElem?_eq_some_iff.1 hg).1).trans hg,hc,ht⟩
end Go.Proofs.YtijhdmidffenbaaGreatDoor.Vx
namespace Go.Proofs.YtijhdmidffenbaaGreatDoor.Vx
open Go.RowKit Vw
theorem Fresh.of_owns {B:Nat} {w:World} {v:Value} {zs:List Int} (h:w.ownsRow B 3 1 v zs.length (zs.map (Value.int .i64))):Fresh B w v zs:=by
 obtain ⟨h1,h2⟩:=h;rcases h2 with ⟨rfl,h0⟩ | ⟨g,cap,cur,rfl,hb,hg,hn,hc,hs,ht⟩
 ·exact Or.inl ⟨List.length_eq_zero_iff.1 h0,none,0,rfl⟩
 ·exact Or.inr ⟨g,cap,cur,rfl,hb,hg,hn,by simpa using ht⟩
theorem clone_any {w:World} {v:Value} {zs:List Int} (h:IntsIn w v zs) :
  Calls Tryz.prog 35 #[v] w fun e w'=>∃ v',e=.returned v'∧Fresh w.heap.size w' v' zs∧Below w.heap.size w w':=by
 cases h with
 | empty a0 cap =>
  cases a0 with
  | none =>
   refine (Tryz.slices_Clone_int_nil 0 cap w).mono ?_;rintro e w' ⟨rfl,rfl⟩;exact ⟨_,rfl,Or.inl ⟨rfl,none,0,rfl⟩,Below.refl _ _⟩
  | some a =>
   refine (Tryz.slices_Clone_int_zero a cap w).mono ?_;rintro e w' ⟨v',rfl,h1,_,h2⟩;exact ⟨v',rfl,Fresh.of_owns (zs:=[]) h1,h2⟩
 | row b off cap _ h0 hc hb hr hlen hw =>
  refine (Tryz.slices_Clone_int b off zs.length cap zs w (Nat.le_refl _) (by omega) hr).mono ?_;rintro e w' ⟨v',rfl,h1,_,h2⟩;rw [List.take_length] at h1;exact ⟨v',rfl,Fresh.of_owns h1,h2⟩
end Go.Proofs.YtijhdmidffenbaaGreatDoor.Vx
namespace Go.Proofs.YtijhdmidffenbaaGreatDoor.Vb
open Go.RowKit Vx Vx.Vw
end Go.Proofs.YtijhdmidffenbaaGreatDoor.Vb
namespace Go.Proofs.YtijhdmidffenbaaGreatDoor.Vb
open Go.RowKit Vx Vx.Vw
theorem bk_pos {zs:List Int} (h:Pos zs) (i:Nat):1≤bk zs i:=by
 unfold bk;by_cases h1:zs.length≤i
 ·rw [if_pos h1];omega
 ·rw [if_neg h1];exact h _ (getD_mem (by omega))
attribute [local irreducible] cnt outL Co1 Co BcTo CoS bk
end Go.Proofs.YtijhdmidffenbaaGreatDoor.Vb
namespace Go.Proofs.YtijhdmidffenbaaGreatDoor.Vb
open Go.RowKit Vx Vx.Vw
attribute [local irreducible] cnt outL Co1 Co bk
end Go.Proofs.YtijhdmidffenbaaGreatDoor.Vb

open Go.Lib (hid)
set_option linter.unusedVariables false
set_option linter.unusedSimpArgs false
namespace Go.Proofs.YtijhdmidffenbaaGreatDoor.Vx
open Go.RowKit Vw
theorem Box3.frozen {W:World} {b:Nat} {x y z:Value} (h:Box3 W b x y z) (j:Nat):W.frozen? ⟨b,j,none⟩=false:=by simp [World.frozen?,show W.heap[b]?=_ from h]
theorem Box3.set0 {W:World} {b:Nat} {x y z:Value} (h:Box3 W b x y z) (v:Value):Box3 (W.setCell ⟨b,0,none⟩ v) b v y z:=h.modify 0 v
theorem Box3.set1 {W:World} {b:Nat} {x y z:Value} (h:Box3 W b x y z) (v:Value):Box3 (W.setCell ⟨b,1,none⟩ v) b x v z:=h.modify 1 v
theorem Box3.set2 {W:World} {b:Nat} {x y z:Value} (h:Box3 W b x y z) (v:Value):Box3 (W.setCell ⟨b,2,none⟩ v) b x y v:=h.modify 2 v
theorem Box3.new (W:World) (x y z:Value):Box3 (W.alloc (.cells #[x,y,z] 78)) W.heap.size x y z:=World.alloc_heap_new W _
theorem Box3.lt {W:World} {b:Nat} {x y z:Value} (h:Box3 W b x y z):b < W.heap.size:=(Array.getElem?_eq_some_iff.1 h).1
theorem Box3.below {W W':World} {b:Nat} {x y z:Value} (h:Box3 W b x y z) (hb:Below W.heap.size W W'):Box3 W' b x y z:=(hb.block b h.lt).trans h
def put3 (W:World) (b:Nat) (x y z:Value):World:=((W.setCell ⟨b,0,none⟩ x).setCell ⟨b,1,none⟩ y).setCell ⟨b,2,none⟩ z
theorem Box3.put {W:World} {b:Nat} {x y z:Value} (h:Box3 W b x y z) (x' y' z':Value):Box3 (put3 W b x' y' z') b x' y' z':=((h.set0 x').set1 y').set2 z'
theorem below_put {n:Nat} {A W:World} {b:Nat} {x y z:Value} (h:Below n A W) (hb:n≤b):Below n A (put3 W b x y z) :=
 ((h.setCell (p:=⟨b,0,none⟩) hb _).setCell (p:=⟨b,1,none⟩) hb _).setCell (p:=⟨b,2,none⟩) hb _
theorem put_other {W:World} {b k:Nat} {x y z:Value} (h:k≠b):(put3 W b x y z).heap[k]?=W.heap[k]? :=
 (Below.heap_setCell _ _ _ k h).trans ((Below.heap_setCell _ _ _ k h).trans (Below.heap_setCell _ _ _ k h))
theorem Fresh.put {B B':Nat} {w:World} {v:Value} {zs:List Int} {b:Nat} {x y z:Value} (h:Fresh B w v zs) (hb:b < B) (hB:B'≤B):Fresh B' (put3 w b x y z) v zs:=by
 rcases h with h | ⟨g,cap,cur,e,hg,hh,r⟩
 ·exact Or.inl h
 ·exact Or.inr ⟨g,cap,cur,e,by omega,(put_other (by omega)).trans hh,r⟩
def ViewOut (w:World) (o:Int × Int × List Int × List Int) (e:Ending) (w':World):Prop :=
 Below w.heap.size w w'∧((o.1≠0∧e=.returned (.tuple #[.agg #[.int .i64 0,.slice none 0 0,.slice none 0 0],.int .i64 o.1])) ∨
  (o.1=0∧∃ d s,e=.returned (.tuple #[.agg #[.int .i64 o.2.1,d,s],.int .i64 0])∧Fresh w.heap.size w' d o.2.2.1∧Fresh w.heap.size w' s o.2.2.2))
def wholeO (zs:List Int):Int × Int × List Int × List Int:=if (cnt zs).2=0 then (0,0,zs,strd zs) else ((cnt zs).2,0,[],[])
attribute [local irreducible] cnt strd
set_option maxHeartbeats 1000000 in
theorem whole_any {w:World} {v:Value} {zs:List Int} (h:IntsIn w v zs):Calls Tryz.prog 41 #[v] w (ViewOut w (wholeO zs)):=by
 obtain ⟨a1,c1,rfl⟩:=h.form;have hA:Below w.heap.size w (w.alloc (.cells #[.int .i64 0,.slice none 0 0,.slice none 0 0] 78)):=(Below.refl _ w).alloc (Nat.le_refl _) _;have HS:=hid (strides_any (h.below hA));have hbox:Hid ((w.alloc (.cells #[.int .i64 0,.slice none 0 0,.slice none 0 0] 78)).heap[w.heap.size]?=some (.cells #[.int .i64 0,.slice none 0 0,.slice none 0 0] 78 (0,0))):=hid (World.alloc_heap_new w _);have HA:=hid hA;have HI:=hid (h.below hA);clear hA;go_enter Tryz.func41,Tryz.ntmps41
 go_wp2_with fail
 refine HS.out.mono ?_;rintro e w1 ⟨hB1,(⟨hne,rfl⟩ | ⟨he,s,rfl,hf⟩)⟩
 ·have hb1:Box3 w1 w.heap.size (.int .i64 0) (.slice none 0 0) (.slice none 0 0):=(Box3.new w _ _ _).below hB1;have k0:=hb1.c0;have k1:=hb1.c1;have k2:=hb1.c2;have f0:=hb1.frozen 0;have f1:=hb1.frozen 1;have f2:=hb1.frozen 2;generalize hcc:(cnt zs).2=cc at *;have hO:Hid (wholeO zs=(cc,0,[],[])):=hid (by unfold wholeO;rw [hcc,if_neg hne]);have hp:Hid (Box3 (put3 w1 w.heap.size (.int .i64 0) (.slice none 0 0) (.slice none 0 0)) w.heap.size (.int .i64 0) (.slice none 0 0) (.slice none 0 0)):=hid (hb1.put _ _ _);have hbl:Hid (Below w.heap.size w (put3 w1 w.heap.size (.int .i64 0) (.slice none 0 0) (.slice none 0 0))):=hid (below_put (HA.out.trans (hB1.mono (by simp))) (Nat.le_refl _));have hNE:=hid hne;clear hb1 hcc;have hcb:(cc != 0)=true:=by simpa using hne
  go_wp2
  have c0:=hp.out.c0;have c1':=hp.out.c1;have c2:=hp.out.c2;unfold put3 at c0 c1' c2;exact bodyPost_ret (v:=.tuple #[.agg #[.int .i64 0,.slice none 0 0,.slice none 0 0],.int .i64 cc]) (by simp [results,Tryz.f41,go_sem,c0,c1',c2]) rfl ⟨hbl.out,by rw [hO.out];exact Or.inl ⟨hNE.out,rfl⟩⟩
 ·have hO:Hid (wholeO zs=(0,0,zs,strd zs)):=hid (by unfold wholeO;rw [if_pos he]);have HC:=hid (clone_any (HI.out.below hB1));have hb1:=hid ((Box3.new w (.int .i64 0) (.slice none 0 0) (.slice none 0 0)).below hB1);have hF:=hid hf;obtain ⟨av,cs,rfl⟩:=hf.form;have HB1:=hid hB1;clear hf hB1 he;go_wp2_with fail
  refine HC.out.mono ?_;rintro e w2 ⟨d,rfl,hfd,hB2⟩;obtain ⟨ad,cd,rfl⟩:=hfd.form;have hb2:=hb1.out.below hB2;have k0:=hb2.c0;have k1:=hb2.c1;have k2:=hb2.c2;have f0:=hb2.frozen 0;have f1:=hb2.frozen 1;have f2:=hb2.frozen 2;have hp:Hid (Box3 (put3 w2 w.heap.size (.int .i64 0) (.slice ad zs.length cd) (.slice av (strd zs).length cs)) w.heap.size (.int .i64 0) (.slice ad zs.length cd) (.slice av (strd zs).length cs)):=hid (hb2.put _ _ _);have hz1:w.heap.size < w1.heap.size:=by have:=HB1.out.size;simp at this;omega
  have hz2:w1.heap.size≤w2.heap.size:=hB2.size;have hbl:Hid (Below w.heap.size w (put3 w2 w.heap.size (.int .i64 0) (.slice ad zs.length cd) (.slice av (strd zs).length cs))):=hid (below_put ((HA.out.trans (HB1.out.mono (by simp))).trans (hB2.mono (by omega))) (Nat.le_refl _));have hd2:Hid (Fresh w.heap.size (put3 w2 w.heap.size (.int .i64 0) (.slice ad zs.length cd) (.slice av (strd zs).length cs)) (.slice ad zs.length cd) zs):=hid (hfd.put (by omega) (by omega));have hs2:Hid (Fresh w.heap.size (put3 w2 w.heap.size (.int .i64 0) (.slice ad zs.length cd) (.slice av (strd zs).length cs)) (.slice av (strd zs).length cs) (strd zs)):=hid ((hF.out.below hB2).put (B':=w.heap.size) (by simp) (by simp));clear hb2 hfd hB2;go_wp2
  have c0:=hp.out.c0;have c1':=hp.out.c1;have c2:=hp.out.c2;have hbl2:=hbl.out;have hd3:=hd2.out;have hs3:=hs2.out;unfold put3 at c0 c1' c2 hbl2 hd3 hs3;exact bodyPost_ret (v:=.tuple #[.agg #[.int .i64 0,.slice ad zs.length cd,.slice av (strd zs).length cs],.int .i64 0]) (by simp [results,Tryz.f41,go_sem,c0,c1',c2]) rfl ⟨hbl2,by rw [hO.out];exact Or.inr ⟨rfl,_,_,rfl,hd3,hs3⟩⟩
end Go.Proofs.YtijhdmidffenbaaGreatDoor.Vx
namespace Go.Proofs.YtijhdmidffenbaaGreatDoor.Vx
open Go.RowKit Vw Vb
theorem box3_cells {W:World} {b:Nat} {x y z:Value} (h:Box3 W b x y z):W.cell? ⟨b,0,none⟩=some x∧W.cell? ⟨b,1,none⟩=some y∧W.cell? ⟨b,2,none⟩=some z:=⟨h.c0,h.c1,h.c2⟩
theorem equal_any {w:World} {u v:Value} {xs ys:List Int} (h1:IntsIn w u xs) (h2:IntsIn w v ys) :
  Calls Tryz.prog 73 #[u,v] w fun e w'=>e=.returned (.bool (decide (xs=ys)))∧Below w.heap.size w w':=by
 have hl1:=h1.wf.1;have hl2:=h2.wf.1;cases h1 with
 | empty a0 c0 =>
  obtain ⟨a3,c3,rfl⟩:=h2.form;refine (Tryz.slices_Equal_int_empty a0 a3 c0 ys.length c3 w (by omega)).mono ?_;rintro e w' ⟨rfl,rfl⟩;refine ⟨ret_val (bool_val ?_),Below.refl _ _⟩;cases ys<;>simp
 | row b1 o1 c1 _ n0 hc hb hr hlen hw =>
  cases h2 with
  | empty a0 c0 =>
   refine (Tryz.slices_Equal_int_lens (some ⟨b1,o1,none⟩) a0 xs.length c1 0 c0 w (by intro e;exact n0 (List.eq_nil_of_length_eq_zero e))).mono ?_;rintro e w' ⟨rfl,rfl⟩;exact ⟨ret_val (bool_val (decide_eq_false n0).symm),Below.refl _ _⟩
  | row b2 o2 c2 _ n0' hc' hb' hr' hlen' hw' =>
   refine (Tryz.slices_Equal_int b1 o1 xs.length c1 b2 o2 ys.length c2 xs ys w (Nat.le_refl _) (Nat.le_refl _) (by omega) (by omega) hr hr').mono ?_;rintro e w' ⟨rfl,q,rfl⟩;refine ⟨ret_val (bool_val ?_),below_drewN (Below.refl _ _) q⟩;rw [List.take_length,List.take_length];by_cases e:xs=ys
   ·simp [e]
   ·simp [e]
theorem spS_length (ds ss W:List Int):(spS ds ss W).length=W.length:=by simp [spS]
theorem spS_get {ds ss W:List Int} {j:Nat} (h:j < W.length):(spS ds ss W).getD j 0=spA ds ss W j:=by simp [spS,List.getD,h]
theorem bc_good {a b:List Int} (h:(bcO a b).1=0):(cnt a).2=0∧(cnt b).2=0∧Co a b (max a.length b.length)∧(bcO a b).2=outL a b∧(cnt (outL a b)).2=0:=by
 unfold bcO at h ⊢;by_cases h1:(cnt a).2≠0
 ·rw [if_pos h1] at h;exact absurd h h1
 rw [if_neg h1] at h ⊢;by_cases h2:(cnt b).2≠0
 ·rw [if_pos h2] at h;exact absurd h h2
 rw [if_neg h2] at h ⊢;by_cases h3:Co a b (max a.length b.length)
 ·rw [if_pos h3] at h ⊢;by_cases h4:(cnt (outL a b)).2≠0
  ·rw [if_pos h4] at h;exact absurd h h4
  ·rw [if_neg h4];exact ⟨by simpa using h1,by simpa using h2,h3,rfl,by simpa using h4⟩
 ·rw [if_neg h3] at h;exact absurd h (by decide)
def SpTo (ds ss W:List Int) (i:Nat) (xs:List Int):Prop:=xs.length=W.length∧(∀ j,j < W.length - ds.length+i→j < W.length→xs.getD j 0=spA ds ss W j)∧(∀ j,W.length - ds.length+i≤j→xs.getD j 0=0)
theorem SpTo.len {ds ss W xs:List Int} {i:Nat} (h:SpTo ds ss W i xs):xs.length=W.length:=h.1
theorem SpTo.zero (ds ss W:List Int):SpTo ds ss W 0 (List.replicate W.length 0):=by
 have hz:∀ j,(List.replicate W.length (0:Int)).getD j 0=0:=fun j=>by
  by_cases h:j < W.length
  ·simp [List.getD,h]
  ·simp [List.getD,h]
 refine ⟨by simp,fun j hj _=>?_,fun j _=>hz j⟩;rw [hz];unfold spA;rw [if_neg (by omega)]
theorem SpTo.put {ds ss W xs:List Int} {i:Nat} (h:SpTo ds ss W i xs) (hl:ds.length≤W.length) (hi:i < ds.length) (e:ds.getD i 0=W.getD (W.length - ds.length+i) 0):SpTo ds ss W (i+1) (xs.set (W.length - ds.length+i) (ss.getD i 0)):=by
 refine ⟨by rw [List.length_set];exact h.1,fun j hj hjW=>?_,fun j hj=>?_⟩
 ·by_cases ej:j=W.length - ds.length+i
  ·subst ej;have hlt:W.length - ds.length+i < xs.length:=by rw [h.1];exact hjW
   unfold spA;rw [if_pos ⟨by omega,by rw [show W.length - ds.length+i - (W.length - ds.length)=i by omega];exact e⟩,show W.length - ds.length+i - (W.length - ds.length)=i by omega];simp [List.getD,hlt]
  ·have:(xs.set (W.length - ds.length+i) (ss.getD i 0)).getD j 0=xs.getD j 0:=by simp [List.getD,List.getElem?_set_ne (Ne.symm ej)]
   rw [this];exact h.2.1 j (by omega) hjW
 ·have:(xs.set (W.length - ds.length+i) (ss.getD i 0)).getD j 0=xs.getD j 0:=by simp [List.getD,List.getElem?_set_ne (show W.length - ds.length+i≠j by omega)]
  rw [this];exact h.2.2 j (by omega)
theorem SpTo.stay {ds ss W xs:List Int} {i:Nat} (h:SpTo ds ss W i xs) (hl:ds.length≤W.length) (hi:i < ds.length) (e:ds.getD i 0≠W.getD (W.length - ds.length+i) 0):SpTo ds ss W (i+1) xs:=by
 refine ⟨h.1,fun j hj hjW=>?_,fun j hj=>h.2.2 j (by omega)⟩;by_cases ej:j=W.length - ds.length+i
 ·subst ej;rw [h.2.2 _ (Nat.le_refl _)];unfold spA;rw [if_neg];rintro ⟨_,g⟩;rw [show W.length - ds.length+i - (W.length - ds.length)=i by omega] at g;exact e g
 ·exact h.2.1 j (by omega) hjW
theorem SpTo.all {ds ss W xs:List Int} (h:SpTo ds ss W ds.length xs) (hl:ds.length≤W.length):xs=spS ds ss W:=by
 refine List.ext_getElem (by rw [h.1,spS_length]) fun j h1 h2=>?_;have hj:j < W.length:=by rw [←h.1];exact h1
 have:=h.2.1 j (by omega) hj;rw [←spS_get hj] at this
 simpa [List.getD,List.getElem?_eq_getElem h1,List.getElem?_eq_getElem h2] using this
attribute [local irreducible] cnt mayV bcO outL spS spA SpTo spO
set_option maxRecDepth 100000 in
set_option maxHeartbeats 4000000 in
theorem spread_any {w:World} {off:Int} {d s pv:Value} {ds ss ps:List Int} (hd0:IntsIn w d ds) (hs0:IntsIn w s ss) (hp0:IntsIn w pv ps) :
  Calls Tryz.prog 42 #[.agg #[.int .i64 off,d,s],pv] w (ViewOut w (spO off ds ss ps)):=by
 have hd:=hid hd0;have hs:=hid hs0;have hp:=hid hp0;clear hd0 hs0 hp0;obtain ⟨a1,c1,rfl⟩:=hd.out.form;obtain ⟨a2,c2,rfl⟩:=hs.out.form;obtain ⟨a3,c3,rfl⟩:=hp.out.form;obtain ⟨WA,hWA⟩:∃ WA,(w.alloc (.cells #[.int .i64 off,.slice a1 ds.length c1,.slice a2 ss.length c2] 78)).alloc (.cells #[.int .i64 0,.slice none 0 0,.slice none 0 0] 78)=WA:=⟨_,rfl⟩;have bA:Below w.heap.size w WA:=by rw [←hWA];exact ((Below.refl _ w).alloc (Nat.le_refl _) _).alloc (by simp) _
 have zA:WA.heap.size=w.heap.size+2:=by rw [←hWA];simp
 have p1:Box3 WA w.heap.size (.int .i64 off) (.slice a1 ds.length c1) (.slice a2 ss.length c2):=by rw [←hWA];exact (Below.heap_alloc _ _ _ (by simp)).trans (Box3.new w _ _ _)
 have p2:Box3 WA (w.heap.size+1) (.int .i64 0) (.slice none 0 0) (.slice none 0 0):=by
  rw [←hWA];have:=Box3.new (w.alloc (.cells #[.int .i64 off,.slice a1 ds.length c1,.slice a2 ss.length c2] 78)) (.int .i64 0) (.slice none 0 0) (.slice none 0 0)
  rwa [World.size_alloc] at this
 have q0:=p1.c0;have q1:=p1.c1;have q2:=p1.c2;have P1:=hid p1;have P2:=hid p2;have BA:=hid bA;have ZA:=hid zA;have HF:=hid (fine_any (off:=off) (hd.out.below bA) (hs.out.below bA));clear p1 p2 bA zA;have E1:Hid (mayV off ds ss=false→spO off ds ss ps=(1,0,[],[])):=hid fun h=>by unfold spO;rw [if_pos h]
 have E2:Hid (mayV off ds ss=true→(bcO ds ps).1≠0→spO off ds ss ps=((bcO ds ps).1,0,[],[])):=hid fun h g=>by unfold spO;rw [if_neg (by rw [h];decide),if_pos g]
 have E3:Hid (mayV off ds ss=true→(bcO ds ps).1=0→(bcO ds ps).2≠ps→spO off ds ss ps=(4,0,[],[])):=hid fun h g k=>by unfold spO;rw [if_neg (by rw [h];decide),if_neg (by rw [g];decide),if_pos k]
 have E4:Hid (mayV off ds ss=true→(bcO ds ps).1=0→(bcO ds ps).2=ps→spO off ds ss ps=(0,off,ps,spS ds ss ps)):=hid fun h g k=>by unfold spO;rw [if_neg (by rw [h];decide),if_neg (by rw [g];decide),if_neg (by rw [k];simp)]
 generalize spO off ds ss ps=O at *;have HR1:=hid hd.out.rowsV.2;have HR2:=hid hs.out.rowsV.2;go_enter Tryz.func42,Tryz.ntmps42
 go_wp2_with fail
 refine HF.out.mono ?_;rintro e w1 ⟨rfl,B1⟩;have z1:Hid (w.heap.size+2≤w1.heap.size):=hid (by have:=ZA.out;have:=B1.size;omega);have b1:=hid (BA.out.trans (B1.mono BA.out.size));have P3:=hid (P1.out.below B1);have P4:=hid (P2.out.below B1);clear B1 q0 q1 q2;cases hm:mayV off ds ss
 ·have NX:=hid (E1.out hm);clear hm;have f0:=P4.out.frozen 0;have f1:=P4.out.frozen 1;have f2:=P4.out.frozen 2;have k0:=P4.out.c0;have k1:=P4.out.c1;have k2:=P4.out.c2;have hend:Hid (Box3 (put3 w1 (w.heap.size+1) (.int .i64 0) (.slice none 0 0) (.slice none 0 0)) (w.heap.size+1) (.int .i64 0) (.slice none 0 0) (.slice none 0 0)∧Below w.heap.size w (put3 w1 (w.heap.size+1) (.int .i64 0) (.slice none 0 0) (.slice none 0 0))):=hid ⟨P4.out.put _ _ _,below_put b1.out (by omega)⟩;go_wp2_with fail
  obtain ⟨h1,h2⟩:=hend.out;obtain ⟨x0,x1',x2'⟩:=box3_cells h1;unfold put3 at x0 x1' x2' h2;exact bodyPost_ret (v:=.tuple #[.agg #[.int .i64 0,.slice none 0 0,.slice none 0 0],.int .i64 1]) (by simp [results,Tryz.f42,go_sem,x0,x1',x2']) rfl (by rw [NX.out];exact ⟨h2,Or.inl ⟨by decide,rfl⟩⟩)
 have HM:=hid hm;have hmg:=may_good hm;have hn6:=hmg.2.1;have hsl:Hid (ss.length=ds.length):=hid hmg.2.2.2.2.1;clear hm hmg;obtain ⟨y0,y1,y2⟩:=box3_cells P3.out;go_wp2_with fail
 refine (Vb.broadcast_any (hd.out.below b1.out) (hp.out.below b1.out)).mono ?_;rintro e w2 ⟨B2,h2⟩;have z2:Hid (w1.heap.size≤w2.heap.size):=hid B2.size;have b2:=hid (b1.out.trans (B2.mono b1.out.size));have P5:=hid (P3.out.below B2);have P6:=hid (P4.out.below B2);clear B2 y0 y1 y2;rcases h2 with ⟨hne,rfl⟩ | ⟨h0,v,rfl,hf⟩
 ·have NX:=hid (E2.out HM.out hne);generalize (bcO ds ps).1=ce at *;have hb1:(ce != 0)=true:=by simpa using hne
  have HNE:=hid hne;clear hne;have f0:=P6.out.frozen 0;have f1:=P6.out.frozen 1;have f2:=P6.out.frozen 2;have k0:=P6.out.c0;have k1:=P6.out.c1;have k2:=P6.out.c2;have hend:Hid (Box3 (put3 w2 (w.heap.size+1) (.int .i64 0) (.slice none 0 0) (.slice none 0 0)) (w.heap.size+1) (.int .i64 0) (.slice none 0 0) (.slice none 0 0)∧Below w.heap.size w (put3 w2 (w.heap.size+1) (.int .i64 0) (.slice none 0 0) (.slice none 0 0))):=hid ⟨P6.out.put _ _ _,below_put b2.out (by omega)⟩;go_wp2_with fail
  obtain ⟨h1,h2⟩:=hend.out;obtain ⟨x0,x1',x2'⟩:=box3_cells h1;unfold put3 at x0 x1' x2' h2;exact bodyPost_ret (v:=.tuple #[.agg #[.int .i64 0,.slice none 0 0,.slice none 0 0],.int .i64 ce]) (by simp [results,Tryz.f42,go_sem,x0,x1',x2']) rfl (by rw [NX.out];exact ⟨h2,Or.inl ⟨HNE.out,rfl⟩⟩)
 have hf:=Fresh.of_owns hf;have HB0:=hid h0;have hbg:=bc_good h0;have hbe:=hbg.2.2.2.1;have hcp:=(cnt_good hbg.2.1).2.1;have hol:Hid ((outL ds ps).length=max ds.length ps.length):=hid (outL_length ds ps);have hoi:Hid (∀ z ∈ outL ds ps,InI z):=hid (outL_inI hd.out.wf.2 hp.out.wf.2);have HE3:=hid (E3.out HM.out h0);have HE4:=hid (E4.out HM.out h0);rw [hbe] at hf HE3 HE4;have iv:=hid (hf.ints (by rw [hol.out];omega) hoi.out);have hF:=hid hf;obtain ⟨a4,c4,rfl⟩:=hf.form;clear hf h0 hbg hbe;go_wp2_with fail
 refine (equal_any iv.out (hp.out.below b2.out)).mono ?_;rintro e w3 ⟨rfl,B3⟩;have z3:Hid (w2.heap.size≤w3.heap.size):=hid B3.size;have b3:=hid (b2.out.trans (B3.mono b2.out.size));have P7:=hid (P5.out.below B3);have P8:=hid (P6.out.below B3);have hF3:=hid (hF.out.below B3);clear B3;by_cases hq:outL ds ps=ps
 rotate_left
 ·have NX:=hid (HE3.out hq);rw [decide_eq_false hq];clear hq;have f0:=P8.out.frozen 0;have f1:=P8.out.frozen 1;have f2:=P8.out.frozen 2;have k0:=P8.out.c0;have k1:=P8.out.c1;have k2:=P8.out.c2;have hend:Hid (Box3 (put3 w3 (w.heap.size+1) (.int .i64 0) (.slice none 0 0) (.slice none 0 0)) (w.heap.size+1) (.int .i64 0) (.slice none 0 0) (.slice none 0 0)∧Below w.heap.size w (put3 w3 (w.heap.size+1) (.int .i64 0) (.slice none 0 0) (.slice none 0 0))):=hid ⟨P8.out.put _ _ _,below_put b3.out (by omega)⟩;go_wp2_with fail
  obtain ⟨h1,h2⟩:=hend.out;obtain ⟨x0,x1',x2'⟩:=box3_cells h1;unfold put3 at x0 x1' x2' h2;exact bodyPost_ret (v:=.tuple #[.agg #[.int .i64 0,.slice none 0 0,.slice none 0 0],.int .i64 4]) (by simp [results,Tryz.f42,go_sem,x0,x1',x2']) rfl (by rw [NX.out];exact ⟨h2,Or.inl ⟨by decide,rfl⟩⟩)
 have NX:=hid (HE4.out hq);rw [decide_eq_true hq];rw [hq] at hF3 hol ⊢;have hle:ds.length≤ps.length:=by have:=hol.out;omega
 clear hq HE3 HE4 E1 E2 E3 E4 iv hF hoi;have iv3:=hid (hF3.out.ints hp.out.wf.1 hp.out.wf.2);have HR4:=hid iv3.out.rowsV.2;obtain ⟨ah,hah⟩:∃ ah:Nat,ah=ps.length - ds.length:=⟨_,rfl⟩;have hsub:(ps.length:Int) - (ds.length:Int)=(ah:Int):=by omega
 have HAH:=hid hah;clear hah;have hmk:=run_make_ints w3 ps.length (by omega);have hrow:Hid (RowAt (w3.alloc (.cells (intCells (List.replicate ps.length 0)) 3)) w3.heap.size (List.replicate ps.length 0)):=hid (RowAt.new w3 _);have hbel:Hid (Below w3.heap.size w3 (w3.alloc (.cells (intCells (List.replicate ps.length 0)) 3))):=hid ((Below.refl _ w3).alloc (Nat.le_refl _) _);have HSZ:Hid (SpTo ds ss ps 0 (List.replicate ps.length 0)):=hid (SpTo.zero ds ss ps);have P9:=hid (P7.out.below hbel.out);obtain ⟨y0,y1,y2⟩:=box3_cells P9.out;go_wp2_with fail
 go_loopw [40] (fun i wr=>∃ k:Nat,k≤ds.length∧i=.int .i64 (k:Int)∧Hid (∃ xs,RowAt wr w3.heap.size xs∧SpTo ds ss ps k xs)∧Hid (Below w3.heap.size w3 wr)) (fun i _=>ds.length - (intOf i).toNat)
 case atStart=>exact ⟨0,Nat.zero_le _,rfl,hid ⟨_,hrow.out,HSZ.out⟩,hbel⟩
 case round =>
  obtain ⟨k,hk,rfl,hx,hb⟩:=hrel;obtain ⟨xs,hr,hsp⟩:=hx.out;have PV:=hid (P7.out.below hb.out);clear y0 y1 y2;obtain ⟨y0,y1,y2⟩:=box3_cells PV.out;have bw:=hid (b3.out.trans (hb.out.mono b3.out.size));by_cases hkl:k < ds.length
  ·have hki:(k:Int) < (ds.length:Int):=by omega
   have hki2:(k:Int) < (ss.length:Int):=by rw [hsl.out];exact hki
   obtain ⟨p,hpp⟩:∃ p:Nat,p=ah+k:=⟨_,rfl⟩;have hpi:(ah:Int)+(k:Int)=(p:Int):=by omega
   have hpe:ps.length - ds.length+k=p:=by rw [←HAH.out,hpp]
   have hpL:p < ps.length:=by omega
   have hpl:(p:Int) < (ps.length:Int):=by omega
   have hput:=hsp.put hle hkl;have hstay:=hsp.stay hle hkl;rw [hpe] at hput hstay;obtain ⟨b1',o1',rfl,hb1,hr1⟩:=HR1.out k hkl;obtain ⟨b2',o2',rfl,hb2,hr2⟩:=HR2.out k (by rw [hsl.out];exact hkl);obtain ⟨b4',o4',rfl,hb4,hr4⟩:=HR4.out p hpL;have x1:=(bw.out.cell (p:=⟨b1',o1'+k,none⟩) hb1).trans (hr1 k hkl);have x2:=(bw.out.cell (p:=⟨b2',o2'+k,none⟩) hb2).trans (hr2 k (by rw [hsl.out];exact hkl));have x4:=(hb.out.cell (p:=⟨b4',o4'+p,none⟩) hb4).trans (hr4 p hpL);have hcell:=hr.cell (j:=p) (by rw [hsp.len];exact hpL);have hfz:=hr.frozen p;have hset:=hr.set p (ss.getD k 0);clear hpp hpe;generalize ds.getD k 0=d1 at *;generalize ss.getD k 0=s1 at *;generalize ps.getD p 0=q1 at *;by_cases he:d1=q1
   ·have HPT:=hid (hput he);have HST:=hid hset;have hbs:Hid (Below w3.heap.size w3 (wr.setCell ⟨w3.heap.size,p,none⟩ (.int .i64 s1))):=hid (hb.out.setCell (p:=⟨w3.heap.size,p,none⟩) (Nat.le_refl _) _);clear hput hstay hset hr hsp hx;subst he;go_wp2_with fail
    go_roundw
    case rel=>exact ⟨k+1,by omega,by go_num,hid ⟨_,HST.out,HPT.out⟩,hbs⟩
    case measure=>simp [intOf];omega
   ·have HPT:=hid (hstay he);have HST:=hid hr;have hb1':(d1==q1)=false:=by simpa using he
    clear hput hstay hset hr hsp hx he;go_wp2_with fail
    go_roundw
    case rel=>exact ⟨k+1,by omega,by go_num,hid ⟨_,HST.out,HPT.out⟩,hb⟩
    case measure=>simp [intOf];omega
  ·obtain rfl:k=ds.length:=by omega
   have hxe:=hsp.all hle;subst hxe;have hFS:Hid (Fresh w3.heap.size wr (.slice (some ⟨w3.heap.size,0,none⟩) ps.length ps.length) (spS ds ss ps)):=hid (Fresh.row hr (Nat.le_refl _) (spS_length ds ss ps).symm);have hFD:=hid (hF3.out.below hb.out);have P10:=hid (P8.out.below hb.out);have zz:Hid (w.heap.size+2≤w1.heap.size∧w1.heap.size≤w3.heap.size):=hid ⟨z1.out,Nat.le_trans z2.out z3.out⟩;have f0:=P10.out.frozen 0;have f1:=P10.out.frozen 1;have f2:=P10.out.frozen 2;have k0:=P10.out.c0;have k1:=P10.out.c1;have k2:=P10.out.c2;clear hr hsp hx;have hend:Hid (Box3 (put3 wr (w.heap.size+1) (.int .i64 off) (.slice a4 ps.length c4) (.slice (some ⟨w3.heap.size,0,none⟩) ps.length ps.length)) (w.heap.size+1) (.int .i64 off) (.slice a4 ps.length c4) (.slice (some ⟨w3.heap.size,0,none⟩) ps.length ps.length)∧Below w.heap.size w (put3 wr (w.heap.size+1) (.int .i64 off) (.slice a4 ps.length c4) (.slice (some ⟨w3.heap.size,0,none⟩) ps.length ps.length))∧Fresh w.heap.size (put3 wr (w.heap.size+1) (.int .i64 off) (.slice a4 ps.length c4) (.slice (some ⟨w3.heap.size,0,none⟩) ps.length ps.length)) (.slice a4 ps.length c4) ps∧Fresh w.heap.size (put3 wr (w.heap.size+1) (.int .i64 off) (.slice a4 ps.length c4) (.slice (some ⟨w3.heap.size,0,none⟩) ps.length ps.length)) (.slice (some ⟨w3.heap.size,0,none⟩) ps.length ps.length) (spS ds ss ps)):=hid ⟨P10.out.put _ _ _,below_put bw.out (by omega),hFD.out.put (by have:=zz.out;omega) (by have:=zz.out;omega),hFS.out.put (by have:=zz.out;omega) (by have:=zz.out;omega)⟩;go_wp2_with fail
   obtain ⟨h1,h2,h3,h4⟩:=hend.out;obtain ⟨x0,x1',x2'⟩:=box3_cells h1;unfold put3 at x0 x1' x2' h2 h3 h4;exact bodyPost_ret (v:=.tuple #[.agg #[.int .i64 off,.slice a4 ps.length c4,.slice (some ⟨w3.heap.size,0,none⟩) ps.length ps.length],.int .i64 0]) (by simp [results,Tryz.f42,go_sem,x0,x1',x2']) rfl (by rw [NX.out];exact ⟨h2,Or.inr ⟨rfl,_,_,rfl,h3,h4⟩⟩)
end Go.Proofs.YtijhdmidffenbaaGreatDoor.Vx
namespace Go.Proofs.YtijhdmidffenbaaGreatDoor.Vx
open Go.RowKit Vw Vb
theorem co1_if (a b:List Int) (i:Nat):Co1 a b i↔(bk a i=bk b i∨bk a i=1∨bk b i=1):=Iff.rfl
theorem val_drop:∀ {ds cs:List Int} (k:Nat),Val ds cs→Val (ds.drop k) (cs.drop k)
 | ds,cs,0,h=>h
 | [],[],k+1,h=>by simpa using h
 | [],_ :: _,_,h=>h.elim
 | _ :: _,[],_,h=>h.elim
 | d :: ds,c :: cs,k+1,h=>val_drop k h.2
def zw:List Int→List Int→List Int→List Int
 | d :: ds,s :: ss,w :: ws=>(if d=w then s else 0) :: zw ds ss ws
 | _,_,_=>[]
theorem zw_length:∀ {ds ss ws:List Int},ss.length=ds.length→ws.length=ds.length→(zw ds ss ws).length=ds.length
 | [],[],[],_,_=>rfl
 | d :: ds,s :: ss,w :: ws,h1,h2=>by
  simp only [zw,List.length_cons];rw [zw_length (by simpa using h1) (by simpa using h2)]
theorem zw_get:∀ {ds ss ws:List Int} {j:Nat},ss.length=ds.length→ws.length=ds.length→j < ds.length→(zw ds ss ws).getD j 0=if ds.getD j 0=ws.getD j 0 then ss.getD j 0 else 0
 | [],_,_,_,_,_,h=>by simp at h
 | d :: ds,s :: ss,w :: ws,0,_,_,_=>by simp [zw]
 | d :: ds,s :: ss,w :: ws,j+1,h1,h2,h3=>by
  simp only [zw,List.getD_cons_succ];exact zw_get (by simpa using h1) (by simpa using h2) (by simpa using h3)
theorem list_getD {xs ys:List Int} (hl:xs.length=ys.length) (h:∀ j,j < ys.length→xs.getD j 0=ys.getD j 0):xs=ys:=by
 refine List.ext_getElem hl fun j h1 h2=>?_;have:=h j h2
 simpa [List.getD,List.getElem?_eq_getElem h1,List.getElem?_eq_getElem h2] using this
theorem getD_drop {xs:List Int} {a j:Nat}:(xs.drop a).getD j 0=xs.getD (a+j) 0:=by simp [List.getD,List.getElem?_drop]
theorem spS_eq {ds ss W:List Int} (hl:ds.length≤W.length) (hs:ss.length=ds.length):spS ds ss W=List.replicate (W.length - ds.length) 0++zw ds ss (W.drop (W.length - ds.length)):=by
 have hw:(W.drop (W.length - ds.length)).length=ds.length:=by simp;omega
 have hz:=zw_length (ws:=W.drop (W.length - ds.length)) hs hw;refine (list_getD (by rw [spS_length];simp;omega) fun j hj=>?_).symm;rw [spS_length] at hj;rw [spS_get hj];unfold spA;by_cases h:W.length - ds.length≤j
 ·have e:(List.replicate (W.length - ds.length) (0:Int)++zw ds ss (W.drop (W.length - ds.length))).getD j 0=(zw ds ss (W.drop (W.length - ds.length))).getD (j - (W.length - ds.length)) 0:=by
   simp [List.getD,List.getElem?_append_right,h]
  rw [e,zw_get hs hw (by omega),getD_drop,show W.length - ds.length+(j - (W.length - ds.length))=j by omega];by_cases g:ds.getD (j - (W.length - ds.length)) 0=W.getD j 0
  ·rw [if_pos g,if_pos ⟨h,g⟩]
  ·rw [if_neg g,if_neg (fun q=>g q.2)]
 ·rw [if_neg (fun q=>h q.1)];simp [List.getD,List.getElem?_append_left,show j < W.length - ds.length by omega]
theorem plc_rep:∀ {a:Nat} {S C:List Int},a≤C.length→plc (List.replicate a 0++S) C=plc S (C.drop a)
 | 0,_,_,_=>by simp
 | a+1,_,[],h=>by simp at h
 | a+1,S,c :: C,h=>by
  have:=plc_rep (a:=a) (S:=S) (C:=C) (by simpa using h);simp only [List.replicate_succ,List.cons_append,plc,List.drop_succ_cons];rw [this];omega
theorem zw_plc:∀ {ds ss ws cs:List Int},Cmp ds ws→Val ws cs→ss.length=ds.length→plc (zw ds ss ws) cs=plc ss (ownc ds cs)
 | [],[],[],[],_,_,_=>rfl
 | d :: ds,s :: ss,w :: ws,c :: cs,h1,h2,h3=>by
  have ih:=zw_plc h1.2 h2.2 (by simpa using h3);simp only [zw,ownc,plc];rw [ih]
  congr 1
  obtain ⟨g1,g2⟩:=h2.1;by_cases e:d=w
  ·rw [if_pos e];by_cases f:d=1
   ·rw [if_pos f,show c=0 by omega]
   ·rw [if_neg f]
  ·have f:d=1:=h1.1.resolve_left e;rw [if_neg e,if_pos f];simp
 | [],_,_ :: _,_,h,_,_=>h.elim
 | _ :: _,_,[],_,h,_,_=>h.elim
 | _,_,_ :: _,[],_,h,_=>h.elim
 | _,_,[],_ :: _,_,h,_=>h.elim
 | [],_ :: _,_,_,_,_,h=>by simp at h
 | _ :: _,[],_,_,_,_,h=>by simp at h
theorem spread_cmp {ds W:List Int} (h1:(bcO ds W).1=0) (h2:(bcO ds W).2=W):ds.length≤W.length∧Cmp ds (W.drop (W.length - ds.length)):=by
 obtain ⟨g1,g2,g3,g4,g5⟩:=bc_good h1;rw [g4] at h2;have hl:ds.length≤W.length:=by
  have:=congrArg List.length h2;rw [outL_length] at this;omega
 refine ⟨hl,cmp_of (by simp;omega) fun i hi=>?_⟩;have hp:=bc_pair (L:=W) (S:=ds) hl hi;rw [outL_comm,h2] at hp;have hc:=hp.2.1 ((g3.comm) (ds.length - 1 - i) (by omega));have d1:=cnt_pos g1 _ (getD_mem hi);rw [getD_drop];have:=hp.1;omega
def spP (ds W:List Int) (k:Nat):Nat:=(plc (strd ds) (ownc ds ((crd W (k:Int)).drop (W.length - ds.length)))).toNat
def spL (ds W data:List Int):List Int:=(List.range (pr W).toNat).map fun k=>data.getD (spP ds W k) 0
theorem spL_length (ds W data:List Int):(spL ds W data).length=(pr W).toNat:=by simp [spL]
theorem spL_get {ds W data:List Int} {k:Nat} (h:k < (pr W).toNat):(spL ds W data).getD k 0=data.getD (spP ds W k) 0:=by simp [spL,List.getD,h]
theorem spP_lt {ds W:List Int} (hc:(cnt ds).2=0) (hW:(cnt W).2=0) (h1:(bcO ds W).1=0) (h2:(bcO ds W).2=W) {k:Nat} (hk:k < (pr W).toNat) :
  0≤plc (strd ds) (ownc ds ((crd W (k:Int)).drop (W.length - ds.length)))∧(spP ds W k:Int) < pr ds∧plc (spS ds (strd ds) W) (crd W (k:Int))=(spP ds W k:Int):=by
 obtain ⟨hl,hcm⟩:=spread_cmp h1 h2;have hp:=cnt_pos hc;have hpW:=cnt_pos hW;have hv0:Val (W.drop (W.length - ds.length)) ((crd W (k:Int)).drop (W.length - ds.length)):=val_drop _ (crd_val hpW (by omega) (by omega));have hval:Val ds (ownc ds ((crd W (k:Int)).drop (W.length - ds.length))):=ownc_val hcm hv0;have h3:=(val_plc hp hval).1;have hpl:plc (spS ds (strd ds) W) (crd W (k:Int))=plc (strd ds) (ownc ds ((crd W (k:Int)).drop (W.length - ds.length))):=by
  rw [spS_eq hl strd_length,plc_rep (by rw [crd_length];omega)];exact zw_plc hcm hv0 strd_length
 refine ⟨h3.1,?_,?_⟩
 ·unfold spP;omega
 ·rw [hpl];unfold spP;omega
theorem whole_may {ds:List Int} (h:(cnt ds).2=0):mayV 0 ds (strd ds)=true:=by
 obtain ⟨h1,-,-,h4⟩:=cnt_good h;have hfar:(strd ds).any farS=false:=by
  rw [List.any_eq_false];intro s hs;have:=strd_le h1 h4 s hs;simp only [farS,decide_eq_true_eq];omega
 simp [mayV,h,strd_length,hfar]
theorem spread_read {ds W data:List Int} (hc:(cnt ds).2=0) (hd:(data.length:Int)=pr ds) (hW:(cnt W).2=0) (h1:(bcO ds W).1=0) (h2:(bcO ds W).2=W) :
  (spO 0 ds (strd ds) W).1=0∧readL 0 W (spS ds (strd ds) W) data=some (spL ds W data):=by
 constructor
 ·unfold spO;rw [if_neg (by rw [whole_may hc];decide),if_neg (fun c=>c h1),if_neg (fun c=>c h2)]
 have hp:=cnt_pos hc;have hfar:(spS ds (strd ds) W).any farS=false:=by
  rw [List.any_eq_false];intro s hs;obtain ⟨j,_,rfl⟩:=List.mem_map.1 hs;have hb:∀ i,0≤(strd ds).getD i 0∧(strd ds).getD i 0≤65536:=fun i=>by
   by_cases hi:i < (strd ds).length
   ·have:=strd_le (cnt_good hc).1 (cnt_good hc).2.2.2 _ (getD_mem hi);omega
   ·rw [List.getD,List.getElem?_eq_none (by omega)];decide
  simp only [farS,decide_eq_true_eq];unfold spA;by_cases h:W.length - ds.length≤j∧ds.getD (j - (W.length - ds.length)) 0=W.getD j 0
  ·rw [if_pos h];have:=hb (j - (W.length - ds.length));omega
  ·rw [if_neg h];omega
 have hmay:mayV 0 W (spS ds (strd ds) W)=true:=by simp [mayV,hW,spS_length,hfar]
 have hall:∀ p ∈ places 0 W (spS ds (strd ds) W) (pr W).toNat,p < (data.length:Int):=fun p hp=>by
  unfold places at hp;obtain ⟨k,hk,rfl⟩:=List.mem_map.1 hp;have h3:=spP_lt hc hW h1 h2 (List.mem_range.1 hk);rw [h3.2.2];omega
 unfold readL;rw [if_pos ⟨hmay,hall⟩];unfold spL places;rw [List.map_map]
 congr 1
 refine List.map_congr_left fun k hk=>?_;have h3:=spP_lt hc hW h1 h2 (List.mem_range.1 hk);show data.getD (0+plc (spS ds (strd ds) W) (crd W (k:Int))).toNat 0=_;rw [h3.2.2,Int.zero_add,Int.toNat_natCast]
theorem spL_self {W data:List Int} (hW:(cnt W).2=0) (hd:(data.length:Int)=pr W):spL W W data=data:=by
 have hp:=cnt_pos hW;refine List.ext_getElem (by rw [spL_length];omega) fun k h1 h2=>?_;rw [spL_length] at h1;have hv:=crd_val hp (k:=(k:Int)) (by omega) (by omega);have e1:spP W W k=k:=by
  unfold spP;rw [Nat.sub_self,List.drop_zero,ownc_self hv];have h3:=val_plc hp hv;have:=crd_inj hp h3.1.1 h3.1.2 (by omega) (by omega) h3.2;omega
 have:=spL_get (ds:=W) (data:=data) h1;rw [e1] at this
 simpa [List.getD,List.getElem?_eq_getElem h2,List.getElem?_eq_getElem (show k < (spL W W data).length by rw [spL_length];exact h1)] using this
theorem bc_left {a b:List Int} (h:(bcO a b).1=0):(bcO a (bcO a b).2).1=0∧(bcO a (bcO a b).2).2=(bcO a b).2∧(cnt (bcO a b).2).2=0∧(bcO a b).2=outL a b:=by
 obtain ⟨g1,g2,g3,g4,g5⟩:=bc_good h;have hbk:∀ i,bk (outL a b) i=max (bk a i) (bk b i):=fun i=>by
  by_cases hi:i < max a.length b.length
  ·rw [bk_in (by rw [outL_length];exact hi),outL_length,outL_get (by omega)];rw [show max a.length b.length - 1 - (max a.length b.length - 1 - i)=i by omega]
  ·rw [bk_out (by rw [outL_length];omega),bk_out (by omega),bk_out (by omega)];rfl
 have pa:=cnt_pos g1;have pb:=cnt_pos g2;have ho:outL a (outL a b)=outL a b:=by
  refine list_getD (by rw [outL_length,outL_length];omega) fun j hj=>?_;rw [outL_length] at hj;rw [outL_get (by rw [outL_length];omega),outL_get hj,outL_length];rw [show max a.length (max a.length b.length) - 1 - j=max a.length b.length - 1 - j by omega,hbk];omega
 have hco:Co a (outL a b) (max a.length (outL a b).length):=fun i hi=>by
  rw [co1_if,hbk];rw [outL_length] at hi;have h3:=(co1_if a b i).1 (g3 i (by omega));have h4:=bk_pos pa i;have h5:=bk_pos pb i;omega
 rw [g4];have e:bcO a (outL a b)=(0,outL a b):=by
  unfold bcO;rw [if_neg (fun c=>c g1),if_neg (fun c=>c g5),if_pos hco,ho,if_neg (fun c=>c g5)]
 rw [e];exact ⟨rfl,rfl,g5,rfl⟩
theorem bc_right {a b:List Int} (h:(bcO a b).1=0):(bcO b (bcO a b).2).1=0∧(bcO b (bcO a b).2).2=(bcO a b).2:=by
 obtain ⟨g1,g2,g3,g4,g5⟩:=bc_good h;have h':bcO b a=(0,outL b a):=by
  unfold bcO;rw [if_neg (fun c=>c g2),if_neg (fun c=>c g1),if_pos (by rw [Nat.max_comm];exact g3.comm),outL_comm b a,if_neg (fun c=>c g5)]
 have:=bc_left (a:=b) (b:=a) (by rw [h']);rw [h',outL_comm b a] at this;rw [g4];exact ⟨this.1,this.2.1⟩
theorem bc_self {W:List Int} (hW:(cnt W).2=0):bcO W W=(0,W):=by
 have ho:outL W W=W:=by
  refine list_getD (by rw [outL_length];omega) fun j hj=>?_;rw [outL_get (by omega),bk_in (by omega)];rw [show W.length - 1 - (max W.length W.length - 1 - j)=j by omega];omega
 unfold bcO;rw [if_neg (fun c=>c hW),if_neg (fun c=>c hW),if_pos (show Co W W _ from fun i _=>(co1_if W W i).2 (Or.inl rfl)),ho,if_neg (fun c=>c hW)]
theorem spL_mem {ds W data:List Int} {k:Nat} (hc:(cnt ds).2=0) (hd:(data.length:Int)=pr ds) (hW:(cnt W).2=0) (h1:(bcO ds W).1=0) (h2:(bcO ds W).2=W) (hk:k < (pr W).toNat):(spL ds W data).getD k 0 ∈ data:=by
 rw [spL_get hk];have h3:=spP_lt hc hW h1 h2 hk;exact getD_mem (by omega)
end Go.Proofs.YtijhdmidffenbaaGreatDoor.Vx

set_option linter.unusedVariables false
set_option linter.unusedSimpArgs false
namespace Go.Proofs.YtijhdmidffenbaaGreatDoor
section
open Go.RowKit
def cmpL:List (List UInt8):=[[69,113,117,97,108],[76,101,115,115],[71,114,101,97,116,101,114]]
def ariL:List (List UInt8):=[[65,100,100],[83,117,98],[77,117,108],[68,105,118],[77,97,120],[77,105,110],[65,110,100],[79,114],[88,111,114]]
def typ2 (op:List UInt8) (t u:Int):Int × Int :=
 if op ∈ cmpL then (if (Fl.bin op t 0 0).2=0∧u=t then (0,9) else (4,0))
 else (if (Fl.bin op t 0 0).2≠1∧u=t then (0,t) else (4,0))
attribute [local irreducible] cnt
end
section
open Go.RowKit
set_option maxRecDepth 100000
attribute [local irreducible] folB Fl.un thenE
end
section
open Go.RowKit
set_option maxRecDepth 100000
attribute [local irreducible] Vb.bcO RowI productP
end
section
open Go.RowKit
set_option maxRecDepth 100000
end
section
open Go
section
variable {P:Program} {ops:Array Oper} {Q:Exit→Act→World→Prop} {md:Region.Mode} {S:World→Prop} {n:Nat}
end
end
section
open Go.RowKit
set_option maxRecDepth 100000
theorem al_two (x y:Vl):alB [x,y] x.typ=decide (y.typ=x.typ):=by
 unfold alB;by_cases h:y.typ=x.typ<;>simp [h]
theorem typ2_C {op:List UInt8} {x y:Vl} (h:op ∈ cmpL):typC (Fl.bin op x.typ 0 0).2 (alB [x,y] x.typ)=typ2 op x.typ y.typ:=by
 unfold typ2 typC;rw [if_pos h,al_two];simp
theorem typ2_A {op:List UInt8} {x y:Vl} (h:op ∉ cmpL):typA (Fl.bin op x.typ 0 0).2 (alB [x,y] x.typ) x.typ=typ2 op x.typ y.typ:=by
 unfold typ2 typA;rw [if_neg h,al_two];simp
attribute [local irreducible] typC typA typU typS typD alB Fl.bin Fl.un
end
section
open Go.RowKit
set_option maxRecDepth 100000
attribute [local irreducible] Vb.bcO productP reducedP axisP intP RowI
end
section
open Go.RowKit
set_option maxRecDepth 100000
attribute [local irreducible] cnt chk checkP inpE outP folB thenE RowI
end
end Go.Proofs.YtijhdmidffenbaaGreatDoor

set_option linter.unusedVariables false
set_option linter.unusedSimpArgs false
namespace Go.Proofs.YtijhdmidffenbaaGreatDoor
section
open Go.RowKit
set_option maxRecDepth 100000
attribute [local irreducible] typC typA typU typS typD alB Fl.bin Fl.un
theorem typ_two {w:World} {v:Value} {n:Nd} {x y:Vl} (h:MkV w v n [x,y]) (ho:n.op.toList ∈ cmpL++ariL) :
  Calls Tryz.prog 32 #[v] w fun e w'=>TyR (typ2 n.op.toList x.typ y.typ) e∧Below w.heap.size w w':=by
 simp only [cmpL,ariL,List.cons_append,List.nil_append,List.mem_cons,List.not_mem_nil,or_false] at ho;rcases ho with ho | ho | ho | ho | ho | ho | ho | ho | ho | ho | ho | ho
 ·rw [←typ2_C (x:=x) (y:=y) (by rw [ho];decide)];exact typ_Equal h rfl ho
 ·rw [←typ2_C (x:=x) (y:=y) (by rw [ho];decide)];exact typ_Less h rfl ho
 ·rw [←typ2_C (x:=x) (y:=y) (by rw [ho];decide)];exact typ_Greater h rfl ho
 ·rw [←typ2_A (x:=x) (y:=y) (by rw [ho];decide)];exact typ_Add h rfl ho
 ·rw [←typ2_A (x:=x) (y:=y) (by rw [ho];decide)];exact typ_Sub h rfl ho
 ·rw [←typ2_A (x:=x) (y:=y) (by rw [ho];decide)];exact typ_Mul h rfl ho
 ·rw [←typ2_A (x:=x) (y:=y) (by rw [ho];decide)];exact typ_Div h rfl ho
 ·rw [←typ2_A (x:=x) (y:=y) (by rw [ho];decide)];exact typ_Max h rfl ho
 ·rw [←typ2_A (x:=x) (y:=y) (by rw [ho];decide)];exact typ_Min h rfl ho
 ·rw [←typ2_A (x:=x) (y:=y) (by rw [ho];decide)];exact typ_And h rfl ho
 ·rw [←typ2_A (x:=x) (y:=y) (by rw [ho];decide)];exact typ_Or h rfl ho
 ·rw [←typ2_A (x:=x) (y:=y) (by rw [ho];decide)];exact typ_Xor h rfl ho
end
section
open Go.RowKit
set_option maxRecDepth 100000
attribute [local irreducible] typC typA typU typS typD alB Fl.bin Fl.un
end
section
open Go.RowKit
set_option maxRecDepth 100000
attribute [local irreducible] Vb.bcO productP reducedP axisP intP RowI
theorem dims_two {w:World} {v:Value} {n:Nd} {x y:Vl} (h:MkV w v n [x,y]) (ho:n.op.toList ∈ cmpL++ariL) :
  Calls Tryz.prog 33 #[v] w fun e w'=>DimR w (Vb.bcO x.dims y.dims) e w':=by
 simp only [cmpL,ariL,List.cons_append,List.nil_append,List.mem_cons,List.not_mem_nil,or_false] at ho;rcases ho with ho | ho | ho | ho | ho | ho | ho | ho | ho | ho | ho | ho
 ·exact dims_Equal h rfl rfl ho
 ·exact dims_Less h rfl rfl ho
 ·exact dims_Greater h rfl rfl ho
 ·exact dims_Add h rfl rfl ho
 ·exact dims_Sub h rfl rfl ho
 ·exact dims_Mul h rfl rfl ho
 ·exact dims_Div h rfl rfl ho
 ·exact dims_Max h rfl rfl ho
 ·exact dims_Min h rfl rfl ho
 ·exact dims_And h rfl rfl ho
 ·exact dims_Or h rfl rfl ho
 ·exact dims_Xor h rfl rfl ho
end
section
open Go.RowKit
set_option maxRecDepth 100000
attribute [local irreducible] Vb.bcO productP reducedP axisP intP RowI
end
end Go.Proofs.YtijhdmidffenbaaGreatDoor

set_option linter.unusedVariables false
set_option linter.unusedSimpArgs false
namespace Go.Proofs.YtijhdmidffenbaaGreatDoor
section
namespace Fl
open Ieee Go.RowKit
theorem chk_i64 (x:Int):chk 7 x=true:=rfl
end Fl
end
section
namespace Fl
open Ieee Go.RowKit
theorem bin_max (t x y:Int):bin [77,97,120] t x y=if chk t x=false∨chk t y=false then (0,1) else if wholeT t=true then (max x y,0) else if t=1 then (if isN x || isN y then 2143289344 else if sv single x.toNat=sv single y.toNat then min x y else if sv single y.toNat < sv single x.toNat then x else y,0) else (0,1):=by
 unfold bin binR binI binF;simp
attribute [local irreducible] sv isNaN mg
end Fl
end
section
namespace Fl
open Ieee Go.RowKit
end Fl
end
section
namespace Fl
open Ieee Go.RowKit
end Fl
end
section
namespace Fl
open Ieee
end Fl
end
end Go.Proofs.YtijhdmidffenbaaGreatDoor

set_option linter.unusedVariables false
set_option linter.unusedSimpArgs false
namespace Go.Proofs.YtijhdmidffenbaaGreatDoor
section
open Go.RowKit
set_option maxRecDepth 100000
attribute [local irreducible] Vb.bcO typU typC typA typS typD typW typK typG alB Fl.un Fl.bin whereO redO softO productP gemmO gatO expO optO concatP reshapeP transP sliceP squeezeP unsqP flatP padP convP poolP gapP bnP intP
end
section
open Go.RowKit
set_option maxRecDepth 100000
theorem any_map {ins jns:List Vl} (h:jns.map (fun v=>(v.typ,v.dims))=ins.map (fun v=>(v.typ,v.dims))) (t:Int):alB jns t=alB ins t:=by
 have e:∀ l:List Vl,alB l t=!((l.map (fun v=>(v.typ,v.dims))).any fun q=>q.1 != t):=fun l=>by unfold alB;rw [List.any_map];rfl
 rw [e,e,h]
end
end Go.Proofs.YtijhdmidffenbaaGreatDoor
