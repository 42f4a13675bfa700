import Derived.StillTail
import Derived.Deep.RegionHeld3
set_option linter.unusedVariables false
set_option linter.unusedSimpArgs false
set_option maxRecDepth 100000
set_option maxHeartbeats 4000000
namespace Go.Proofs.YtkkeehnldcdccaaGreatDoor
section
open Go
section
variable {P:Program} {ops:Array Oper} {Q:Exit→Act→World→Prop} {md:Region.Mode} {S:World→Prop} {n:Nat}
theorem cN:(∀(a:Act) (t:Tmp) (v:Value),a.put (some t) v={a with tmps:=a.tmps.setIfInBounds t v})∧(∀(a:Act) (v:Value),a.put none v=a)∧(∀(l:List Value) (i:Nat) (h:i<l.toArray.size),l.toArray[i]'h=l[i]'(by simpa using h))∧(∀(a:Value) (l:List Value) (h:0<(a::l).length),(a::l)[0]'h=a)∧(∀(a:Value) (l:List Value) (i:Nat) (h:i+1<(a::l).length),(a::l)[i+1]'h=l[i]'(by simpa using h))∧(∀(l:List Value) (i:Nat) (v:Value),l.toArray.setIfInBounds i v=(l.set i v).toArray)∧(∀(a v:Value) (l:List Value),(a::l).set 0 v=v::l)∧(∀(a v:Value) (l:List Value) (i:Nat),(a::l).set (i+1) v=a::l.set i v):=by
 refine⟨fun a t v=>rfl,fun a v=>rfl,fun l i h=>by simp,fun a l h=>rfl,fun a l i h=>rfl,fun l i v=>?_,fun a v l=>rfl,fun a v l i=>rfl⟩
 simp
theorem cO:(∀(α:Type) (l:List α),l.toArray.toList=l)∧(∀(α:Type) (a:α) (l:List α) (i:Nat),(a::l).drop (i+1)=l.drop i)∧∀(α:Type) (l:List α),l.drop 0=l:=⟨fun _ _=>rfl,fun _ _ _ _=>rfl,fun _ _=>rfl⟩
def Ex(P:Program)(md:Region.Mode)(ops:Array Oper)(Q:Exit→Act→World→Prop)(S:World→Prop)(n:Nat):Nat→Array Bool→Act→World→Prop
 | 0,listed,a,w=>Region.ready md ops listed=[]∧Q .normal a w
 | fuel+1,listed,a,w=>
  (Region.ready md ops listed=[]→Q .normal a w)∧
  ∀i∈Region.ready md ops listed,wpOp P ops Q i (fun a' w'=>(i<n→S w')∧Ex P md ops Q S n fuel (listed.setIfInBounds i true) a' w') a w
theorem Ey:∀(fuel:Nat) (listed:Array Bool) (a:Act) (w:World),Ex P md ops Q S n fuel listed a w→wpAny P md ops Q fuel listed a w
 | 0,_,_,_,h=>h
 | fuel+1,_,_,_,h=>⟨h.1,fun i hi=>wpOp_mono (fun a' w' h'=>Ey fuel _ a' w' h'.2) (h.2 i hi)⟩
theorem FE{i:Nat}{oi:Oper}{v:Value}(hi:ops[i]?=some oi)(hsel:∀(j:Nat) (o:Oper) cs b,ops[j]?=some o→o.op≠.select cs b)
  (hs:Region.sinkB md ops n=true) (hc:Region.chainB md ops n=true) (hn:n<ops.size) (hin:i<n)
  (hQ:∀c a w,Q (.panic c) (a.put oi.dst v) w→Q (.panic c) a w) :
  ∀(fuel:Nat) (listed:Array Bool) (a:Act) (w:World),HeadInv md ops n listed→
   (∀j oj,ops[j]?=some oj→j≠i→listed.getD j true=false→(∀e∈oj.after,Region.binds md e=true→e.on≠i)→oi.apart ops oj=true)→
   i∈Region.ready md ops listed→YieldsIf P ops S oi v a→S w→
   Ex P md ops Q S n fuel (listed.setIfInBounds i true) (a.put oi.dst v) w→Ex P md ops Q S n (fuel+1) listed a w:=by
 intro fuel
 induction fuel with
 | zero=>
  intro listed a w inv _ hr hy hS H;refine⟨fun h=>(by rw[h]at hr;cases hr),fun j hj=>?_⟩;by_cases hji:j=i
  ·subst hji;exact hy.wpOp hi hS ⟨fun _=>hS,H⟩
  ·have:=ready_mono hj hji;rw[H.1]at this;cases this
 | succ fuel ih=>
  intro listed a w inv hfree hr hy hS H;refine⟨fun h=>(by rw[h]at hr;cases hr),fun j hj=>?_⟩;have hun:=(mem_ready.1 hr).1;have hjn:j<n:=by
   rcases Nat.lt_or_ge j n with h|h
   ·exact h
   ·exact absurd hj (tail_waits hs hc hn inv _ i rfl hin hun j h)
  by_cases hji:j=i
  ·subst hji;exact hy.wpOp hi hS ⟨fun _=>hS,H⟩
  ·have h1:=H.2 j (ready_mono hj hji);obtain⟨hjun,oj,hoj,hall⟩:=mem_ready.1 hj;have hnot:∀e∈oj.after,Region.binds md e=true→e.on≠i:=fun e he hb heq=>by
    have h1:=hall e he hb;rw[heq,getD_both hun]at h1;cases h1
   have h2:=wpOp_putIf hoj (hfree j oj hoj hji hjun hnot) (fun cs b=>hsel i oi cs b hi) (fun cs b=>hsel j oj cs b hoj) hQ hy h1;have hfree':∀k ok,ops[k]?=some ok→k≠i→(listed.setIfInBounds j true).getD k true=false→
     (∀e∈ok.after,Region.binds md e=true→e.on≠i)→oi.apart ops ok=true:=fun k ok hk hki hun hno=>by
    refine hfree k ok hk hki ?_ hno;by_cases hjk:j=k
    ·subst hjk;exact hjun
    ·rw[getD_set_ne true hjk]at hun;exact hun
   refine wpOp_mono (fun a' w' h3=>⟨fun _=>h3.2.1 hjn,ih (listed.setIfInBounds j true) a' w' (inv.set hj hjn) hfree' (ready_mono hr (Ne.symm hji)) h3.1 (h3.2.1 hjn) ?_⟩) h2;rw[Array.setIfInBounds_comm _ _ hji];exact h3.2.2
def FF(o:Oper):Bool:=
 match o.op with
 | .load .. | .fieldAddr .. | .indexAddr .. | .move .. | .assign .. | .binOp .. | .unOp .. | .pick .. | .slice .. | .index .. | .field .. | .convert .. | .nilCheck .. | .extract .. | .lookup .. | .build .. =>true
 | .call c=>match c.callee with | .builtin .len=>true| .builtin .cap=>true|_=>false
 | _=>false
def CG(P:Program)(md:Region.Mode)(ops:Array Oper)(Q:Exit→Act→World→Prop)(S:World→Prop)(n:Nat):List Nat→Act→World→Prop
 | [],a,w=>wpList P ops Q (ops.toList.drop n) a w
 | i::rest,a,w=>
  match ops[i]? with
  | none=>False
  | some o=>
   if FF o then ∃v,YieldsIf P ops S o v a∧CG P md ops Q S n rest (a.put o.dst v) w
   else wpOp P ops Q i (fun a' w'=>S w'∧CG P md ops Q S n rest a' w') a w
def FX(md:Region.Mode)(ops:Array Oper)(n:Nat):List Nat→Array Bool→Bool
 | [],listed=>Region.seqB md ops (ops.size-n) n listed
 | i::rest,listed=>
  match ops[i]? with
  | none=>false
  | some o=>decide (i<n)&&(if FF o then(Region.ready md ops listed).contains i&&Region.free md ops listed i else decide (Region.ready md ops listed=[i]))&&FX md ops n rest (listed.setIfInBounds i true)
theorem Dl:∀(l:List Oper) (k:Nat) (listed:Array Bool) (a:Act) (w:World),n≤k→(∀j,l[j]?=ops[k+j]?)→
  Region.seqB md ops l.length k listed=true→wpList P ops Q l a w→Ex P md ops Q S n l.length listed a w
 | [],_,_,_,_,_,_,hB,h=>⟨by simpa[Region.seqB]using hB,h⟩
 | o::l,k,listed,a,w,hnk,hl,hB,h=>by
  have h0:ops[k]?=some o:=by simpa using(hl 0).symm
  simp only[List.length_cons,Region.seqB,Bool.and_eq_true,decide_eq_true_eq]at hB;refine⟨fun h1=>(by rw[hB.1]at h1;cases h1),fun i hi=>?_⟩;rw[hB.1]at hi;have hik:i=k:=by simpa using hi
  subst hik;have hw:wpOp P ops Q i (wpList P ops Q l) a w:=by unfold wpOp;simp only[h0];exact h
  exact wpOp_mono (fun a' w' h'=>⟨fun hlt=>absurd hlt (by omega),Dl l (i+1) _ a' w' (by omega) (fun j=>by have:=hl (j+1);simpa[Nat.add_assoc,Nat.add_comm 1 j]using this) hB.2 h'⟩) hw
theorem Ez(hsel:Region.noSelect ops=true)(hs:Region.sinkB md ops n=true)(hc:Region.chainB md ops n=true)(hn:n<ops.size)
  (hQ:∀c (d:Option Tmp) (v:Value) a w,Q (.panic c) (a.put d v) w→Q (.panic c) a w) :
  ∀(pl:List Nat) (listed:Array Bool) (a:Act) (w:World),HeadInv md ops n listed→FX md ops n pl listed=true→S w→CG P md ops Q S n pl a w→
   Ex P md ops Q S n (pl.length+(ops.size-n)) listed a w
 | [],listed,a,w,inv,hB,hS,h=>by
  have h1:=Dl (S:=S) (n:=n) (ops.toList.drop n) n listed a w (Nat.le_refl _) (fun j=>by simp[List.getElem?_drop]) (by simpa[FX]using hB) h
  simpa using h1
 | i::rest,listed,a,w,inv,hB,hS,h=>by
  unfold FX at hB;unfold CG at h;cases ho:ops[i]? with
  | none=>rw[ho]at hB;cases hB
  | some o=>
   rw[ho]at hB h;simp only[Bool.and_eq_true,decide_eq_true_eq]at hB;obtain⟨⟨hin,hr⟩,hB'⟩:=hB;rw[show(i::rest).length+(ops.size-n)=(rest.length+(ops.size-n))+1 by rw[List.length_cons];omega];cases hq:FF o with
   | true=>
    simp only[hq,if_true,Bool.and_eq_true]at hr h;obtain⟨v,hy,h⟩:=h;have hr':i∈Region.ready md ops listed:=by simpa using hr.1
    exact FE ho (Region.noSelect_spec hsel) hs hc hn hin (fun c a w h=>hQ c _ _ a w h) _ listed a w inv (Region.free_spec ho hr.2) hr' hy hS
     (Ez hsel hs hc hn hQ rest _ _ w (inv.set hr' hin) hB' hS h)
   | false=>
    simp only[hq,Bool.false_eq_true,if_false,decide_eq_true_eq]at hr h;refine⟨fun h1=>(by rw[hr]at h1;cases h1),fun j hj=>?_⟩;have hj':=hj;rw[hr]at hj;obtain rfl:j=i:=by simpa using hj
    exact wpOp_mono (fun a' w' h'=>⟨fun _=>h'.1,Ez hsel hs hc hn hQ rest _ a' w' (inv.set hj' hin) hB' h'.1 h'.2⟩) h
def WK(md:Region.Mode)(ops:Array Oper)(n:Nat)(pl:List Nat):Bool:=
 Region.noSelect ops&&decide (n<ops.size)&&Region.sinkB md ops n&&Region.chainB md ops n&&FX md ops n pl (Array.replicate ops.size false)&&decide (pl.length=n)
theorem Ae{id:Nat}{a:Act}{w:World}(n:Nat)(pl:List Nat)(S:World→Prop)(hm:P.follows .mixedOrders=true)(hB:WK .any ops n pl=true)
  (hQ:∀c (d:Option Tmp) (v:Value) a w,Q (.panic c) (a.put d v) w→Q (.panic c) a w) (hS:S w.drew) (h:CG P .any ops Q S n pl a w.drew):(Code.region id ops true).wp P Q a w:=by
 simp only[WK,Bool.and_eq_true,decide_eq_true_eq]at hB;obtain⟨⟨⟨⟨⟨hsel,hn⟩,hs⟩,hc⟩,hp⟩,hl⟩:=hB;have inv0:HeadInv .any ops n (Array.replicate ops.size false):=
  ⟨by simp,fun j oj _ hl=>(by rw[getD_replicate_false]at hl;cases hl),fun t _ ht=>Go.getD_in (by simpa using ht) (getD_replicate_false _ _)⟩
 have H:=Ez hsel hs hc hn hQ pl _ a w.drew inv0 hp hS h;rw[hl,show n+(ops.size-n)=ops.size by omega]at H;exact wp_region_any hm (Ey _ _ _ _ H)
theorem Ah{i:Nat}{rest:List Nat}{o:Oper}{v:Value}{a:Act}{w:World}(ho:ops[i]?=some o)(hq:FF o=true)(hy:YieldsIf P ops S o v a)(h:CG P md ops Q S n rest (a.put o.dst v) w):CG P md ops Q S n (i::rest) a w:=by
 unfold CG;rw[ho];simp only[hq,if_true];exact⟨v,hy,h⟩
theorem Av{i:Nat}{rest:List Nat}{o:Oper}{a:Act}{w:World}(ho:ops[i]?=some o)(hq:FF o=false)
  (h:∀K':Act→World→Prop,Shut (∀a w,S w→CG P md ops Q S n rest a w→K' a w)→if Region.wanted o (yielded ops a.tmps)=true then Oper.wp P o a w K' Q else K' (a.put o.dst undef) w):CG P md ops Q S n (i::rest) a w:=by
 unfold CG;rw[ho];simp only[hq,Bool.false_eq_true,if_false];exact wpOp_step ho (fun K' hK=>h K' (fun a w hS hW=>hK a w ⟨hS,hW⟩))
theorem Aq{a:Act}{w:World}{l:List Oper}(hl:ops.toList.drop n=l)(h:wpList P ops Q l a w):CG P md ops Q S n [] a w:=by
 subst hl;exact h
inductive Pl
 | tail
 | read (i:Nat) (p:Pl)
 | act (i:Nat) (p:Pl)
 | two (i:Nat) (p:Pl) (j:Nat) (q:Pl)
def Pl.reads:List Nat→Pl→Pl
 | [],p=>p
 | i::l,p=>.read i (Pl.reads l p)
def Pl.len:Pl→Nat
 | .tail=>0
 | .read _ p=>p.len+1
 | .act _ p=>p.len+1
 | .two _ p _ q=>p.len+1
def Cw(P:Program)(md:Region.Mode)(ops:Array Oper)(Q:Exit→Act→World→Prop)(S:World→Prop)(n:Nat):Pl→Act→World→Prop
 | .tail,a,w=>wpList P ops Q (ops.toList.drop n) a w
 | .read i p,a,w=>
  match ops[i]? with
  | none=>False
  | some o=>∃v,YieldsIf P ops S o v a∧Cw P md ops Q S n p (a.put o.dst v) w
 | .act i p,a,w=>wpOp P ops Q i (fun a' w'=>S w'∧Cw P md ops Q S n p a' w') a w
 | .two i p j q,a,w=>wpOp P ops Q i (fun a' w'=>S w'∧Cw P md ops Q S n p a' w') a w∧wpOp P ops Q j (fun a' w'=>S w'∧Cw P md ops Q S n q a' w') a w
def GS(md:Region.Mode)(ops:Array Oper)(n:Nat):Pl→Array Bool→Bool
 | .tail,listed=>Region.seqB md ops (ops.size-n) n listed
 | .read i p,listed=>decide (i<n)&&((Region.ready md ops listed).contains i&&Region.free md ops listed i)&&GS md ops n p (listed.setIfInBounds i true)
 | .act i p,listed=>decide (i<n)&&decide (Region.ready md ops listed=[i])&&GS md ops n p (listed.setIfInBounds i true)
 | .two i p j q,listed=>decide (i<n)&&decide (j<n)&&decide (Region.ready md ops listed=[i,j])&&decide (p.len=q.len)&&GS md ops n p (listed.setIfInBounds i true)&&GS md ops n q (listed.setIfInBounds j true)
theorem C2(hsel:Region.noSelect ops=true)(hs:Region.sinkB md ops n=true)(hc:Region.chainB md ops n=true)(hn:n<ops.size)
  (hQ:∀c (d:Option Tmp) (v:Value) a w,Q (.panic c) (a.put d v) w→Q (.panic c) a w) :
  ∀(pl:Pl) (listed:Array Bool) (a:Act) (w:World),HeadInv md ops n listed→GS md ops n pl listed=true→S w→Cw P md ops Q S n pl a w→
   Ex P md ops Q S n (pl.len+(ops.size-n)) listed a w
 | .tail,listed,a,w,inv,hB,hS,h=>by
  have h1:=Dl (S:=S) (n:=n) (ops.toList.drop n) n listed a w (Nat.le_refl _) (fun j=>by simp[List.getElem?_drop]) (by simpa[GS]using hB) h
  simpa[Pl.len]using h1
 | .read i p,listed,a,w,inv,hB,hS,h=>by
  unfold GS at hB;unfold Cw at h;simp only[Bool.and_eq_true,decide_eq_true_eq]at hB;obtain⟨⟨hin,hr⟩,hB'⟩:=hB;cases ho:ops[i]? with
  | none=>rw[ho]at h;exact h.elim
  | some o=>
   rw[ho]at h;obtain⟨v,hy,h⟩:=h;have hr':i∈Region.ready md ops listed:=by simpa using hr.1
   rw[show Pl.len (.read i p)+(ops.size-n)=(p.len+(ops.size-n))+1 by rw[Pl.len];omega];exact FE ho (Region.noSelect_spec hsel) hs hc hn hin (fun c a w h=>hQ c _ _ a w h) _ listed a w inv (Region.free_spec ho hr.2) hr' hy hS
    (C2 hsel hs hc hn hQ p _ _ w (inv.set hr' hin) hB' hS h)
 | .act i p,listed,a,w,inv,hB,hS,h=>by
  unfold GS at hB;unfold Cw at h;simp only[Bool.and_eq_true,decide_eq_true_eq]at hB;obtain⟨⟨hin,hr⟩,hB'⟩:=hB;rw[show Pl.len (.act i p)+(ops.size-n)=(p.len+(ops.size-n))+1 by rw[Pl.len];omega];refine⟨fun h1=>(by rw[hr]at h1;cases h1),fun j hj=>?_⟩;have hj':=hj;rw[hr]at hj;obtain rfl:j=i:=by simpa using hj
  exact wpOp_mono (fun a' w' h'=>⟨fun _=>h'.1,C2 hsel hs hc hn hQ p _ a' w' (inv.set hj' hin) hB' h'.1 h'.2⟩) h
 | .two i p k q,listed,a,w,inv,hB,hS,h=>by
  unfold GS at hB;unfold Cw at h;simp only[Bool.and_eq_true,decide_eq_true_eq]at hB;obtain⟨⟨⟨⟨⟨hin,hkn⟩,hr⟩,hl⟩,hp⟩,hq⟩:=hB;rw[show Pl.len (.two i p k q)+(ops.size-n)=(p.len+(ops.size-n))+1 by rw[Pl.len];omega];refine⟨fun h1=>(by rw[hr]at h1;cases h1),fun j hj=>?_⟩;have hj':=hj;rw[hr]at hj;rcases List.mem_cons.1 hj with rfl|hj
  ·exact wpOp_mono (fun a' w' h'=>⟨fun _=>h'.1,C2 hsel hs hc hn hQ p _ a' w' (inv.set hj' hin) hp h'.1 h'.2⟩) h.1
  ·obtain rfl:j=k:=by simpa using hj
   rw[hl];exact wpOp_mono (fun a' w' h'=>⟨fun _=>h'.1,C2 hsel hs hc hn hQ q _ a' w' (inv.set hj' hkn) hq h'.1 h'.2⟩) h.2
def Uz(md:Region.Mode)(ops:Array Oper)(n:Nat)(pl:Pl):Bool:=
 Region.noSelect ops&&decide (n<ops.size)&&Region.sinkB md ops n&&Region.chainB md ops n&&GS md ops n pl (Array.replicate ops.size false)&&decide (pl.len=n)
theorem Gh{id:Nat}{a:Act}{w:World}(n:Nat)(pl:Pl)(S:World→Prop)(hm:P.follows .mixedOrders=true)(hB:Uz .any ops n pl=true)
  (hQ:∀c (d:Option Tmp) (v:Value) a w,Q (.panic c) (a.put d v) w→Q (.panic c) a w) (hS:S w.drew) (h:Cw P .any ops Q S n pl a w.drew):(Code.region id ops true).wp P Q a w:=by
 simp only[Uz,Bool.and_eq_true,decide_eq_true_eq]at hB;obtain⟨⟨⟨⟨⟨hsel,hn⟩,hs⟩,hc⟩,hp⟩,hl⟩:=hB;have inv0:HeadInv .any ops n (Array.replicate ops.size false):=
  ⟨by simp,fun j oj _ hl=>(by rw[getD_replicate_false]at hl;cases hl),fun t _ ht=>Go.getD_in (by simpa using ht) (getD_replicate_false _ _)⟩
 have H:=C2 hsel hs hc hn hQ pl _ a w.drew inv0 hp hS h;rw[hl,show n+(ops.size-n)=ops.size by omega]at H;exact wp_region_any hm (Ey _ _ _ _ H)
theorem GD{i:Nat}{p:Pl}{o:Oper}{v:Value}{a:Act}{w:World}(ho:ops[i]?=some o)(hy:YieldsIf P ops S o v a)(h:Cw P md ops Q S n p (a.put o.dst v) w):Cw P md ops Q S n (.read i p) a w:=by
 unfold Cw;rw[ho];exact⟨v,hy,h⟩
theorem Fr{i:Nat}{p:Pl}{o:Oper}{a:Act}{w:World}(ho:ops[i]?=some o)
  (h:∀K':Act→World→Prop,Shut (∀a w,S w→Cw P md ops Q S n p a w→K' a w)→if Region.wanted o (yielded ops a.tmps)=true then Oper.wp P o a w K' Q else K' (a.put o.dst undef) w):Cw P md ops Q S n (.act i p) a w:=by
 unfold Cw;exact wpOp_step ho (fun K' hK=>h K' (fun a w hS hW=>hK a w ⟨hS,hW⟩))
theorem Ou{i j:Nat}{p q:Pl}{o u:Oper}{a:Act}{w:World}(ho:ops[i]?=some o)(hu:ops[j]?=some u)
  (h:∀K':Act→World→Prop,Shut (∀a w,S w→Cw P md ops Q S n p a w→K' a w)→if Region.wanted o (yielded ops a.tmps)=true then Oper.wp P o a w K' Q else K' (a.put o.dst undef) w)
  (g:∀K':Act→World→Prop,Shut (∀a w,S w→Cw P md ops Q S n q a w→K' a w)→if Region.wanted u (yielded ops a.tmps)=true then Oper.wp P u a w K' Q else K' (a.put u.dst undef) w):Cw P md ops Q S n (.two i p j q) a w:=by
 unfold Cw;exact⟨wpOp_step ho (fun K' hK=>h K' (fun a w hS hW=>hK a w ⟨hS,hW⟩)),wpOp_step hu (fun K' hK=>g K' (fun a w hS hW=>hK a w ⟨hS,hW⟩))⟩
theorem GE{a:Act}{w:World}{l:List Oper}(hl:ops.toList.drop n=l)(h:wpList P ops Q l a w):Cw P md ops Q S n .tail a w:=by
 subst hl;exact h
end
end
end Go.Proofs.YtkkeehnldcdccaaGreatDoor
