import Derived.Test.YtijhdmidffenbaaGreatDoorRegrm
set_option linter.unusedVariables false
set_option linter.unusedSimpArgs false
namespace Go.Proofs.YtijhdmidffenbaaGreatDoor
open Go
section
variable {P:Program} {ops:Array Oper} {Q:Exit→Act→World→Prop} {md:Region.Mode} {S:World→Prop} {n:Nat}
theorem wpAnyP_firstA {i:Nat} {oi:Oper} {v:Value} (hi:ops[i]?=some oi) (hsel:∀ (j:Nat) (o:Oper) cs b,ops[j]?=some o→o.op≠.select cs b)
  (hn:ops.size≤n) (hin:i < n)
  (hQ:∀ c a w,Q (.panic c) (a.put oi.dst v) w→Q (.panic c) a w) :
  ∀ (fuel:Nat) (listed:Array Bool) (a:Act) (w:World),HeadInv md ops n listed →
   (∀ j oj,ops[j]?=some oj→j≠i→listed.getD j true=false→(∀ e ∈ oj.after,Region.binds md e=true→e.on≠i)→oi.apart ops oj=true) →
   i ∈ Region.ready md ops listed→YieldsIf P ops S oi v a→S w →
   wpAnyP P md ops Q S n fuel (listed.setIfInBounds i true) (a.put oi.dst v) w→wpAnyP P md ops Q S n (fuel+1) listed a w:=by
 intro fuel
 induction fuel with
 | zero =>
  intro listed a w inv _ hr hy hS H;refine ⟨fun h=>(by rw [h] at hr;cases hr),fun j hj=>?_⟩;by_cases hji:j=i
  ·subst hji;exact hy.wpOp hi hS ⟨fun _=>hS,H⟩
  ·have:=ready_mono hj hji;rw [H.1] at this;cases this
 | succ fuel ih =>
  intro listed a w inv hfree hr hy hS H;refine ⟨fun h=>(by rw [h] at hr;cases hr),fun j hj=>?_⟩;have hun:=(mem_ready.1 hr).1;have hjn:j < n:=by
   obtain ⟨-,oj,hoj,-⟩:=mem_ready.1 hj;have:=(Array.getElem?_eq_some_iff.1 hoj).1;omega
  by_cases hji:j=i
  ·subst hji;exact hy.wpOp hi hS ⟨fun _=>hS,H⟩
  ·have h1:=H.2 j (ready_mono hj hji);obtain ⟨hjun,oj,hoj,hall⟩:=mem_ready.1 hj;have hnot:∀ e ∈ oj.after,Region.binds md e=true→e.on≠i:=fun e he hb heq=>by
    have h1:=hall e he hb;rw [heq,getD_both hun] at h1;cases h1
   have h2:=wpOp_putIf hoj (hfree j oj hoj hji hjun hnot) (fun cs b=>hsel i oi cs b hi) (fun cs b=>hsel j oj cs b hoj) hQ hy h1;have hfree':∀ k ok,ops[k]?=some ok→k≠i→(listed.setIfInBounds j true).getD k true=false →
     (∀ e ∈ ok.after,Region.binds md e=true→e.on≠i)→oi.apart ops ok=true:=fun k ok hk hki hun hno=>by
    refine hfree k ok hk hki ?_ hno;by_cases hjk:j=k
    ·subst hjk;exact hjun
    ·rw [getD_set_ne true hjk] at hun;exact hun
   refine wpOp_mono (fun a' w' h3=>⟨fun _=>h3.2.1 hjn,ih (listed.setIfInBounds j true) a' w' (inv.set hj hjn) hfree' (ready_mono hr (Ne.symm hji)) h3.1 (h3.2.1 hjn) ?_⟩) h2;rw [Array.setIfInBounds_comm _ _ hji];exact h3.2.2
theorem wpAnyP_of_planA (hsel:Region.noSelect ops=true) (hn:n=ops.size)
  (hQ:∀ c (d:Option Tmp) (v:Value) a w,Q (.panic c) (a.put d v) w→Q (.panic c) a w) :
  ∀ (pl:List Nat) (listed:Array Bool) (a:Act) (w:World),HeadInv md ops n listed→planB md ops n pl listed=true→S w→wpPlan P md ops Q S n pl a w →
   wpAnyP P md ops Q S n (pl.length+(ops.size - n)) listed a w
 | [],listed,a,w,inv,hB,hS,h=>by
  have h1:=wpAnyP_of_seq (S:=S) (n:=n) (ops.toList.drop n) n listed a w (Nat.le_refl _) (fun j=>by simp [List.getElem?_drop]) (by simpa [planB] using hB) h
  simpa using h1
 | i :: rest,listed,a,w,inv,hB,hS,h=>by
  unfold planB at hB;unfold wpPlan at h;cases ho:ops[i]? with
  | none=>rw [ho] at hB;cases hB
  | some o =>
   rw [ho] at hB h;simp only [Bool.and_eq_true,decide_eq_true_eq] at hB;obtain ⟨⟨hin,hr⟩,hB'⟩:=hB;rw [show (i :: rest).length+(ops.size - n)=(rest.length+(ops.size - n))+1 by rw [List.length_cons];omega];cases hq:quietOp o with
   | true =>
    simp only [hq,if_true,Bool.and_eq_true] at hr h;obtain ⟨v,hy,h⟩:=h;have hr':i ∈ Region.ready md ops listed:=by simpa using hr.1
    exact wpAnyP_firstA ho (Region.noSelect_spec hsel) (by omega) hin (fun c a w h=>hQ c _ _ a w h) _ listed a w inv (Region.free_spec ho hr.2) hr' hy hS
     (wpAnyP_of_planA hsel hn hQ rest _ _ w (inv.set hr' hin) hB' hS h)
   | false =>
    simp only [hq,Bool.false_eq_true,if_false,decide_eq_true_eq] at hr h;refine ⟨fun h1=>(by rw [hr] at h1;cases h1),fun j hj=>?_⟩;have hj':=hj;rw [hr] at hj;obtain rfl:j=i:=by simpa using hj
    exact wpOp_mono (fun a' w' h'=>⟨fun _=>h'.1,wpAnyP_of_planA hsel hn hQ rest _ a' w' (inv.set hj' hin) hB' h'.1 h'.2⟩) h
def regA (md:Region.Mode) (ops:Array Oper) (pl:List Nat):Bool :=
 Region.noSelect ops&&planB md ops ops.size pl (Array.replicate ops.size false)&&decide (pl.length=ops.size)
theorem wp_region_all {id:Nat} {a:Act} {w:World} (pl:List Nat) (S:World→Prop) (hm:P.follows .mixedOrders=true) (hB:regA .any ops pl=true)
  (hQ:∀ c (d:Option Tmp) (v:Value) a w,Q (.panic c) (a.put d v) w→Q (.panic c) a w) (hS:S w.drew) (h:wpPlan P .any ops Q S ops.size pl a w.drew):(Code.region id ops true).wp P Q a w:=by
 simp only [regA,Bool.and_eq_true,decide_eq_true_eq] at hB;obtain ⟨⟨hsel,hp⟩,hl⟩:=hB;have inv0:HeadInv .any ops ops.size (Array.replicate ops.size false) :=
  ⟨by simp,fun j oj _ hl=>(by rw [getD_replicate_false] at hl;cases hl),fun t h1 h2=>absurd h2 (by omega)⟩
 have H:=wpAnyP_of_planA hsel rfl hQ pl _ a w.drew inv0 hp hS h;rw [hl,Nat.sub_self,Nat.add_zero] at H;exact wp_region_any hm (wpAny_of_P _ _ _ _ H)
theorem plan_end {a:Act} {w:World} (h:Q .normal a w):wpPlan P md ops Q S ops.size [] a w:=by
 show wpList P ops Q (ops.toList.drop ops.size) a w;rw [List.drop_eq_nil_of_le (by simp)];exact h
end
end Go.Proofs.YtijhdmidffenbaaGreatDoor
