import Derived.Deep.DeepWitnessRowRef
import Derived.ChangeMaps5
import Derived.Test.YtkkeehnldcdccaaGreatDoorNe46
set_option linter.unusedVariables false
set_option linter.unusedSimpArgs false
set_option maxRecDepth 100000
set_option maxHeartbeats 4000000
namespace Go.Proofs.YtkkeehnldcdccaaGreatDoor
section
namespace inferNodes
open Go.ChangeShapes Go.WideShapes Go.ChangeAt Go.RowKit Go.ChangeMaps
theorem reads(os:Os){H:Type}(enc:TypeId×Value→H):∃Ko,DataW.whole enc Tryz.prog ((World.laidAll Tryz.prog os ML).forCall (fun _ _=>0) ⟨#[],#[.agg #[.string ⟨#[]⟩,.string ⟨#[]⟩,.slice none 0 0,.string ⟨#[]⟩,.slice none 0 0],.slice none 0 0],[]⟩).memory Tryz.f3.params.toList Rows.inferNodesSpec.vars false (#[.agg #[.string ⟨#[]⟩,.string ⟨#[]⟩,.slice none 0 0,.string ⟨#[]⟩,.slice none 0 0],.slice none 0 0]:Array Value).toList 8=some ([.agg [.lit (.string []),.lit (.string []),.nil,.lit (.string []),.nil],.nil],[],Ko):=
 ⟨[],by kernel_rfl⟩
theorem lifted(os:Os)(started:os.Started)(H:Type)(enc:TypeId×Value→H)(F:Stop.Interp) :
  ReturnsInHanded {} Tryz.checked os 3 .any ((Rows.OpenSpec.upto Rows.inferNodesSpec).preRow enc Tryz.prog Tryz.f3 Rows.inferNodesUptoRow.domain false Rows.inferNodesUptoRow.laid) (((Rows.OpenSpec.upto Rows.inferNodesSpec).at F).post enc Tryz.prog Tryz.f3 false true false false):=by
 obtain⟨Ko,hx⟩:=reads os enc;refine returnsInHanded_of_row (C:=Tryz.checked) (s:=(Rows.OpenSpec.upto Rows.inferNodesSpec)) own started (by kernel_rfl) Tryz.func3
  (witness_row_atRef (enc:=enc) (C:=Tryz.checked) false (World.laidAll Tryz.prog os ML) #[.agg #[.string ⟨#[]⟩,.string ⟨#[]⟩,.slice none 0 0,.string ⟨#[]⟩,.slice none 0 0],.slice none 0 0] (World.laidAll_os _ _ _) (by kernel_rfl) (by kernel_rfl) (by kernel_rfl)
   (OpenSpec.preRow_of_cond 8 hx (by kernel_rfl) (fun k hk=>by cases hk;kernel_rfl) (by kernel_rfl) (Wx os _))) ?_
 intro W base args ds gs before hval0 hW _ hcond hsz0 hL hSh _;have hG:Eu W:=XV hL hSh;have hsz:(DataW.weightsEach Tryz.prog (Tryz.f3.params.toList++Rows.inferNodesSpec.plain.varTypes Tryz.prog) (ds++gs)).all (· ≤reachBytes)=true:=hsz0;have hval:∀(j:Nat) t v,Tryz.f3.params[j]?=some t→args[j]?=some v→Value.okWide Tryz.prog W .any base t v:=hval0;have hW':DataW.Whole enc Tryz.prog Tryz.f3.params.toList Rows.inferNodesSpec.vars false W args.toList ds gs before:=hW;obtain⟨p,q,hA0,hV,rfl,hfz,hnd⟩:=hW;have hA:DataW.TrodAll enc Tryz.prog W 0 (fun _=>true) true Tryz.f3.params.toList args.toList ds p:=hA0;rw[Tryz.params3]at hA hval hsz;obtain⟨v0,vs0,d0,ds0,p0,q0,hargs,rfl,rfl,h0,r0⟩:=trodAll_cons hA;obtain⟨v1,vs1,d1,ds1,p1,q1,rfl,rfl,rfl,h1,r1⟩:=trodAll_cons r0;obtain⟨rfl,rfl,rfl⟩:=trodAll_nil r1;obtain rfl:args=#[v0,v1]:=by cases args;simp_all
 obtain⟨rfl,rfl⟩:=trodVars_none hV;have hbulk:Rows.uptoBulkAll [d0,d1]≤1048576:=by
  have:=of_decide_eq_true (hcond _ rfl)
  simpa using this
 simp only[Rows.uptoBulkAll]at hbulk;have hw:∀(j:Nat) t d,[25,26][j]?=some t→[d0,d1][j]?=some d→∀n∈d.weights Tryz.prog t,n≤reachBytes:=by
  intro j t d ht hd n hn;have:=List.all_eq_true.1 hsz n (DataW.weights_mem_each (j:=j) (t:=t) (d:=d) (by
   match j,ht with
   | 0,h=>simpa using h
   | 1,h=>simpa using h) (by
   match j,hd with
   | 0,h=>simpa using h
   | 1,h=>simpa using h) n hn)
  simpa using this
 simp only[List.append_nil]at hW';have hlt:∀x∈p0++p1,x.block<W.heap.size:=fun x hx=>by simpa using hW'.lt x (by simpa using hx)
 obtain⟨nd0,i0,b0,m0⟩:=RD (hval 0 25 v0 rfl rfl) h0 (fun y hy=>hlt y (by simp[hy])) (show Rows.uptoBulk d0≤1048576 by omega);obtain⟨l1,i1⟩:=PX (hval 1 26 v1 rfl rfl) h1 (fun y hy=>hlt y (by simp[hy])) (show Rows.uptoBulk d1≤1048576 by omega);clear hA0 hval0;refine(NN  i0 b0 m0 i1 hG).mono fun e W' ⟨he,hnx⟩=>?_;subst he;refine⟨_,rfl,_,_,_,[],_,[],hW',(trodAll_cons_mk (shut_bool Tryz.underlying4 _) trodAll_mk0),(trodAll_cons_mk (Below.trod SC (by kernel_rfl) (of_decide_eq_true (by kernel_rfl)) h0 hnx (fun x hx=>hlt x (by simp[hx]))) (trodAll_cons_mk (Below.trod SC (by kernel_rfl) (of_decide_eq_true (by kernel_rfl)) h1 hnx (fun x hx=>hlt x (by simp[hx]))) trodAll_mk0)),rfl,hnx.frame _,fun h=>by cases h⟩
theorem over:Rows.inferNodesUptoRow.holds Tryz.pinned (Rows.OpenSpec.upto Rows.inferNodesSpec):=
 OpenClaim.holds_of_cond 3 Tryz.f3 rfl rfl rfl rfl rfl rfl rfl ⟨rfl,rfl,rfl,rfl,rfl⟩ rfl rfl rfl rfl rfl (by kernel_rfl) Tryz.func3 (by kernel_rfl)
  (of_decide_eq_true (by kernel_rfl)) (by unfold Func.isWrapper;first|(rw[if_pos (by decide+kernel)];kernel_rfl)|(rw[if_neg (by decide+kernel)];exact⟨rfl,rfl⟩))
  (fun os started H enc _ F=>by rw[OpenClaim.pre_eq_preRow];exact lifted os started H enc F)
theorem plain(f:FuncId)(fn:Func)(hf:Tryz.pinned.checked.prog.funcNamed "mandrel/mandrellaw08.InferNodes" =some f)(hfn:Tryz.pinned.checked.prog.funcs[f]?=some fn) :
  true=Tryz.pinned.checked.prog.looks []∧∀(j:Nat) t,fn.params[j]?=some t→Tryz.pinned.checked.prog.wantsStandIn t=false:=by
 obtain rfl:f=3:=Option.some.inj ((show Tryz.prog.funcNamed "mandrel/mandrellaw08.InferNodes" =some 3 by kernel_rfl).symm.trans hf) |>.symm;obtain rfl:fn=Tryz.f3:=(Option.some.inj (Tryz.func3.symm.trans hfn)).symm;refine⟨by kernel_rfl,fun j t ht=>?_⟩;rw[Tryz.params3]at ht;have hm:t∈[25,26]:=by simpa using Array.mem_of_getElem? ht
 have hall:([25,26].all fun u=>!Tryz.prog.wantsStandIn u)=true:=by kernel_rfl
 exact(show Tryz.prog.wantsStandIn t=false by simpa using List.all_eq_true.1 hall t hm)
theorem proved:Rows.InferNodesUptoCardSaid:=
 Claim7.holds_tied_plain_at .later [] _ _ _ _ over (fun _ h=>by cases h) (by kernel_rfl) (fun _ h=>by cases h) inferNodesUpto_row_tie rfl ⟨rfl,rfl⟩ (by kernel_rfl) rfl plain (by kernel_rfl)
#print axioms proved
end inferNodes
end
end Go.Proofs.YtkkeehnldcdccaaGreatDoor
