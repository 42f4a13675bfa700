import Derived.Test.YtijhdmidffenbaaGreatDoorRows
import Derived.Test.YtijhdmidffenbaaGreatDoorCards
import Derived.Test.YtijhdmidffenbaaGreatDoorTie
import Derived.Test.YtijhdmidffenbaaGreatDoorSchOrm
import Derived.ProofKit
import Derived.OpenShut
import Derived.SizedLaws
import Derived.ChangeSlices
import Derived.Deep.Strs
import Derived.Deep.DeepHandedRow
import Derived.Lay
import Derived.LaidMore
import Derived.SevenTiedAt
import Derived.Stop.Joined
import Derived.HandedShaped
import Derived.Shelf.Vars
import Derived.Carry
import Derived.Test.YtijhdmidffenbaaGreatDoorSchXnrm
import Derived.Test.YtijhdmidffenbaaGreatDoorRdM8rm
import Derived.Deep.DeepWitnessRowRef
import Derived.ChangeMaps5
set_option linter.unusedVariables false
set_option linter.unusedSimpArgs false
namespace Go.Proofs.YtijhdmidffenbaaGreatDoor
open Go.ChangeShapes Go.WideShapes Go.ChangeAt Go.RowKit
set_option maxRecDepth 100000
theorem own:ownKnob Tryz.prog.godebug=none:=by kernel_rfl
theorem laidOut:laidOutB Tryz.prog=true:=by kernel_rfl
theorem cellsString:Tryz.prog.cellsOf 9 = 1:=by kernel_rfl
def laids:List (String × DataW Unit):=[("unicode/utf8.acceptRanges",Rows.laid_unicode_utf8_acceptRanges),("mandrel/schema.ones",Rows.laid_mandrel_schema_ones),("unicode/utf8.first",Rows.laid_unicode_utf8_first)]
theorem gOnes:Tryz.prog.globalNamed "mandrel/schema.ones" = some 0:=by kernel_rfl
theorem tOnes:(Tryz.prog.globals[0]?).map (·.type)=some 162:=by kernel_rfl
theorem onesD:(onesL.map fun s=>(DataW.lit (.string s.data.toList):DataW Unit))=[.lit (.string [73,100,101,110,116,105,116,121]),.lit (.string [78,101,103]),.lit (.string [65,98,115]),.lit (.string [78,111,116]),.lit (.string [82,101,108,117]),.lit (.string [83,113,114,116]),.lit (.string [70,108,111,111,114]),.lit (.string [69,120,112]),.lit (.string [83,105,103,109,111,105,100]),.lit (.string [84,97,110,104])]:=by rfl
theorem dataB_inj {a b:ByteArray} (h:a.data.toList=b.data.toList):a=b:=by
 cases a;cases b
 simpa using h
theorem ones_of {W:World} (h:laidMetH Tryz.prog laids W):∀ (j:Nat) s,onesL[j]?=some s→W.cell? ⟨0,j,none⟩=some (.string s):=by
 rw [MakeChecks.laidMetH_plain _ _ _ (by kernel_rfl)] at h;obtain ⟨ps,⟨g0,t0,cs0,f0,p0,q0,hg0,ht0,hv0,hd0,⟨g1,t1,cs1,f1,p1,q1,hg1,ht1,hv1,hd1,_,_⟩,_⟩,_,_⟩:=h;obtain rfl:=Option.some.inj (gOnes.symm.trans hg1);obtain rfl:=Option.some.inj (tOnes.symm.trans ht1);obtain ⟨xs,m,_,ex,_,hl,hel⟩:=DataW.trod_array Tryz.underlying162 hd1;intro j s hj;have hj10:j < 10:=(List.getElem?_eq_some_iff.1 hj).1;have hE:=hel j hj10;rw [cellsString,Nat.mul_one,List.getElem?_eq_getElem (by omega)] at hE;obtain ⟨z,e1,e2,_⟩:=DataW.trod_string Tryz.underlying9 hE;have e3:(xs.map (·.1))=onesL.map fun s=>(DataW.lit (.string s.data.toList):DataW Unit):=by
  rw [onesD];exact (DataW.agg.inj (Prod.mk.inj ex).1).symm
 have e4:(xs.map (·.1))[j]?=(onesL.map fun s=>(DataW.lit (.string s.data.toList):DataW Unit))[j]?:=by rw [e3]
 rw [List.getElem?_map,List.getElem?_map,List.getElem?_eq_getElem (by omega:j < xs.length),hj,e2] at e4;have hz:z=s:=by
  simp only [Option.map_some,Option.some.injEq,DataW.lit.injEq,Lit.string.injEq] at e4;exact dataB_inj e4
 rw [World.var?_cell hg1 hv1 j,←hz];have h0:((cs1.toList.drop j).take 1)[0]?=some (.string z):=by rw [e1];rfl
 simpa using h0
theorem glob_of {W:World} (h:laidMetH Tryz.prog laids W) (hs:W.ShapedOpen Tryz.prog):Glob W where
 ones:=ones_of h
 max:=Go.Proofs.cell_of_shapedOpen_int (zero:=#[.int .i64 0]) (t:=3) hs (of_decide_eq_true (by kernel_rfl)) (by kernel_rfl) rfl (by kernel_rfl) (by kernel_rfl) Tryz.underlying3
theorem laid_met (os:Os) (args:Array Value):laidMetH Tryz.prog laids ((World.laidAll Tryz.prog os laids).forCall (fun _ _=>0) ⟨#[],args,[]⟩).memory:=by
 rw [MakeChecks.laidMetH_plain _ _ _ (by kernel_rfl)];exact laidMet_laidAll _ (by kernel_rfl) (by kernel_rfl)
end Go.Proofs.YtijhdmidffenbaaGreatDoor

set_option linter.unusedVariables false
set_option linter.unusedSimpArgs false
set_option maxRecDepth 100000
namespace Go.Proofs.YtijhdmidffenbaaGreatDoor
open Go.RowKit Go.ChangeShapes Go.WideShapes Go.Deep
theorem SlIn.imp {α:Type} {sz:Nat} {R R':Rd α} {w:World} {v:Value} {xs:List α} (h:SlIn sz R w v xs) (hR:∀ cs x,R w cs x→R' w cs x):SlIn sz R' w v xs:=by
 cases h with
 | empty a0 cap=>exact .empty a0 cap
 | row b off cap _ h0 hc hb hr hlen =>
  refine .row b off cap xs h0 hc hb (fun j x hj=>?_) hlen;obtain ⟨cs,h1,h2,h3⟩:=hr j x hj;exact ⟨cs,h1,hR _ _ h2,h3⟩
theorem SlIn.each {α:Type} {sz:Nat} {R:Rd α} {w:World} {v:Value} {xs:List α} {P:α→Prop} (h:SlIn sz R w v xs) (hR:∀ cs x,R w cs x→P x):∀ x ∈ xs,P x:=fun x hx=>by
 obtain ⟨j,hj⟩:=List.getElem?_of_mem hx;obtain ⟨b,off,cap,cs,h1,h2,h3,h4,h5,h6⟩:=h.rows j x hj;exact hR cs x h5
def rdAttrB:Rd At:=fun w cs a=>rdAttr w cs a∧a.ints.length≤1048575
def rdNodeB:Rd Nd:=fun w cs n=>∃ vin vat,cs=[.string n.op,.string n.name,vin,.string n.out,vat]∧NodeN w n vin vat∧n.attrs.length≤1048575∧∀ a ∈ n.attrs,a.ints.length≤1048575
theorem fits_attrB:Fits Tryz.prog 69 9 rdAttrB:=by
 refine ⟨by kernel_rfl,fun {H} enc W fuel cs x h hlt hb=>?_⟩;obtain ⟨xs,n,_,rfl,hl,hlen,hf⟩:=DataW.trod_struct Tryz.underlying69 h;rw [show Tryz.prog.cellsOf 69 = 9 by kernel_rfl] at hl
 match cs,hl with
 | [c0,c1,c2,c3,c4,c5,c6,c7,c8],_ =>
  obtain ⟨a0,e0,i0⟩:=fits_field hf hlen hlt hb (i:=0) rfl fits_string;obtain ⟨a1,e1,i1⟩:=fits_field hf hlen hlt hb (i:=1) rfl fits_i;obtain ⟨a2,e2,i2⟩:=fits_field hf hlen hlt hb (i:=2) rfl fits_l;obtain ⟨a3,e3,i3⟩:=fits_field hf hlen hlt hb (i:=3) rfl fits_l;obtain ⟨a4,e4,i4⟩:=fits_field hf hlen hlt hb (i:=4) rfl fits_string;obtain ⟨⟨t0,t1,t2⟩,vd,vx,e5,i5,i6,i7⟩:=fits_field hf hlen hlt hb (i:=5) rfl fits_tensor;obtain ⟨a8,v8,e8,i8⟩:=fits_field hf hlen hlt hb (i:=6) rfl fits_data;obtain rfl:=take1 e0;obtain rfl:=take1 e1;obtain rfl:=take1 e2;obtain rfl:=take1 e3;obtain rfl:=take1 e4;obtain rfl:=take1 e8;have e5':[c5,c6,c7]=[.int .i64 t0,vd,vx]:=e5;obtain ⟨rfl,rfl,rfl⟩:c5=.int .i64 t0∧c6=vd∧c7=vx:=by simpa using e5'
  exact ⟨⟨a0,a1,a2,a3,a4,t0,t1,t2,a8⟩,⟨_,_,_,rfl,⟨i6,i7,IntsIn.of_sl i8,i1,i2,i3,i5,i0,i4⟩⟩,i8.len⟩
theorem fits_attrsB:Fits Tryz.prog 23 1 (rdSl 9 rdAttrB):=fits_slice Tryz.underlying23 (by kernel_rfl) (by decide) fits_attrB
theorem fits_nodeB:Fits Tryz.prog 25 5 rdNodeB:=by
 refine ⟨by kernel_rfl,fun {H} enc W fuel cs x h hlt hb=>?_⟩;obtain ⟨xs,n,_,rfl,hl,hlen,hf⟩:=DataW.trod_struct Tryz.underlying25 h;rw [show Tryz.prog.cellsOf 25 = 5 by kernel_rfl] at hl
 match cs,hl with
 | [c0,c1,c2,c3,c4],_ =>
  obtain ⟨a0,e0,i0⟩:=fits_field hf hlen hlt hb (i:=0) rfl fits_string;obtain ⟨a1,e1,i1⟩:=fits_field hf hlen hlt hb (i:=1) rfl fits_string;obtain ⟨a2,v2,e2,i2⟩:=fits_field hf hlen hlt hb (i:=2) rfl fits_strs;obtain ⟨a3,e3,i3⟩:=fits_field hf hlen hlt hb (i:=3) rfl fits_string;obtain ⟨a4,v4,e4,i4⟩:=fits_field hf hlen hlt hb (i:=4) rfl fits_attrsB;obtain rfl:=take1 e0;obtain rfl:=take1 e1;obtain rfl:=take1 e2;obtain rfl:=take1 e3;obtain rfl:=take1 e4;exact ⟨⟨a0,a1,a2,a3,a4⟩,_,_,rfl,⟨StrsIn.of_sl i2,AttrsIn.of_sl (i4.imp fun _ _ h=>h.1)⟩,i4.len,i4.each fun _ _ h=>h.2⟩
theorem open_nodeB {H:Type} {enc:TypeId × Value→H} {W:World} {r:Reach} {b0:Nat} {v:Value} {d:DataW H} {p:List MemPlace}
  (hv:Value.okWide Tryz.prog W r b0 25 v) (hd:DataW.Trod enc Tryz.prog W 0 (fun _=>true) true 25 v d p) (hlt:∀ y ∈ p,y.block < W.heap.size) (hb:Rows.uptoBulk d≤1048576):∃ n,NodeV W v n∧n.attrs.length≤1048575∧∀ a ∈ n.attrs,a.ints.length≤1048575:=by
 obtain ⟨cs,n,rfl,vin,vat,e,h,hl⟩:=open_arg Tryz.underlying25 fits_nodeB hv hd hlt hb;refine ⟨n,⟨vin,vat,?_,h⟩,hl⟩;unfold Nd.val
 congr 1
 rw [←Array.toList_inj,e]
end Go.Proofs.YtijhdmidffenbaaGreatDoor

set_option linter.unusedVariables false
set_option linter.unusedSimpArgs false
set_option maxRecDepth 100000
namespace Go.Proofs.YtijhdmidffenbaaGreatDoor
open Go.RowKit Go.ChangeShapes Go.WideShapes Go.Deep
theorem fits_tensors:Fits Tryz.prog 42 1 (rdSl 3 rdTensor):=fits_slice Tryz.underlying42 (by kernel_rfl) (by decide) fits_tensor
theorem open_tensors {H:Type} {enc:TypeId × Value→H} {W:World} {r:Reach} {b0:Nat} {v:Value} {d:DataW H} {p:List MemPlace}
  (hv:Value.okWide Tryz.prog W r b0 42 v) (hd:DataW.Trod enc Tryz.prog W 0 (fun _=>true) true 42 v d p) (hlt:∀ y ∈ p,y.block < W.heap.size) (hb:Rows.uptoBulk d≤1048576):∃ l,SlIn 3 rdTensor W v l:=by
 obtain ⟨a,len,cap,rfl⟩:=okWide_slice Tryz.underlying42 hv;obtain ⟨fuel,hf⟩:=hd;obtain ⟨l,v1,e,h⟩:=fits_tensors.2 enc W fuel _ _ hf hlt hb;simp [Value.cells] at e;subst e;exact ⟨l,h⟩
end Go.Proofs.YtijhdmidffenbaaGreatDoor

set_option linter.unusedVariables false
set_option linter.unusedSimpArgs false
namespace Go.Proofs.YtijhdmidffenbaaGreatDoor
namespace reduceMay
open Go.ChangeShapes Go.WideShapes Go.ChangeAt Go.RowKit Go.ChangeMaps
set_option maxRecDepth 100000
theorem reads (os:Os) {H:Type} (enc:TypeId × Value→H):∃ places,DataW.whole enc Tryz.prog ((World.laidAll Tryz.prog os laids).forCall (fun _ _=>0) ⟨#[],#[.agg #[.string ⟨#[]⟩,.string ⟨#[]⟩,.slice none 0 0,.string ⟨#[]⟩,.slice none 0 0],.slice none 0 0],[]⟩).memory Tryz.f8.params.toList Rows.reduceMaySpec.vars false (#[.agg #[.string ⟨#[]⟩,.string ⟨#[]⟩,.slice none 0 0,.string ⟨#[]⟩,.slice none 0 0],.slice none 0 0]:Array Value).toList 8=some ([.agg [.lit (.string []),.lit (.string []),.nil,.lit (.string []),.nil],.nil],[],places) :=
 ⟨[],by kernel_rfl⟩
set_option maxHeartbeats 1000000 in
theorem lifted (os:Os) (started:os.Started) (H:Type) (enc:TypeId × Value→H) (F:Stop.Interp) :
  ReturnsInHanded {} Tryz.checked os 8 .any ((Rows.OpenSpec.upto Rows.reduceMaySpec).preRow enc Tryz.prog Tryz.f8 Rows.reduceMayUptoRow.domain false Rows.reduceMayUptoRow.laid) (((Rows.OpenSpec.upto Rows.reduceMaySpec).at F).post enc Tryz.prog Tryz.f8 false true false false):=by
 obtain ⟨places,hx⟩:=reads os enc;refine returnsInHanded_of_row (C:=Tryz.checked) (s:=(Rows.OpenSpec.upto Rows.reduceMaySpec)) own started (by kernel_rfl) Tryz.func8
  (witness_row_atRef (enc:=enc) (C:=Tryz.checked) false (World.laidAll Tryz.prog os laids) #[.agg #[.string ⟨#[]⟩,.string ⟨#[]⟩,.slice none 0 0,.string ⟨#[]⟩,.slice none 0 0],.slice none 0 0] (World.laidAll_os _ _ _) (by kernel_rfl) (by kernel_rfl) (by kernel_rfl)
   (OpenSpec.preRow_of_cond 8 hx (by kernel_rfl) (fun k hk=>by cases hk;kernel_rfl) (by kernel_rfl) (laid_met os _))) ?_
 intro W base args ds gs before hval0 hW _ hcond hsz0 hL hSh _;have hG:Glob W:=glob_of hL hSh;have hsz:(DataW.weightsEach Tryz.prog (Tryz.f8.params.toList++Rows.reduceMaySpec.plain.varTypes Tryz.prog) (ds++gs)).all (· ≤ reachBytes)=true:=hsz0;have hval:∀ (j:Nat) t v,Tryz.f8.params[j]?=some t→args[j]?=some v→Value.okWide Tryz.prog W .any base t v:=hval0;have hW':DataW.Whole enc Tryz.prog Tryz.f8.params.toList Rows.reduceMaySpec.vars false W args.toList ds gs before:=hW;obtain ⟨p,q,hA0,hV,rfl,hfz,hnd⟩:=hW;have hA:DataW.TrodAll enc Tryz.prog W 0 (fun _=>true) true Tryz.f8.params.toList args.toList ds p:=hA0;rw [Tryz.params8] at hA hval hsz;obtain ⟨v0,vs0,d0,ds0,p0,q0,hargs,rfl,rfl,h0,r0⟩:=trodAll_cons hA;obtain ⟨v1,vs1,d1,ds1,p1,q1,rfl,rfl,rfl,h1,r1⟩:=trodAll_cons r0;obtain ⟨rfl,rfl,rfl⟩:=trodAll_nil r1;obtain rfl:args=#[v0,v1]:=by cases args;simp_all
 obtain ⟨rfl,rfl⟩:=trodVars_none hV;have hbulk:Rows.uptoBulkAll [d0,d1]≤1048576:=by
  have:=of_decide_eq_true (hcond _ rfl)
  simpa using this
 simp only [Rows.uptoBulkAll] at hbulk;have hw:∀ (j:Nat) t d,[25,42][j]?=some t→[d0,d1][j]?=some d→∀ n ∈ d.weights Tryz.prog t,n≤reachBytes:=by
  intro j t d ht hd n hn;have:=List.all_eq_true.1 hsz n (DataW.weights_mem_each (j:=j) (t:=t) (d:=d) (by
   match j,ht with
   | 0,h=>simpa using h
   | 1,h=>simpa using h) (by
   match j,hd with
   | 0,h=>simpa using h
   | 1,h=>simpa using h) n hn)
  simpa using this
 simp only [List.append_nil] at hW';have hlt:∀ x ∈ p0++p1,x.block < W.heap.size:=fun x hx=>by simpa using hW'.lt x (by simpa using hx)
 obtain ⟨nd0,i0,b0,m0⟩:=open_nodeB (hval 0 25 v0 rfl rfl) h0 (fun y hy=>hlt y (by simp [hy])) (show Rows.uptoBulk d0≤1048576 by omega);obtain ⟨l1,i1⟩:=open_tensors (hval 1 42 v1 rfl rfl) h1 (fun y hy=>hlt y (by simp [hy])) (show Rows.uptoBulk d1≤1048576 by omega);clear hA0 hval0;refine (may11_walk  i0 b0 m0 i1 hG).mono fun e W' ⟨he,hnx⟩=>?_;subst he;refine ⟨_,rfl,_,_,_,[],_,[],hW',(trodAll_cons_mk (shut_bool Tryz.underlying4 _) trodAll_mk0),(trodAll_cons_mk (Below.trod laidOut (by kernel_rfl) (of_decide_eq_true (by kernel_rfl)) h0 hnx (fun x hx=>hlt x (by simp [hx]))) (trodAll_cons_mk (Below.trod laidOut (by kernel_rfl) (of_decide_eq_true (by kernel_rfl)) h1 hnx (fun x hx=>hlt x (by simp [hx]))) trodAll_mk0)),rfl,hnx.frame _,fun h=>by cases h⟩
theorem over:Rows.reduceMayUptoRow.holds Tryz.pinned (Rows.OpenSpec.upto Rows.reduceMaySpec) :=
 OpenClaim.holds_of_cond 8 Tryz.f8 rfl rfl rfl rfl rfl rfl rfl ⟨rfl,rfl,rfl,rfl,rfl⟩ rfl rfl rfl rfl rfl (by kernel_rfl) Tryz.func8 (by kernel_rfl)
  (of_decide_eq_true (by kernel_rfl)) (by unfold Func.isWrapper;first | (rw [if_pos (by decide +kernel)];kernel_rfl) | (rw [if_neg (by decide +kernel)];exact ⟨rfl,rfl⟩))
  (fun os started H enc _ F=>by rw [OpenClaim.pre_eq_preRow];exact lifted os started H enc F)
theorem plain (f:FuncId) (fn:Func) (hf:Tryz.pinned.checked.prog.funcNamed "mandrel/mandrellaw11.ReduceMay" = some f) (hfn:Tryz.pinned.checked.prog.funcs[f]?=some fn) :
  true=Tryz.pinned.checked.prog.looks []∧∀ (j:Nat) t,fn.params[j]?=some t→Tryz.pinned.checked.prog.wantsStandIn t=false:=by
 obtain rfl:f=8:=Option.some.inj ((show Tryz.prog.funcNamed "mandrel/mandrellaw11.ReduceMay" = some 8 by kernel_rfl).symm.trans hf) |>.symm;obtain rfl:fn=Tryz.f8:=(Option.some.inj (Tryz.func8.symm.trans hfn)).symm;refine ⟨by kernel_rfl,fun j t ht=>?_⟩;rw [Tryz.params8] at ht;have hm:t ∈ [25,42]:=by simpa using Array.mem_of_getElem? ht
 have hall:([25,42].all fun u=>!Tryz.prog.wantsStandIn u)=true:=by kernel_rfl
 exact (show Tryz.prog.wantsStandIn t=false by simpa using List.all_eq_true.1 hall t hm)
theorem proved:Rows.ReduceMayUptoCardSaid :=
 Claim7.holds_tied_plain_at .later [] _ _ _ _ over (fun _ h=>by cases h) (by kernel_rfl) (fun _ h=>by cases h) reduceMayUpto_row_tie rfl ⟨rfl,rfl⟩ (by kernel_rfl) rfl plain (by kernel_rfl)
#print axioms proved
end reduceMay
end Go.Proofs.YtijhdmidffenbaaGreatDoor
