import Derived.Test.YtijhdmidffenbaaGreatDoorInM2rm
import Derived.Test.YtijhdmidffenbaaGreatDoorInM3rm
import Derived.Test.YtijhdmidffenbaaGreatDoorJaM3rm
import Derived.Test.YtijhdmidffenbaaGreatDoorJaM2rm
import Derived.Test.YtijhdmidffenbaaGreatDoorJaM4rm
set_option linter.unusedVariables false
set_option linter.unusedSimpArgs false
namespace Go.Proofs.YtijhdmidffenbaaGreatDoor
section
open Go.RowKit
set_option maxRecDepth 100000
def opT:List (List UInt8 × Nat × Nat × Nat):=[([67,111,110,115,116,97,110,116],0,0,0),([73,100,101,110,116,105,116,121],1,1,1),([78,101,103],1,1,1),([65,98,115],1,1,1),([78,111,116],1,1,1),([82,101,108,117],1,1,1),([83,113,114,116],1,1,1),([70,108,111,111,114],1,1,1),([69,120,112],1,1,1),([83,105,103,109,111,105,100],1,1,1),([84,97,110,104],1,1,1),([69,113,117,97,108],2,2,2),([76,101,115,115],2,2,2),([71,114,101,97,116,101,114],2,2,2),([65,100,100],3,2,2),([83,117,98],3,2,2),([77,117,108],3,2,2),([68,105,118],3,2,2),([77,97,120],3,2,2),([77,105,110],3,2,2),([65,110,100],3,2,2),([79,114],3,2,2),([88,111,114],3,2,2),([87,104,101,114,101],4,3,3),([67,97,115,116],5,1,1),([82,101,100,117,99,101,83,117,109],6,1,1),([82,101,100,117,99,101,77,97,120],6,1,1),([65,114,103,77,97,120],7,1,1),([67,111,110,99,97,116],8,1,20),([71,97,116,104,101,114],9,2,2),([82,101,115,104,97,112,101],10,1,1),([69,120,112,97,110,100],11,1,1),([84,114,97,110,115,112,111,115,101],12,1,1),([83,108,105,99,101],13,1,1),([83,113,117,101,101,122,101],14,1,1),([85,110,115,113,117,101,101,122,101],15,1,1),([70,108,97,116,116,101,110],16,1,1),([80,97,100],17,1,1),([67,108,105,112],18,1,1),([83,111,102,116,109,97,120],19,1,1),([82,101,100,117,99,101,77,101,97,110],20,1,1),([77,97,116,77,117,108],21,2,2),([71,101,109,109],22,2,3),([67,111,110,118],23,2,3),([77,97,120,80,111,111,108],24,1,1),([65,118,101,114,97,103,101,80,111,111,108],24,1,1),([71,108,111,98,97,108,65,118,101,114,97,103,101,80,111,111,108],25,1,1),([66,97,116,99,104,78,111,114,109,97,108,105,122,97,116,105,111,110],26,5,5)]
def clsP (op:List UInt8):Nat:=match opT.find? (fun q=>q.1==op) with | some q=>q.2.1 | none=>99
def vlZ:Vl:=⟨⟨#[]⟩,0,[]⟩
theorem gv {ins:List Vl} {j:Nat} {x:Vl} (h:ins[j]?=some x):ins.getD j vlZ=x:=by simp [List.getD,h]
def cA (n:Nd):At:=(n.attrs.find? isVal).getD At.zero
def tyO (n:Nd) (ins:List Vl):Int × Int:=match clsP n.op.toList with
 | 0=>(0,(cA n).typ)
 | 1=>typU (Fl.un n.op.toList (ins.getD 0 vlZ).typ 0).2 (ins.getD 0 vlZ).typ
 | 2=>typC (Fl.bin n.op.toList (ins.getD 0 vlZ).typ 0 0).2 (alB ins (ins.getD 0 vlZ).typ)
 | 3=>typA (Fl.bin n.op.toList (ins.getD 0 vlZ).typ 0 0).2 (alB ins (ins.getD 0 vlZ).typ) (ins.getD 0 vlZ).typ
 | 4=>typW (ins.getD 0 vlZ).typ (ins.getD 1 vlZ).typ (ins.getD 2 vlZ).typ
 | 5=>typK (intP n.attrs nmTo 0)
 | 6=>typS (ins.getD 0 vlZ).typ (ins.getD 0 vlZ).typ
 | 7=>typS (ins.getD 0 vlZ).typ 7
 | 8=>typD (alB ins (ins.getD 0 vlZ).typ) (ins.getD 0 vlZ).typ
 | 9=>typG (ins.getD 1 vlZ).typ (ins.getD 0 vlZ).typ
 | 10=>(0,(ins.getD 0 vlZ).typ)
 | 11=>(0,(ins.getD 0 vlZ).typ)
 | 12=>(0,(ins.getD 0 vlZ).typ)
 | 13=>(0,(ins.getD 0 vlZ).typ)
 | 14=>(0,(ins.getD 0 vlZ).typ)
 | 15=>(0,(ins.getD 0 vlZ).typ)
 | 16=>(0,(ins.getD 0 vlZ).typ)
 | _=>typD (alB ins 1) (ins.getD 0 vlZ).typ
def dsO (n:Nd) (ins:List Vl):Int × List Int:=match clsP n.op.toList with
 | 0=>(0,(cA n).dims)
 | 1=>(0,(ins.getD 0 vlZ).dims)
 | 2=>Vb.bcO (ins.getD 0 vlZ).dims (ins.getD 1 vlZ).dims
 | 3=>Vb.bcO (ins.getD 0 vlZ).dims (ins.getD 1 vlZ).dims
 | 4=>whereO (ins.getD 0 vlZ).dims (ins.getD 1 vlZ).dims (ins.getD 2 vlZ).dims
 | 5=>(0,(ins.getD 0 vlZ).dims)
 | 6=>redO n (ins.getD 0 vlZ).dims
 | 7=>redO n (ins.getD 0 vlZ).dims
 | 8=>optO (concatP n (ins.getD 0 vlZ).dims (ins.drop 1))
 | 9=>gatO n (ins.getD 0 vlZ).dims (ins.getD 1 vlZ).dims
 | 10=>optO (reshapeP n (ins.getD 0 vlZ).dims)
 | 11=>expO n (ins.getD 0 vlZ).dims
 | 12=>optO (transP n (ins.getD 0 vlZ).dims)
 | 13=>optO (sliceP n (ins.getD 0 vlZ).dims)
 | 14=>optO (squeezeP n (ins.getD 0 vlZ).dims)
 | 15=>optO (unsqP n (ins.getD 0 vlZ).dims)
 | 16=>optO (flatP n (ins.getD 0 vlZ).dims)
 | 17=>optO (padP n (ins.getD 0 vlZ).dims)
 | 18=>(0,(ins.getD 0 vlZ).dims)
 | 19=>softO n (ins.getD 0 vlZ).dims
 | 20=>redO n (ins.getD 0 vlZ).dims
 | 21=>productP (ins.getD 0 vlZ).dims (ins.getD 1 vlZ).dims
 | 22=>gemmO n (ins.getD 0 vlZ).dims (ins.getD 1 vlZ).dims ((ins[2]?).map Vl.dims)
 | 23=>optO (convP n (ins.getD 0 vlZ).dims (ins.getD 1 vlZ).dims ((ins[2]?).map Vl.dims))
 | 24=>optO (poolP n (ins.getD 0 vlZ).dims)
 | 25=>optO (gapP (ins.getD 0 vlZ).dims)
 | _=>optO (bnP (ins.getD 0 vlZ).dims (ins.drop 1))
theorem tab_opT:∀ q ∈ tab0,∃ r ∈ opT,q.1=r.1∧q.2.least=(r.2.2.1:Int)∧q.2.most=(r.2.2.2:Int):=by decide +kernel
theorem ones_opT:∀ s ∈ onesL,∃ r ∈ opT,s.data.toList=r.1∧r.2.2.1=1∧r.2.2.2=1:=by decide +kernel
theorem ops_of {n:Nd} (h:checkP n=0):∃ r ∈ opT,n.op.toList=r.1∧r.2.2.1≤n.ins.length∧n.ins.length≤r.2.2.2:=by
 unfold checkP at h;split at h
 ·omega
 split at h
 ·omega
 split at h
 ·omega
 rename_i h0 h1 h3
 clear h;unfold rulP at h0 h1 h3;split at h0
 ·rename_i r hr
  rw [hr] at h1 h3;obtain ⟨q,hq,e1,e2,e3⟩:=tab_opT _ (look_memL _ hr);dsimp only at e1 e2 e3 h1 h3;exact ⟨q,hq,e1,by omega,by omega⟩
 ·rename_i hr
  rw [hr] at h1 h3;have ho:oneB n.op=true:=by simpa using h0
  obtain ⟨s,hs,e⟩:=List.any_eq_true.1 (show onesL.any (fun s=>decide (s=n.op))=true from ho);have e:=of_decide_eq_true e;subst e;obtain ⟨q,hq,e1,e2,e3⟩:=ones_opT _ hs;dsimp only at h1 h3;exact ⟨q,hq,by rw [←e1,ByteArray.toList_eq],by omega,by omega⟩
theorem inp_all:∀ {l:List Vl},inpE l=0→∀ v ∈ l,chk v.typ 0=true∧(cnt v.dims).2=0
 | [],_,v,hv=>by cases hv
 | x :: l,h,v,hv=>by
  rw [inpE] at h;split at h
  ·omega
  rename_i h1
  split at h
  ·rename_i h2;exact absurd h h2
  rename_i h2
  rcases List.mem_cons.1 hv with rfl | hv
  ·exact ⟨by simpa using h1,by simpa using h2⟩
  ·exact inp_all h v hv
theorem inp_sm {l:List Vl} (h:inpE l=0):∀ v ∈ l,Sm v.dims:=fun v hv=>sm_of (inp_all h v hv).2
theorem loopA_all {ws:List ByteArray} {ats:List At}:∀ {l:List At} {k:Nat},loopA ws ats k l=0→∀ a ∈ l,∃ j,attE ws ats j a=0
 | [],k,h,a,ha=>by cases ha
 | b :: l,k,h,a,ha=>by
  unfold loopA at h;split at h
  ·rename_i h1
   rcases List.mem_cons.1 ha with rfl | ha
   ·exact ⟨k,h1⟩
   ·exact loopA_all h a ha
  ·rename_i h1;exact absurd h h1
def opConst:ByteArray:=⟨#[67,111,110,115,116,97,110,116]⟩
def wVal:ByteArray:=⟨#[118,97,108,117,101,32,116,42]⟩
def wThen:ByteArray:=⟨#[116,104,101,110,32,120]⟩
theorem words_const:wordsL (ruleB (rulP opConst).1)=[wVal,wThen]:=by decide +kernel
theorem has_val:hasW nmVal wVal=true:=by decide +kernel
theorem kind_val:kindL (letter wVal (nmVal.size+1))=4:=by decide +kernel
theorem word_val:Lib.hasSuffix (wordK wVal).data.toList [42]=true∧wordN wVal=nmVal∧kindL (letter (wordK wVal++(⟨#[32]⟩:ByteArray)) 0)=4:=by decide +kernel
theorem isVal_iff {a:At}:isVal a=true↔a.name=nmVal:=by
 unfold isVal;rw [beq_iff_eq];constructor
 ·intro h;exact toList_inj (by rw [h];unfold nmVal;rw [ByteArray.toList_eq])
 ·intro h;rw [h];unfold nmVal;rw [ByteArray.toList_eq]
theorem const_attr {n:Nd} (h:checkP n=0) (ho:n.op.toList=[67,111,110,115,116,97,110,116]):∃ a,n.attrs.find? isVal=some a∧pbE a.typ a.dims a.data=0:=by
 have hop:n.op=opConst:=toList_inj (by rw [ho];unfold opConst;rw [ByteArray.toList_eq]);unfold checkP at h;split at h
 ·omega
 split at h
 ·omega
 split at h
 ·omega
 split at h
 ·omega
 split at h
 ·omega
 split at h
 ·rename_i c;exact absurd h c
 rename_i hA
 split at h
 ·rename_i c;exact absurd h c
 have hA:attrsE n.attrs (wordsL (ruleB (rulP n.op).1))=0:=by simpa using hA
 rw [hop,words_const] at hA;unfold attrsE at hA;split at hA
 ·rename_i hL
  unfold loopW at hA;have hW:wordE n.attrs wVal=0:=by
   split at hA
   ·assumption
   ·exact hA
  unfold wordE at hW;have hf:(findA n.attrs nmVal 4).isSome=true:=by
   rw [word_val.2.1,word_val.2.2] at hW;cases hs:(findA n.attrs nmVal 4).isSome with
   | true=>rfl
   | false=>rw [if_pos ⟨word_val.1,hs⟩] at hW;omega
  obtain ⟨a,ha⟩:=Option.isSome_iff_exists.1 hf;have ham:=List.mem_of_find?_eq_some ha;have hap:=List.find?_some ha;have hn:isVal a=true:=by
   unfold isA at hap;rw [Bool.and_eq_true] at hap;exact isVal_iff.2 (of_decide_eq_true hap.1)
  obtain ⟨b,hb⟩:∃ b,n.attrs.find? isVal=some b:=by
   cases e:n.attrs.find? isVal with
   | some b=>exact ⟨b,rfl⟩
   | none=>exact absurd hn (by simpa using List.find?_eq_none.1 e a ham)
  have hbm:=List.mem_of_find?_eq_some hb;have hbn:=isVal_iff.1 (List.find?_some hb);obtain ⟨j,hj⟩:=loopA_all hL b hbm;have hk:b.kind=4:=by
   unfold attE at hj;rw [hbn,show ([wVal,wThen]:List ByteArray).find? (hasW nmVal)=some wVal by rw [List.find?_cons,has_val]] at hj;dsimp only at hj;rw [kind_val] at hj;split at hj
   ·omega
   ·rename_i c;have c:=Decidable.not_not.1 c;exact c.symm
  have hab:a=b:=by
   have e2:findA n.attrs nmVal 4=some b:=by
    unfold findA;rw [List.find?_eq_some_iff_append] at hb ⊢;obtain ⟨h1,l1,l2,h2,h3⟩:=hb;refine ⟨by unfold isA;rw [hbn,hk];rfl,l1,l2,h2,fun c hc=>?_⟩;have:=h3 c hc;cases e:isA nmVal 4 c with
    | false=>rfl
    | true =>
     unfold isA at e;rw [Bool.and_eq_true] at e;rw [isVal_iff.2 (of_decide_eq_true e.1)] at this;cases this
   rw [ha] at e2;exact Option.some.inj e2
  subst hab;refine ⟨a,hb,?_⟩;rw [show (⟨#[118,97,108,117,101]⟩:ByteArray)=nmVal from rfl,ha] at h;dsimp only at h;rw [if_pos (by rw [hop];rfl)] at h;exact h
 ·rename_i c;exact absurd hA c
attribute [local irreducible] Vb.bcO typU typC typA typS typD typW typK typG alB Fl.un Fl.bin whereO redO softO productP gemmO gatO expO optO concatP reshapeP transP sliceP squeezeP unsqP flatP padP convP poolP gapP bnP intP
theorem mem_at {ins:List Vl} {j:Nat} {x:Vl} (h:ins[j]?=some x):x ∈ ins:=List.mem_of_getElem? h
set_option maxHeartbeats 4000000 in
theorem typ_any {w:World} {v:Value} {n:Nd} {ins:List Vl} (h:MkV w v n ins) (hc:checkP n=0) (hl:ins.length=n.ins.length) :
  Calls Tryz.prog 32 #[v] w fun e w'=>TyR (tyO n ins) e∧Below w.heap.size w w':=by
 obtain ⟨r,hr,ho,h1,h2⟩:=ops_of hc;simp only [opT,List.mem_cons,List.not_mem_nil,or_false] at hr;rcases hr with rfl | rfl | rfl | rfl | rfl | rfl | rfl | rfl | rfl | rfl | rfl | rfl | rfl | rfl | rfl | rfl | rfl | rfl | rfl | rfl | rfl | rfl | rfl | rfl | rfl | rfl | rfl | rfl | rfl | rfl | rfl | rfl | rfl | rfl | rfl | rfl | rfl | rfl | rfl | rfl | rfl | rfl | rfl | rfl | rfl | rfl | rfl | rfl
 ·-- Constant
  dsimp only at ho h1 h2;have hk:clsP n.op.toList=0:=by rw [ho];rfl
  obtain ⟨a,ha,-⟩:=const_attr hc ho;have e:tyO n ins=(0,a.typ):=by unfold tyO;rw [hk];unfold cA;rw [ha];rfl
  rw [e];exact typ_Constant h ha ho
 ·-- Identity
  dsimp only at ho h1 h2;have hk:clsP n.op.toList=1:=by rw [ho];rfl
  obtain ⟨x,hx⟩:=gAt ins 0 (by omega);have e:tyO n ins=typU (Fl.un n.op.toList x.typ 0).2 x.typ:=by unfold tyO;rw [hk];simp only [gv hx]
  rw [e];exact typ_Identity h hx ho
 ·-- Neg
  dsimp only at ho h1 h2;have hk:clsP n.op.toList=1:=by rw [ho];rfl
  obtain ⟨x,hx⟩:=gAt ins 0 (by omega);have e:tyO n ins=typU (Fl.un n.op.toList x.typ 0).2 x.typ:=by unfold tyO;rw [hk];simp only [gv hx]
  rw [e];exact typ_Neg h hx ho
 ·-- Abs
  dsimp only at ho h1 h2;have hk:clsP n.op.toList=1:=by rw [ho];rfl
  obtain ⟨x,hx⟩:=gAt ins 0 (by omega);have e:tyO n ins=typU (Fl.un n.op.toList x.typ 0).2 x.typ:=by unfold tyO;rw [hk];simp only [gv hx]
  rw [e];exact typ_Abs h hx ho
 ·-- Not
  dsimp only at ho h1 h2;have hk:clsP n.op.toList=1:=by rw [ho];rfl
  obtain ⟨x,hx⟩:=gAt ins 0 (by omega);have e:tyO n ins=typU (Fl.un n.op.toList x.typ 0).2 x.typ:=by unfold tyO;rw [hk];simp only [gv hx]
  rw [e];exact typ_Not h hx ho
 ·-- Relu
  dsimp only at ho h1 h2;have hk:clsP n.op.toList=1:=by rw [ho];rfl
  obtain ⟨x,hx⟩:=gAt ins 0 (by omega);have e:tyO n ins=typU (Fl.un n.op.toList x.typ 0).2 x.typ:=by unfold tyO;rw [hk];simp only [gv hx]
  rw [e];exact typ_Relu h hx ho
 ·-- Sqrt
  dsimp only at ho h1 h2;have hk:clsP n.op.toList=1:=by rw [ho];rfl
  obtain ⟨x,hx⟩:=gAt ins 0 (by omega);have e:tyO n ins=typU (Fl.un n.op.toList x.typ 0).2 x.typ:=by unfold tyO;rw [hk];simp only [gv hx]
  rw [e];exact typ_Sqrt h hx ho
 ·-- Floor
  dsimp only at ho h1 h2;have hk:clsP n.op.toList=1:=by rw [ho];rfl
  obtain ⟨x,hx⟩:=gAt ins 0 (by omega);have e:tyO n ins=typU (Fl.un n.op.toList x.typ 0).2 x.typ:=by unfold tyO;rw [hk];simp only [gv hx]
  rw [e];exact typ_Floor h hx ho
 ·-- Exp
  dsimp only at ho h1 h2;have hk:clsP n.op.toList=1:=by rw [ho];rfl
  obtain ⟨x,hx⟩:=gAt ins 0 (by omega);have e:tyO n ins=typU (Fl.un n.op.toList x.typ 0).2 x.typ:=by unfold tyO;rw [hk];simp only [gv hx]
  rw [e];exact typ_Exp h hx ho
 ·-- Sigmoid
  dsimp only at ho h1 h2;have hk:clsP n.op.toList=1:=by rw [ho];rfl
  obtain ⟨x,hx⟩:=gAt ins 0 (by omega);have e:tyO n ins=typU (Fl.un n.op.toList x.typ 0).2 x.typ:=by unfold tyO;rw [hk];simp only [gv hx]
  rw [e];exact typ_Sigmoid h hx ho
 ·-- Tanh
  dsimp only at ho h1 h2;have hk:clsP n.op.toList=1:=by rw [ho];rfl
  obtain ⟨x,hx⟩:=gAt ins 0 (by omega);have e:tyO n ins=typU (Fl.un n.op.toList x.typ 0).2 x.typ:=by unfold tyO;rw [hk];simp only [gv hx]
  rw [e];exact typ_Tanh h hx ho
 ·-- Equal
  dsimp only at ho h1 h2;have hk:clsP n.op.toList=2:=by rw [ho];rfl
  obtain ⟨x,hx⟩:=gAt ins 0 (by omega);have e:tyO n ins=typC (Fl.bin n.op.toList x.typ 0 0).2 (alB ins x.typ):=by unfold tyO;rw [hk];simp only [gv hx]
  rw [e];exact typ_Equal h hx ho
 ·-- Less
  dsimp only at ho h1 h2;have hk:clsP n.op.toList=2:=by rw [ho];rfl
  obtain ⟨x,hx⟩:=gAt ins 0 (by omega);have e:tyO n ins=typC (Fl.bin n.op.toList x.typ 0 0).2 (alB ins x.typ):=by unfold tyO;rw [hk];simp only [gv hx]
  rw [e];exact typ_Less h hx ho
 ·-- Greater
  dsimp only at ho h1 h2;have hk:clsP n.op.toList=2:=by rw [ho];rfl
  obtain ⟨x,hx⟩:=gAt ins 0 (by omega);have e:tyO n ins=typC (Fl.bin n.op.toList x.typ 0 0).2 (alB ins x.typ):=by unfold tyO;rw [hk];simp only [gv hx]
  rw [e];exact typ_Greater h hx ho
 ·-- Add
  dsimp only at ho h1 h2;have hk:clsP n.op.toList=3:=by rw [ho];rfl
  obtain ⟨x,hx⟩:=gAt ins 0 (by omega);have e:tyO n ins=typA (Fl.bin n.op.toList x.typ 0 0).2 (alB ins x.typ) x.typ:=by unfold tyO;rw [hk];simp only [gv hx]
  rw [e];exact typ_Add h hx ho
 ·-- Sub
  dsimp only at ho h1 h2;have hk:clsP n.op.toList=3:=by rw [ho];rfl
  obtain ⟨x,hx⟩:=gAt ins 0 (by omega);have e:tyO n ins=typA (Fl.bin n.op.toList x.typ 0 0).2 (alB ins x.typ) x.typ:=by unfold tyO;rw [hk];simp only [gv hx]
  rw [e];exact typ_Sub h hx ho
 ·-- Mul
  dsimp only at ho h1 h2;have hk:clsP n.op.toList=3:=by rw [ho];rfl
  obtain ⟨x,hx⟩:=gAt ins 0 (by omega);have e:tyO n ins=typA (Fl.bin n.op.toList x.typ 0 0).2 (alB ins x.typ) x.typ:=by unfold tyO;rw [hk];simp only [gv hx]
  rw [e];exact typ_Mul h hx ho
 ·-- Div
  dsimp only at ho h1 h2;have hk:clsP n.op.toList=3:=by rw [ho];rfl
  obtain ⟨x,hx⟩:=gAt ins 0 (by omega);have e:tyO n ins=typA (Fl.bin n.op.toList x.typ 0 0).2 (alB ins x.typ) x.typ:=by unfold tyO;rw [hk];simp only [gv hx]
  rw [e];exact typ_Div h hx ho
 ·-- Max
  dsimp only at ho h1 h2;have hk:clsP n.op.toList=3:=by rw [ho];rfl
  obtain ⟨x,hx⟩:=gAt ins 0 (by omega);have e:tyO n ins=typA (Fl.bin n.op.toList x.typ 0 0).2 (alB ins x.typ) x.typ:=by unfold tyO;rw [hk];simp only [gv hx]
  rw [e];exact typ_Max h hx ho
 ·-- Min
  dsimp only at ho h1 h2;have hk:clsP n.op.toList=3:=by rw [ho];rfl
  obtain ⟨x,hx⟩:=gAt ins 0 (by omega);have e:tyO n ins=typA (Fl.bin n.op.toList x.typ 0 0).2 (alB ins x.typ) x.typ:=by unfold tyO;rw [hk];simp only [gv hx]
  rw [e];exact typ_Min h hx ho
 ·-- And
  dsimp only at ho h1 h2;have hk:clsP n.op.toList=3:=by rw [ho];rfl
  obtain ⟨x,hx⟩:=gAt ins 0 (by omega);have e:tyO n ins=typA (Fl.bin n.op.toList x.typ 0 0).2 (alB ins x.typ) x.typ:=by unfold tyO;rw [hk];simp only [gv hx]
  rw [e];exact typ_And h hx ho
 ·-- Or
  dsimp only at ho h1 h2;have hk:clsP n.op.toList=3:=by rw [ho];rfl
  obtain ⟨x,hx⟩:=gAt ins 0 (by omega);have e:tyO n ins=typA (Fl.bin n.op.toList x.typ 0 0).2 (alB ins x.typ) x.typ:=by unfold tyO;rw [hk];simp only [gv hx]
  rw [e];exact typ_Or h hx ho
 ·-- Xor
  dsimp only at ho h1 h2;have hk:clsP n.op.toList=3:=by rw [ho];rfl
  obtain ⟨x,hx⟩:=gAt ins 0 (by omega);have e:tyO n ins=typA (Fl.bin n.op.toList x.typ 0 0).2 (alB ins x.typ) x.typ:=by unfold tyO;rw [hk];simp only [gv hx]
  rw [e];exact typ_Xor h hx ho
 ·-- Where
  dsimp only at ho h1 h2;have hk:clsP n.op.toList=4:=by rw [ho];rfl
  obtain ⟨x,hx⟩:=gAt ins 0 (by omega);obtain ⟨y,hy⟩:=gAt ins 1 (by omega);obtain ⟨z,hz⟩:=gAt ins 2 (by omega);have e:tyO n ins=typW x.typ y.typ z.typ:=by unfold tyO;rw [hk];simp only [gv hx,gv hy,gv hz]
  rw [e];exact typ_Where h hx hy hz ho
 ·-- Cast
  dsimp only at ho h1 h2;have hk:clsP n.op.toList=5:=by rw [ho];rfl
  obtain ⟨x,hx⟩:=gAt ins 0 (by omega);have e:tyO n ins=typK (intP n.attrs nmTo 0):=by unfold tyO;simp only [hk]
  rw [e];exact typ_Cast h hx ho
 ·-- ReduceSum
  dsimp only at ho h1 h2;have hk:clsP n.op.toList=6:=by rw [ho];rfl
  obtain ⟨x,hx⟩:=gAt ins 0 (by omega);have e:tyO n ins=typS x.typ x.typ:=by unfold tyO;rw [hk];simp only [gv hx]
  rw [e];exact typ_ReduceSum h hx ho
 ·-- ReduceMax
  dsimp only at ho h1 h2;have hk:clsP n.op.toList=6:=by rw [ho];rfl
  obtain ⟨x,hx⟩:=gAt ins 0 (by omega);have e:tyO n ins=typS x.typ x.typ:=by unfold tyO;rw [hk];simp only [gv hx]
  rw [e];exact typ_ReduceMax h hx ho
 ·-- ArgMax
  dsimp only at ho h1 h2;have hk:clsP n.op.toList=7:=by rw [ho];rfl
  obtain ⟨x,hx⟩:=gAt ins 0 (by omega);have e:tyO n ins=typS x.typ 7:=by unfold tyO;rw [hk];simp only [gv hx]
  rw [e];exact typ_ArgMax h hx ho
 ·-- Concat
  dsimp only at ho h1 h2;have hk:clsP n.op.toList=8:=by rw [ho];rfl
  obtain ⟨x,hx⟩:=gAt ins 0 (by omega);have e:tyO n ins=typD (alB ins x.typ) x.typ:=by unfold tyO;rw [hk];simp only [gv hx]
  rw [e];exact typ_Concat h hx ho
 ·-- Gather
  dsimp only at ho h1 h2;have hk:clsP n.op.toList=9:=by rw [ho];rfl
  obtain ⟨x,hx⟩:=gAt ins 0 (by omega);obtain ⟨y,hy⟩:=gAt ins 1 (by omega);have e:tyO n ins=typG y.typ x.typ:=by unfold tyO;rw [hk];simp only [gv hx,gv hy]
  rw [e];exact typ_Gather h hx hy ho
 ·-- Reshape
  dsimp only at ho h1 h2;have hk:clsP n.op.toList=10:=by rw [ho];rfl
  obtain ⟨x,hx⟩:=gAt ins 0 (by omega);have e:tyO n ins=(0,x.typ):=by unfold tyO;rw [hk];simp only [gv hx]
  rw [e];exact typ_Reshape h hx ho
 ·-- Expand
  dsimp only at ho h1 h2;have hk:clsP n.op.toList=11:=by rw [ho];rfl
  obtain ⟨x,hx⟩:=gAt ins 0 (by omega);have e:tyO n ins=(0,x.typ):=by unfold tyO;rw [hk];simp only [gv hx]
  rw [e];exact typ_Expand h hx ho
 ·-- Transpose
  dsimp only at ho h1 h2;have hk:clsP n.op.toList=12:=by rw [ho];rfl
  obtain ⟨x,hx⟩:=gAt ins 0 (by omega);have e:tyO n ins=(0,x.typ):=by unfold tyO;rw [hk];simp only [gv hx]
  rw [e];exact typ_Transpose h hx ho
 ·-- Slice
  dsimp only at ho h1 h2;have hk:clsP n.op.toList=13:=by rw [ho];rfl
  obtain ⟨x,hx⟩:=gAt ins 0 (by omega);have e:tyO n ins=(0,x.typ):=by unfold tyO;rw [hk];simp only [gv hx]
  rw [e];exact typ_Slice h hx ho
 ·-- Squeeze
  dsimp only at ho h1 h2;have hk:clsP n.op.toList=14:=by rw [ho];rfl
  obtain ⟨x,hx⟩:=gAt ins 0 (by omega);have e:tyO n ins=(0,x.typ):=by unfold tyO;rw [hk];simp only [gv hx]
  rw [e];exact typ_Squeeze h hx ho
 ·-- Unsqueeze
  dsimp only at ho h1 h2;have hk:clsP n.op.toList=15:=by rw [ho];rfl
  obtain ⟨x,hx⟩:=gAt ins 0 (by omega);have e:tyO n ins=(0,x.typ):=by unfold tyO;rw [hk];simp only [gv hx]
  rw [e];exact typ_Unsqueeze h hx ho
 ·-- Flatten
  dsimp only at ho h1 h2;have hk:clsP n.op.toList=16:=by rw [ho];rfl
  obtain ⟨x,hx⟩:=gAt ins 0 (by omega);have e:tyO n ins=(0,x.typ):=by unfold tyO;rw [hk];simp only [gv hx]
  rw [e];exact typ_Flatten h hx ho
 ·-- Pad
  dsimp only at ho h1 h2;have hk:clsP n.op.toList=17:=by rw [ho];rfl
  obtain ⟨x,hx⟩:=gAt ins 0 (by omega);have e:tyO n ins=typD (alB ins 1) x.typ:=by unfold tyO;rw [hk];simp only [gv hx]
  rw [e];exact typ_rest h hx (by rw [ho];decide)
 ·-- Clip
  dsimp only at ho h1 h2;have hk:clsP n.op.toList=18:=by rw [ho];rfl
  obtain ⟨x,hx⟩:=gAt ins 0 (by omega);have e:tyO n ins=typD (alB ins 1) x.typ:=by unfold tyO;rw [hk];simp only [gv hx]
  rw [e];exact typ_rest h hx (by rw [ho];decide)
 ·-- Softmax
  dsimp only at ho h1 h2;have hk:clsP n.op.toList=19:=by rw [ho];rfl
  obtain ⟨x,hx⟩:=gAt ins 0 (by omega);have e:tyO n ins=typD (alB ins 1) x.typ:=by unfold tyO;rw [hk];simp only [gv hx]
  rw [e];exact typ_rest h hx (by rw [ho];decide)
 ·-- ReduceMean
  dsimp only at ho h1 h2;have hk:clsP n.op.toList=20:=by rw [ho];rfl
  obtain ⟨x,hx⟩:=gAt ins 0 (by omega);have e:tyO n ins=typD (alB ins 1) x.typ:=by unfold tyO;rw [hk];simp only [gv hx]
  rw [e];exact typ_rest h hx (by rw [ho];decide)
 ·-- MatMul
  dsimp only at ho h1 h2;have hk:clsP n.op.toList=21:=by rw [ho];rfl
  obtain ⟨x,hx⟩:=gAt ins 0 (by omega);have e:tyO n ins=typD (alB ins 1) x.typ:=by unfold tyO;rw [hk];simp only [gv hx]
  rw [e];exact typ_rest h hx (by rw [ho];decide)
 ·-- Gemm
  dsimp only at ho h1 h2;have hk:clsP n.op.toList=22:=by rw [ho];rfl
  obtain ⟨x,hx⟩:=gAt ins 0 (by omega);have e:tyO n ins=typD (alB ins 1) x.typ:=by unfold tyO;rw [hk];simp only [gv hx]
  rw [e];exact typ_rest h hx (by rw [ho];decide)
 ·-- Conv
  dsimp only at ho h1 h2;have hk:clsP n.op.toList=23:=by rw [ho];rfl
  obtain ⟨x,hx⟩:=gAt ins 0 (by omega);have e:tyO n ins=typD (alB ins 1) x.typ:=by unfold tyO;rw [hk];simp only [gv hx]
  rw [e];exact typ_rest h hx (by rw [ho];decide)
 ·-- MaxPool
  dsimp only at ho h1 h2;have hk:clsP n.op.toList=24:=by rw [ho];rfl
  obtain ⟨x,hx⟩:=gAt ins 0 (by omega);have e:tyO n ins=typD (alB ins 1) x.typ:=by unfold tyO;rw [hk];simp only [gv hx]
  rw [e];exact typ_rest h hx (by rw [ho];decide)
 ·-- AveragePool
  dsimp only at ho h1 h2;have hk:clsP n.op.toList=24:=by rw [ho];rfl
  obtain ⟨x,hx⟩:=gAt ins 0 (by omega);have e:tyO n ins=typD (alB ins 1) x.typ:=by unfold tyO;rw [hk];simp only [gv hx]
  rw [e];exact typ_rest h hx (by rw [ho];decide)
 ·-- GlobalAveragePool
  dsimp only at ho h1 h2;have hk:clsP n.op.toList=25:=by rw [ho];rfl
  obtain ⟨x,hx⟩:=gAt ins 0 (by omega);have e:tyO n ins=typD (alB ins 1) x.typ:=by unfold tyO;rw [hk];simp only [gv hx]
  rw [e];exact typ_rest h hx (by rw [ho];decide)
 ·-- BatchNormalization
  dsimp only at ho h1 h2;have hk:clsP n.op.toList=26:=by rw [ho];rfl
  obtain ⟨x,hx⟩:=gAt ins 0 (by omega);have e:tyO n ins=typD (alB ins 1) x.typ:=by unfold tyO;rw [hk];simp only [gv hx]
  rw [e];exact typ_rest h hx (by rw [ho];decide)
set_option maxHeartbeats 4000000 in
theorem dims_any {w:World} {v:Value} {n:Nd} {ins:List Vl} (h:MkV w v n ins) (hc:checkP n=0) (hl:ins.length=n.ins.length) (hi:inpE ins=0) (hax:(intsP n.attrs nmAxes []).length * 8+48≤140737488351232) :
  Calls Tryz.prog 33 #[v] w fun e w'=>DimR w (dsO n ins) e w':=by
 obtain ⟨r,hr,ho,h1,h2⟩:=ops_of hc;have hsm:=inp_sm hi;simp only [opT,List.mem_cons,List.not_mem_nil,or_false] at hr;rcases hr with rfl | rfl | rfl | rfl | rfl | rfl | rfl | rfl | rfl | rfl | rfl | rfl | rfl | rfl | rfl | rfl | rfl | rfl | rfl | rfl | rfl | rfl | rfl | rfl | rfl | rfl | rfl | rfl | rfl | rfl | rfl | rfl | rfl | rfl | rfl | rfl | rfl | rfl | rfl | rfl | rfl | rfl | rfl | rfl | rfl | rfl | rfl | rfl
 ·-- Constant
  dsimp only at ho h1 h2;have hk:clsP n.op.toList=0:=by rw [ho];rfl
  obtain ⟨a,ha,-⟩:=const_attr hc ho;have e:dsO n ins=(0,a.dims):=by unfold dsO;rw [hk];unfold cA;rw [ha];rfl
  rw [e];exact dims_Constant h ha ho
 ·-- Identity
  dsimp only at ho h1 h2;have hk:clsP n.op.toList=1:=by rw [ho];rfl
  obtain ⟨x,hx⟩:=gAt ins 0 (by omega);have e:dsO n ins=(0,x.dims):=by unfold dsO;rw [hk];simp only [gv hx]
  rw [e];exact dims_Identity h hx ho
 ·-- Neg
  dsimp only at ho h1 h2;have hk:clsP n.op.toList=1:=by rw [ho];rfl
  obtain ⟨x,hx⟩:=gAt ins 0 (by omega);have e:dsO n ins=(0,x.dims):=by unfold dsO;rw [hk];simp only [gv hx]
  rw [e];exact dims_Neg h hx ho
 ·-- Abs
  dsimp only at ho h1 h2;have hk:clsP n.op.toList=1:=by rw [ho];rfl
  obtain ⟨x,hx⟩:=gAt ins 0 (by omega);have e:dsO n ins=(0,x.dims):=by unfold dsO;rw [hk];simp only [gv hx]
  rw [e];exact dims_Abs h hx ho
 ·-- Not
  dsimp only at ho h1 h2;have hk:clsP n.op.toList=1:=by rw [ho];rfl
  obtain ⟨x,hx⟩:=gAt ins 0 (by omega);have e:dsO n ins=(0,x.dims):=by unfold dsO;rw [hk];simp only [gv hx]
  rw [e];exact dims_Not h hx ho
 ·-- Relu
  dsimp only at ho h1 h2;have hk:clsP n.op.toList=1:=by rw [ho];rfl
  obtain ⟨x,hx⟩:=gAt ins 0 (by omega);have e:dsO n ins=(0,x.dims):=by unfold dsO;rw [hk];simp only [gv hx]
  rw [e];exact dims_Relu h hx ho
 ·-- Sqrt
  dsimp only at ho h1 h2;have hk:clsP n.op.toList=1:=by rw [ho];rfl
  obtain ⟨x,hx⟩:=gAt ins 0 (by omega);have e:dsO n ins=(0,x.dims):=by unfold dsO;rw [hk];simp only [gv hx]
  rw [e];exact dims_Sqrt h hx ho
 ·-- Floor
  dsimp only at ho h1 h2;have hk:clsP n.op.toList=1:=by rw [ho];rfl
  obtain ⟨x,hx⟩:=gAt ins 0 (by omega);have e:dsO n ins=(0,x.dims):=by unfold dsO;rw [hk];simp only [gv hx]
  rw [e];exact dims_Floor h hx ho
 ·-- Exp
  dsimp only at ho h1 h2;have hk:clsP n.op.toList=1:=by rw [ho];rfl
  obtain ⟨x,hx⟩:=gAt ins 0 (by omega);have e:dsO n ins=(0,x.dims):=by unfold dsO;rw [hk];simp only [gv hx]
  rw [e];exact dims_Exp h hx ho
 ·-- Sigmoid
  dsimp only at ho h1 h2;have hk:clsP n.op.toList=1:=by rw [ho];rfl
  obtain ⟨x,hx⟩:=gAt ins 0 (by omega);have e:dsO n ins=(0,x.dims):=by unfold dsO;rw [hk];simp only [gv hx]
  rw [e];exact dims_Sigmoid h hx ho
 ·-- Tanh
  dsimp only at ho h1 h2;have hk:clsP n.op.toList=1:=by rw [ho];rfl
  obtain ⟨x,hx⟩:=gAt ins 0 (by omega);have e:dsO n ins=(0,x.dims):=by unfold dsO;rw [hk];simp only [gv hx]
  rw [e];exact dims_Tanh h hx ho
 ·-- Equal
  dsimp only at ho h1 h2;have hk:clsP n.op.toList=2:=by rw [ho];rfl
  obtain ⟨x,hx⟩:=gAt ins 0 (by omega);obtain ⟨y,hy⟩:=gAt ins 1 (by omega);have e:dsO n ins=Vb.bcO x.dims y.dims:=by unfold dsO;rw [hk];simp only [gv hx,gv hy]
  rw [e];exact dims_Equal h hx hy ho
 ·-- Less
  dsimp only at ho h1 h2;have hk:clsP n.op.toList=2:=by rw [ho];rfl
  obtain ⟨x,hx⟩:=gAt ins 0 (by omega);obtain ⟨y,hy⟩:=gAt ins 1 (by omega);have e:dsO n ins=Vb.bcO x.dims y.dims:=by unfold dsO;rw [hk];simp only [gv hx,gv hy]
  rw [e];exact dims_Less h hx hy ho
 ·-- Greater
  dsimp only at ho h1 h2;have hk:clsP n.op.toList=2:=by rw [ho];rfl
  obtain ⟨x,hx⟩:=gAt ins 0 (by omega);obtain ⟨y,hy⟩:=gAt ins 1 (by omega);have e:dsO n ins=Vb.bcO x.dims y.dims:=by unfold dsO;rw [hk];simp only [gv hx,gv hy]
  rw [e];exact dims_Greater h hx hy ho
 ·-- Add
  dsimp only at ho h1 h2;have hk:clsP n.op.toList=3:=by rw [ho];rfl
  obtain ⟨x,hx⟩:=gAt ins 0 (by omega);obtain ⟨y,hy⟩:=gAt ins 1 (by omega);have e:dsO n ins=Vb.bcO x.dims y.dims:=by unfold dsO;rw [hk];simp only [gv hx,gv hy]
  rw [e];exact dims_Add h hx hy ho
 ·-- Sub
  dsimp only at ho h1 h2;have hk:clsP n.op.toList=3:=by rw [ho];rfl
  obtain ⟨x,hx⟩:=gAt ins 0 (by omega);obtain ⟨y,hy⟩:=gAt ins 1 (by omega);have e:dsO n ins=Vb.bcO x.dims y.dims:=by unfold dsO;rw [hk];simp only [gv hx,gv hy]
  rw [e];exact dims_Sub h hx hy ho
 ·-- Mul
  dsimp only at ho h1 h2;have hk:clsP n.op.toList=3:=by rw [ho];rfl
  obtain ⟨x,hx⟩:=gAt ins 0 (by omega);obtain ⟨y,hy⟩:=gAt ins 1 (by omega);have e:dsO n ins=Vb.bcO x.dims y.dims:=by unfold dsO;rw [hk];simp only [gv hx,gv hy]
  rw [e];exact dims_Mul h hx hy ho
 ·-- Div
  dsimp only at ho h1 h2;have hk:clsP n.op.toList=3:=by rw [ho];rfl
  obtain ⟨x,hx⟩:=gAt ins 0 (by omega);obtain ⟨y,hy⟩:=gAt ins 1 (by omega);have e:dsO n ins=Vb.bcO x.dims y.dims:=by unfold dsO;rw [hk];simp only [gv hx,gv hy]
  rw [e];exact dims_Div h hx hy ho
 ·-- Max
  dsimp only at ho h1 h2;have hk:clsP n.op.toList=3:=by rw [ho];rfl
  obtain ⟨x,hx⟩:=gAt ins 0 (by omega);obtain ⟨y,hy⟩:=gAt ins 1 (by omega);have e:dsO n ins=Vb.bcO x.dims y.dims:=by unfold dsO;rw [hk];simp only [gv hx,gv hy]
  rw [e];exact dims_Max h hx hy ho
 ·-- Min
  dsimp only at ho h1 h2;have hk:clsP n.op.toList=3:=by rw [ho];rfl
  obtain ⟨x,hx⟩:=gAt ins 0 (by omega);obtain ⟨y,hy⟩:=gAt ins 1 (by omega);have e:dsO n ins=Vb.bcO x.dims y.dims:=by unfold dsO;rw [hk];simp only [gv hx,gv hy]
  rw [e];exact dims_Min h hx hy ho
 ·-- And
  dsimp only at ho h1 h2;have hk:clsP n.op.toList=3:=by rw [ho];rfl
  obtain ⟨x,hx⟩:=gAt ins 0 (by omega);obtain ⟨y,hy⟩:=gAt ins 1 (by omega);have e:dsO n ins=Vb.bcO x.dims y.dims:=by unfold dsO;rw [hk];simp only [gv hx,gv hy]
  rw [e];exact dims_And h hx hy ho
 ·-- Or
  dsimp only at ho h1 h2;have hk:clsP n.op.toList=3:=by rw [ho];rfl
  obtain ⟨x,hx⟩:=gAt ins 0 (by omega);obtain ⟨y,hy⟩:=gAt ins 1 (by omega);have e:dsO n ins=Vb.bcO x.dims y.dims:=by unfold dsO;rw [hk];simp only [gv hx,gv hy]
  rw [e];exact dims_Or h hx hy ho
 ·-- Xor
  dsimp only at ho h1 h2;have hk:clsP n.op.toList=3:=by rw [ho];rfl
  obtain ⟨x,hx⟩:=gAt ins 0 (by omega);obtain ⟨y,hy⟩:=gAt ins 1 (by omega);have e:dsO n ins=Vb.bcO x.dims y.dims:=by unfold dsO;rw [hk];simp only [gv hx,gv hy]
  rw [e];exact dims_Xor h hx hy ho
 ·-- Where
  dsimp only at ho h1 h2;have hk:clsP n.op.toList=4:=by rw [ho];rfl
  obtain ⟨x,hx⟩:=gAt ins 0 (by omega);obtain ⟨y,hy⟩:=gAt ins 1 (by omega);obtain ⟨z,hz⟩:=gAt ins 2 (by omega);have e:dsO n ins=whereO x.dims y.dims z.dims:=by unfold dsO;rw [hk];simp only [gv hx,gv hy,gv hz]
  rw [e];exact dims_Where h hx hy hz ho
 ·-- Cast
  dsimp only at ho h1 h2;have hk:clsP n.op.toList=5:=by rw [ho];rfl
  obtain ⟨x,hx⟩:=gAt ins 0 (by omega);have e:dsO n ins=(0,x.dims):=by unfold dsO;rw [hk];simp only [gv hx]
  rw [e];exact dims_Cast h hx ho
 ·-- ReduceSum
  dsimp only at ho h1 h2;have hk:clsP n.op.toList=6:=by rw [ho];rfl
  obtain ⟨x,hx⟩:=gAt ins 0 (by omega);have e:dsO n ins=redO n x.dims:=by unfold dsO;rw [hk];simp only [gv hx]
  rw [e];exact dims_ReduceSum h hx ho
 ·-- ReduceMax
  dsimp only at ho h1 h2;have hk:clsP n.op.toList=6:=by rw [ho];rfl
  obtain ⟨x,hx⟩:=gAt ins 0 (by omega);have e:dsO n ins=redO n x.dims:=by unfold dsO;rw [hk];simp only [gv hx]
  rw [e];exact dims_ReduceMax h hx ho
 ·-- ArgMax
  dsimp only at ho h1 h2;have hk:clsP n.op.toList=7:=by rw [ho];rfl
  obtain ⟨x,hx⟩:=gAt ins 0 (by omega);have e:dsO n ins=redO n x.dims:=by unfold dsO;rw [hk];simp only [gv hx]
  rw [e];exact dims_ArgMax h hx ho
 ·-- Concat
  dsimp only at ho h1 h2;have hk:clsP n.op.toList=8:=by rw [ho];rfl
  obtain ⟨x,hx⟩:=gAt ins 0 (by omega);have e:dsO n ins=optO (concatP n x.dims (ins.drop 1)):=by unfold dsO;rw [hk];simp only [gv hx]
  rw [e];exact dims_rest h hx (fun W u vx hB hm hv=>moved_Concat hm hv (hsm _ (mem_at hx)) (by omega) hsm (by omega) ho) (by rw [ho];decide)
 ·-- Gather
  dsimp only at ho h1 h2;have hk:clsP n.op.toList=9:=by rw [ho];rfl
  obtain ⟨x,hx⟩:=gAt ins 0 (by omega);obtain ⟨y,hy⟩:=gAt ins 1 (by omega);have e:dsO n ins=gatO n x.dims y.dims:=by unfold dsO;rw [hk];simp only [gv hx,gv hy]
  rw [e];exact dims_rest h hx (fun W u vx hB hm hv=>moved_Gather hm hv (hsm _ (mem_at hx)) hy (hsm _ (mem_at hy)) ho) (by rw [ho];decide)
 ·-- Reshape
  dsimp only at ho h1 h2;have hk:clsP n.op.toList=10:=by rw [ho];rfl
  obtain ⟨x,hx⟩:=gAt ins 0 (by omega);have e:dsO n ins=optO (reshapeP n x.dims):=by unfold dsO;rw [hk];simp only [gv hx]
  rw [e];exact dims_rest h hx (fun W u vx hB hm hv=>moved_Reshape hm hv (hsm _ (mem_at hx)) ho) (by rw [ho];decide)
 ·-- Expand
  dsimp only at ho h1 h2;have hk:clsP n.op.toList=11:=by rw [ho];rfl
  obtain ⟨x,hx⟩:=gAt ins 0 (by omega);have e:dsO n ins=expO n x.dims:=by unfold dsO;rw [hk];simp only [gv hx]
  rw [e];exact dims_rest h hx (fun W u vx hB hm hv=>moved_Expand hm hv (hsm _ (mem_at hx)) ho) (by rw [ho];decide)
 ·-- Transpose
  dsimp only at ho h1 h2;have hk:clsP n.op.toList=12:=by rw [ho];rfl
  obtain ⟨x,hx⟩:=gAt ins 0 (by omega);have e:dsO n ins=optO (transP n x.dims):=by unfold dsO;rw [hk];simp only [gv hx]
  rw [e];exact dims_rest h hx (fun W u vx hB hm hv=>moved_Transpose hm hv (hsm _ (mem_at hx)) ho) (by rw [ho];decide)
 ·-- Slice
  dsimp only at ho h1 h2;have hk:clsP n.op.toList=13:=by rw [ho];rfl
  obtain ⟨x,hx⟩:=gAt ins 0 (by omega);have e:dsO n ins=optO (sliceP n x.dims):=by unfold dsO;rw [hk];simp only [gv hx]
  rw [e];exact dims_rest h hx (fun W u vx hB hm hv=>moved_Slice hm hv (hsm _ (mem_at hx)) ho) (by rw [ho];decide)
 ·-- Squeeze
  dsimp only at ho h1 h2;have hk:clsP n.op.toList=14:=by rw [ho];rfl
  obtain ⟨x,hx⟩:=gAt ins 0 (by omega);have e:dsO n ins=optO (squeezeP n x.dims):=by unfold dsO;rw [hk];simp only [gv hx]
  rw [e];exact dims_rest h hx (fun W u vx hB hm hv=>moved_Squeeze hm hv (hsm _ (mem_at hx)) ho) (by rw [ho];decide)
 ·-- Unsqueeze
  dsimp only at ho h1 h2;have hk:clsP n.op.toList=15:=by rw [ho];rfl
  obtain ⟨x,hx⟩:=gAt ins 0 (by omega);have e:dsO n ins=optO (unsqP n x.dims):=by unfold dsO;rw [hk];simp only [gv hx]
  rw [e];exact dims_rest h hx (fun W u vx hB hm hv=>moved_Unsqueeze hm hv (hsm _ (mem_at hx)) hax ho) (by rw [ho];decide)
 ·-- Flatten
  dsimp only at ho h1 h2;have hk:clsP n.op.toList=16:=by rw [ho];rfl
  obtain ⟨x,hx⟩:=gAt ins 0 (by omega);have e:dsO n ins=optO (flatP n x.dims):=by unfold dsO;rw [hk];simp only [gv hx]
  rw [e];exact dims_rest h hx (fun W u vx hB hm hv=>moved_rest hm hv (by rw [ho];decide)) (by rw [ho];decide)
 ·-- Pad
  dsimp only at ho h1 h2;have hk:clsP n.op.toList=17:=by rw [ho];rfl
  obtain ⟨x,hx⟩:=gAt ins 0 (by omega);have e:dsO n ins=optO (padP n x.dims):=by unfold dsO;rw [hk];simp only [gv hx]
  rw [e];exact dims_rest h hx (fun W u vx hB hm hv=>moved_Pad hm hv (hsm _ (mem_at hx)) ho) (by rw [ho];decide)
 ·-- Clip
  dsimp only at ho h1 h2;have hk:clsP n.op.toList=18:=by rw [ho];rfl
  obtain ⟨x,hx⟩:=gAt ins 0 (by omega);have e:dsO n ins=(0,x.dims):=by unfold dsO;rw [hk];simp only [gv hx]
  rw [e];exact dims_Clip h hx ho
 ·-- Softmax
  dsimp only at ho h1 h2;have hk:clsP n.op.toList=19:=by rw [ho];rfl
  obtain ⟨x,hx⟩:=gAt ins 0 (by omega);have e:dsO n ins=softO n x.dims:=by unfold dsO;rw [hk];simp only [gv hx]
  rw [e];exact dims_Softmax h hx ho
 ·-- ReduceMean
  dsimp only at ho h1 h2;have hk:clsP n.op.toList=20:=by rw [ho];rfl
  obtain ⟨x,hx⟩:=gAt ins 0 (by omega);have e:dsO n ins=redO n x.dims:=by unfold dsO;rw [hk];simp only [gv hx]
  rw [e];exact dims_ReduceMean h hx ho
 ·-- MatMul
  dsimp only at ho h1 h2;have hk:clsP n.op.toList=21:=by rw [ho];rfl
  obtain ⟨x,hx⟩:=gAt ins 0 (by omega);obtain ⟨y,hy⟩:=gAt ins 1 (by omega);have e:dsO n ins=productP x.dims y.dims:=by unfold dsO;rw [hk];simp only [gv hx,gv hy]
  rw [e];exact dims_MatMul h hx hy ho
 ·-- Gemm
  dsimp only at ho h1 h2;have hk:clsP n.op.toList=22:=by rw [ho];rfl
  obtain ⟨x,hx⟩:=gAt ins 0 (by omega);obtain ⟨y,hy⟩:=gAt ins 1 (by omega);have e:dsO n ins=gemmO n x.dims y.dims ((ins[2]?).map Vl.dims):=by unfold dsO;rw [hk];simp only [gv hx,gv hy]
  rw [e];exact dims_Gemm h hx hy rfl (by omega) ho
 ·-- Conv
  dsimp only at ho h1 h2;have hk:clsP n.op.toList=23:=by rw [ho];rfl
  obtain ⟨x,hx⟩:=gAt ins 0 (by omega);obtain ⟨y,hy⟩:=gAt ins 1 (by omega);have e:dsO n ins=optO (convP n x.dims y.dims ((ins[2]?).map Vl.dims)):=by unfold dsO;rw [hk];simp only [gv hx,gv hy]
  rw [e];exact dims_Conv h hx hy rfl (by omega) (hsm _ (mem_at hx)) (hsm _ (mem_at hy)) ho
 ·-- MaxPool
  dsimp only at ho h1 h2;have hk:clsP n.op.toList=24:=by rw [ho];rfl
  obtain ⟨x,hx⟩:=gAt ins 0 (by omega);have e:dsO n ins=optO (poolP n x.dims):=by unfold dsO;rw [hk];simp only [gv hx]
  rw [e];exact dims_MaxPool h hx (hsm _ (mem_at hx)) ho
 ·-- AveragePool
  dsimp only at ho h1 h2;have hk:clsP n.op.toList=24:=by rw [ho];rfl
  obtain ⟨x,hx⟩:=gAt ins 0 (by omega);have e:dsO n ins=optO (poolP n x.dims):=by unfold dsO;rw [hk];simp only [gv hx]
  rw [e];exact dims_AveragePool h hx (hsm _ (mem_at hx)) ho
 ·-- GlobalAveragePool
  dsimp only at ho h1 h2;have hk:clsP n.op.toList=25:=by rw [ho];rfl
  obtain ⟨x,hx⟩:=gAt ins 0 (by omega);have e:dsO n ins=optO (gapP x.dims):=by unfold dsO;rw [hk];simp only [gv hx]
  rw [e];exact dims_GlobalAveragePool h hx (hsm _ (mem_at hx)) ho
 ·-- BatchNormalization
  dsimp only at ho h1 h2;have hk:clsP n.op.toList=26:=by rw [ho];rfl
  obtain ⟨x,hx⟩:=gAt ins 0 (by omega);have e:dsO n ins=optO (bnP x.dims (ins.drop 1)):=by unfold dsO;rw [hk];simp only [gv hx]
  rw [e];exact dims_BatchNormalization h hx (hsm _ (mem_at hx)) (by omega) ho
end
section
open Go.RowKit
set_option maxRecDepth 100000
theorem getD_in {ins:List Vl} {j:Nat} (h:j < ins.length):ins.getD j vlZ ∈ ins:=by
 rw [List.getD,List.getElem?_eq_getElem h];exact List.getElem_mem h
theorem pbE_zeroJ {t:Int} {d x:List Int} (h:pbE t d x=0):chk t 0=true:=by
 cases e:chk t 0 with
 | true=>rfl
 | false=>rw [pbE_type e] at h;exact absurd h (by decide)
theorem hax_of {n:Nd} (h:∀ a ∈ n.attrs,a.ints.length≤1048575):(intsP n.attrs nmAxes []).length * 8+48≤140737488351232:=by
 unfold intsP;split
 ·simp
 ·rename_i a ha
  have:=h a (List.mem_of_find?_eq_some ha);omega
end
end Go.Proofs.YtijhdmidffenbaaGreatDoor
