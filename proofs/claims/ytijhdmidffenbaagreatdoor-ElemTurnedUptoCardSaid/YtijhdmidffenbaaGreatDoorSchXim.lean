import Derived.Test.YtijhdmidffenbaaGreatDoorRows
import Derived.Test.YtijhdmidffenbaaGreatDoorCards
import Derived.Test.YtijhdmidffenbaaGreatDoorTie
import Derived.Test.YtijhdmidffenbaaGreatDoorSchOim
import Derived.ProofKit
import Derived.OpenShut
import Derived.SizedLaws
import Derived.ChangeSlices
import Derived.Deep.Strs
import Derived.Deep.DeepHandedRow
import Derived.Lay
import Derived.LaidMore
import Derived.SevenTiedAt
import Derived.Stop.Joined
import Derived.HandedShaped
import Derived.Shelf.Vars
import Derived.Carry
set_option linter.unusedVariables false
set_option linter.unusedSimpArgs false
namespace Go.Proofs.YtijhdmidffenbaaGreatDoor
open Go.ChangeShapes Go.WideShapes Go.ChangeAt Go.RowKit
set_option maxRecDepth 100000
theorem own:ownKnob Tryz.prog.godebug=none:=by kernel_rfl
theorem laidOut:laidOutB Tryz.prog=true:=by kernel_rfl
theorem cellsString:Tryz.prog.cellsOf 9 = 1:=by kernel_rfl
def laids:List (String × DataW Unit):=[("unicode/utf8.acceptRanges",Rows.laid_unicode_utf8_acceptRanges),("mandrel/schema.ones",Rows.laid_mandrel_schema_ones),("unicode/utf8.first",Rows.laid_unicode_utf8_first)]
theorem gOnes:Tryz.prog.globalNamed "mandrel/schema.ones" = some 0:=by kernel_rfl
theorem tOnes:(Tryz.prog.globals[0]?).map (·.type)=some 162:=by kernel_rfl
theorem onesD:(onesL.map fun s=>(DataW.lit (.string s.data.toList):DataW Unit))=[.lit (.string [73,100,101,110,116,105,116,121]),.lit (.string [78,101,103]),.lit (.string [65,98,115]),.lit (.string [78,111,116]),.lit (.string [82,101,108,117]),.lit (.string [83,113,114,116]),.lit (.string [70,108,111,111,114]),.lit (.string [69,120,112]),.lit (.string [83,105,103,109,111,105,100]),.lit (.string [84,97,110,104])]:=by rfl
theorem dataB_inj {a b:ByteArray} (h:a.data.toList=b.data.toList):a=b:=by
 cases a;cases b
 simpa using h
theorem ones_of {W:World} (h:laidMetH Tryz.prog laids W):∀ (j:Nat) s,onesL[j]?=some s→W.cell? ⟨0,j,none⟩=some (.string s):=by
 rw [MakeChecks.laidMetH_plain _ _ _ (by kernel_rfl)] at h
 obtain ⟨ps,⟨g0,t0,cs0,f0,p0,q0,hg0,ht0,hv0,hd0,⟨g1,t1,cs1,f1,p1,q1,hg1,ht1,hv1,hd1,_,_⟩,_⟩,_,_⟩:=h
 obtain rfl:=Option.some.inj (gOnes.symm.trans hg1)
 obtain rfl:=Option.some.inj (tOnes.symm.trans ht1)
 obtain ⟨xs,m,_,ex,_,hl,hel⟩:=DataW.trod_array Tryz.underlying162 hd1
 intro j s hj
 have hj10:j < 10:=(List.getElem?_eq_some_iff.1 hj).1
 have hE:=hel j hj10
 rw [cellsString,Nat.mul_one,List.getElem?_eq_getElem (by omega)] at hE
 obtain ⟨z,e1,e2,_⟩:=DataW.trod_string Tryz.underlying9 hE
 have e3:(xs.map (·.1))=onesL.map fun s=>(DataW.lit (.string s.data.toList):DataW Unit):=by
  rw [onesD]
  exact (DataW.agg.inj (Prod.mk.inj ex).1).symm
 have e4:(xs.map (·.1))[j]?=(onesL.map fun s=>(DataW.lit (.string s.data.toList):DataW Unit))[j]?:=by rw [e3]
 rw [List.getElem?_map,List.getElem?_map,List.getElem?_eq_getElem (by omega:j < xs.length),hj,e2] at e4
 have hz:z=s:=by
  simp only [Option.map_some,Option.some.injEq,DataW.lit.injEq,Lit.string.injEq] at e4
  exact dataB_inj e4
 rw [World.var?_cell hg1 hv1 j,←hz]
 have h0:((cs1.toList.drop j).take 1)[0]?=some (.string z):=by rw [e1];rfl
 simpa using h0
theorem glob_of {W:World} (h:laidMetH Tryz.prog laids W) (hs:W.ShapedOpen Tryz.prog):Glob W where
 ones:=ones_of h
 max:=Go.Proofs.cell_of_shapedOpen_int (zero:=#[.int .i64 0]) (t:=3) hs (of_decide_eq_true (by kernel_rfl)) (by kernel_rfl) rfl (by kernel_rfl) (by kernel_rfl) Tryz.underlying3
theorem laid_met (os:Os) (args:Array Value):laidMetH Tryz.prog laids ((World.laidAll Tryz.prog os laids).forCall (fun _ _=>0) ⟨#[],args,[]⟩).memory:=by
 rw [MakeChecks.laidMetH_plain _ _ _ (by kernel_rfl)]
 exact laidMet_laidAll _ (by kernel_rfl) (by kernel_rfl)
end Go.Proofs.YtijhdmidffenbaaGreatDoor
