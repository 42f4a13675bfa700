import Derived.Test.YtijhdmidffenbaaGreatDoorElMrm
import Derived.Test.YtijhdmidffenbaaGreatDoorFlM2rm
import Derived.Test.YtijhdmidffenbaaGreatDoorJaM5rm
set_option linter.unusedVariables false
set_option linter.unusedSimpArgs false
namespace Go.Proofs.YtijhdmidffenbaaGreatDoor
section
open Go.RowKit
set_option maxRecDepth 100000
attribute [local irreducible] Fl.un Fl.bin
attribute [local irreducible] cnt chk checkP inpE outP folB thenE RowI pbE begO pbAll rowV nilsS i64s Vx.spO Vx.spS Vx.strd Vx.readL SpOK PlaceR
end
section
open Go.RowKit
set_option maxRecDepth 100000
attribute [local irreducible] cnt chk checkP inpE outP folB thenE RowI pbE begO pbAll SpOK PlaceR Fl.bin Fl.un typU Vb.bcO tyO dsO
theorem pbAll_inp:∀ {ts:List Tn},pbAll ts=true→inpE (ts.map tvV)=0
 | [],_=>by unfold inpE;rfl
 | t :: ts,h=>by
  unfold pbAll at h;rw [List.all_cons,Bool.and_eq_true] at h;have h1:=of_decide_eq_true h.1;have h2:inpE (ts.map tvV)=0:=pbAll_inp (by unfold pbAll;exact h.2);obtain ⟨e1,e2,-,-⟩:=pbE_zero h1;rw [List.map_cons,inpE];rw [if_neg (by show ¬ chk t.1 0=false;rw [e1];decide),if_neg (by show ¬ (cnt t.2.1).2≠0;exact fun c=>c e2)];exact h2
end
end Go.Proofs.YtijhdmidffenbaaGreatDoor
