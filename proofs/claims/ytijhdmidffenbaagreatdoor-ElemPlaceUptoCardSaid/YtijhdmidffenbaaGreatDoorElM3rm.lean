import Derived.Test.YtijhdmidffenbaaGreatDoorRegrm
import Derived.Test.YtijhdmidffenbaaGreatDoorElMrm
import Derived.Test.YtijhdmidffenbaaGreatDoorNmM2rm
import Derived.Test.YtijhdmidffenbaaGreatDoorFlM2rm
import Derived.Test.YtijhdmidffenbaaGreatDoorInM1rm
set_option linter.unusedVariables false
set_option linter.unusedSimpArgs false
namespace Go.Proofs.YtijhdmidffenbaaGreatDoor
section
open Go
section
variable {P:Program} {ops:Array Oper} {Q:Exit→Act→World→Prop} {md:Region.Mode} {S:World→Prop} {n:Nat}
end
end
section
open Go.RowKit
set_option maxRecDepth 100000
theorem bits_okP {w:World} {v:Value} {n:Nd} (h:NodeV w v n) {nm:ByteArray} {other:Int} (h1:InI other):InI (bitsP n.attrs nm other):=by
 obtain ⟨vin,vat,rfl,hn⟩:=h;unfold bitsP;split
 ·exact h1
 ·rename_i a ha
  obtain ⟨vd,vx,vi,hN⟩:=attr_in hn.ia (List.mem_of_find?_eq_some ha);exact hN.wf
attribute [local irreducible] Fl.un Fl.bin Fl.cst bitsP intP
end
section
open Go.RowKit
set_option maxRecDepth 100000
attribute [local irreducible] Fl.un Fl.bin
end
end Go.Proofs.YtijhdmidffenbaaGreatDoor
