import Derived.Test.YtijhdmidffenbaaGreatDoorSchXnrm
set_option linter.unusedVariables false
set_option linter.unusedSimpArgs false
set_option maxRecDepth 100000
namespace Go.Proofs.YtijhdmidffenbaaGreatDoor
open Go.RowKit Go.ChangeShapes Go.WideShapes Go.Deep
structure Vl where
 name:ByteArray
 typ:Int
 dims:List Int
structure Nm where
 name:ByteArray
 typ:Int
 dims:List Int
 data:List Int
def rdValue:Rd Vl:=fun w cs v=>∃ vd,cs=[.string v.name,.int .i64 v.typ,vd]∧v.name.size≤1048576∧InI v.typ∧IntsIn w vd v.dims
theorem rdValue_below {w w':World} (hB:Below w.heap.size w w'):∀ cs x,rdValue w cs x→rdValue w' cs x:=fun cs x ⟨vd,h1,h2,h3,h4⟩=>⟨vd,h1,h2,h3,h4.below hB⟩
theorem value_at {w:World} {v:Value} {l:List Vl} (h:SlIn 3 rdValue w v l) {j:Nat} {x:Vl} (hj:l[j]?=some x):∃ b off cap vd,v=.slice (some ⟨b,off,none⟩) l.length cap∧b < w.heap.size∧w.cell? ⟨b,off+j * 3,none⟩=some (.string x.name)∧w.cell? ⟨b,off+j * 3+1,none⟩=some (.int .i64 x.typ)∧w.cell? ⟨b,off+j * 3+2,none⟩=some vd∧x.name.size≤1048576∧InI x.typ∧IntsIn w vd x.dims:=by
 obtain ⟨b,off,cap,cs,rfl,hb,_,_,⟨vd,rfl,h1,h2,h3⟩,hc⟩:=h.rows j x hj;exact ⟨b,off,cap,vd,rfl,hb,hc 0 _ rfl,hc 1 _ rfl,hc 2 _ rfl,h1,h2,h3⟩
end Go.Proofs.YtijhdmidffenbaaGreatDoor
