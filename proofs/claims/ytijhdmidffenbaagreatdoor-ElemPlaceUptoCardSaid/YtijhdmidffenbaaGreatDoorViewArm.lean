import Derived.Test.YtijhdmidffenbaaGreatDoorChecked
import Derived.WalkKit
import Derived.WalkSpells
import Derived.WalkLawsBesides
import Derived.Deep.Light
import Derived.Deep.LoopGhost
import Derived.Outline
import Derived.OwnWalk
import Derived.RowKit3
import Derived.Lib.Hide
import Derived.Handy
set_option linter.unusedVariables false
set_option linter.unusedSimpArgs false
namespace Go.Proofs.YtijhdmidffenbaaGreatDoor
open Go.RowKit
theorem ret_val {a b:Value} (h:a=b):Ending.returned a=Ending.returned b:=by rw [h]
theorem int_val {k:IntKind} {a b:Int} (h:a=b):Value.int k a=Value.int k b:=by rw [h]
theorem bool_val {a b:Bool} (h:a=b):Value.bool a=Value.bool b:=by rw [h]
theorem ret2_val {a b c d:Value} (h:a=c) (g:b=d):Ending.returned (.tuple #[a,b])=Ending.returned (.tuple #[c,d]):=by rw [h,g]
def InI (z:Int):Prop:=-9223372036854775808≤z∧z≤9223372036854775807
def Reads (w:World) (b off:Nat) (zs:List Int):Prop:=∀ j,j < zs.length→w.cell? ⟨b,off+j,none⟩=some (.int .i64 (zs.getD j 0))
inductive IntsIn (w:World):Value→List Int→Prop
 | empty (a0:Option Addr) (cap:Nat):IntsIn w (.slice a0 0 cap) []
 | row (b off cap:Nat) (zs:List Int) (h0:zs≠[]) (hc:zs.length≤cap) (hb:b < w.heap.size) (hr:Reads w b off zs) (hlen:zs.length * 8≤140737488351232) (hw:∀ z ∈ zs,InI z) :
   IntsIn w (.slice (some ⟨b,off,none⟩) zs.length cap) zs
theorem IntsIn.wf {w:World} {v:Value} {zs:List Int} (h:IntsIn w v zs):zs.length * 8≤140737488351232∧∀ z ∈ zs,InI z:=by
 cases h with
 | empty=>exact ⟨by decide,fun z hz=>by cases hz⟩
 | row b off cap _ _ _ _ _ hlen hw=>exact ⟨hlen,hw⟩
theorem Reads.below {w w':World} {b off:Nat} {zs:List Int} (h:Reads w b off zs) (hB:Below w.heap.size w w') (hb:b < w.heap.size):Reads w' b off zs :=
 fun j hj=>(hB.cell (p:=⟨b,off+j,none⟩) hb).trans (h j hj)
theorem IntsIn.below {w w':World} {v:Value} {zs:List Int} (h:IntsIn w v zs) (hB:Below w.heap.size w w'):IntsIn w' v zs:=by
 cases h with
 | empty a0 cap=>exact .empty a0 cap
 | row b off cap _ h0 hc hb hr hlen hw=>exact .row b off cap zs h0 hc (Nat.lt_of_lt_of_le hb hB.size) (hr.below hB hb) hlen hw
theorem drop_next {zs:List Int} {k:Nat} (h:k < zs.length):zs.drop k=zs.getD k 0 :: zs.drop (k+1):=by
 rw [List.drop_eq_getElem_cons h];simp [List.getD,List.getElem?_eq_getElem h]
theorem getD_mem {zs:List Int} {k:Nat} (h:k < zs.length):zs.getD k 0 ∈ zs:=by
 simp [List.getD,List.getElem?_eq_getElem h]
def cntLoop:Int→List Int→Int × Int
 | n,[]=>(n,0)
 | n,d :: ds=>if 65536 < n * d then (0,6) else cntLoop (n * d) ds
def cnt (zs:List Int):Int × Int:=if zs.any (fun d=>decide (d < 1)) then (0,4) else if 6 < zs.length then (0,6) else cntLoop 1 zs
theorem quo_test {n d:Int} (h1:1≤n):(Int.tdiv 65536 n < d)↔65536 < n * d:=by
 rw [Int.tdiv_eq_ediv_of_nonneg (by decide),Int.ediv_lt_iff_lt_mul (by omega),Int.mul_comm]
end Go.Proofs.YtijhdmidffenbaaGreatDoor
