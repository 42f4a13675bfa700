import Derived.Test.YtijhdmidffenbaaGreatDoorSchJrm
import Derived.Laws.AppendOwn
set_option linter.unusedVariables false
set_option linter.unusedSimpArgs false
namespace Go.Proofs.YtijhdmidffenbaaGreatDoor
open Go.RowKit
structure Made (l:List ByteArray) (s:ByteArray):Prop where
 ones:∀ x ∈ l,x ∈ onesL
 join:s.data.toList=joinD (l.map (·.data.toList))
 size:s.size≤l.length * 9
theorem IntsIn.rows {w:World} {v:Value} {zs:List Int} (h:IntsIn w v zs) {k:Nat} (hk:k < zs.length):∃ b off cap,v=.slice (some ⟨b,off,none⟩) zs.length cap∧b < w.heap.size∧Reads w b off zs∧InI (zs.getD k 0):=by
 cases h with
 | empty a0 cap=>simp at hk
 | row b off cap _ h0 hc hb hr hlen hw=>exact ⟨b,off,cap,rfl,hb,hr,hw _ (getD_mem hk)⟩
theorem owns_form {w:World} {base:Nat} {v:Value} {e:TypeId} {z n:Nat} {xs:List Value} (h:w.ownsRow base e z v n xs):∃ a c,v=.slice a n c:=by
 obtain ⟨_,h | ⟨g,cap,cur,rfl,_⟩⟩:=h
 ·obtain ⟨rfl,rfl⟩:=h;exact ⟨_,_,rfl⟩
 ·exact ⟨_,_,rfl⟩
theorem ones_size:∀ x ∈ onesL,x.size≤8:=by decide +kernel
theorem Made.first {x s:ByteArray} (hs:Made [] s) (hx:x ∈ onesL):Made [x] (s++x) where
 ones:=by intro y hy;simp at hy;exact hy ▸ hx
 join:=by
  have:=hs.join;rw [ByteArray.data_append,Array.toList_append,this];rfl
 size:=by
  have:=hs.size;have h2:=ones_size x hx;have h4:s.size=0:=by simpa using this
  rw [ByteArray.size_append,h4];simp;omega
end Go.Proofs.YtijhdmidffenbaaGreatDoor
