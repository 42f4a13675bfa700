import Derived.Test.YtijhdmidffenbaaGreatDoorSchXnim
set_option linter.unusedVariables false
set_option linter.unusedSimpArgs false
set_option maxRecDepth 100000
namespace Go.Proofs.YtijhdmidffenbaaGreatDoor
open Go.RowKit Go.ChangeShapes Go.WideShapes Go.Deep
theorem fits_tensors:Fits Tryz.prog 42 1 (rdSl 3 rdTensor):=fits_slice Tryz.underlying42 (by kernel_rfl) (by decide) fits_tensor
theorem open_tensors {H:Type} {enc:TypeId × Value→H} {W:World} {r:Reach} {b0:Nat} {v:Value} {d:DataW H} {p:List MemPlace}
  (hv:Value.okWide Tryz.prog W r b0 42 v) (hd:DataW.Trod enc Tryz.prog W 0 (fun _=>true) true 42 v d p) (hlt:∀ y ∈ p,y.block < W.heap.size) (hb:Rows.uptoBulk d≤1048576):∃ l,SlIn 3 rdTensor W v l:=by
 obtain ⟨a,len,cap,rfl⟩:=okWide_slice Tryz.underlying42 hv
 obtain ⟨fuel,hf⟩:=hd
 obtain ⟨l,v1,e,h⟩:=fits_tensors.2 enc W fuel _ _ hf hlt hb
 simp [Value.cells] at e
 subst e
 exact ⟨l,h⟩
end Go.Proofs.YtijhdmidffenbaaGreatDoor
