import Derived.Test.YtijhdmidffenbaaGreatDoorSchCarm
set_option linter.unusedVariables false
set_option linter.unusedSimpArgs false
namespace Go.Proofs.YtijhdmidffenbaaGreatDoor
open Go.RowKit
theorem BoxN.three {W:World} {b:Nat} {x0 x1 x2:Value} {t:TypeId} (h:BoxN W b #[x0,x1,x2] t):W.cell? ⟨b,0,none⟩=some x0∧W.cell? ⟨b,1,none⟩=some x1∧W.cell? ⟨b,2,none⟩=some x2:=⟨h.cell 0 rfl,h.cell 1 rfl,h.cell 2 rfl⟩
theorem BoxN.thaw3 {W:World} {b:Nat} {x0 x1 x2:Value} {t:TypeId} (h:BoxN W b #[x0,x1,x2] t):W.frozen? ⟨b,0,none⟩=false∧W.frozen? ⟨b,1,none⟩=false∧W.frozen? ⟨b,2,none⟩=false:=⟨h.frozen 0,h.frozen 1,h.frozen 2⟩
def put3 (W:World) (b:Nat) (v0 v1 v2:Value):World:=((W.setCell ⟨b,0,none⟩ v0).setCell ⟨b,1,none⟩ v1).setCell ⟨b,2,none⟩ v2
theorem BoxN.put3 {W:World} {b:Nat} {x0 x1 x2:Value} {t:TypeId} (h:BoxN W b #[x0,x1,x2] t) (v0 v1 v2:Value):BoxN (put3 W b v0 v1 v2) b #[v0,v1,v2] t:=by
 have h0:=h.set 0 v0;rw [show #[x0,x1,x2].setIfInBounds 0 v0=#[v0,x1,x2] from rfl] at h0;have h1:=h0.set 1 v1;rw [show #[v0,x1,x2].setIfInBounds 1 v1=#[v0,v1,x2] from rfl] at h1;have h2:=h1.set 2 v2;rw [show #[v0,v1,x2].setIfInBounds 2 v2=#[v0,v1,v2] from rfl] at h2;exact h2
theorem put3_other {W:World} {b k:Nat} {v0 v1 v2:Value} (h:k≠b):(put3 W b v0 v1 v2).heap[k]?=W.heap[k]? :=
 (Below.heap_setCell _ _ _ k h).trans ((Below.heap_setCell _ _ _ k h).trans (Below.heap_setCell _ _ _ k h))
theorem below_put3 {n:Nat} {A W:World} {b:Nat} {v0 v1 v2:Value} (h:Below n A W) (hb:n≤b):Below n A (put3 W b v0 v1 v2) :=
 ((h.setCell (p:=⟨b,0,none⟩) hb _).setCell (p:=⟨b,1,none⟩) hb _).setCell (p:=⟨b,2,none⟩) hb _
theorem owns_heap {w w':World} {base:Nat} {e:TypeId} {size:Nat} {v:Value} {n:Nat} {xs:List Value} (h:w.ownsRow base e size v n xs) (hh:∀ g,v.ownBlock=some g→w'.heap[g]?=w.heap[g]?):w'.ownsRow base e size v n xs:=by
 refine ⟨h.1,?_⟩;rcases h.2 with hn | ⟨g,cap,cur,rfl,hb,hg,rest⟩
 ·exact .inl hn
 ·exact .inr ⟨g,cap,cur,rfl,hb,(hh g rfl).trans hg,rest⟩
theorem owns_below {w w':World} {base:Nat} {e:TypeId} {size:Nat} {v:Value} {n:Nat} {xs:List Value} (h:w.ownsRow base e size v n xs) (hB:Below w.heap.size w w'):w'.ownsRow base e size v n xs :=
 owns_heap h fun g hg=>hB.block g (h.lt g hg).2
theorem owns_base {w:World} {b0 b1:Nat} {e:TypeId} {size:Nat} {v:Value} {n:Nat} {xs:List Value} (h:w.ownsRow b1 e size v n xs) (hb:b0≤b1):w.ownsRow b0 e size v n xs:=by
 refine ⟨h.1,?_⟩;rcases h.2 with hn | ⟨g,cap,cur,rfl,hg,rest⟩
 ·exact .inl hn
 ·exact .inr ⟨g,cap,cur,rfl,Nat.le_trans hb hg,rest⟩
theorem owns_box {w:World} {b0 b:Nat} {e t:TypeId} {z n:Nat} {v:Value} {x:List Value} {cs:Array Value} (h:w.ownsRow b0 e z v n x) (hb:BoxN w b cs t) (hne:e≠t):∀ g,v.ownBlock=some g→g≠b:=by
 intro g hg e';subst e';rcases h.2 with ⟨rfl,_⟩ | ⟨g',cap,cur,rfl,_,hg',_⟩
 ·simp [Value.ownBlock] at hg
 ·simp [Value.ownBlock] at hg;subst hg;rw [show w.heap[g']?=_ from hb] at hg';simp only [Option.some.injEq,Obj.cells.injEq] at hg';exact hne hg'.2.1.symm
end Go.Proofs.YtijhdmidffenbaaGreatDoor
