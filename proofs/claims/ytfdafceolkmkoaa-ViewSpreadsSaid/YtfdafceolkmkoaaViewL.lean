/- A range over a function of numbers whose iterator keeps one row of cells of its own: the law for the caller, its body going on or returning. No program in sight. -/
import Derived.RangeFuncFrom
import Derived.RangeFuncBox
import Derived.RangeFuncLeaves
set_option linter.unusedVariables false
namespace Go.Proofs.Ytfdafceolkmkoaa
open Go Go.RowKit

variable {F : Fence} {n : Nat} {P : Program}

/-- A statement on worlds that abides new blocks, and whatever is written into block B. -/
def AbC {β : Type} (B : Nat) (J : β → World → Prop) : Prop :=
  ∀ s A A' row, J s A → A.grownBy A' row → (∀ r, row = some r → r = B) → J s A'

/-- The iterator's contract: called in a world of B blocks it may lay block B and write it between two rounds; 'Kp' is what a round that goes on must keep. -/
def SeqCells (F : Fence) (n : Nat) (P : Program) (g : Nat) (lb : Array Value) (Kp : World → World → Prop) (B : Nat) (all : List Int) (w : World) : Prop :=
  ∀ (l : Nat) (J Jx : List Int → World → Prop) (W : World), Below w.heap.size w W → W.heap.size = B → AbC B J → AbC B Jx →
    (∀ pre x W1, J pre W1 → B < W1.heap.size → (∃ rest, all = pre ++ x :: rest) → YieldAt F (n - 1) P l #[.int .i64 x] W1 fun e W' =>
      (e = .returned (.bool true) ∧ J (pre ++ [x]) W' ∧ Kp W1 W') ∨ (e = .returned (.bool false) ∧ Jx (pre ++ [x]) W')) →
    J [] W →
    CallsIn F n P g (#[.func (.yield l) #[] #[]] ++ lb) W fun e W' => (∃ v, e = .returned v) ∧ (J all W' ∨ ∃ pre, Jx pre W')

/-- How a round's body may end. -/
def bodyEnd (Kp : World → World → Prop) (I Ix : List Int → World → Prop) (xs : List Int) (W : World) : Exit → Act → World → Prop
  | .normal, _, W' => KeepsOthers W W' ∧ Kp W W' ∧ I xs W'
  | .ret, _, W' => KeepsOthers W W' ∧ Ix xs W'
  | _, _, _ => False

theorem keep_block {A A' : World} {row : Option Nat} {B l : Nat} {o : Obj} (hg : A.grownBy A' row) (hr : ∀ r, row = some r → r = B) (hl : A.heap[l]? = some o) (hne : l ≠ B) : A'.heap[l]? = some o :=
  (hg.block l (Array.getElem?_eq_some_iff.1 hl).1 (fun e => hne (hr l e.symm))).trans hl

/-- THE CALLER's LAW. -/
theorem range_cells {g : Operand} {p : Tmp} {assign body : Code} {Q : Exit → Act → World → Prop} {a : Act} {w : World}
    (hro : F.round = none) (h1 : 1 ≤ n) {gf : Nat} {lb : Array Value} (hg : a.eval g = .func (.func gf) #[] lb) (hF : F.fn gf) (eg : ∀ args w, (callFunc gf args).run P w = .ok (.enter gf args) w)
    {Kp : World → World → Prop} {all : List Int} {w0 : World} (hseq : SeqCells F (n - 1) P gf lb Kp (w.heap.size + 2) all w0) (hb0 : Below w0.heap.size w0 w)
    (hKt : ∀ {A B C : World}, Kp A B → Kp B C → Kp A C) (hKl : ∀ (W : World) (o o' : Obj), W.heap[w.heap.size + 1]? = some o → Kp W (W.putObj (w.heap.size + 1) o'))
    (I Ix : List Int → World → Prop) (hI : OwnFrom w.heap.size I) (hIx : OwnFrom w.heap.size Ix) (hIc : AbC (w.heap.size + 2) I) (hIxc : AbC (w.heap.size + 2) Ix) (h0 : I [] w) (a₁ : Int → Act)
    (hassign : ∀ (l : Nat) (x : Int) (W : World) (K : Act → World → Prop), K (a₁ x) W →
      assign.wpIn (F.inRound l) (n - 1 - 1) P (Exit.then K (fun _ _ _ => False)) { tmps := a.tmps.setIfInBounds p (.int .i64 x), defers := [] } W)
    (hbody : ∀ (l : Nat) (pre : List Int) (x : Int) (W : World), I pre W → w.heap.size + 2 < W.heap.size → (∃ rest, all = pre ++ x :: rest) → body.wpIn (F.inRound l) (n - 1 - 1) P (bodyEnd Kp I Ix (pre ++ [x]) W) (a₁ x) W)
    (hdone : ∀ (D : Nat) (W : World), w.heap.size ≤ D → I all W → W.heap[D]? = some (.deferred (some [])) → Q .normal { a with defers := { target := .collected D, args := #[] } :: a.defers } W)
    (hstop : ∀ (D : Nat) (pre : List Int) (W : World), w.heap.size ≤ D → Ix pre W → W.heap[D]? = some (.deferred (some [])) → Code.ret.wpIn F n P Q { a with defers := { target := .collected D, args := #[] } :: a.defers } W) :
    (Code.rangeFunc g #[p] assign body).wpIn F n P Q a w := by
  refine wpIn_rangeFunc fun fn hfn => ?_
  rw [hro]
  obtain ⟨rec, hrec⟩ : ∃ rec : LoopState → Option Code → Loop, rec = fun st pe => { state := st, pending := pe, fn, tmps := a.tmps, params := #[p], assign, body, defers := w.heap.size } := ⟨_, rfl⟩
  generalize hS : w.heap.size = S at *
  obtain ⟨W1, hW1⟩ : ∃ W1, (w.alloc (.deferred (some []))).alloc (.loop (rec .ready none)) = W1 := ⟨_, rfl⟩
  have z1 : W1.heap.size = S + 2 := by rw [← hW1]; simp [hS]
  have l1 : W1.heap[S + 1]? = some (.loop (rec .ready none)) := by
    have := World.alloc_heap_new (w.alloc (.deferred (some []))) (.loop (rec .ready none))
    rw [World.size_alloc, hS] at this
    rw [← hW1]; exact this
  have d1 : W1.heap[S]? = some (.deferred (some [])) := by
    rw [← hW1, Below.heap_alloc _ _ _ (by simp [hS])]
    have := World.alloc_heap_new w (.deferred (some []))
    rwa [hS] at this
  have i1 : I [] W1 := by rw [← hW1]; exact hI.alloc _ (hI.alloc _ h0)
  have b1 : Below w0.heap.size w0 W1 := by
    rw [← hW1]
    exact (hb0.alloc hb0.size _).alloc (by have := hb0.size; simp; omega) _
  refine ⟨S + 1, [{ target := .collected S, args := #[] }], W1, { target := .fn (.func gf) lb, args := #[.func (.yield (S + 1)) #[] #[]] }, W1, gf, #[.func (.yield (S + 1)) #[] #[]] ++ lb, W1, ?_, ?_, ?_, ?_, fun _ => h1, ?_⟩
  · rw [← hW1, hrec, ← hS]
    exact run_enterLoop_outer _ _ _ _ _
  · simp only [resolve, hg]
    simp [go_sem]
  · intro f' hf'
    simp [Target.leads] at hf'
    subst hf'; exact hF
  · simp [invoke, go_sem, eg]
  -- what goes through the iterator: the caller's own word, the loop's record, the block for the deferred calls
  have step : ∀ (K : List Int → World → Prop), AbC (S + 2) K → ∀ o : Obj, AbC (S + 2) (fun pre W => K pre W ∧ W.heap[S + 1]? = some o ∧ W.heap[S]? = some (.deferred (some []))) := fun K hK o s A A' row hs hg' hr =>
    ⟨hK s A A' row hs.1 hg' hr, keep_block hg' hr hs.2.1 (by omega), keep_block hg' hr hs.2.2 (by omega)⟩
  refine (hseq (S + 1) (fun pre W => I pre W ∧ W.heap[S + 1]? = some (.loop (rec .ready none)) ∧ W.heap[S]? = some (.deferred (some [])))
    (fun pre W => Ix pre W ∧ W.heap[S + 1]? = some (.loop (rec .done (some .ret))) ∧ W.heap[S]? = some (.deferred (some []))) W1 b1 z1 (step I hIc _) (step Ix hIxc _) ?_ ⟨i1, l1, d1⟩).mono ?_
  · rintro pre x W ⟨hi, hl, hd⟩ hz hx
    have hlt : S + 1 < W.heap.size := (Array.getElem?_eq_some_iff.1 hl).1
    have hy := run_yield (P := P) (args := #[.int .i64 x]) hl (by rw [hrec]; rfl)
    rw [hrec] at hy
    refine ⟨fn, _, assign, body, hy, roundIn_of_wpIn hfn ?_⟩
    have ez : ((#[p].zip #[Value.int .i64 x]).foldl (fun t (p, v) => t.setIfInBounds p v) a.tmps) = a.tmps.setIfInBounds p (.int .i64 x) := by simp
    rw [ez]
    refine hassign _ x W _ ?_
    refine ⟨_, run_beginRound hl (by rw [hrec]), ?_⟩
    generalize hW2 : W.putObj (S + 1) (.loop { rec .ready none with state := .busy }) = W2
    have l2 : W2.heap[S + 1]? = some (.loop { rec .ready none with state := .busy }) := by rw [← hW2]; exact World.putObj_heap_same hlt
    have d2 : W2.heap[S]? = some (.deferred (some [])) := by rw [← hW2]; exact (World.putObj_heap_other (by omega)).trans hd
    have k2 : Kp W W2 := by rw [← hW2]; exact hKl _ _ _ hl
    have i2 : I pre W2 := by rw [← hW2]; exact hI.putObj _ hi (by omega) hl rfl
    have z2 : S + 2 < W2.heap.size := by rw [← hW2]; simpa [World.putObj] using hz
    refine wpIn_mono (hbody _ pre x W2 i2 z2 hx) ?_
    rintro e a3 W3 hp
    have fin : ∀ (jump : Option Code), KeepsOthers W2 W3 → W3.heap[S + 1]? = some (.loop { rec .ready none with state := .busy }) ∧ W3.heap[S]? = some (.deferred (some [])) ∧
        (Instr.endRound (S + 1) jump).run P W3 = .ok (.bool jump.isNone) (W3.putObj (S + 1) (.loop (rec (if jump.isNone then .ready else .done) jump))) := fun jump hk => by
      have l3 := hk.same _ _ l2 rfl
      refine ⟨l3, hk.same _ _ d2 rfl, ?_⟩
      have := run_endRound (P := P) jump l3
      rw [hrec] at this ⊢
      exact this
    have own : ∀ o', W3.heap[S + 1]? = some (.loop { rec .ready none with state := .busy }) → (W3.putObj (S + 1) o').heap[S + 1]? = some o' := fun o' h => World.putObj_heap_same (Array.getElem?_eq_some_iff.1 h).1
    cases e with
    | normal =>
      obtain ⟨hk, hkp, hi3⟩ := hp
      obtain ⟨l3, d3, hr⟩ := fin none hk
      exact ⟨_, _, hr, .inl ⟨rfl, ⟨hI.putObj _ hi3 (by omega) l3 rfl, own _ l3, (World.putObj_heap_other (by omega)).trans d3⟩, hKt (hKt k2 hkp) (hKl _ _ _ l3)⟩⟩
    | ret =>
      obtain ⟨hk, hi3⟩ := hp
      obtain ⟨l3, d3, hr⟩ := fin (some .ret) hk
      exact ⟨_, _, hr, .inr ⟨rfl, hIx.putObj _ hi3 (by omega) l3 rfl, own _ l3, (World.putObj_heap_other (by omega)).trans d3⟩⟩
    | exit id => exact hp.elim
    | goto t => exact hp.elim
    | panic ch => exact hp.elim
    | outgrown => exact hp.elim
  · rintro e W2 ⟨⟨v, rfl⟩, (⟨hi, hl, hd⟩ | ⟨pre, hi, hl, hd⟩)⟩
    all_goals
      have he := run_endLoop (P := P) hl (by rw [hrec]; simp)
      rw [hrec] at he
    · exact ⟨none, _, he, hdone _ _ (by omega) (hI.putObj _ hi (by omega) hl rfl) ((World.putObj_heap_other (by omega)).trans hd)⟩
    · exact ⟨some .ret, _, he, hstop _ pre _ (by omega) (hIx.putObj _ hi (by omega) hl rfl) ((World.putObj_heap_other (by omega)).trans hd)⟩

end Go.Proofs.Ytfdafceolkmkoaa
