/- Of the chapter live: which nodes must be done ahead of which; plain. -/
import Derived.Test.YtlbhepfbogcipaaDoorGrP
set_option linter.unusedVariables false
set_option linter.unusedSimpArgs false
namespace Go.Proofs.YtlbhepfbogcipaaDoor

/-- Does a later node read a node's value? -/
def readsL (l : List Nd) (a b : Nat) : Bool := decide (a < b) && match l[a]?, l[b]? with
  | some x, some y => hasS y.ins x.out
  | _, _ => false
/-- The nodes that read a node's value, in their order. -/
def rdsL (l : List Nd) (a : Nat) : List Nat := (List.range l.length).filter (readsL l a)
def befF (l : List Nd) : Nat → Nat → Nat → Bool
  | 0, _, _ => false
  | f + 1, a, b => (rdsL l a).any fun r => decide (r = b) || befF l f r b
/-- Must a be done ahead of b? -/
def befB (l : List Nd) (a b : Nat) : Bool := befF l l.length a b

theorem readsL_lt {l : List Nd} {a b : Nat} (h : readsL l a b = true) : a < b ∧ b < l.length := by
  unfold readsL at h
  rw [Bool.and_eq_true, decide_eq_true_eq] at h
  refine ⟨h.1, ?_⟩
  cases hb : l[b]? with
  | none =>
    rw [hb] at h
    have h2 := h.2
    cases l[a]? <;> simp at h2
  | some y => exact (List.getElem?_eq_some_iff.1 hb).1
theorem mem_rdsL {l : List Nd} {a r : Nat} : r ∈ rdsL l a ↔ readsL l a r = true := by
  unfold rdsL
  rw [List.mem_filter, List.mem_range]
  exact ⟨fun h => h.2, fun h => ⟨(readsL_lt h).2, h⟩⟩
/-- More steps than there are nodes behind give no more. -/
theorem befF_more {l : List Nd} : ∀ (f a b : Nat), l.length ≤ a + f → befF l (f + 1) a b = befF l f a b
  | 0, a, b, h => by
    show ((rdsL l a).any _) = false
    rw [List.any_eq_false]
    intro r hr
    have := readsL_lt (mem_rdsL.1 hr)
    omega
  | f + 1, a, b, h => by
    show ((rdsL l a).any fun r => decide (r = b) || befF l (f + 1) r b) = ((rdsL l a).any fun r => decide (r = b) || befF l f r b)
    rw [Bool.eq_iff_iff, List.any_eq_true, List.any_eq_true]
    refine ⟨fun ⟨r, hr, e⟩ => ⟨r, hr, ?_⟩, fun ⟨r, hr, e⟩ => ⟨r, hr, ?_⟩⟩
    · rw [befF_more f r b (by have := readsL_lt (mem_rdsL.1 hr); omega)] at e; exact e
    · rw [befF_more f r b (by have := readsL_lt (mem_rdsL.1 hr); omega)]; exact e
/-- As live.rows reckons it: from behind. -/
theorem befB_step {l : List Nd} (a b : Nat) : befB l a b = (rdsL l a).any fun r => decide (r = b) || befB l r b := by
  unfold befB
  rw [← befF_more l.length a b (by omega)]
  rfl
theorem befB_lt {l : List Nd} : ∀ (f a b : Nat), befF l f a b = true → a < b ∧ b < l.length
  | 0, a, b, h => by cases h
  | f + 1, a, b, h => by
    obtain ⟨r, hr, e⟩ := List.any_eq_true.1 (show ((rdsL l a).any _) = true from h)
    have h1 := readsL_lt (mem_rdsL.1 hr)
    rw [Bool.or_eq_true, decide_eq_true_eq] at e
    rcases e with rfl | e
    · exact h1
    · have := befB_lt f r b e
      omega
theorem bef_lt {l : List Nd} {a b : Nat} (h : befB l a b = true) : a < b ∧ b < l.length := befB_lt _ _ _ h
theorem bef_one {l : List Nd} {a b : Nat} (h : readsL l a b = true) : befB l a b = true := by
  rw [befB_step, List.any_eq_true]
  exact ⟨b, mem_rdsL.2 h, by simp⟩
theorem bef_more {l : List Nd} {a r b : Nat} (h : readsL l a r = true) (h2 : befB l r b = true) : befB l a b = true := by
  rw [befB_step, List.any_eq_true]
  exact ⟨r, mem_rdsL.2 h, by rw [h2]; simp⟩
/-- Before goes on. -/
theorem bef_trans {l : List Nd} {a b c : Nat} (h1 : befB l a b = true) (h2 : befB l b c = true) : befB l a c = true := by
  obtain ⟨n, hn⟩ : ∃ n, l.length - a = n := ⟨_, rfl⟩
  induction n using Nat.strongRecOn generalizing a with
  | _ n ih =>
    have h := h1
    rw [befB_step, List.any_eq_true] at h
    obtain ⟨r, hr, e⟩ := h
    have hl := readsL_lt (mem_rdsL.1 hr)
    rw [Bool.or_eq_true, decide_eq_true_eq] at e
    rcases e with rfl | e
    · exact bef_more (mem_rdsL.1 hr) h2
    · exact bef_more (mem_rdsL.1 hr) (ih (l.length - r) (by omega) e rfl)
/-- As the reference reckons it: a step, or two ways behind one another. -/
theorem befB_ref {l : List Nd} {a b : Nat} : befB l a b = (readsL l a b || (List.range l.length).any fun c => decide (a < c) && decide (c < b) && (befB l a c && befB l c b)) := by
  rw [Bool.eq_iff_iff, Bool.or_eq_true, List.any_eq_true]
  constructor
  · intro h
    have h0 := h
    rw [befB_step, List.any_eq_true] at h
    obtain ⟨r, hr, e⟩ := h
    have h1 := mem_rdsL.1 hr
    have hl := readsL_lt h1
    rw [Bool.or_eq_true, decide_eq_true_eq] at e
    rcases e with rfl | e
    · exact Or.inl h1
    · refine Or.inr ⟨r, List.mem_range.2 hl.2, ?_⟩
      have h3 := bef_lt e
      rw [bef_one h1, e]
      simp [hl.1, h3.1]
  · intro h
    rcases h with h | ⟨c, _, e⟩
    · exact bef_one h
    · simp only [Bool.and_eq_true, decide_eq_true_eq] at e
      exact bef_trans e.2.1 e.2.2

end Go.Proofs.YtlbhepfbogcipaaDoor
