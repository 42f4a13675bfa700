/- Of the chapter live: sorted graphs, what is apart; plain. -/
import Derived.Test.YtlbhepfbogcipaaDoorLvP
import Derived.Test.YtlbhepfbogcipaaDoorGrY
set_option linter.unusedVariables false
set_option linter.unusedSimpArgs false
namespace Go.Proofs.YtlbhepfbogcipaaDoor

/-- Of nodes in the order of work, who is read stands ahead. -/
theorem picked_before {g : Gr} (h : FineG g) {a b : Nat} {x y : Nd} (ha : (picked g)[a]? = some x) (hb : (picked g)[b]? = some y) (hs : x.out ∈ y.ins) : a < b := by
  obtain ⟨h1, h2⟩ := stands_plain h
  have hf := fineG_of h1
  have hbl : b < g.nodes.length := by
    have := (List.getElem?_eq_some_iff.1 hb).1
    have hl : (picked g).length = g.nodes.length := stood_len h
    omega
  have hg := work_good (stood g)
  have hm : maker (stood g) x.out = some a := maker_at hf.outs (show (stood g).nodes[a]? = some x from ha)
  have := hg.deps b b y (by rw [h2]; simp [hbl]) hb _ hs a hm
  rw [h2] at this
  obtain ⟨q, hq, e⟩ := List.mem_iff_getElem.1 this
  rw [List.getElem_take, List.getElem_range] at e
  simp at hq
  omega
theorem picked_outs {g : Gr} (h : FineG g) : ((picked g).map (·.out)).Nodup := (fineG_of (stands_plain h).1).outs
theorem readsL_picked {g : Gr} (h : FineG g) {a b : Nat} {x y : Nd} (ha : (picked g)[a]? = some x) (hb : (picked g)[b]? = some y) : readsL (picked g) a b = hasS y.ins x.out := by
  unfold readsL
  rw [ha, hb]
  cases e : hasS y.ins x.out with
  | false => simp [e]
  | true => simp [e, picked_before h ha hb (hasS_iff.1 e)]

/-- Is a done with ahead of b? -/
def doneB (l : List Nd) (outs : List Vl) (a b : Nat) : Bool := !(outs.any fun v => decide (v.name = (l.getD a Nd.zero).out)) && (rdsL l a).all (fun r => befB l r b) && befB l a b
theorem doneB_lt {l : List Nd} {outs : List Vl} {a b : Nat} (h : doneB l outs a b = true) : befB l a b = true := by
  unfold doneB at h
  rw [Bool.and_eq_true] at h
  exact h.2
theorem doneB_rev {l : List Nd} {outs : List Vl} {a b : Nat} (h : a ≤ b) : doneB l outs b a = false := by
  cases e : doneB l outs b a with
  | false => rfl
  | true =>
    have := bef_lt (doneB_lt e)
    omega
theorem doneB_out {l : List Nd} {outs : List Vl} {a b : Nat} (h : doneB l outs a b = true) {v : Vl} (hv : v ∈ outs) : v.name ≠ (l.getD a Nd.zero).out := by
  unfold doneB at h
  simp only [Bool.and_eq_true, Bool.not_eq_true'] at h
  have := List.any_eq_false.1 h.1.1 v hv
  simpa using this
/-- Are two nodes' values never both needed? -/
def apartB (l : List Nd) (outs : List Vl) (a b : Nat) : Bool := doneB l outs (min a b) (max a b)
theorem apart_ref {l : List Nd} {outs : List Vl} {a b : Nat} (h : a ≠ b) : apartB l outs a b = (doneB l outs a b || doneB l outs b a) := by
  unfold apartB
  rcases Nat.lt_or_ge a b with hl | hl
  · rw [Nat.min_eq_left (by omega), Nat.max_eq_right (by omega), doneB_rev (l := l) (outs := outs) (a := a) (b := b) (by omega), Bool.or_false]
  · rw [Nat.min_eq_right (by omega), Nat.max_eq_left (by omega), doneB_rev (l := l) (outs := outs) (a := b) (b := a) (by omega), Bool.false_or]

end Go.Proofs.YtlbhepfbogcipaaDoor
