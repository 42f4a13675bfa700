/- The order of work: plain facts. -/
import Derived.Test.YtlbhepfbogcipaaGreatDoorGrP
set_option linter.unusedVariables false
set_option linter.unusedSimpArgs false
namespace Go.Proofs.YtlbhepfbogcipaaGreatDoor
open Go.RowKit

theorem nextW_some {g : Gr} {out : List Nat} {i : Nat} (h : nextW g out = some i) : i < g.nodes.length ∧ readyB g out i = true ∧ ∀ j, j < i → readyB g out j = false := by
  unfold nextW at h
  rw [List.find?_eq_some_iff_getElem] at h
  obtain ⟨h1, k, hk, e, h2⟩ := h
  have hk' : k < g.nodes.length := by simpa using hk
  have : k = i := by simpa using e
  subst this
  refine ⟨hk', h1, fun j hj => ?_⟩
  have := h2 j hj
  simpa using this
theorem nextW_none {g : Gr} {out : List Nat} (h : nextW g out = none) : ∀ j, j < g.nodes.length → readyB g out j = false := by
  unfold nextW at h
  rw [List.find?_eq_none] at h
  intro j hj
  simpa using h j (by simpa using hj)
theorem nextW_of {g : Gr} {out : List Nat} {i : Nat} (hi : i < g.nodes.length) (h : readyB g out i = true) (hl : ∀ j, j < i → readyB g out j = false) : nextW g out = some i := by
  unfold nextW
  rw [List.find?_eq_some_iff_getElem]
  exact ⟨h, i, by simpa using hi, by simp, fun j hj => by simpa using hl j hj⟩
theorem nextW_not {g : Gr} {out : List Nat} (h : ∀ j, j < g.nodes.length → readyB g out j = false) : nextW g out = none := by
  unfold nextW
  rw [List.find?_eq_none]
  intro j hj
  simpa using h j (by simpa using hj)

theorem ready_out {g : Gr} {out : List Nat} {i : Nat} (h : readyB g out i = true) : i ∉ out := by
  unfold readyB at h
  rw [Bool.and_eq_true] at h
  simpa using h.1
theorem ready_ins {g : Gr} {out : List Nat} {i : Nat} {n : Nd} (h : readyB g out i = true) (hn : g.nodes[i]? = some n) : ∀ s ∈ n.ins, ∀ k, maker g s = some k → k ∈ out := by
  unfold readyB at h
  rw [Bool.and_eq_true, hn] at h
  intro s hs k hk
  have := List.all_eq_true.1 h.2 s hs
  rw [hk] at this
  simpa using this

/-- What has been put into the order so far. -/
structure Good (g : Gr) (out : List Nat) : Prop where
  nodup : out.Nodup
  lt : ∀ i ∈ out, i < g.nodes.length
  deps : ∀ (p i : Nat) n, out[p]? = some i → g.nodes[i]? = some n → ∀ s ∈ n.ins, ∀ k, maker g s = some k → k ∈ out.take p

theorem Good.nil (g : Gr) : Good g [] := ⟨List.nodup_nil, by simp, by simp⟩
theorem Good.push {g : Gr} {out : List Nat} {i : Nat} (h : Good g out) (hi : i < g.nodes.length) (hr : readyB g out i = true) : Good g (out ++ [i]) where
  nodup := by
    rw [List.nodup_append]
    refine ⟨h.nodup, by simp, fun a ha b hb => ?_⟩
    obtain rfl : b = i := by simpa using hb
    intro e
    exact ready_out hr (e ▸ ha)
  lt := fun j hj => by
    rcases List.mem_append.1 hj with hj | hj
    · exact h.lt j hj
    · obtain rfl : j = i := by simpa using hj
      exact hi
  deps := fun p j n hp hn s hs k hk => by
    by_cases hl : p < out.length
    · rw [List.getElem?_append_left hl] at hp
      rw [List.take_append_of_le_length (by omega)]
      exact h.deps p j n hp hn s hs k hk
    · rw [List.getElem?_append_right (by omega)] at hp
      have h0 : p - out.length = 0 := by
        have := (List.getElem?_eq_some_iff.1 hp).1
        simp at this; omega
      rw [h0] at hp
      obtain rfl : j = i := by simpa using hp.symm
      rw [show p = out.length by omega, List.take_left]
      exact ready_ins hr hn s hs k hk

theorem workF_good {g : Gr} : ∀ (f : Nat) (out : List Nat), Good g out → Good g (workF g f out)
  | 0, out, h => h
  | f + 1, out, h => by
    unfold workF
    cases e : nextW g out with
    | none => exact h
    | some i => exact workF_good f _ (h.push (nextW_some e).1 (nextW_some e).2.1)
theorem work_good (g : Gr) : Good g (work g) := workF_good _ _ (Good.nil g)

theorem nodup_lt : ∀ (n : Nat) (l : List Nat), l.Nodup → (∀ i ∈ l, i < n) → l.length ≤ n
  | 0, l, _, h => by
    cases l with
    | nil => exact Nat.le_refl _
    | cons a t => exact absurd (h a (by simp)) (by omega)
  | n + 1, l, hn, h => by
    have h1 := nodup_lt n (l.erase n) (hn.erase n) (fun i hi => by
      rw [hn.mem_erase_iff] at hi
      have := h i hi.2
      omega)
    by_cases hm : n ∈ l
    · rw [List.length_erase_of_mem hm] at h1
      omega
    · rw [List.erase_of_not_mem hm] at h1
      omega
theorem nodup_full {n : Nat} {l : List Nat} (hn : l.Nodup) (h : ∀ i ∈ l, i < n) (hl : l.length = n) {i : Nat} (hi : i < n) : i ∈ l := by
  by_cases hm : i ∈ l
  · exact hm
  · have := nodup_lt n (i :: l) (List.nodup_cons.2 ⟨hm, hn⟩) (fun j hj => by
      rcases List.mem_cons.1 hj with rfl | hj
      · exact hi
      · exact h j hj)
    simp at this
    omega

theorem Good.len {g : Gr} {out : List Nat} (h : Good g out) : out.length ≤ g.nodes.length := nodup_lt _ _ h.nodup h.lt

/-- Nothing is left over where the order is whole. -/
theorem workF_stop {g : Gr} : ∀ (f : Nat) (out : List Nat), nextW g out = none → workF g f out = out
  | 0, out, h => rfl
  | f + 1, out, h => by unfold workF; rw [h]
theorem workF_end {g : Gr} : ∀ (f : Nat) (out : List Nat), Good g out → g.nodes.length ≤ out.length + f → nextW g (workF g f out) = none
  | 0, out, h, hf => by
    refine nextW_not fun j hj => ?_
    cases e : readyB g (workF g 0 out) j with
    | false => rfl
    | true => exact absurd (nodup_full h.nodup h.lt (by have := h.len; omega) hj) (ready_out e)
  | f + 1, out, h, hf => by
    unfold workF
    cases e : nextW g out with
    | none => exact e
    | some i => exact workF_end f _ (h.push (nextW_some e).1 (nextW_some e).2.1) (by rw [List.length_append]; simp; omega)

/-- The node that makes a name, where the names are unlike. -/
theorem maker_at {g : Gr} (hn : (g.nodes.map (·.out)).Nodup) {k : Nat} {n : Nd} (h : g.nodes[k]? = some n) : maker g n.out = some k := by
  unfold maker
  obtain ⟨hk, e⟩ := List.getElem?_eq_some_iff.1 h
  rw [List.findIdx?_eq_some_iff_getElem]
  refine ⟨hk, by rw [e]; simp, fun j hj => ?_⟩
  have hj' : j < g.nodes.length := by omega
  have := (List.nodup_iff_pairwise_ne.1 hn)
  rw [List.pairwise_iff_getElem] at this
  have h2 := this j k (by simpa using hj') (by simpa using hk) hj
  simp only [List.getElem_map, e] at h2
  simpa using h2

/-- Each stands behind all whose values it reads. -/
theorem Good.before {g : Gr} {out : List Nat} (h : Good g out) (hn : (g.nodes.map (·.out)).Nodup) {p i k : Nat} {ni nk : Nd} (hp : out[p]? = some i) (hi : g.nodes[i]? = some ni) (hk : g.nodes[k]? = some nk) (hs : nk.out ∈ ni.ins) : ∃ q, q < p ∧ out[q]? = some k := by
  have := h.deps p i ni hp hi _ hs k (maker_at hn hk)
  obtain ⟨q, hq, e⟩ := List.mem_iff_getElem.1 this
  rw [List.getElem_take] at e
  have hqp : q < p := by simp at hq; omega
  exact ⟨q, hqp, List.getElem?_eq_some_iff.2 ⟨_, e⟩⟩

end Go.Proofs.YtlbhepfbogcipaaGreatDoor
