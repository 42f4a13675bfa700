/- Of the laws GraphStands and GraphMore: plain facts. -/
import Derived.Test.YtlbhepfbogcipaaGreatDoorGrQ
set_option linter.unusedVariables false
set_option linter.unusedSimpArgs false
namespace Go.Proofs.YtlbhepfbogcipaaGreatDoor
open Go.RowKit

def Nd.zero : Nd := ⟨⟨#[]⟩, ⟨#[]⟩, [], ⟨#[]⟩, []⟩
/-- The nodes in the order of work. -/
def picked (g : Gr) : List Nd := (work g).map fun i => g.nodes.getD i Nd.zero
def stood (g : Gr) : Gr := { g with nodes := picked g }

theorem work_perm {g : Gr} (h : FineG g) : (work g).Perm (List.range g.nodes.length) := by
  rw [List.perm_ext_iff_of_nodup (work_good g).nodup List.nodup_range]
  intro a
  rw [List.mem_range]
  exact ⟨(work_good g).lt a, fun ha => nodup_full (work_good g).nodup (work_good g).lt h.full ha⟩
theorem range_pick (l : List Nd) : (List.range l.length).map (fun i => l.getD i Nd.zero) = l := by
  refine List.ext_getElem (by simp) fun i h1 h2 => ?_
  simp [List.getD, h2]
theorem picked_perm {g : Gr} (h : FineG g) : (picked g).Perm g.nodes := by
  have := (work_perm h).map (fun i => g.nodes.getD i Nd.zero)
  rw [range_pick] at this
  exact this
theorem picked_at {g : Gr} {p i : Nat} {n : Nd} (hi : (work g)[p]? = some i) (hn : g.nodes[i]? = some n) : (picked g)[p]? = some n := by
  unfold picked
  rw [List.getElem?_map, hi]
  simp [List.getD, hn]

theorem nodesE_zero : ∀ {l : List Nd}, nodesE l = 0 ↔ ∀ n ∈ l, checkP n = 0
  | [] => by simp [nodesE]
  | n :: t => by
    unfold nodesE
    by_cases h : checkP n = 0
    · rw [if_neg (fun c => c h), nodesE_zero]
      simp [h]
    · rw [if_pos h]
      constructor
      · intro c; exact absurd c h
      · intro c; exact c n (by simp)
theorem parts_zero {g : Gr} : partsE g = 0 ↔ insE g.ins = 0 ∧ initsE g.inits = 0 ∧ nodesE g.nodes = 0 := by
  unfold partsE
  by_cases h1 : insE g.ins = 0
  · rw [if_neg (fun c => c h1)]
    by_cases h2 : initsE g.inits = 0
    · rw [if_neg (fun c => c h2)]
      simp [h1, h2]
    · rw [if_pos h2]
      simp [h2]
  · rw [if_pos h1]
    simp [h1]
theorem unlike_iff {l : List ByteArray} : unlikeB l = true ↔ (∀ s ∈ l, s ≠ ⟨#[]⟩) ∧ l.Nodup := by
  unfold unlikeB
  rw [Bool.and_eq_true, decide_eq_true_eq, List.all_eq_true]
  simp
theorem unlike_perm {l l' : List ByteArray} (h : l.Perm l') : unlikeB l = true → unlikeB l' = true := by
  rw [unlike_iff, unlike_iff]
  exact fun ⟨h1, h2⟩ => ⟨fun s hs => h1 s (h.mem_iff.2 hs), (h.nodup_iff).1 h2⟩
theorem named_iff {g : Gr} : namedB g = true ↔ (∀ n ∈ g.nodes, ∀ s ∈ n.ins, s ∈ namesG g) ∧ (∀ v ∈ g.outs, v.name ∈ namesG g) ∧ g.outs ≠ [] ∧ (g.outs.map (·.name)).Nodup := by
  unfold namedB
  simp only [Bool.and_eq_true, List.all_eq_true, hasS_iff, decide_eq_true_eq]
  constructor
  · intro ⟨⟨⟨a, b⟩, c⟩, d⟩; exact ⟨a, b, c, d⟩
  · intro ⟨a, b, c, d⟩; exact ⟨⟨⟨a, b⟩, c⟩, d⟩
theorem maker_of {g : Gr} {s : ByteArray} {k : Nat} (h : maker g s = some k) : ∃ n, g.nodes[k]? = some n ∧ n.out = s := by
  unfold maker at h
  rw [List.findIdx?_eq_some_iff_getElem] at h
  obtain ⟨hk, e, _⟩ := h
  exact ⟨g.nodes[k], List.getElem?_eq_getElem hk, by simpa using e⟩

theorem stood_next {g : Gr} (h : FineG g) {p : Nat} (hp : p < g.nodes.length) : nextW (stood g) (List.range p) = some p := by
  have hgd := work_good g
  have hpl : p < (work g).length := by rw [h.full]; exact hp
  obtain ⟨i, hi⟩ : ∃ i, (work g)[p]? = some i := ⟨_, List.getElem?_eq_getElem hpl⟩
  have hil := hgd.lt i (List.mem_of_getElem? hi)
  obtain ⟨n, hn⟩ : ∃ n, g.nodes[i]? = some n := ⟨_, List.getElem?_eq_getElem hil⟩
  have hsl : (stood g).nodes.length = g.nodes.length := by
    show (picked g).length = _
    rw [picked, List.length_map, h.full]
  refine nextW_of (by rw [hsl]; exact hp) (ready_yes (n := n) (picked_at hi hn) (by simp) ?_) (fun j hj => ready_done (by simpa using hj))
  rw [List.all_eq_true]
  intro s hs
  unfold readyS
  cases hm : maker (stood g) s with
  | none => rfl
  | some k =>
    simp only
    obtain ⟨nk, hk, ek⟩ := maker_of hm
    have hkl : k < (work g).length := by
      have := (List.getElem?_eq_some_iff.1 hk).1
      rw [hsl] at this; rw [h.full]; exact this
    obtain ⟨m, hmk⟩ : ∃ m, (work g)[k]? = some m := ⟨_, List.getElem?_eq_getElem hkl⟩
    have hml := hgd.lt m (List.mem_of_getElem? hmk)
    obtain ⟨n2, hn2⟩ : ∃ n, g.nodes[m]? = some n := ⟨_, List.getElem?_eq_getElem hml⟩
    have e2 : n2 = nk := by
      have := picked_at hmk hn2
      exact Option.some.inj (this.symm.trans hk)
    subst e2
    have hmm := maker_at h.outs hn2
    rw [ek] at hmm
    have := hgd.deps p i n hi hn s hs m hmm
    obtain ⟨q, hq, e⟩ := List.mem_iff_getElem.1 this
    rw [List.getElem_take] at e
    have hqp : q < p := by simp at hq; omega
    have hqk : q = k := by
      obtain ⟨hk1, ek1⟩ := List.getElem?_eq_some_iff.1 hmk
      exact (List.getElem_inj hgd.nodup).1 (e.trans ek1.symm)
    subst hqk
    simpa using hqp
theorem stood_work {g : Gr} (h : FineG g) : ∀ (f p : Nat), p + f = g.nodes.length → workF (stood g) f (List.range p) = List.range g.nodes.length
  | 0, p, e => by rw [← e]; rfl
  | f + 1, p, e => by
    rw [workF_step (stood_next h (by omega)), ← List.range_succ]
    exact stood_work h f (p + 1) (by omega)
theorem stood_len {g : Gr} (h : FineG g) : (stood g).nodes.length = g.nodes.length := by
  show (picked g).length = _
  rw [picked, List.length_map, h.full]
/-- THE LAW: put into the order of work, the nodes are ordered as they stand. -/
theorem stands_plain {g : Gr} (h : FineG g) : orderE (stood g) = 0 ∧ work (stood g) = List.range g.nodes.length := by
  have hw : work (stood g) = List.range g.nodes.length := by
    unfold work
    rw [stood_len h]
    exact stood_work h _ 0 (by omega)
  have hnp : (namesG (stood g)).Perm (namesG g) := by
    unfold namesG
    exact List.Perm.append (List.Perm.refl _) ((picked_perm h).map _)
  refine ⟨order_full ?_ ?_ ?_ ?_ ?_, hw⟩
  · rw [great_iff, stood_len h]
    exact great_iff.1 h.great
  · have hp := parts_zero.1 h.parts
    exact parts_zero.2 ⟨hp.1, hp.2.1, nodesE_zero.2 fun n hn => nodesE_zero.1 hp.2.2 n ((picked_perm h).mem_iff.1 hn)⟩
  · exact unlike_perm hnp.symm h.like
  · obtain ⟨a, b, c, d⟩ := named_iff.1 h.named
    exact named_iff.2 ⟨fun n hn s hs => hnp.mem_iff.2 (a n ((picked_perm h).mem_iff.1 hn) s hs), fun v hv => hnp.mem_iff.2 (b v hv), c, d⟩
  · rw [hw, stood_len h, List.length_range]

/-! ### one more input -/

def more (g : Gr) (x : Vl) : Gr := { g with ins := g.ins ++ [x] }
theorem workF_nodes {g h : Gr} (e : h.nodes = g.nodes) : ∀ (f : Nat) (out : List Nat), workF h f out = workF g f out
  | 0, out => rfl
  | f + 1, out => by
    have hr : ∀ o i, readyB h o i = readyB g o i := fun o i => by unfold readyB maker; rw [e]
    have hn : nextW h out = nextW g out := by
      unfold nextW
      rw [e, funext (hr out)]
    unfold workF
    rw [hn]
    cases nextW g out with
    | none => rfl
    | some i => exact workF_nodes e f _
theorem work_nodes {g h : Gr} (e : h.nodes = g.nodes) : work h = work g := by
  unfold work
  rw [workF_nodes e, e]
theorem insE_snoc {x : Vl} (h1 : chk x.typ 0 = true) (h2 : (cnt x.dims).2 = 0) : ∀ {l : List Vl}, insE l = 0 → insE (l ++ [x]) = 0
  | [], _ => by
    show insE [x] = 0
    unfold insE
    rw [if_neg (by rw [h1]; decide), if_neg (fun c => c h2)]; rfl
  | v :: t, h => by
    rw [List.cons_append]
    unfold insE at h ⊢
    by_cases c1 : chk v.typ 0 = false
    · rw [if_pos c1] at h; exact absurd h (by decide)
    · rw [if_neg c1] at h ⊢
      by_cases c2 : (cnt v.dims).2 = 0
      · rw [if_neg (fun c => c c2)] at h ⊢
        exact insE_snoc h1 h2 h
      · rw [if_pos c2] at h; exact absurd h c2
/-- THE LAW: one more input under a new name changes nothing of the order. -/
theorem more_plain {g : Gr} {x : Vl} (h : FineG g) (hn : x.name ∉ namesG g) (h0 : x.name ≠ ⟨#[]⟩) (h1 : chk x.typ 0 = true) (h2 : (cnt x.dims).2 = 0) (hl : g.ins.length + g.inits.length + g.nodes.length < 3000) : orderE (more g x) = 0 ∧ work (more g x) = work g := by
  have hw : work (more g x) = work g := work_nodes rfl
  have hnp : (namesG (more g x)).Perm (namesG g ++ [x.name]) := by
    show (((g.ins ++ [x]).map (·.name) ++ g.inits.map (·.name)) ++ g.nodes.map (·.out)).Perm _
    unfold namesG
    rw [List.map_append, List.append_assoc, List.append_assoc, List.append_assoc, List.append_assoc]
    refine List.Perm.append (List.Perm.refl _) ?_
    rw [← List.append_assoc (g.inits.map _)]
    exact List.perm_append_comm
  have hmem : ∀ s, s ∈ namesG g → s ∈ namesG (more g x) := fun s hs => hnp.mem_iff.2 (List.mem_append_left _ hs)
  refine ⟨order_full ?_ ?_ ?_ ?_ ?_, hw⟩
  · have := great_iff.1 h.great
    rw [great_iff]
    show g.nodes.length ≤ 1000 ∧ (g.ins ++ [x]).length + g.inits.length + g.nodes.length ≤ 3000 ∧ g.outs.length ≤ 3000
    rw [List.length_append]
    simp
    omega
  · have hp := parts_zero.1 h.parts
    exact parts_zero.2 ⟨insE_snoc h1 h2 hp.1, hp.2.1, hp.2.2⟩
  · refine unlike_perm hnp.symm ?_
    obtain ⟨a, b⟩ := unlike_iff.1 h.like
    rw [unlike_iff]
    refine ⟨fun s hs => ?_, ?_⟩
    · rcases List.mem_append.1 hs with hs | hs
      · exact a s hs
      · obtain rfl : s = x.name := by simpa using hs
        exact h0
    · rw [List.nodup_append]
      refine ⟨b, by simp, fun s hs t ht => ?_⟩
      obtain rfl : t = x.name := by simpa using ht
      exact fun e => hn (e ▸ hs)
  · obtain ⟨a, b, c, d⟩ := named_iff.1 h.named
    exact named_iff.2 ⟨fun n hn s hs => hmem s (a n hn s hs), fun v hv => hmem _ (b v hv), c, d⟩
  · rw [hw]; exact h.full

end Go.Proofs.YtlbhepfbogcipaaGreatDoor
