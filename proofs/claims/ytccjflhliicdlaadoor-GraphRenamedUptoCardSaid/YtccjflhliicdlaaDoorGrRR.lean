/- Of the law GraphRenamed: plain facts. -/
import Derived.Test.YtccjflhliicdlaaDoorGrH
import Derived.Test.YtccjflhliicdlaaDoorGrO
import Derived.Test.YtccjflhliicdlaaDoorSchPl
import Derived.Test.YtccjflhliicdlaaDoorGrF
set_option linter.unusedVariables false
set_option linter.unusedSimpArgs false
namespace Go.Proofs.YtccjflhliicdlaaDoor
open Go.RowKit

/-- A name, with a new one in the place of an old one. -/
def ren1 (old nm s : ByteArray) : ByteArray := if s = old then nm else s
def renV (old nm : ByteArray) (x : Vl) : Vl := { x with name := ren1 old nm x.name }
def renT (old nm : ByteArray) (x : Nm) : Nm := { x with name := ren1 old nm x.name }
def renN (old nm : ByteArray) (n : Nd) : Nd := { n with out := ren1 old nm n.out, ins := n.ins.map (ren1 old nm) }
def ren (old nm : ByteArray) (g : Gr) : Gr := { g with nodes := g.nodes.map (renN old nm), ins := g.ins.map (renV old nm), outs := g.outs.map (renV old nm), inits := g.inits.map (renT old nm) }

section
variable {old nm : ByteArray}

theorem ren1_inj {s t : ByteArray} (hs : s ≠ nm) (ht : t ≠ nm) (h : ren1 old nm s = ren1 old nm t) : s = t := by
  unfold ren1 at h
  by_cases a : s = old
  · rw [if_pos a] at h
    by_cases b : t = old
    · rw [a, b]
    · rw [if_neg b] at h; exact absurd h.symm ht
  · rw [if_neg a] at h
    by_cases b : t = old
    · rw [if_pos b] at h; exact absurd h hs
    · rw [if_neg b] at h; exact h
theorem ren1_empty (h0 : nm ≠ ⟨#[]⟩) (h1 : old ≠ ⟨#[]⟩) {s : ByteArray} : ren1 old nm s = ⟨#[]⟩ ↔ s = ⟨#[]⟩ := by
  unfold ren1
  by_cases a : s = old
  · rw [if_pos a]; exact ⟨fun c => absurd c h0, fun c => absurd (a.symm.trans c) h1⟩
  · rw [if_neg a]
theorem mem_ren {l : List ByteArray} (hl : nm ∉ l) {s : ByteArray} (hs : s ≠ nm) : ren1 old nm s ∈ l.map (ren1 old nm) ↔ s ∈ l := by
  constructor
  · intro h
    obtain ⟨t, ht, e⟩ := List.mem_map.1 h
    have := ren1_inj (fun c => hl (by rw [← c]; exact ht)) hs e
    exact this ▸ ht
  · exact fun h => List.mem_map.2 ⟨s, h, rfl⟩
theorem nodup_ren {l : List ByteArray} (hl : nm ∉ l) : (l.map (ren1 old nm)).Nodup ↔ l.Nodup := by
  induction l with
  | nil => simp
  | cons a t ih =>
    have ha : a ≠ nm := fun c => hl (by simp [c])
    have ht : nm ∉ t := fun c => hl (List.mem_cons_of_mem _ c)
    rw [List.map_cons, List.nodup_cons, List.nodup_cons, ih ht, mem_ren ht ha]

theorem insE_ren : ∀ l : List Vl, insE (l.map (renV old nm)) = insE l
  | [] => rfl
  | x :: t => by
    rw [List.map_cons]
    unfold insE
    rw [insE_ren t]
    rfl
theorem initsE_ren : ∀ l : List Nm, initsE (l.map (renT old nm)) = initsE l
  | [] => rfl
  | x :: t => by
    rw [List.map_cons]
    unfold initsE
    rw [initsE_ren t]
    rfl
theorem checkP_ren (h0 : nm ≠ ⟨#[]⟩) (h1 : old ≠ ⟨#[]⟩) (n : Nd) : checkP (renN old nm n) = checkP n := by
  have e1 : ((renN old nm n).out = ⟨#[]⟩) = (n.out = ⟨#[]⟩) := propext (ren1_empty h0 h1)
  have e2 : (hasS (renN old nm n).ins ⟨#[]⟩ = true) = (hasS n.ins ⟨#[]⟩ = true) := by
    rw [hasS_iff, hasS_iff]
    refine propext ⟨fun h => ?_, fun h => ?_⟩
    · obtain ⟨t, ht, e⟩ := List.mem_map.1 h
      exact (ren1_empty h0 h1).1 e ▸ ht
    · exact List.mem_map.2 ⟨_, h, (ren1_empty h0 h1).2 rfl⟩
  have e3 : (renN old nm n).ins.length = n.ins.length := by unfold renN; simp
  unfold checkP
  rw [e3]
  simp only [e1, e2]
  rfl
theorem nodesE_ren (h0 : nm ≠ ⟨#[]⟩) (h1 : old ≠ ⟨#[]⟩) : ∀ l : List Nd, nodesE (l.map (renN old nm)) = nodesE l
  | [] => rfl
  | n :: t => by
    rw [List.map_cons]
    unfold nodesE
    rw [nodesE_ren h0 h1 t, checkP_ren h0 h1]
theorem partsE_ren (h0 : nm ≠ ⟨#[]⟩) (h1 : old ≠ ⟨#[]⟩) (g : Gr) : partsE (ren old nm g) = partsE g := by
  unfold partsE ren
  simp only [insE_ren, initsE_ren, nodesE_ren h0 h1]
theorem great_ren (g : Gr) : tooGreat (ren old nm g) = tooGreat g := by
  unfold tooGreat ren
  simp only [List.length_map]
theorem names_ren (g : Gr) : namesG (ren old nm g) = (namesG g).map (ren1 old nm) := by
  unfold namesG ren
  simp only [List.map_append, List.map_map]
  rfl
theorem all_out {g : Gr} {v : Vl} (h : v ∈ g.outs) : v.name ∈ allN g := by
  unfold allN nmT nmO nmV
  simp only [List.nil_append, List.mem_append]
  exact Or.inl (Or.inl (Or.inr (List.mem_map.2 ⟨v, h, rfl⟩)))
theorem all_in {g : Gr} {n : Nd} (h : n ∈ g.nodes) {s : ByteArray} (hs : s ∈ n.ins) : s ∈ allN g := by
  unfold allN
  refine List.mem_append_right _ (List.mem_flatMap.2 ⟨n, h, ?_⟩)
  unfold nodeN
  exact List.mem_cons_of_mem _ hs
theorem names_allR {g : Gr} {s : ByteArray} (h : s ∈ namesG g) : s ∈ allN g := by
  unfold namesG at h
  unfold allN nmT nmO nmV
  rcases List.mem_append.1 h with h | h
  · rcases List.mem_append.1 h with h | h
    · simp only [List.nil_append, List.mem_append]
      exact Or.inl (Or.inl (Or.inl h))
    · simp only [List.nil_append, List.mem_append]
      exact Or.inl (Or.inr h)
  · obtain ⟨n, hn, e⟩ := List.mem_map.1 h
    refine List.mem_append_right _ (List.mem_flatMap.2 ⟨n, hn, ?_⟩)
    rw [← e]
    unfold nodeN
    simp

variable {g : Gr} (hA : nm ∉ allN g)
include hA

theorem hasS_ren {s : ByteArray} (hs : s ≠ nm) : hasS (namesG (ren old nm g)) (ren1 old nm s) = hasS (namesG g) s := by
  rw [Bool.eq_iff_iff, hasS_iff, hasS_iff, names_ren, mem_ren (fun c => hA (names_allR c)) hs]
theorem unlike_ren (h0 : nm ≠ ⟨#[]⟩) (h1 : old ≠ ⟨#[]⟩) : unlikeB (namesG (ren old nm g)) = unlikeB (namesG g) := by
  rw [names_ren]
  unfold unlikeB
  have e1 : decide ((namesG g).map (ren1 old nm)).Nodup = decide (namesG g).Nodup := by
    rw [Bool.eq_iff_iff, decide_eq_true_eq, decide_eq_true_eq, nodup_ren (fun c => hA (names_allR c))]
  rw [e1, List.all_map]
  congr 1
  refine congrArg (fun f => (namesG g).all f) (funext fun s => ?_)
  simp only [Function.comp]
  rw [Bool.eq_iff_iff, decide_eq_true_eq, decide_eq_true_eq]
  exact not_congr (ren1_empty h0 h1)
theorem named_ren : namedB (ren old nm g) = namedB g := by
  unfold namedB
  have e1 : ((ren old nm g).nodes.all fun n => n.ins.all fun s => hasS (namesG (ren old nm g)) s) = g.nodes.all fun n => n.ins.all fun s => hasS (namesG g) s := by
    show ((g.nodes.map (renN old nm)).all _) = _
    rw [List.all_map, Bool.eq_iff_iff, List.all_eq_true, List.all_eq_true]
    refine forall_congr' fun n => ?_
    refine ⟨fun h hn => ?_, fun h hn => ?_⟩
    · have h2 := h hn
      show (n.ins.all _) = true
      have h3 : ((n.ins.map (ren1 old nm)).all fun s => hasS (namesG (ren old nm g)) s) = true := h2
      rw [List.all_map, List.all_eq_true] at h3
      rw [List.all_eq_true]
      intro s hs
      have := h3 s hs
      simp only [Function.comp] at this
      rwa [hasS_ren hA (fun c => hA (c ▸ all_in hn hs))] at this
    · have h2 := h hn
      show ((n.ins.map (ren1 old nm)).all fun s => hasS (namesG (ren old nm g)) s) = true
      rw [List.all_map, List.all_eq_true]
      rw [List.all_eq_true] at h2
      intro s hs
      simp only [Function.comp]
      rw [hasS_ren hA (fun c => hA (c ▸ all_in hn hs))]
      exact h2 s hs
  have e2 : ((ren old nm g).outs.all fun v => hasS (namesG (ren old nm g)) v.name) = g.outs.all fun v => hasS (namesG g) v.name := by
    show ((g.outs.map (renV old nm)).all _) = _
    rw [List.all_map, Bool.eq_iff_iff, List.all_eq_true, List.all_eq_true]
    refine forall_congr' fun v => ?_
    refine ⟨fun h hn => ?_, fun h hn => ?_⟩
    · have h2 := h hn
      have h3 : hasS (namesG (ren old nm g)) (ren1 old nm v.name) = true := h2
      rwa [hasS_ren hA (fun c => hA (c ▸ all_out hn))] at h3
    · show hasS (namesG (ren old nm g)) (ren1 old nm v.name) = true
      rw [hasS_ren hA (fun c => hA (c ▸ all_out hn))]
      exact h hn
  have e3 : decide ((ren old nm g).outs ≠ []) = decide (g.outs ≠ []) := by
    rw [Bool.eq_iff_iff, decide_eq_true_eq, decide_eq_true_eq]
    show (g.outs.map (renV old nm)) ≠ [] ↔ _
    exact not_congr List.map_eq_nil_iff
  have e4 : decide ((ren old nm g).outs.map (·.name)).Nodup = decide (g.outs.map (·.name)).Nodup := by
    rw [Bool.eq_iff_iff, decide_eq_true_eq, decide_eq_true_eq]
    have e : (ren old nm g).outs.map (·.name) = (g.outs.map (·.name)).map (ren1 old nm) := by
      show (g.outs.map (renV old nm)).map _ = _
      rw [List.map_map, List.map_map]
      rfl
    rw [e, nodup_ren]
    intro c
    obtain ⟨v, hv, ev⟩ := List.mem_map.1 c
    exact hA (ev ▸ all_out hv)
  rw [e1, e2, e3, e4]
theorem maker_ren {s : ByteArray} (hs : s ≠ nm) : maker (ren old nm g) (ren1 old nm s) = maker g s := by
  unfold maker
  show ((g.nodes.map (renN old nm)).findIdx? _) = _
  rw [List.findIdx?_map]
  have hmem : ∀ n ∈ g.nodes, (decide ((renN old nm n).out = ren1 old nm s)) = decide (n.out = s) := fun n hn => by
    rw [Bool.eq_iff_iff, decide_eq_true_eq, decide_eq_true_eq]
    have hn2 : n.out ≠ nm := fun c => hA (c ▸ names_allR (by unfold namesG; exact List.mem_append_right _ (List.mem_map.2 ⟨n, hn, rfl⟩)))
    exact ⟨fun h => ren1_inj hn2 hs h, fun h => by show ren1 old nm n.out = _; rw [h]⟩
  revert hmem
  generalize g.nodes = l
  intro hmem
  induction l with
  | nil => rfl
  | cons a t ih =>
    rw [List.findIdx?_cons, List.findIdx?_cons]
    have h1 := hmem a (by simp)
    simp only [Function.comp] at h1 ⊢
    by_cases c : decide (a.out = s) = true
    · rw [if_pos c, if_pos (h1.trans c)]
    · rw [if_neg c, if_neg (fun d => c (h1.symm.trans d))]
      have := ih (fun n hn => hmem n (List.mem_cons_of_mem _ hn))
      simp only [Function.comp_def] at this ⊢
      rw [this]
theorem ready_ren (out : List Nat) (i : Nat) : readyB (ren old nm g) out i = readyB g out i := by
  have hn : (ren old nm g).nodes[i]? = (g.nodes[i]?).map (renN old nm) := by
    show (g.nodes.map (renN old nm))[i]? = _
    rw [List.getElem?_map]
  cases e : g.nodes[i]? with
  | none =>
    rw [e] at hn
    unfold readyB
    rw [hn, e]
    rfl
  | some n =>
    rw [e] at hn
    rw [ready_form (g := ren old nm g) hn, ready_form e]
    congr 1
    show ((n.ins.map (ren1 old nm)).all (readyS (ren old nm g) out)) = _
    rw [List.all_map, Bool.eq_iff_iff, List.all_eq_true, List.all_eq_true]
    refine forall_congr' fun s => ?_
    have hk : s ∈ n.ins → readyS (ren old nm g) out (ren1 old nm s) = readyS g out s := fun hs => by
      unfold readyS
      rw [maker_ren hA (fun c => hA (c ▸ all_in (List.mem_of_getElem? e) hs))]
    exact ⟨fun h hs => by rw [← hk hs]; exact h hs, fun h hs => by simp only [Function.comp]; rw [hk hs]; exact h hs⟩
theorem workF_ren : ∀ (f : Nat) (out : List Nat), workF (ren old nm g) f out = workF g f out
  | 0, out => rfl
  | f + 1, out => by
    have hn : nextW (ren old nm g) out = nextW g out := by
      unfold nextW
      rw [show readyB (ren old nm g) out = readyB g out from funext (ready_ren hA out)]
      show (List.range (g.nodes.map (renN old nm)).length).find? _ = _
      rw [List.length_map]
    unfold workF
    rw [hn]
    cases nextW g out with
    | none => rfl
    | some i => exact workF_ren f _
theorem work_ren : work (ren old nm g) = work g := by
  unfold work
  rw [workF_ren hA]
  show workF g (g.nodes.map (renN old nm)).length [] = _
  rw [List.length_map]
/-- THE LAW: renamed, a graph may be as it might, and is ordered the same. -/
theorem ren_plain (h0 : nm ≠ ⟨#[]⟩) (h1 : old ≠ ⟨#[]⟩) : orderE (ren old nm g) = orderE g ∧ orderL (ren old nm g) = orderL g := by
  have he : orderE (ren old nm g) = orderE g := by
    unfold orderE
    rw [great_ren, partsE_ren h0 h1, unlike_ren hA h0 h1, named_ren hA, work_ren hA]
    show (if _ then _ else if _ then _ else if _ then _ else if _ then _ else if (work g).length ≠ (g.nodes.map (renN old nm)).length then _ else _) = _
    rw [List.length_map]
  refine ⟨he, ?_⟩
  unfold orderL
  rw [he, work_ren hA]
end

end Go.Proofs.YtccjflhliicdlaaDoor

set_option linter.unusedVariables false
set_option linter.unusedSimpArgs false
namespace Go.Proofs.YtccjflhliicdlaaDoor
open Go.RowKit

/-! ### lists renamed up to a place -/

def mix {α : Type} (f : α → α) (l : List α) (k : Nat) : List α := (l.take k).map f ++ l.drop k
theorem mix_zero {α : Type} (f : α → α) (l : List α) : mix f l 0 = l := by simp [mix]
theorem mix_full {α : Type} (f : α → α) (l : List α) : mix f l l.length = l.map f := by simp [mix]
theorem mix_len {α : Type} (f : α → α) (l : List α) (k : Nat) : (mix f l k).length = l.length := by
  unfold mix
  rw [List.length_append, List.length_map, List.length_take, List.length_drop]
  omega
theorem mix_at {α : Type} {f : α → α} {l : List α} {k : Nat} {x : α} (h : l[k]? = some x) : (mix f l k)[k]? = some x := by
  have hk := (List.getElem?_eq_some_iff.1 h).1
  unfold mix
  rw [List.getElem?_append_right (by simp; omega)]
  simp only [List.length_map, List.length_take]
  rw [Nat.min_eq_left (by omega), Nat.sub_self, List.getElem?_drop, Nat.add_zero, h]
theorem mix_set {α : Type} {f : α → α} {l : List α} {k : Nat} {x : α} (h : l[k]? = some x) : (mix f l k).set k (f x) = mix f l (k + 1) := by
  have hk := (List.getElem?_eq_some_iff.1 h).1
  obtain ⟨_, e⟩ := List.getElem?_eq_some_iff.1 h
  unfold mix
  rw [List.set_append_right _ _ (by simp; omega)]
  simp only [List.length_map, List.length_take]
  rw [Nat.min_eq_left (by omega), Nat.sub_self, List.drop_eq_getElem_cons hk, List.set_cons_zero, List.take_add_one, h, List.map_append, List.append_assoc]
  rfl

/-! ### stores -/

theorem owns_set {w : World} {B : Nat} {e : TypeId} {sz g n cap j : Nat} {xs : List Value} (u : Value) (h : w.ownsRow B e sz (.slice (some ⟨g, 0, none⟩) n cap) n xs) (hj : j < n * sz) : (w.setCell ⟨g, j, none⟩ u).ownsRow B e sz (.slice (some ⟨g, 0, none⟩) n cap) n (xs.set j u) := by
  refine ⟨by rw [List.length_set]; exact h.1, ?_⟩
  rcases h.2 with ⟨c, _⟩ | ⟨g', cap', cur, e', hb, hg, hn, hc, hs, ht⟩
  · cases c
  · obtain ⟨e1, _, rfl⟩ := Value.slice.inj e'
    obtain rfl : g = g' := by simpa using e1
    refine .inr ⟨g, cap, cur.setIfInBounds j u, rfl, hb, ?_, hn, hc, by simpa using hs, ?_⟩
    · exact BoxN.set (show BoxN w g cur e from hg) j u
    · rw [Array.toList_setIfInBounds, List.take_set, ht]
theorem owns_boxN {w : World} {B : Nat} {e : TypeId} {sz g n cap : Nat} {xs : List Value} (h : w.ownsRow B e sz (.slice (some ⟨g, 0, none⟩) n cap) n xs) : ∃ cur, BoxN w g cur e := by
  rcases h.2 with ⟨c, _⟩ | ⟨g', cap', cur, e', hb, hg, hn, hc, hs, ht⟩
  · cases c
  · obtain ⟨e1, _, rfl⟩ := Value.slice.inj e'
    obtain rfl : g = g' := by simpa using e1
    exact ⟨cur, hg⟩

theorem rowG_set {α τ : Type} {C : α → τ → List Value} {sz : Nat} (hC : ∀ x s, (C x s).length = sz) : ∀ {l : List α} {ts : List τ} {k : Nat} {x x' : α} {s : τ} {i : Nat} {u : Value}, l[k]? = some x → ts[k]? = some s → i < sz → C x' s = (C x s).set i u → rowG C (l.set k x') ts = (rowG C l ts).set (k * sz + i) u
  | [], _, k, x, x', s, i, u, h, _, _, _ => by simp at h
  | _ :: _, [], k, x, x', s, i, u, _, h, _, _ => by simp at h
  | b :: l, c :: ts, 0, x, x', s, i, u, h1, h2, hi, h3 => by
    obtain rfl := Option.some.inj h1
    obtain rfl := Option.some.inj h2
    rw [List.set_cons_zero, rowG, rowG, Nat.zero_mul, Nat.zero_add, List.set_append_left _ _ (by rw [hC]; exact hi), h3]
  | b :: l, c :: ts, k + 1, x, x', s, i, u, h1, h2, hi, h3 => by
    rw [List.set_cons_succ, rowG, rowG, List.set_append_right _ _ (by rw [hC, Nat.succ_mul]; omega)]
    have e : (k + 1) * sz + i - (C b c).length = k * sz + i := by rw [hC, Nat.succ_mul]; omega
    rw [e, rowG_set hC (by simpa using h1) (by simpa using h2) hi h3]
/-- A store into a row of records. -/
theorem RowO.setAt {α τ : Type} {t : TypeId} {sz : Nat} {C : α → τ → List Value} {A : World → Nat → α → τ → Prop} {w : World} {B g n cap k i : Nat} {l : List α} {ss : List τ} {x x' : α} {s : τ} {u : Value} (hC : ∀ x s, (C x s).length = sz)
    (h : RowO t sz C A w B l (.slice (some ⟨g, 0, none⟩) n cap) ss) (hn : l.length = n) (hk : l[k]? = some x) (hs : ss[k]? = some s) (hi : i < sz) (hc : C x' s = (C x s).set i u)
    (hA : ∀ x s, A w B x s → A (w.setCell ⟨g, k * sz + i, none⟩ u) B x s) (hA' : A w B x s → A w B x' s) : RowO t sz C A (w.setCell ⟨g, k * sz + i, none⟩ u) B (l.set k x') (.slice (some ⟨g, 0, none⟩) n cap) ss where
  len := by rw [List.length_set]; exact h.len
  row := by
    have hr := h.row
    rw [hn] at hr
    rw [List.length_set, hn, rowG_set hC hk hs hi hc]
    refine owns_set u hr ?_
    have := (List.getElem?_eq_some_iff.1 hk).1
    rw [← hn]
    calc k * sz + i < k * sz + sz := by omega
      _ = (k + 1) * sz := by rw [Nat.succ_mul]
      _ ≤ l.length * sz := Nat.mul_le_mul_right _ (by omega)
  att := fun j y r h1 h2 => by
    by_cases e : k = j
    · subst e
      rw [List.getElem?_set_self (List.getElem?_eq_some_iff.1 hk).1] at h1
      obtain rfl := Option.some.inj h1
      obtain rfl := Option.some.inj (hs.symm.trans h2)
      exact hA _ _ (hA' (h.att k x _ hk hs))
    · rw [List.getElem?_set_ne e] at h1
      exact hA _ _ (h.att j y r h1 h2)

theorem setIns {w : World} {B : Nat} {gs : Gr} {vn vo vt : Value} {b n cap k : Nat} {x : Vl} (s : ByteArray) (h : GraphO w B gs vn (.slice (some ⟨b, 0, none⟩) n cap) vo vt) (hn : gs.ins.length = n) (hk : gs.ins[k]? = some x) :
    GraphO (w.setCell ⟨b, k * 3, none⟩ (.string s)) B { gs with ins := gs.ins.set k { x with name := s } } vn (.slice (some ⟨b, 0, none⟩) n cap) vo vt := by
  obtain ⟨ns, hns, hp⟩ := h.nodes
  obtain ⟨ds, hi⟩ := h.ins
  obtain ⟨es, ho⟩ := h.outs
  obtain ⟨ts, ht⟩ := h.inits
  obtain ⟨cur, hbx⟩ := owns_boxN (by have := hi.row; rwa [hn] at this)
  have K : KeepT [3, 2, 9, 76, 41, 51] B w (w.setCell ⟨b, k * 3, none⟩ (.string s)) := keep_set hbx (by decide)
  obtain ⟨d, hd⟩ : ∃ d, ds[k]? = some d := ⟨_, List.getElem?_eq_getElem (by rw [hi.len]; exact (List.getElem?_eq_some_iff.1 hk).1)⟩
  refine ⟨⟨ns, nodes_keep hns K (by decide) (by decide) (by decide) (by decide) (by decide), hp⟩, ⟨ds, ?_⟩, ⟨es, ho.len, owns_heap ho.row fun y hy => Below.heap_setCell _ _ _ _ (fun e => h.io b rfl (by rw [← show y = b from e]; exact hy)), fun j y r h1 h2 => dims_keep K (by decide) y r (ho.att j y r h1 h2)⟩, ⟨ts, nameds_keep ht K (by decide) (by decide) (by decide)⟩, h.io⟩
  exact RowO.setAt (i := 0) (fun _ _ => rfl) hi hn hk hd (by decide) rfl (dims_keep K (by decide)) id
theorem setOuts {w : World} {B : Nat} {gs : Gr} {vn vi vt : Value} {b n cap k : Nat} {x : Vl} (s : ByteArray) (h : GraphO w B gs vn vi (.slice (some ⟨b, 0, none⟩) n cap) vt) (hn : gs.outs.length = n) (hk : gs.outs[k]? = some x) :
    GraphO (w.setCell ⟨b, k * 3, none⟩ (.string s)) B { gs with outs := gs.outs.set k { x with name := s } } vn vi (.slice (some ⟨b, 0, none⟩) n cap) vt := by
  obtain ⟨ns, hns, hp⟩ := h.nodes
  obtain ⟨ds, hi⟩ := h.ins
  obtain ⟨es, ho⟩ := h.outs
  obtain ⟨ts, ht⟩ := h.inits
  obtain ⟨cur, hbx⟩ := owns_boxN (by have := ho.row; rwa [hn] at this)
  have K : KeepT [3, 2, 9, 76, 41, 51] B w (w.setCell ⟨b, k * 3, none⟩ (.string s)) := keep_set hbx (by decide)
  obtain ⟨d, hd⟩ : ∃ d, es[k]? = some d := ⟨_, List.getElem?_eq_getElem (by rw [ho.len]; exact (List.getElem?_eq_some_iff.1 hk).1)⟩
  refine ⟨⟨ns, nodes_keep hns K (by decide) (by decide) (by decide) (by decide) (by decide), hp⟩, ⟨ds, hi.len, owns_heap hi.row fun y hy => Below.heap_setCell _ _ _ _ (fun e => h.io y hy (by rw [show y = b from e]; rfl)), fun j y r h1 h2 => dims_keep K (by decide) y r (hi.att j y r h1 h2)⟩, ⟨es, ?_⟩, ⟨ts, nameds_keep ht K (by decide) (by decide) (by decide)⟩, h.io⟩
  exact RowO.setAt (i := 0) (fun _ _ => rfl) ho hn hk hd (by decide) rfl (dims_keep K (by decide)) id
theorem setInits {w : World} {B : Nat} {gs : Gr} {vn vi vo : Value} {b n cap k : Nat} {x : Nm} (s : ByteArray) (h : GraphO w B gs vn vi vo (.slice (some ⟨b, 0, none⟩) n cap)) (hn : gs.inits.length = n) (hk : gs.inits[k]? = some x) :
    GraphO (w.setCell ⟨b, k * 4, none⟩ (.string s)) B { gs with inits := gs.inits.set k { x with name := s } } vn vi vo (.slice (some ⟨b, 0, none⟩) n cap) := by
  obtain ⟨ns, hns, hp⟩ := h.nodes
  obtain ⟨ts, ht⟩ := h.inits
  obtain ⟨cur, hbx⟩ := owns_boxN (by have := ht.row; rwa [hn] at this)
  have K : KeepT [3, 2, 9, 76, 41, 46] B w (w.setCell ⟨b, k * 4, none⟩ (.string s)) := keep_set hbx (by decide)
  obtain ⟨d, hd⟩ : ∃ d, ts[k]? = some d := ⟨_, List.getElem?_eq_getElem (by rw [ht.len]; exact (List.getElem?_eq_some_iff.1 hk).1)⟩
  refine ⟨⟨ns, nodes_keep hns K (by decide) (by decide) (by decide) (by decide) (by decide), hp⟩, vals_keep h.ins K (by decide) (by decide), vals_keep h.outs K (by decide) (by decide), ⟨ts, ?_⟩, h.io⟩
  exact RowO.setAt (i := 0) (fun _ _ => rfl) ht hn hk hd (by decide) rfl (named_keep K (by decide) (by decide)) id
theorem setNodeOut {w : World} {B : Nat} {gs : Gr} {vi vo vt : Value} {b n cap k : Nat} {x : Nd} (s : ByteArray) (h : GraphO w B gs (.slice (some ⟨b, 0, none⟩) n cap) vi vo vt) (hn : gs.nodes.length = n) (hk : gs.nodes[k]? = some x) :
    GraphO (w.setCell ⟨b, k * 5 + 3, none⟩ (.string s)) B { gs with nodes := gs.nodes.set k { x with out := s } } (.slice (some ⟨b, 0, none⟩) n cap) vi vo vt := by
  obtain ⟨ns, hns, hp⟩ := h.nodes
  obtain ⟨ts, ht⟩ := h.inits
  obtain ⟨cur, hbx⟩ := owns_boxN (by have := hns.row; rwa [hn] at this)
  have K : KeepT [3, 2, 9, 76, 51, 46] B w (w.setCell ⟨b, k * 5 + 3, none⟩ (.string s)) := keep_set hbx (by decide)
  obtain ⟨d, hd⟩ : ∃ d, ns[k]? = some d := ⟨_, List.getElem?_eq_getElem (by rw [hns.len]; exact (List.getElem?_eq_some_iff.1 hk).1)⟩
  refine ⟨⟨ns, ?_, hp⟩, vals_keep h.ins K (by decide) (by decide), vals_keep h.outs K (by decide) (by decide), ⟨ts, nameds_keep ht K (by decide) (by decide) (by decide)⟩, h.io⟩
  exact RowO.setAt (i := 3) (fun _ _ => rfl) hns hn hk hd (by decide) rfl (node_keep K (by decide) (by decide) (by decide) (by decide)) (fun ⟨us, q⟩ => ⟨us, q.ins, q.len, q.row, q.att⟩)
/-- A store into the list of what a node reads. -/
theorem setNodeIn {w : World} {B : Nat} {gs : Gr} {vn vi vo vt : Value} {ns : List (Value × Value)} {va : Value} {b m cap k j : Nat} {x : Nd} {s0 : ByteArray} (s : ByteArray) (h : GraphO w B gs vn vi vo vt) (hns : NodesO w B gs.nodes vn ns) (hp : ∀ (i j : Nat) s u, i < j → ns[i]? = some s → ns[j]? = some u → ApartV s.1 u.1)
    (hk : gs.nodes[k]? = some x) (hd : ns[k]? = some (.slice (some ⟨b, 0, none⟩) m cap, va)) (hm : x.ins.length = m) (hj : x.ins[j]? = some s0) :
    GraphO (w.setCell ⟨b, j, none⟩ (.string s)) B { gs with nodes := gs.nodes.set k { x with ins := x.ins.set j s } } vn vi vo vt := by
  obtain ⟨us, q⟩ := hns.att k x _ hk hd
  have hr := q.ins
  simp only at hr
  rw [hm] at hr
  obtain ⟨cur, hbx⟩ := owns_boxN hr
  obtain ⟨ts, ht⟩ := h.inits
  have K : KeepT [3, 2, 41, 76, 51, 46] B w (w.setCell ⟨b, j, none⟩ (.string s)) := keep_set hbx (by decide)
  have hjl := (List.getElem?_eq_some_iff.1 hj).1
  have hnew := owns_set (.string s) hr (j := j) (by omega)
  refine ⟨⟨ns, ⟨by rw [List.length_set]; exact hns.len, ?_, ?_⟩, hp⟩, vals_keep h.ins K (by decide) (by decide), vals_keep h.outs K (by decide) (by decide), ⟨ts, nameds_keep ht K (by decide) (by decide) (by decide)⟩, h.io⟩
  · have h1 := owns_keep hns.row K (Nat.le_refl _) (by decide)
    have e : rowG nodeC (gs.nodes.set k { x with ins := x.ins.set j s }) ns = rowG nodeC gs.nodes ns := by
      have := rowG_set (C := nodeC) (sz := 5) (fun _ _ => rfl) (x' := { x with ins := x.ins.set j s }) (i := 0) (u := .string x.op) hk hd (by decide) rfl
      rw [this]
      have h2 := rowG_get (C := nodeC) (sz := 5) (fun _ _ => rfl) hk hd (i := 0) (u := .string x.op) rfl
      refine List.ext_getElem? fun i => ?_
      by_cases hi : k * 5 + 0 = i
      · subst hi
        rw [List.getElem?_set_self (List.getElem?_eq_some_iff.1 h2).1, h2]
      · rw [List.getElem?_set_ne hi]
    rw [List.length_set, e]
    exact h1
  · intro i y r h1 h2
    by_cases e : k = i
    · subst e
      rw [List.getElem?_set_self (List.getElem?_eq_some_iff.1 hk).1] at h1
      obtain rfl := Option.some.inj h1
      obtain rfl := Option.some.inj (hd.symm.trans h2)
      refine ⟨us, ?_, q.len, owns_keep q.row K (Nat.le_refl _) (by decide), fun a c d e1 e2 => ⟨owns_keep (q.att a c d e1 e2).od K (Nat.le_refl _) (by decide), owns_keep (q.att a c d e1 e2).ox K (Nat.le_refl _) (by decide), owns_keep (q.att a c d e1 e2).oi K (Nat.le_refl _) (by decide)⟩⟩
      show (w.setCell ⟨b, j, none⟩ (.string s)).ownsRow B 9 1 (.slice (some ⟨b, 0, none⟩) m cap) (x.ins.set j s).length ((x.ins.set j s).map Value.string)
      rw [List.length_set, hm, List.map_set]
      exact hnew
    · rw [List.getElem?_set_ne e] at h1
      obtain ⟨vs, q2⟩ := hns.att i y r h1 h2
      have hne : ∀ z, r.1.ownBlock = some z → z ≠ b := fun z hz c => by
        subst c
        rcases Nat.lt_or_ge i k with hlt | hge
        · exact hp i k r _ hlt h2 hd z hz rfl
        · exact hp k i _ r (by omega) hd h2 z rfl hz
      exact ⟨vs, owns_heap q2.ins fun z hz => Below.heap_setCell _ _ _ _ (hne z hz), q2.len, owns_keep q2.row K (Nat.le_refl _) (by decide), fun a c d e1 e2 => ⟨owns_keep (q2.att a c d e1 e2).od K (Nat.le_refl _) (by decide), owns_keep (q2.att a c d e1 e2).ox K (Nat.le_refl _) (by decide), owns_keep (q2.att a c d e1 e2).oi K (Nat.le_refl _) (by decide)⟩⟩

end Go.Proofs.YtccjflhliicdlaaDoor
