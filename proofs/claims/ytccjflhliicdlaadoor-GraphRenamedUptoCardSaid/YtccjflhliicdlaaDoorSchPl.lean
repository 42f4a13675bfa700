/- Plain laws of schema.Check's answer: names, the attributes' order, an attribute twice. -/
import Derived.Test.YtccjflhliicdlaaDoorSchQ
set_option linter.unusedVariables false
namespace Go.Proofs.YtccjflhliicdlaaDoor
open Go.RowKit

/-- The value of Constant. -/
def valueE (n : Nd) : Int :=
  match findA n.attrs ⟨#[118, 97, 108, 117, 101]⟩ 4 with
  | none => 0
  | some a => if n.op = ⟨#[67, 111, 110, 115, 116, 97, 110, 116]⟩ then pbE a.typ a.dims a.data else 0

theorem checkP_split {n : Nd} (h1 : (rulP n.op).2 = true) (h2 : ¬ (n.ins.length : Int) < (rulP n.op).1.least) (h3 : ¬ (rulP n.op).1.most < (n.ins.length : Int)) (h4 : ¬ n.out = ⟨#[]⟩) (h5 : ¬ hasS n.ins ⟨#[]⟩ = true) :
    checkP n = if attrsE n.attrs (wordsL (ruleB (rulP n.op).1)) ≠ 0 then attrsE n.attrs (wordsL (ruleB (rulP n.op).1)) else if (thenE n.attrs).2 ≠ 0 then (thenE n.attrs).2 else valueE n := by
  unfold checkP
  rw [if_neg (by rw [h1]; decide), if_neg h2, if_neg h3, if_neg h4, if_neg h5]
  rfl

structure Zero (n : Nd) : Prop where
  ok : (rulP n.op).2 = true
  least : ¬ (n.ins.length : Int) < (rulP n.op).1.least
  most : ¬ (rulP n.op).1.most < (n.ins.length : Int)
  out : ¬ n.out = ⟨#[]⟩
  ins : ¬ hasS n.ins ⟨#[]⟩ = true
  att : attrsE n.attrs (wordsL (ruleB (rulP n.op).1)) = 0
  thn : (thenE n.attrs).2 = 0
  val : valueE n = 0

theorem Zero.check {n : Nd} (h : Zero n) : checkP n = 0 := by
  rw [checkP_split h.ok h.least h.most h.out h.ins, if_neg (by simp [h.att]), if_neg (by simp [h.thn])]
  exact h.val

theorem zero_of {n : Nd} (h : checkP n = 0) : Zero n := by
  by_cases h1 : (rulP n.op).2 = false
  · rw [checkP_none h1] at h; cases h
  have h1' : (rulP n.op).2 = true := by simpa using h1
  by_cases h2 : (n.ins.length : Int) < (rulP n.op).1.least
  · rw [checkP_least h1' h2] at h; cases h
  by_cases h3 : (rulP n.op).1.most < (n.ins.length : Int)
  · rw [checkP_most h1' h2 h3] at h; cases h
  by_cases h4 : n.out = ⟨#[]⟩
  · rw [checkP_out h1' h2 h3 h4] at h; cases h
  by_cases h5 : hasS n.ins ⟨#[]⟩ = true
  · rw [checkP_ins ⟨h1', h2, h3, h4⟩ h5] at h; cases h
  rw [checkP_split h1' h2 h3 h4 h5] at h
  by_cases h6 : attrsE n.attrs (wordsL (ruleB (rulP n.op).1)) = 0
  · rw [if_neg (by simp [h6])] at h
    by_cases h7 : (thenE n.attrs).2 = 0
    · rw [if_neg (by simp [h7])] at h
      exact ⟨h1', h2, h3, h4, h5, h6, h7, h⟩
    · rw [if_pos h7] at h; exact absurd h h7
  · rw [if_pos h6] at h; exact absurd h h6

/-! ### attributes -/

def okA (ws : List ByteArray) (a : At) : Prop := ∃ s, ws.find? (hasW a.name) = some s ∧ kindL (letter s (a.name.size + 1)) = a.kind ∧ ¬ (a.kind = 1 ∧ chk 1 a.f = false)

theorem attE_zero {ws : List ByteArray} {A : List At} {i : Nat} {a : At} : attE ws A i a = 0 ↔ okA ws a ∧ (A.take i).any (fun b => decide (b.name = a.name)) = false := by
  constructor
  · intro h
    cases hf : ws.find? (hasW a.name) with
    | none => rw [attE_none hf] at h; cases h
    | some s =>
      by_cases hk : kindL (letter s (a.name.size + 1)) = a.kind
      · by_cases ht : (A.take i).any (fun b => decide (b.name = a.name)) = true
        · rw [attE_twice hf hk ht] at h; cases h
        · have ht' := eq_false_of_ne_true ht
          by_cases hx : a.kind = 1 ∧ chk 1 a.f = false
          · rw [attE_float hf hk ht' hx] at h; cases h
          · exact ⟨⟨s, hf, hk, hx⟩, ht'⟩
      · rw [attE_kind hf hk] at h; cases h
  · rintro ⟨⟨s, hf, hk, hx⟩, ht⟩
    exact attE_good hf hk ht hx

theorem loopA_zero {ws : List ByteArray} {A : List At} : ∀ (l : List At) (k : Nat), loopA ws A k l = 0 ↔ ∀ j a, l[j]? = some a → attE ws A (k + j) a = 0
  | [], k => by simp [loopA]
  | b :: l, k => by
    unfold loopA
    constructor
    · intro h j a hj
      by_cases h0 : attE ws A k b = 0
      · rw [if_pos h0] at h
        cases j with
        | zero =>
          obtain rfl := Option.some.inj hj
          exact h0
        | succ j =>
          have := (loopA_zero l (k + 1)).1 h j a hj
          rwa [show k + 1 + j = k + (j + 1) by omega] at this
      · rw [if_neg h0] at h; exact absurd h h0
    · intro h
      rw [if_pos (show attE ws A k b = 0 from h 0 b rfl)]
      refine (loopA_zero l (k + 1)).2 fun j a hj => ?_
      have := h (j + 1) a hj
      rwa [show k + 1 + j = k + (j + 1) by omega]

theorem loopA_skip {ws : List ByteArray} {A : List At} : ∀ (l r : List At) (k : Nat), (∀ j a, l[j]? = some a → attE ws A (k + j) a = 0) → loopA ws A k (l ++ r) = loopA ws A (k + l.length) r
  | [], r, k, _ => rfl
  | b :: l, r, k, h => by
    show loopA ws A k (b :: (l ++ r)) = _
    rw [loopA, if_pos (show attE ws A k b = 0 from h 0 b rfl), loopA_skip l r (k + 1) fun j a hj => by
      have := h (j + 1) a hj
      rwa [show k + 1 + j = k + (j + 1) by omega]]
    rw [List.length_cons, show k + 1 + l.length = k + (l.length + 1) by omega]

theorem nodup_names {A : List At} : (A.map (·.name)).Nodup ↔ ∀ (i j : Nat) (a b : At), i < j → A[i]? = some a → A[j]? = some b → a.name ≠ b.name := by
  unfold List.Nodup
  rw [List.pairwise_iff_getElem]
  constructor
  · intro h i j a b hij hi hj
    obtain ⟨hi', rfl⟩ := List.getElem?_eq_some_iff.1 hi
    obtain ⟨hj', rfl⟩ := List.getElem?_eq_some_iff.1 hj
    have := h i j (by simpa using hi') (by simpa using hj') hij
    simpa using this
  · intro h i j hi hj hij
    rw [List.length_map] at hi hj
    have := h i j _ _ hij (List.getElem?_eq_getElem hi) (List.getElem?_eq_getElem hj)
    simpa using this

/-- The attributes may be. -/
theorem loopA_good {ws : List ByteArray} {A : List At} : loopA ws A 0 A = 0 ↔ (∀ a ∈ A, okA ws a) ∧ (A.map (·.name)).Nodup := by
  rw [loopA_zero]
  constructor
  · intro h
    have h' : ∀ (j : Nat) a, A[j]? = some a → okA ws a ∧ (A.take j).any (fun b => decide (b.name = a.name)) = false := fun j a hj => by
      have := h j a hj
      rw [Nat.zero_add] at this
      exact attE_zero.1 this
    refine ⟨fun a ha => ?_, ?_⟩
    · obtain ⟨j, hj⟩ := List.getElem?_of_mem ha
      exact (h' j a hj).1
    · rw [nodup_names]
      intro i j a b hij hi hj e
      obtain ⟨hi', rfl⟩ := List.getElem?_eq_some_iff.1 hi
      have hjl := (List.getElem?_eq_some_iff.1 hj).1
      have := List.any_eq_false.1 (h' j _ hj).2 (A[i]) (by rw [List.mem_take_iff_getElem]; exact ⟨i, by omega, rfl⟩)
      exact this (by simp [e])
  · rintro ⟨h1, h2⟩ j a hj
    rw [Nat.zero_add]
    refine attE_zero.2 ⟨h1 a (List.mem_of_getElem? hj), List.any_eq_false.2 fun b hb => ?_⟩
    rw [List.mem_take_iff_getElem] at hb
    obtain ⟨i, hi, rfl⟩ := hb
    have hjl := (List.getElem?_eq_some_iff.1 hj).1
    have hil : i < A.length := by omega
    have := nodup_names.1 h2 i j _ a (by omega) (List.getElem?_eq_getElem hil) hj
    simpa using this

theorem attrsE_zero {A : List At} {ws : List ByteArray} : attrsE A ws = 0 ↔ loopA ws A 0 A = 0 ∧ loopW A ws = 0 := by
  unfold attrsE
  split
  · rename_i h; exact ⟨fun g => ⟨h, g⟩, fun g => g.2⟩
  · rename_i h; exact ⟨fun g => absurd g h, fun g => absurd g.1 h⟩

/-- An attribute once more. -/
theorem twice_plain {n : Nd} (h : checkP n = 0) {a : At} (ha : a ∈ n.attrs) : checkP { n with attrs := n.attrs ++ [a] } = 4 := by
  have z := zero_of h
  have hA := (attrsE_zero.1 z.att).1
  have hz := (loopA_zero n.attrs 0).1 hA
  have e : attrsE (n.attrs ++ [a]) (wordsL (ruleB (rulP n.op).1)) = 4 := by
    have e1 : loopA (wordsL (ruleB (rulP n.op).1)) (n.attrs ++ [a]) 0 (n.attrs ++ [a]) = 4 := by
      rw [loopA_skip n.attrs [a] 0 fun j b hj => ?_]
      · obtain ⟨j, hj⟩ := List.getElem?_of_mem ha
        have h0 := hz j a hj
        obtain ⟨⟨s, hf, hk, hx⟩, _⟩ := attE_zero.1 h0
        have e2 : attE (wordsL (ruleB (rulP n.op).1)) (n.attrs ++ [a]) (0 + n.attrs.length) a = 4 := by
          refine attE_twice hf hk ?_
          rw [Nat.zero_add, List.take_left]
          exact List.any_eq_true.2 ⟨a, ha, by simp⟩
        unfold loopA
        rw [if_neg (by rw [e2]; decide), e2]
      · have h0 := hz j b hj
        obtain ⟨h1, h2⟩ := attE_zero.1 h0
        refine attE_zero.2 ⟨h1, ?_⟩
        have hjl := (List.getElem?_eq_some_iff.1 hj).1
        rw [List.take_append_of_le_length (by omega)]
        exact h2
    unfold attrsE
    rw [if_neg (by rw [e1]; decide), e1]
  rw [checkP_split (n := { n with attrs := n.attrs ++ [a] }) z.ok z.least z.most z.out z.ins]
  show (if attrsE (n.attrs ++ [a]) (wordsL (ruleB (rulP n.op).1)) ≠ 0 then _ else _) = _
  rw [e]
  rfl

theorem find_perm {A B : List At} (hp : A.Perm B) (hn : (A.map (·.name)).Nodup) (nm : ByteArray) (kd : Int) : findA A nm kd = findA B nm kd := by
  unfold findA
  have hname : ∀ a, isA nm kd a = true → a.name = nm := fun a h => by
    unfold isA at h
    simp only [Bool.and_eq_true, decide_eq_true_eq] at h
    exact h.1
  cases h : A.find? (isA nm kd) with
  | none =>
    symm
    rw [List.find?_eq_none] at h ⊢
    exact fun x hx => h x (hp.mem_iff.2 hx)
  | some a =>
    cases h2 : B.find? (isA nm kd) with
    | none =>
      rw [List.find?_eq_none] at h2
      exact absurd (List.find?_some h) (h2 a (hp.mem_iff.1 (List.mem_of_find?_eq_some h)))
    | some b =>
      have e1 := hname a (List.find?_some h)
      have e2 := hname b (List.find?_some h2)
      have ma := List.mem_of_find?_eq_some h
      have mb := hp.mem_iff.2 (List.mem_of_find?_eq_some h2)
      obtain ⟨i, hi⟩ := List.getElem?_of_mem ma
      obtain ⟨j, hj⟩ := List.getElem?_of_mem mb
      rw [nodup_names] at hn
      rcases Nat.lt_trichotomy i j with hlt | rfl | hlt
      · exact absurd (by rw [e1, e2]) (hn i j a b hlt hi hj)
      · rw [hi] at hj; exact hj
      · exact absurd (by rw [e1, e2]) (hn j i b a hlt hj hi)

/-- The attributes in another order. -/
theorem turned_plain {n : Nd} (h : checkP n = 0) {B : List At} (hp : n.attrs.Perm B) : checkP { n with attrs := B } = 0 := by
  have z := zero_of h
  obtain ⟨hA, hW⟩ := attrsE_zero.1 z.att
  obtain ⟨h1, h2⟩ := loopA_good.1 hA
  have hf := find_perm hp h2
  refine Zero.check (n := { n with attrs := B }) ⟨z.ok, z.least, z.most, z.out, z.ins, ?_, ?_, ?_⟩
  · refine attrsE_zero.2 ⟨loopA_good.2 ⟨fun a ha => h1 a (hp.mem_iff.2 ha), (hp.map _).nodup_iff.1 h2⟩, ?_⟩
    have e : ∀ ws, loopW B ws = loopW n.attrs ws := fun ws => by
      induction ws with
      | nil => rfl
      | cons s t ih =>
        have e1 : wordE B s = wordE n.attrs s := by unfold wordE; rw [hf]
        unfold loopW
        rw [e1, ih]
    exact (e _).trans hW
  · have e : thenE B = thenE n.attrs := by unfold thenE; rw [hf]
    show (thenE B).2 = 0
    rw [e]; exact z.thn
  · have := z.val
    unfold valueE at this ⊢
    rw [hf] at this
    exact this

/-- Other names. -/
theorem names_plain {n m : Nd} (ho : m.op = n.op) (ha : m.attrs = n.attrs) (hl : m.ins.length = n.ins.length) (h1 : ¬ n.out = ⟨#[]⟩) (h2 : ¬ m.out = ⟨#[]⟩) (h3 : ∀ s ∈ n.ins, ¬ s = ⟨#[]⟩) (h4 : ∀ s ∈ m.ins, ¬ s = ⟨#[]⟩) : checkP m = checkP n := by
  have g3 : ¬ hasS n.ins ⟨#[]⟩ = true := fun h => h3 _ (hasS_iff.1 h) rfl
  have g4 : ¬ hasS m.ins ⟨#[]⟩ = true := fun h => h4 _ (hasS_iff.1 h) rfl
  by_cases a1 : (rulP n.op).2 = false
  · rw [checkP_none a1, checkP_none (by rw [ho]; exact a1)]
  have a1' : (rulP n.op).2 = true := by simpa using a1
  by_cases a2 : (n.ins.length : Int) < (rulP n.op).1.least
  · rw [checkP_least a1' a2, checkP_least (by rw [ho]; exact a1') (by rw [ho, hl]; exact a2)]
  by_cases a3 : (rulP n.op).1.most < (n.ins.length : Int)
  · rw [checkP_most a1' a2 a3, checkP_most (by rw [ho]; exact a1') (by rw [ho, hl]; exact a2) (by rw [ho, hl]; exact a3)]
  rw [checkP_split a1' a2 a3 h1 g3, checkP_split (by rw [ho]; exact a1') (by rw [ho, hl]; exact a2) (by rw [ho, hl]; exact a3) h2 g4]
  unfold valueE
  rw [ho, ha]

end Go.Proofs.YtccjflhliicdlaaDoor
