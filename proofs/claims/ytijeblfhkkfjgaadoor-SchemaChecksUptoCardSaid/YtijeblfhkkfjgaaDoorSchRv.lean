/- The reference's answer is the schema's: plain facts. -/
import Derived.Test.YtijeblfhkkfjgaaDoorSchRb
import Derived.Test.YtijeblfhkkfjgaaDoorSchPl
set_option linter.unusedVariables false
set_option linter.unusedSimpArgs false
namespace Go.Proofs.YtijeblfhkkfjgaaDoor
open Go.RowKit

/-- Does a word say what a form says? -/
def checkW (s : ByteArray) (f : Fm) : Bool :=
  decide (wordN s = f.name) && decide (Lib.hasSuffix (wordK s).data.toList [42] = f.must) && decide (kindL (letter (wordK s ++ (⟨#[32]⟩ : ByteArray)) 0) = f.kind) && decide (kindL (letter s (f.name.size + 1)) = f.kind)
    && decide (s.data.toList = f.name.data.toList ++ 32 :: s.data.toList.drop (f.name.data.toList.length + 1)) && f.name.data.toList.all (fun x => decide (x ≠ 32)) && (s.data.toList.drop (f.name.data.toList.length + 1)).all (fun x => decide (x ≠ 32))

structure Word (s : ByteArray) (f : Fm) : Prop where
  n : wordN s = f.name
  m : Lib.hasSuffix (wordK s).data.toList [42] = f.must
  k : kindL (letter (wordK s ++ (⟨#[32]⟩ : ByteArray)) 0) = f.kind
  l : kindL (letter s (f.name.size + 1)) = f.kind
  t : s.data.toList = f.name.data.toList ++ 32 :: s.data.toList.drop (f.name.data.toList.length + 1)
  a : ∀ x ∈ f.name.data.toList, x ≠ 32
  b : ∀ x ∈ s.data.toList.drop (f.name.data.toList.length + 1), x ≠ 32

theorem word_of {s : ByteArray} {f : Fm} (h : checkW s f = true) : Word s f := by
  unfold checkW at h
  simp only [Bool.and_eq_true, decide_eq_true_eq, List.all_eq_true] at h
  obtain ⟨⟨⟨⟨⟨⟨h1, h2⟩, h3⟩, h4⟩, h5⟩, h6⟩, h7⟩ := h
  exact ⟨h1, h2, h3, h4, h5, h6, h7⟩

theorem prefix_space : ∀ (nm n r : List UInt8), (∀ x ∈ n, x ≠ 32) → (∀ x ∈ r, x ≠ 32) → (nm ++ [32]) <+: (n ++ 32 :: r) → nm = n
  | [], [], _, _, _, _ => rfl
  | [], x :: n, r, hn, _, h => by
    obtain ⟨t, ht⟩ := h
    simp only [List.nil_append, List.cons_append, List.cons.injEq] at ht
    exact absurd ht.1.symm (hn x (by simp))
  | y :: nm, [], r, _, hr, h => by
    obtain ⟨t, ht⟩ := h
    simp only [List.cons_append, List.nil_append, List.cons.injEq] at ht
    have : (32 : UInt8) ∈ r := by rw [← ht.2]; simp
    exact absurd rfl (hr 32 this)
  | y :: nm, x :: n, r, hn, hr, h => by
    obtain ⟨t, ht⟩ := h
    simp only [List.cons_append, List.cons.injEq] at ht
    rw [prefix_space nm n r (fun z hz => hn z (by simp [hz])) hr ⟨t, by simpa using ht.2⟩, ht.1]

theorem Word.has {s : ByteArray} {f : Fm} (h : Word s f) (nm : ByteArray) : hasW nm s = decide (f.name = nm) := by
  unfold hasW Lib.hasPrefix
  by_cases e : f.name = nm
  · rw [decide_eq_true e, List.isPrefixOf_iff_prefix]
    refine ⟨s.data.toList.drop (f.name.data.toList.length + 1), ?_⟩
    conv => rhs; rw [h.t]
    rw [← e]; simp
  · rw [decide_eq_false e]
    cases hp : (nm.data.toList ++ [32]).isPrefixOf s.data.toList with
    | false => rfl
    | true =>
      exfalso
      have h2 := List.isPrefixOf_iff_prefix.1 hp
      rw [h.t] at h2
      exact e (data_inj (prefix_space _ _ _ h.a h.b h2)).symm

theorem has_empty (nm : ByteArray) : hasW nm ⟨#[]⟩ = false := by
  unfold hasW Lib.hasPrefix
  cases hp : (nm.data.toList ++ [32]).isPrefixOf (⟨#[]⟩ : ByteArray).data.toList with
  | false => rfl
  | true =>
    obtain ⟨t, ht⟩ := List.isPrefixOf_iff_prefix.1 hp
    have := congrArg List.length ht
    simp at this

theorem wordE_empty (A : List At) : wordE A ⟨#[]⟩ = 0 := by
  unfold wordE
  rw [if_neg]
  intro c
  have : Lib.hasSuffix (wordK ⟨#[]⟩).data.toList [42] = false := by decide +kernel
  rw [this] at c
  exact absurd c.1 (by decide)

theorem Word.err {s : ByteArray} {f : Fm} (h : Word s f) (A : List At) : wordE A s = rformE A f := by
  unfold wordE rformE
  rw [h.n, h.m, h.k]

/-- Words against forms. -/
def corr : List ByteArray → List Fm → Bool
  | [], [] => true
  | [], _ :: _ => false
  | s :: ws, [] => decide (s = ⟨#[]⟩) && corr ws []
  | s :: ws, f :: t => (decide (s = ⟨#[]⟩) && corr ws (f :: t)) || (checkW s f && corr ws t)

inductive Corr : List ByteArray → List Fm → Prop
  | nil : Corr [] []
  | skip {ws : List ByteArray} {fs : List Fm} (h : Corr ws fs) : Corr (⟨#[]⟩ :: ws) fs
  | word {s : ByteArray} {f : Fm} {ws : List ByteArray} {fs : List Fm} (w : Word s f) (h : Corr ws fs) : Corr (s :: ws) (f :: fs)

theorem corr_of : ∀ {ws : List ByteArray} {fs : List Fm}, corr ws fs = true → Corr ws fs
  | [], [], _ => .nil
  | [], _ :: _, h => by cases h
  | s :: ws, [], h => by
    unfold corr at h
    rw [Bool.and_eq_true, decide_eq_true_eq] at h
    obtain ⟨rfl, h⟩ := h
    exact .skip (corr_of h)
  | s :: ws, f :: t, h => by
    unfold corr at h
    rw [Bool.or_eq_true, Bool.and_eq_true, Bool.and_eq_true, decide_eq_true_eq] at h
    rcases h with ⟨rfl, h⟩ | ⟨h1, h2⟩
    · exact .skip (corr_of h)
    · exact .word (word_of h1) (corr_of h2)

theorem Corr.find {ws : List ByteArray} {fs : List Fm} (h : Corr ws fs) (nm : ByteArray) :
    (ws.find? (hasW nm) = none ∧ ∀ f ∈ fs, f.name ≠ nm) ∨ ∃ s f, ws.find? (hasW nm) = some s ∧ f ∈ fs ∧ f.name = nm ∧ kindL (letter s (nm.size + 1)) = f.kind := by
  induction h with
  | nil => exact .inl ⟨rfl, by simp⟩
  | skip h ih =>
    rw [List.find?_cons_of_neg (by rw [has_empty]; decide)]
    exact ih
  | @word s f ws fs w h ih =>
    by_cases e : f.name = nm
    · refine .inr ⟨s, f, ?_, by simp, e, by rw [← e]; exact w.l⟩
      rw [List.find?_cons_of_pos]
      rw [w.has, decide_eq_true e]
    · rw [List.find?_cons_of_neg (by rw [w.has, decide_eq_false e]; decide)]
      rcases ih with ⟨h1, h2⟩ | ⟨s', f', h1, h2, h3, h4⟩
      · refine .inl ⟨h1, fun g hg => ?_⟩
        rcases List.mem_cons.1 hg with rfl | hg
        · exact e
        · exact h2 g hg
      · exact .inr ⟨s', f', h1, List.mem_cons_of_mem _ h2, h3, h4⟩

theorem Corr.loop {ws : List ByteArray} {fs : List Fm} (h : Corr ws fs) (A : List At) : loopW A ws = rloopF A fs := by
  induction h with
  | nil => rfl
  | skip h ih => unfold loopW; rw [if_pos (wordE_empty A), ih]
  | word w h ih => unfold loopW rloopF; rw [w.err, ih]

theorem uniq {fs : List Fm} (hn : (fs.map (·.name)).Nodup) {f g : Fm} (hf : f ∈ fs) (hg : g ∈ fs) (e : f.name = g.name) : f = g := by
  induction fs with
  | nil => cases hf
  | cons x t ih =>
    rw [List.map_cons, List.nodup_cons] at hn
    rcases List.mem_cons.1 hf with h1 | h1 <;> rcases List.mem_cons.1 hg with h2 | h2
    · rw [h1, h2]
    · exact absurd (by rw [← h1, e]; exact List.mem_map_of_mem h2) hn.1
    · exact absurd (by rw [← h2, ← e]; exact List.mem_map_of_mem h1) hn.1
    · exact ih hn.2 h1 h2

theorem Corr.att {ws : List ByteArray} {fs : List Fm} (h : Corr ws fs) (hn : (fs.map (·.name)).Nodup) (A : List At) (i : Nat) (a : At) : attE ws A i a = rattE fs A i a := by
  unfold attE rattE
  rcases h.find a.name with ⟨h1, h2⟩ | ⟨s, f, h1, h2, h3, h4⟩
  · rw [h1]
    have c1 : fs.any (clash a) = false := List.any_eq_false.2 fun g hg => by simp [clash, h2 g hg]
    have c2 : fs.any (sameN a) = false := List.any_eq_false.2 fun g hg => by simp [sameN, h2 g hg]
    simp [c1, c2]
  · rw [h1]
    have c2 : fs.any (sameN a) = true := List.any_eq_true.2 ⟨f, h2, by simp [sameN, h3]⟩
    by_cases hk : f.kind = a.kind
    · have c1 : fs.any (clash a) = false := List.any_eq_false.2 fun g hg => by
        by_cases e : g.name = a.name
        · have := uniq hn hg h2 (e.trans h3.symm)
          subst this
          simp [clash, hk]
        · simp [clash, e]
      simp [c1, c2, h4, hk]
    · have c1 : fs.any (clash a) = true := List.any_eq_true.2 ⟨f, h2, by simp [clash, h3, hk]⟩
      simp [c1, h4, hk]

theorem Corr.atts {ws : List ByteArray} {fs : List Fm} (h : Corr ws fs) (hn : (fs.map (·.name)).Nodup) (A : List At) : ∀ (l : List At) (k : Nat), loopA ws A k l = rloopA fs A k l
  | [], k => rfl
  | a :: t, k => by unfold loopA rloopA; rw [h.att hn, h.atts hn A t]

theorem Corr.attrs {ws : List ByteArray} {fs : List Fm} (h : Corr ws fs) (hn : (fs.map (·.name)).Nodup) (A : List At) : attrsE A ws = rattrsE A fs := by
  unfold attrsE rattrsE
  rw [h.atts hn, h.loop]

/-! ### the two tables -/

structure Agree (r : Rul) (o : Ofs) : Prop where
  ok : o.ok = true
  least : o.least = r.least
  most : o.most = r.most
  corr : Corr (wordsL (ruleB r)) (o.forms ++ [thenF])
  nodup : ((o.forms ++ [thenF]).map (·.name)).Nodup

def agreeB (r : Rul) (o : Ofs) : Bool := o.ok && decide (o.least = r.least) && decide (o.most = r.most) && corr (wordsL (ruleB r)) (o.forms ++ [thenF]) && decide (((o.forms ++ [thenF]).map (·.name)).Nodup)
theorem agree_of {r : Rul} {o : Ofs} (h : agreeB r o = true) : Agree r o := by
  unfold agreeB at h
  simp only [Bool.and_eq_true, decide_eq_true_eq] at h
  obtain ⟨⟨⟨⟨h1, h2⟩, h3⟩, h4⟩, h5⟩ := h
  exact ⟨h1, h2, h3, corr_of h4, h5⟩

theorem tab_agree : (tab0.all fun p => agreeB p.2 (refOf ⟨p.1.toArray⟩)) = true := by decide +kernel
theorem one_agree : agreeB ⟨1, 1, []⟩ ⟨1, 1, [], true⟩ = true := by decide +kernel

theorem look_at {tab : List (List UInt8 × Rul)} {op : ByteArray} {r : Rul} (h : look tab op = some r) : (op.toList, r) ∈ tab := by
  induction tab with
  | nil => cases h
  | cons p t ih =>
    obtain ⟨l, r2⟩ := p
    unfold look at h
    split at h
    · next e => cases h; rw [eq_of_beq e]; exact List.mem_cons_self ..
    · exact List.mem_cons_of_mem _ (ih h)
theorem look_out {tab : List (List UInt8 × Rul)} {op : ByteArray} (h : look tab op = none) : ∀ l ∈ tab.map Prod.fst, op.toList ≠ l := by
  induction tab with
  | nil => simp
  | cons p t ih =>
    obtain ⟨l, r2⟩ := p
    unfold look at h
    split at h
    · cases h
    · next e =>
      intro x hx
      rcases List.mem_cons.1 hx with rfl | hx
      · simpa using e
      · exact ih h x hx
theorem lookR_out {tab : List (List UInt8 × Int × Int × List Fm)} {op : ByteArray} (h : ∀ l ∈ tab.map Prod.fst, op.toList ≠ l) : lookR tab op = none := by
  induction tab with
  | nil => rfl
  | cons p t ih =>
    obtain ⟨l, r2⟩ := p
    rw [lookR_miss (by simpa using h l (by simp))]
    exact ih fun x hx => h x (by simp [hx])

theorem in_tab : ((rtab0.map Prod.fst ++ twosL.map (fun s : ByteArray => s.toList) ++ [[71, 108, 111, 98, 97, 108, 65, 118, 101, 114, 97, 103, 101, 80, 111, 111, 108], [77, 97, 116, 77, 117, 108]]).all fun l => (tab0.map Prod.fst).contains l) = true := by decide +kernel

theorem refOf_out {op : ByteArray} (h : look tab0 op = none) (h1 : oneB op = false) : (refOf op).ok = false := by
  have hx : ∀ l, l ∈ rtab0.map Prod.fst ++ twosL.map (fun s : ByteArray => s.toList) ++ [[71, 108, 111, 98, 97, 108, 65, 118, 101, 114, 97, 103, 101, 80, 111, 111, 108], [77, 97, 116, 77, 117, 108]] → op.toList ≠ l := fun l hl => by
    have := List.all_eq_true.1 in_tab l hl
    exact look_out h l (by simpa using this)
  have hG : (op.toList == ([71, 108, 111, 98, 97, 108, 65, 118, 101, 114, 97, 103, 101, 80, 111, 111, 108] : List UInt8)) = false := by simpa using hx _ (by simp)
  have hM : (op.toList == ([77, 97, 116, 77, 117, 108] : List UInt8)) = false := by simpa using hx _ (by simp)
  have h2 : hasS twosL op = false := by
    cases e : hasS twosL op with
    | false => rfl
    | true => exact absurd rfl (hx op.toList (by rw [List.mem_append, List.mem_append]; exact .inl (.inr (List.mem_map_of_mem (hasS_iff.1 e)))))
  have hL : lookR rtab0 op = none := lookR_out fun l hl => hx l (by rw [List.mem_append, List.mem_append]; exact .inl (.inl hl))
  rw [Plain.of ⟨h1, hG, h2, hM⟩, hL]

theorem agree_op (op : ByteArray) : (refOf op).ok = (rulP op).2 ∧ ((rulP op).2 = true → Agree (rulP op).1 (refOf op)) := by
  cases h : look tab0 op with
  | some r =>
    have hm := look_at h
    have ha := agree_of (List.all_eq_true.1 tab_agree _ hm)
    have e : (⟨op.toList.toArray⟩ : ByteArray) = op := (lit_eq (s := op) (l := op.toList) (by simp)).symm
    rw [e] at ha
    rw [rulP_hit h]
    exact ⟨ha.ok, fun _ => ha⟩
  | none =>
    rw [rulP_miss h]
    cases h1 : oneB op with
    | true =>
      have e : refOf op = ⟨1, 1, [], true⟩ := by unfold refOf; rw [if_pos (Or.inl h1)]
      rw [e]
      exact ⟨rfl, fun _ => agree_of one_agree⟩
    | false => exact ⟨refOf_out h h1, fun c => (by cases c)⟩

theorem rloopF_mem {A : List At} : ∀ {fs : List Fm}, rloopF A fs = 0 → ∀ f ∈ fs, rformE A f = 0
  | [], _, f, hf => by cases hf
  | g :: t, h, f, hf => by
    unfold rloopF at h
    split at h
    · next e =>
      rcases List.mem_cons.1 hf with rfl | hf
      · exact e
      · exact rloopF_mem h f hf
    · next e => exact absurd h e
theorem rattrs_mem {A : List At} {fs : List Fm} (h : rattrsE A fs = 0) {f : Fm} (hf : f ∈ fs) (hm : f.must = true) : (findA A f.name f.kind).isSome = true := by
  unfold rattrsE at h
  split at h
  · have := rloopF_mem h f hf
    unfold rformE at this
    cases e : (findA A f.name f.kind).isSome with
    | true => rfl
    | false => rw [if_pos ⟨hm, e⟩] at this; cases this
  · next e => exact absurd h e

theorem const_forms : (refOf ⟨#[67, 111, 110, 115, 116, 97, 110, 116]⟩).forms = [⟨⟨#[118, 97, 108, 117, 101]⟩, 4, true⟩] := by kernel_rfl

/-- THE REFERENCE's ANSWER IS THE SCHEMA's. -/
theorem refP_checkP (n : Nd) : refP n = checkP n := by
  obtain ⟨h0, h1⟩ := agree_op n.op
  unfold refP checkP
  rw [h0]
  cases hok : (rulP n.op).2 with
  | false => rw [if_pos rfl, if_pos rfl]
  | true =>
    obtain ⟨g1, g2, g3, g4, g5⟩ := h1 hok
    rw [if_neg (show ¬ (true = false) by decide), if_neg (show ¬ (true = false) by decide), g2, g3, g4.attrs g5]
    by_cases c1 : (n.ins.length : Int) < (rulP n.op).1.least
    · rw [if_pos c1, if_pos c1]
    rw [if_neg c1, if_neg c1]
    by_cases c2 : (rulP n.op).1.most < (n.ins.length : Int)
    · rw [if_pos c2, if_pos c2]
    rw [if_neg c2, if_neg c2]
    by_cases c3 : n.out = ⟨#[]⟩
    · rw [if_pos c3, if_pos c3]
    rw [if_neg c3, if_neg c3]
    by_cases c4 : hasS n.ins ⟨#[]⟩ = true
    · rw [if_pos c4, if_pos c4]
    rw [if_neg c4, if_neg c4]
    by_cases c5 : rattrsE n.attrs ((refOf n.op).forms ++ [thenF]) ≠ 0
    · rw [if_pos c5, if_pos c5]
    rw [if_neg c5, if_neg c5]
    by_cases c6 : (thenE n.attrs).2 ≠ 0
    · rw [if_pos c6, if_pos c6]
    rw [if_neg c6, if_neg c6]
    cases hf : findA n.attrs ⟨#[118, 97, 108, 117, 101]⟩ 4 with
    | some a => rfl
    | none =>
      by_cases c7 : n.op = ⟨#[67, 111, 110, 115, 116, 97, 110, 116]⟩
      · exfalso
        have h := rattrs_mem (A := n.attrs) (fs := (refOf n.op).forms ++ [thenF]) (by simpa using c5) (f := ⟨⟨#[118, 97, 108, 117, 101]⟩, 4, true⟩) (by rw [c7, const_forms]; simp) rfl
        rw [hf] at h
        cases h
      · rw [if_neg c7]

end Go.Proofs.YtijeblfhkkfjgaaDoor
