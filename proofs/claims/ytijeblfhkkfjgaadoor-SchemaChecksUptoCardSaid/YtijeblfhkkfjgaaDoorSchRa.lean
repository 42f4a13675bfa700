/- The walk of the reference's attrs. -/
import Derived.Test.YtijeblfhkkfjgaaDoorSchOf
import Derived.Test.YtijeblfhkkfjgaaDoorSchRd
import Derived.Test.YtijeblfhkkfjgaaDoorSchRn
import Derived.Test.YtijeblfhkkfjgaaDoorReg
import Derived.ArgAppend
import Derived.BigQuiet
import Derived.Deep.QuietTactic
set_option linter.unusedVariables false
set_option linter.unusedSimpArgs false
namespace Go.Proofs.YtijeblfhkkfjgaaDoor
open Go.RowKit

theorem FmsIn.parts {w : World} {v : Value} {fs : List Fm} (h : FmsIn w v fs) : ∃ ao : Option Addr, v = .slice ao fs.length fs.length ∧ (ao = none → fs.length = 0 ∧ fs.length = 0) ∧ (∀ b, ao = some b → ∀ j u, (fs.flatMap Fm.cells)[j]? = some u → w.cell? (b.add j) = some u) ∧ fs.length ≤ 100 := by
  cases h with
  | empty => exact ⟨none, rfl, fun _ => ⟨rfl, rfl⟩, fun b h => (by cases h), by simp⟩
  | row b _ h0 hb hr hlen =>
    refine ⟨_, rfl, fun h => (by cases h), fun b' h j u hu => ?_, hlen⟩
    obtain rfl := Option.some.inj h
    have hj : j / 3 < fs.length := by
      have := (List.getElem?_eq_some_iff.1 hu).1
      have e : (fs.flatMap Fm.cells).length = fs.length * 3 := by
        clear hu hr hlen h0 h this
        induction fs with
        | nil => rfl
        | cons f fs ih => rw [List.flatMap_cons, List.length_append, ih]; simp [Fm.cells]; omega
      omega
    obtain ⟨f, hf⟩ : ∃ f, fs[j / 3]? = some f := ⟨_, List.getElem?_eq_getElem hj⟩
    obtain ⟨h1, h2, h3⟩ := hr _ f hf
    rw [add_off]
    have hm : j % 3 = 0 ∨ j % 3 = 1 ∨ j % 3 = 2 := by omega
    have hd : j = j / 3 * 3 + j % 3 := by omega
    have key : ∀ i (x : Value), f.cells[i]? = some x → j % 3 = i → x = u := fun i x hx hi => by
      have := fm_get hf hx
      rw [← hi, ← hd, hu] at this
      exact (Option.some.inj this).symm
    rcases hm with hm | hm | hm
    · rw [← key 0 _ rfl hm, show 0 + j = 0 + j / 3 * 3 by omega]; exact h1
    · rw [← key 1 _ rfl hm, show 0 + j = 0 + j / 3 * 3 + 1 by omega]; exact h2
    · rw [← key 2 _ rfl hm, show 0 + j = 0 + j / 3 * 3 + 2 by omega]; exact h3

theorem info_form : (Tryd.prog.info? 88).map (fun i => (i.zero, i.size, i.bytes)) = some (some (.agg #[.string ⟨#[]⟩, .int .i64 0, .bool false]), 3, 32) := by kernel_rfl

/-- The form of what follows. -/
def thenF : Fm := ⟨⟨#[116, 104, 101, 110]⟩, 3, false⟩

/-! ### plain -/

def sameN (a : At) (f : Fm) : Bool := decide (f.name = a.name)
def clash (a : At) (f : Fm) : Bool := decide (f.name = a.name) && !decide (f.kind = a.kind)

def rattE (fs : List Fm) (ats : List At) (i : Nat) (a : At) : Int :=
  if fs.any (clash a) = true then 4 else if fs.any (sameN a) = false then 5 else if (ats.take i).any (fun b => decide (b.name = a.name)) = true then 4 else if a.kind = 1 ∧ chk 1 a.f = false then 4 else 0

def rloopA (fs : List Fm) (ats : List At) : Nat → List At → Int
  | _, [] => 0
  | k, a :: t => if rattE fs ats k a = 0 then rloopA fs ats (k + 1) t else rattE fs ats k a

theorem rloopA_hit {fs : List Fm} {ats : List At} {k : Nat} {a : At} (h : ats[k]? = some a) (g : rattE fs ats k a ≠ 0) : rloopA fs ats k (ats.drop k) = rattE fs ats k a := by
  obtain ⟨hlt, e⟩ := List.getElem?_eq_some_iff.1 h
  rw [List.drop_eq_getElem_cons hlt, e]
  unfold rloopA
  rw [if_neg g]
theorem rloopA_next {fs : List Fm} {ats : List At} {k : Nat} {a : At} (h : ats[k]? = some a) (g : rattE fs ats k a = 0) : rloopA fs ats k (ats.drop k) = rloopA fs ats (k + 1) (ats.drop (k + 1)) := by
  obtain ⟨hlt, e⟩ := List.getElem?_eq_some_iff.1 h
  conv => lhs; rw [List.drop_eq_getElem_cons hlt, e]
  conv => lhs; unfold rloopA
  rw [if_pos g]
theorem rloopA_end {fs : List Fm} {ats : List At} : rloopA fs ats ats.length (ats.drop ats.length) = 0 := by
  rw [List.drop_length]; unfold rloopA; rfl

def rformE (ats : List At) (f : Fm) : Int := if f.must = true ∧ (findA ats f.name f.kind).isSome = false then 4 else 0
def rloopF (ats : List At) : List Fm → Int
  | [] => 0
  | f :: t => if rformE ats f = 0 then rloopF ats t else rformE ats f
theorem rloopF_hit {ats : List At} {fs : List Fm} {k : Nat} {f : Fm} (h : fs[k]? = some f) (g : rformE ats f ≠ 0) : rloopF ats (fs.drop k) = rformE ats f := by
  obtain ⟨hlt, e⟩ := List.getElem?_eq_some_iff.1 h
  rw [List.drop_eq_getElem_cons hlt, e]
  unfold rloopF
  rw [if_neg g]
theorem rloopF_next {ats : List At} {fs : List Fm} {k : Nat} {f : Fm} (h : fs[k]? = some f) (g : rformE ats f = 0) : rloopF ats (fs.drop k) = rloopF ats (fs.drop (k + 1)) := by
  obtain ⟨hlt, e⟩ := List.getElem?_eq_some_iff.1 h
  conv => lhs; rw [List.drop_eq_getElem_cons hlt, e]
  conv => lhs; unfold rloopF
  rw [if_pos g]
theorem rloopF_end {ats : List At} {fs : List Fm} : rloopF ats (fs.drop fs.length) = 0 := by
  rw [List.drop_length]; unfold rloopF; rfl

def rattrsE (ats : List At) (fs : List Fm) : Int := if rloopA fs ats 0 ats = 0 then rloopF ats fs else rloopA fs ats 0 ats
theorem rattrsE_hit {ats : List At} {fs : List Fm} {k : Nat} {a : At} {x : Int} (hE : rloopA fs ats 0 ats = rloopA fs ats k (ats.drop k)) (ha : ats[k]? = some a) (e : rattE fs ats k a = x) (hx : x ≠ 0) : rattrsE ats fs = x := by
  have h1 : rloopA fs ats 0 ats = x := by rw [hE, rloopA_hit ha (by rw [e]; exact hx), e]
  unfold rattrsE
  rw [if_neg (by rw [h1]; exact hx), h1]
theorem rattrsE_form {ats : List At} {fs : List Fm} {k : Nat} {f : Fm} {x : Int} (h0 : rloopA fs ats 0 ats = 0) (hE : rloopF ats fs = rloopF ats (fs.drop k)) (hf : fs[k]? = some f) (e : rformE ats f = x) (hx : x ≠ 0) : rattrsE ats fs = x := by
  unfold rattrsE
  rw [if_pos h0, hE, rloopF_hit hf (by rw [e]; exact hx), e]
theorem rattrsE_good {ats : List At} {fs : List Fm} (h0 : rloopA fs ats 0 ats = 0) (hE : rloopF ats fs = 0) : rattrsE ats fs = 0 := by
  unfold rattrsE
  rw [if_pos h0, hE]

theorem rattE_clash {fs : List Fm} {ats : List At} {i : Nat} {a : At} (h : fs.any (clash a) = true) : rattE fs ats i a = 4 := by unfold rattE; rw [if_pos h]
theorem rattE_none {fs : List Fm} {ats : List At} {i : Nat} {a : At} (h : fs.any (clash a) = false) (g : fs.any (sameN a) = false) : rattE fs ats i a = 5 := by unfold rattE; rw [if_neg (by rw [h]; decide), if_pos g]
theorem rattE_twice {fs : List Fm} {ats : List At} {i : Nat} {a : At} (h : fs.any (clash a) = false) (g : fs.any (sameN a) = true) (t : (ats.take i).any (fun b => decide (b.name = a.name)) = true) : rattE fs ats i a = 4 := by unfold rattE; rw [if_neg (by rw [h]; decide), if_neg (by rw [g]; decide), if_pos t]
theorem rattE_float {fs : List Fm} {ats : List At} {i : Nat} {a : At} (h : fs.any (clash a) = false) (g : fs.any (sameN a) = true) (t : (ats.take i).any (fun b => decide (b.name = a.name)) = false) (f : a.kind = 1 ∧ chk 1 a.f = false) : rattE fs ats i a = 4 := by unfold rattE; rw [if_neg (by rw [h]; decide), if_neg (by rw [g]; decide), if_neg (by rw [t]; decide), if_pos f]
theorem rattE_good {fs : List Fm} {ats : List At} {i : Nat} {a : At} (h : fs.any (clash a) = false) (g : fs.any (sameN a) = true) (t : (ats.take i).any (fun b => decide (b.name = a.name)) = false) (f : ¬ (a.kind = 1 ∧ chk 1 a.f = false)) : rattE fs ats i a = 0 := by unfold rattE; rw [if_neg (by rw [h]; decide), if_neg (by rw [g]; decide), if_neg (by rw [t]; decide), if_neg f]

theorem anyF_step {p : Fm → Bool} {fs : List Fm} {k : Nat} {f : Fm} (hf : fs[k]? = some f) : (fs.take (k + 1)).any p = ((fs.take k).any p || p f) := by
  rw [List.take_add_one, List.any_append, hf]
  simp
theorem anyF_hit {p : Fm → Bool} {fs : List Fm} {k : Nat} {f : Fm} (hf : fs[k]? = some f) (h : p f = true) : fs.any p = true := List.any_eq_true.2 ⟨f, List.mem_of_getElem? hf, h⟩

theorem rformE_bad {ats : List At} {f : Fm} (h : f.must = true) (g : (findA ats f.name f.kind).isSome = false) : rformE ats f = 4 := by unfold rformE; rw [if_pos ⟨h, g⟩]
theorem rformE_opt {ats : List At} {f : Fm} (h : f.must = false) : rformE ats f = 0 := by unfold rformE; rw [if_neg (fun c => by rw [h] at c; exact absurd c.1 (by decide))]
theorem rformE_has {ats : List At} {f : Fm} (g : (findA ats f.name f.kind).isSome = true) : rformE ats f = 0 := by unfold rformE; rw [if_neg (fun c => by rw [g] at c; exact absurd c.2 (by decide))]

end Go.Proofs.YtijeblfhkkfjgaaDoor
