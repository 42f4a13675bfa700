/- General part of: The walk of mandrellaw06.SchemaThen. -/
import Derived.Test.YtagiipecfdmceaaGreatDoorSchJs
import Derived.Laws.AppendOwn
set_option linter.unusedVariables false
set_option linter.unusedSimpArgs false
namespace Go.Proofs.YtagiipecfdmceaaGreatDoor
open Go.RowKit

/-- What the loop has put together. -/
structure Made (l : List ByteArray) (s : ByteArray) : Prop where
  ones : ∀ x ∈ l, x ∈ onesL
  join : s.data.toList = joinD (l.map (·.data.toList))
  size : s.size ≤ l.length * 9

theorem IntsIn.rows {w : World} {v : Value} {zs : List Int} (h : IntsIn w v zs) {k : Nat} (hk : k < zs.length) : ∃ b off cap, v = .slice (some ⟨b, off, none⟩) zs.length cap ∧ b < w.heap.size ∧ Reads w b off zs ∧ InI (zs.getD k 0) := by
  cases h with
  | empty a0 cap => simp at hk
  | row b off cap _ h0 hc hb hr hlen hw => exact ⟨b, off, cap, rfl, hb, hr, hw _ (getD_mem hk)⟩

theorem StrsIn.of_owns {w : World} {base : Nat} {v : Value} {ss : List ByteArray} {n : Nat} (h : w.ownsRow base 9 1 v n (ss.map Value.string)) (hn : ss.length = n) (hl : n ≤ 1000000) : StrsIn w v ss := by
  subst hn
  obtain ⟨_, h | ⟨g, cap, cur, rfl, _, hg, hnc, _, hcur, ht⟩⟩ := h
  · obtain ⟨rfl, h0⟩ := h
    obtain rfl := List.eq_nil_of_length_eq_zero h0
    exact .empty _ _
  · by_cases h0 : ss = []
    · subst h0; exact .empty _ _
    · refine .row g 0 cap ss h0 hnc (Array.getElem?_eq_some_iff.1 hg).1 (fun j t hj => ?_) (by omega)
      have hjl : j < ss.length := (List.getElem?_eq_some_iff.1 hj).1
      rw [World.cell?, hg]
      have h1 : (cur.toList.take (ss.length * 1))[j]? = some (.string t) := by rw [ht, List.getElem?_map, hj]; rfl
      rw [List.getElem?_take_of_lt (by omega)] at h1
      simpa using h1
theorem owns_form {w : World} {base : Nat} {v : Value} {e : TypeId} {z n : Nat} {xs : List Value} (h : w.ownsRow base e z v n xs) : ∃ a c, v = .slice a n c := by
  obtain ⟨_, h | ⟨g, cap, cur, rfl, _⟩⟩ := h
  · obtain ⟨rfl, rfl⟩ := h; exact ⟨_, _, rfl⟩
  · exact ⟨_, _, rfl⟩

theorem Made.nil : Made [] ⟨#[]⟩ := ⟨by simp, rfl, by simp [ByteArray.size]⟩

theorem ones_size : ∀ x ∈ onesL, x.size ≤ 8 := by decide +kernel

theorem Made.first {x s : ByteArray} (hs : Made [] s) (hx : x ∈ onesL) : Made [x] (s ++ x) where
  ones := by intro y hy; simp at hy; exact hy ▸ hx
  join := by
    have := hs.join
    rw [ByteArray.data_append, Array.toList_append, this]; rfl
  size := by
    have := hs.size
    have h2 := ones_size x hx
    have h4 : s.size = 0 := by simpa using this
    rw [ByteArray.size_append, h4]; simp; omega

theorem Made.next {l : List ByteArray} {x s : ByteArray} (hs : Made l s) (h0 : l ≠ []) (hx : x ∈ onesL) : Made (l ++ [x]) ((s ++ (⟨#[44]⟩ : ByteArray)) ++ x) where
  ones := by
    intro y hy
    rcases List.mem_append.1 hy with hy | hy
    · exact hs.ones y hy
    · simp at hy; exact hy ▸ hx
  join := by
    rw [List.map_append, List.map_singleton, joinD_snoc (by simpa using h0), ByteArray.data_append, ByteArray.data_append, Array.toList_append, Array.toList_append, hs.join]
    simp
  size := by
    have := hs.size
    have h2 := ones_size x hx
    have h3 : (⟨#[44]⟩ : ByteArray).size = 1 := rfl
    rw [ByteArray.size_append, ByteArray.size_append, h3]; simp; omega

end Go.Proofs.YtagiipecfdmceaaGreatDoor
