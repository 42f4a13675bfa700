/- What stands between the commas of joined names: plain facts. -/
import Derived.Test.YtagiipecfdmceaaGreatDoorSchLg
set_option linter.unusedVariables false
set_option linter.unusedSimpArgs false
namespace Go.Proofs.YtagiipecfdmceaaGreatDoor
open Go.RowKit

def NoC (a : List UInt8) : Prop := ∀ x ∈ a, x ≠ 44

theorem index_at_c {a r : List UInt8} (h : NoC a) : Lib.index (a ++ 44 :: r) [44] = a.length := by
  rw [Lib.index_one]
  induction a with
  | nil => rfl
  | cons x a ih =>
    have hx : (x == 44) = false := by simpa using h x (List.mem_cons_self ..)
    have hi := ih (fun y hy => h y (List.mem_cons_of_mem _ hy))
    show Lib.indexByte (x :: (a ++ 44 :: r)) 44 = _
    unfold Lib.indexByte
    rw [hx, hi]
    have : ¬ ((a.length : Int) == -1) = true := by simp
    rw [if_neg (by decide), if_neg this]
    simp

theorem index_no_c {a : List UInt8} (h : NoC a) : Lib.index a [44] = -1 := by
  rw [Lib.index_one]
  induction a with
  | nil => rfl
  | cons x a ih =>
    have hx : (x == 44) = false := by simpa using h x (List.mem_cons_self ..)
    have hi := ih (fun y hy => h y (List.mem_cons_of_mem _ hy))
    unfold Lib.indexByte
    rw [hx, hi]
    rfl

def joinD : List (List UInt8) → List UInt8
  | [] => []
  | [a] => a
  | a :: b :: t => a ++ 44 :: joinD (b :: t)

theorem joinD_snoc {l : List (List UInt8)} (h : l ≠ []) (x : List UInt8) : joinD (l ++ [x]) = joinD l ++ 44 :: x := by
  induction l with
  | nil => exact absurd rfl h
  | cons a t ih =>
    cases t with
    | nil => rfl
    | cons b t =>
      have := ih (by simp)
      show a ++ 44 :: joinD (b :: t ++ [x]) = (a ++ 44 :: joinD (b :: t)) ++ 44 :: x
      rw [this]
      simp

theorem drop_c {a r : List UInt8} : (a ++ 44 :: r).drop (a.length + 1) = r := by
  rw [← List.drop_drop]; simp

theorem count_join : ∀ (t : List (List UInt8)) (a : List UInt8), (∀ x ∈ a :: t, NoC x) → Lib.count (joinD (a :: t)) [44] = t.length
  | [], a, h => Lib.count_miss (index_no_c (h a (List.mem_cons_self ..)))
  | b :: t, a, h => by
    show Lib.count (a ++ 44 :: joinD (b :: t)) [44] = _
    rw [Lib.count_hit (by simp) (index_at_c (h a (List.mem_cons_self ..)))]
    rw [show ([44] : List UInt8).length = 1 from rfl, drop_c, count_join t b (fun x hx => h x (List.mem_cons_of_mem _ hx))]
    simp [Nat.add_comm]

theorem split_join : ∀ (t : List (List UInt8)) (a : List UInt8), (∀ x ∈ a :: t, NoC x) → Lib.splitK [44] 0 t.length (joinD (a :: t)) = a :: t
  | [], a, h => rfl
  | b :: t, a, h => by
    show Lib.splitK [44] 0 (t.length + 1) (a ++ 44 :: joinD (b :: t)) = _
    unfold Lib.splitK
    rw [index_at_c (h a (List.mem_cons_self ..))]
    have : ¬ ((a.length : Int) == -1) = true := by simp
    rw [if_neg this, show ([44] : List UInt8).length = 1 from rfl]
    simp only [Int.toNat_natCast, Nat.add_zero]
    rw [drop_c, split_join t b (fun x hx => h x (List.mem_cons_of_mem _ hx))]
    simp

theorem data_inj {a b : ByteArray} (h : a.data.toList = b.data.toList) : a = b := by
  cases a; cases b
  simpa using h

theorem map_data_inj : ∀ {a b : List ByteArray}, a.map (·.data.toList) = b.map (·.data.toList) → a = b
  | [], [], _ => rfl
  | [], b :: t, h => by simp at h
  | a :: s, [], h => by simp at h
  | a :: s, b :: t, h => by
    simp only [List.map_cons, List.cons.injEq] at h
    rw [data_inj h.1, map_data_inj h.2]

/-- Split, of joined names. -/
theorem splitL_join {l : List ByteArray} (h0 : l ≠ []) (h : ∀ x ∈ l, NoC x.data.toList) {s : ByteArray} (hs : s.data.toList = joinD (l.map (·.data.toList))) : splitL s = l := by
  apply map_data_inj
  unfold splitL
  cases l with
  | nil => exact absurd rfl h0
  | cons a t =>
    have hd : ∀ x ∈ a.data.toList :: t.map (·.data.toList), NoC x := by
      intro x hx
      rcases List.mem_cons.1 hx with rfl | hx
      · exact h a (List.mem_cons_self ..)
      · obtain ⟨y, hy, rfl⟩ := List.mem_map.1 hx
        exact h y (List.mem_cons_of_mem _ hy)
    have hc : Lib.countB s ⟨#[44]⟩ = (t.map (·.data.toList)).length := by
      show Lib.count s.data.toList [44] = _
      rw [hs]; exact count_join _ _ hd
    rw [hc, Lib.splitB_data, hs]
    exact split_join _ _ hd

theorem ones_noC : ∀ x ∈ onesL, NoC x.data.toList := by
  have : (onesL.all fun x => x.data.toList.all fun c => decide (c ≠ 44)) = true := by decide +kernel
  intro x hx c hc
  have h1 := List.all_eq_true.1 this x hx
  have h2 := List.all_eq_true.1 h1 c hc
  simpa using h2

theorem find_then (s : ByteArray) : findA [thenA s] ⟨#[116, 104, 101, 110]⟩ 3 = some (thenA s) := by kernel_rfl

theorem oneB_of {x : ByteArray} (h : x ∈ onesL) : oneB x = true := List.any_eq_true.2 ⟨x, h, by simp⟩

theorem then_join {l : List ByteArray} (h0 : l ≠ []) (h : ∀ x ∈ l, x ∈ onesL) {s : ByteArray} (hs : s.data.toList = joinD (l.map (·.data.toList))) : thenE [thenA s] = (l, 0) := by
  have e := splitL_join h0 (fun x hx => ones_noC x (h x hx)) hs
  rw [thenE_good (find_then s) (by
    show (splitL s).any _ = false
    rw [e, List.any_eq_false]
    intro x hx
    simp [oneB_of (h x hx)])]
  show (splitL s, (0 : Int)) = _
  rw [e]

theorem then_nothing : thenE [thenA ⟨#[]⟩] = ([], 4) := by decide +kernel

theorem relu_ok : (rulP opRelu).2 = true := by decide +kernel
theorem relu_attrs (s : ByteArray) : attrsE [thenA s] (wordsL (ruleB (rulP opRelu).1)) = 0 := by kernel_rfl
theorem relu_value (s : ByteArray) : findA [thenA s] ⟨#[118, 97, 108, 117, 101]⟩ 4 = none := by kernel_rfl
theorem relu_ins : ¬ hasS [sx] ⟨#[]⟩ = true := by decide +kernel
theorem relu_least : ¬ (1 : Int) < (rulP opRelu).1.least := by decide +kernel
theorem relu_most : ¬ (rulP opRelu).1.most < (1 : Int) := by decide +kernel
theorem relu_out : ¬ sy = ⟨#[]⟩ := by decide +kernel

theorem relu_check {s : ByteArray} (h : (thenE [thenA s]).2 = 0) : checkP ⟨opRelu, ⟨#[]⟩, [sx], sy, [thenA s]⟩ = 0 :=
  checkP_end ⟨relu_ok, relu_least, relu_most, relu_out⟩ relu_ins (relu_attrs s) h (relu_value s)

end Go.Proofs.YtagiipecfdmceaaGreatDoor
