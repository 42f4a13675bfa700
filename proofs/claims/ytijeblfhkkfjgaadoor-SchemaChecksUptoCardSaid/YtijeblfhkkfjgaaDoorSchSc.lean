/- Scanning joined names: plain facts. -/
import Derived.Test.YtijeblfhkkfjgaaDoorSchJ
set_option linter.unusedVariables false
set_option linter.unusedSimpArgs false
namespace Go.Proofs.YtijeblfhkkfjgaaDoor
open Go.RowKit

theorem size_l (s : ByteArray) : s.data.toList.length = s.size := Array.length_toList
theorem getD_at {l : List UInt8} {i : Nat} (h : i < l.length) : l.getD i 0 = l[i] := by simp [List.getD, List.getElem?_eq_getElem h]
theorem drop_size (s : ByteArray) : s.data.toList.drop s.size = [] := by rw [← size_l, List.drop_length]

/-- What has been read of a joined text, with its commas. -/
def pre (done : List ByteArray) : List UInt8 := done.flatMap fun x => x.data.toList ++ [44]

theorem pre_snoc (done : List ByteArray) (p : ByteArray) : pre (done ++ [p]) = pre done ++ (p.data.toList ++ [44]) := by
  simp [pre]

theorem joinD_cons {a : List UInt8} {l : List (List UInt8)} (h : l ≠ []) : joinD (a :: l) = a ++ 44 :: joinD l := by
  cases l with
  | nil => exact absurd rfl h
  | cons b t => rfl

theorem pre_join : ∀ (done : List ByteArray) (r : List (List UInt8)), r ≠ [] → joinD (done.map (·.data.toList) ++ r) = pre done ++ joinD r
  | [], r, h => by simp [pre]
  | a :: t, r, h => by
    rw [List.map_cons, List.cons_append, joinD_cons (by simp [h]), pre_join t r h]
    simp [pre]

theorem split_ex : ∀ L : List UInt8, ∃ rs : List (List UInt8), rs ≠ [] ∧ (∀ x ∈ rs, NoC x) ∧ joinD rs = L
  | [] => ⟨[[]], by simp, by simp [NoC], rfl⟩
  | c :: L => by
    obtain ⟨rs, h0, h1, h2⟩ := split_ex L
    cases rs with
    | nil => exact absurd rfl h0
    | cons r t =>
      by_cases hc : c = 44
      · refine ⟨[] :: r :: t, by simp, ?_, ?_⟩
        · intro x hx
          rcases List.mem_cons.1 hx with rfl | hx
          · simp [NoC]
          · exact h1 x hx
        · rw [joinD_cons (by simp), h2, hc]; rfl
      · refine ⟨(c :: r) :: t, by simp, ?_, ?_⟩
        · intro x hx
          rcases List.mem_cons.1 hx with rfl | hx
          · intro y hy
            rcases List.mem_cons.1 hy with rfl | hy
            · exact hc
            · exact h1 r (by simp) y hy
          · exact h1 x (by simp [hx])
        · rw [← h2]
          cases t with
          | nil => rfl
          | cons b t => rfl

def bArr (l : List UInt8) : ByteArray := ⟨l.toArray⟩
theorem bArr_data (l : List UInt8) : (bArr l).data.toList = l := by simp [bArr]
theorem map_bArr (rs : List (List UInt8)) : (rs.map bArr).map (·.data.toList) = rs := by
  rw [List.map_map]
  have : ((fun x : ByteArray => x.data.toList) ∘ bArr) = id := funext fun l => bArr_data l
  rw [this, List.map_id]

/-- The parts, with any tail behind the part just read. -/
theorem split_scan {s : ByteArray} {done : List ByteArray} {p : ByteArray} {r : List UInt8} (hd : ∀ x ∈ done, NoC x.data.toList) (hp : NoC p.data.toList) (hs : s.data.toList = pre done ++ (p.data.toList ++ r)) (hr : r = [] ∨ ∃ t, r = 44 :: t) :
    ∃ tl, splitL s = done ++ p :: tl ∧ (r = [] → tl = []) := by
  rcases hr with rfl | ⟨t, rfl⟩
  · refine ⟨[], splitL_join (by simp) ?_ ?_, fun _ => rfl⟩
    · intro x hx
      rcases List.mem_append.1 hx with hx | hx
      · exact hd x hx
      · obtain rfl : x = p := by simpa using hx
        exact hp
    · rw [hs, List.map_append, pre_join _ _ (by simp)]
      simp [joinD]
  · obtain ⟨rs, h0, h1, h2⟩ := split_ex t
    refine ⟨rs.map bArr, splitL_join (by simp) ?_ ?_, fun h => (by cases h)⟩
    · intro x hx
      rcases List.mem_append.1 hx with hx | hx
      · exact hd x hx
      · rcases List.mem_cons.1 hx with rfl | hx
        · exact hp
        · obtain ⟨y, hy, rfl⟩ := List.mem_map.1 hx
          rw [bArr_data]
          exact h1 y hy
    · rw [hs, List.map_append, pre_join _ _ (by simp), List.map_cons, map_bArr, joinD_cons h0, h2]

theorem then_scan_bad {ats : List At} {a : At} (hf : findA ats ⟨#[116, 104, 101, 110]⟩ 3 = some a) {done : List ByteArray} {p : ByteArray} {r : List UInt8} (hd : ∀ x ∈ done, NoC x.data.toList) (hp : NoC p.data.toList) (hs : a.s.data.toList = pre done ++ (p.data.toList ++ r)) (hr : r = [] ∨ ∃ t, r = 44 :: t)
    (ho : oneB p = false) : thenE ats = ([], 4) := by
  obtain ⟨tl, e, _⟩ := split_scan hd hp hs hr
  exact thenE_bad hf (by rw [e]; exact List.any_eq_true.2 ⟨p, by simp, by simp [ho]⟩)
theorem then_scan_good {ats : List At} {a : At} (hf : findA ats ⟨#[116, 104, 101, 110]⟩ 3 = some a) {done : List ByteArray} {p : ByteArray} (hd : ∀ x ∈ done, NoC x.data.toList) (h1 : ∀ x ∈ done, oneB x = true) (hp : NoC p.data.toList) (hs : a.s.data.toList = pre done ++ p.data.toList)
    (ho : oneB p = true) : thenE ats = (done ++ [p], 0) := by
  obtain ⟨tl, e, g⟩ := split_scan (r := []) hd hp (by simpa using hs) (Or.inl rfl)
  rw [g rfl] at e
  rw [thenE_good hf (by
    rw [e, List.any_eq_false]
    intro x hx
    rcases List.mem_append.1 hx with hx | hx
    · simp [h1 x hx]
    · obtain rfl : x = p := by simpa using hx
      simp [ho]), e]

/-- The scan's state: F is where the part under way begins, k where it is read. -/
structure Scan (s : ByteArray) (F k : Nat) (done : List ByteArray) : Prop where
  hF : F ≤ k
  hk : k ≤ s.size
  hpre : s.data.toList.take F = pre done
  hno : ∀ i, F ≤ i → i < k → s.data.toList.getD i 0 ≠ 44
  hd : ∀ x ∈ done, NoC x.data.toList
  h1 : ∀ x ∈ done, oneB x = true

theorem Scan.start (s : ByteArray) : Scan s 0 0 [] := ⟨Nat.le_refl _, Nat.zero_le _, rfl, fun i _ h => by omega, by simp, by simp⟩
theorem Scan.next {s : ByteArray} {F k : Nat} {done : List ByteArray} (h : Scan s F k done) (hk : k < s.size) (hc : s.data.toList.getD k 0 ≠ 44) : Scan s F (k + 1) done :=
  ⟨Nat.le_trans h.hF (Nat.le_succ _), hk, h.hpre, fun i h1 h2 => by
    by_cases e : i = k
    · subst e; exact hc
    · exact h.hno i h1 (by omega), h.hd, h.h1⟩

/-- The part under way. -/
def part (s : ByteArray) (F k : Nat) : ByteArray := s.extract F k
theorem part_data {s : ByteArray} {F k : Nat} : (part s F k).data.toList = (s.data.toList.drop F).take (k - F) := by
  unfold part
  rw [ByteArray.data_extract, Array.toList_extract, List.extract_eq_take_drop]

theorem Scan.noC {s : ByteArray} {F k : Nat} {done : List ByteArray} (h : Scan s F k done) : NoC (part s F k).data.toList := by
  rw [part_data]
  intro x hx
  obtain ⟨i, hi, rfl⟩ := List.mem_iff_getElem.1 hx
  have hl : i < k - F := by simp at hi; omega
  have := h.hno (F + i) (by omega) (by omega)
  have hs : F + i < s.data.toList.length := by rw [size_l]; have := h.hk; omega
  rw [getD_at hs] at this
  simpa using this

theorem Scan.text {s : ByteArray} {F k : Nat} {done : List ByteArray} (h : Scan s F k done) : s.data.toList = pre done ++ ((part s F k).data.toList ++ s.data.toList.drop k) := by
  have e := h.hF
  rw [part_data, ← h.hpre]
  conv => lhs; rw [← List.take_append_drop F s.data.toList]
  congr 1
  conv => lhs; rw [← List.take_append_drop (k - F) (s.data.toList.drop F)]
  rw [List.drop_drop, show F + (k - F) = k by omega]

theorem Scan.tail {s : ByteArray} {F k : Nat} {done : List ByteArray} (h : Scan s F k done) (hc : k = s.size ∨ (k < s.size ∧ s.data.toList.getD k 0 = 44)) : s.data.toList.drop k = [] ∨ ∃ t, s.data.toList.drop k = 44 :: t := by
  rcases hc with rfl | ⟨h1, h2⟩
  · left; exact drop_size s
  · right
    have hs : k < s.data.toList.length := by rw [size_l]; exact h1
    rw [getD_at hs] at h2
    exact ⟨_, by rw [List.drop_eq_getElem_cons hs, h2]⟩

theorem Scan.bad {ats : List At} {a : At} (hf : findA ats ⟨#[116, 104, 101, 110]⟩ 3 = some a) {F k : Nat} {done : List ByteArray} (h : Scan a.s F k done) (hc : k = a.s.size ∨ (k < a.s.size ∧ a.s.data.toList.getD k 0 = 44)) (ho : oneB (part a.s F k) = false) : thenE ats = ([], 4) :=
  then_scan_bad hf h.hd h.noC h.text (h.tail hc) ho
theorem Scan.comma {s : ByteArray} {F k : Nat} {done : List ByteArray} (h : Scan s F k done) (hk : k < s.size) (hc : s.data.toList.getD k 0 = 44) (ho : oneB (part s F k) = true) : Scan s (k + 1) (k + 1) (done ++ [part s F k]) := by
  have hs : k < s.data.toList.length := by rw [size_l]; exact hk
  rw [getD_at hs] at hc
  refine ⟨Nat.le_refl _, hk, ?_, fun i h1 h2 => by omega, ?_, ?_⟩
  · rw [pre_snoc, List.take_succ_eq_append_getElem hs, hc, ← List.append_assoc]
    congr 1
    have := h.text
    rw [← List.append_assoc] at this
    have e : (pre done ++ (part s F k).data.toList).length = k := by
      have l1 : (pre done).length = F := by rw [← h.hpre, List.length_take]; have := h.hF; omega
      have l2 : (part s F k).data.toList.length = k - F := by rw [part_data, List.length_take, List.length_drop]; omega
      rw [List.length_append, l1, l2]; have := h.hF; omega
    rw [this, List.take_append_of_le_length (by omega)]
    exact List.take_of_length_le (by omega)
  · intro x hx
    rcases List.mem_append.1 hx with hx | hx
    · exact h.hd x hx
    · obtain rfl : x = part s F k := by simpa using hx
      exact h.noC
  · intro x hx
    rcases List.mem_append.1 hx with hx | hx
    · exact h.h1 x hx
    · obtain rfl : x = part s F k := by simpa using hx
      exact ho
theorem Scan.good {ats : List At} {a : At} (hf : findA ats ⟨#[116, 104, 101, 110]⟩ 3 = some a) {F : Nat} {done : List ByteArray} (h : Scan a.s F a.s.size done) (ho : oneB (part a.s F a.s.size) = true) : thenE ats = (done ++ [part a.s F a.s.size], 0) :=
  then_scan_good hf h.hd h.h1 h.noC (by
    have := h.text
    rwa [drop_size, List.append_nil] at this) ho

theorem Scan.good' {ats : List At} {a : At} (hf : findA ats ⟨#[116, 104, 101, 110]⟩ 3 = some a) {F k : Nat} {done : List ByteArray} (h : Scan a.s F k done) (hk : k = a.s.size) (ho : oneB (part a.s F k) = true) : thenE ats = (done ++ [part a.s F k], 0) := by
  subst hk; exact h.good hf ho
theorem byte_eq {s : ByteArray} {k : Nat} (h : k < s.size) (hc : s.data.toList.getD k 0 = 44) : (((s[k]'h).toNat : Int) != 44) = false := by
  have hs : k < s.data.toList.length := by rw [size_l]; exact h
  rw [getD_at hs] at hc
  have : s[k]'h = 44 := hc
  rw [this]; rfl
theorem byte_ne {s : ByteArray} {k : Nat} (h : k < s.size) (hc : s.data.toList.getD k 0 ≠ 44) : (((s[k]'h).toNat : Int) != 44) = true := by
  have hs : k < s.data.toList.length := by rw [size_l]; exact h
  rw [getD_at hs] at hc
  have h1 : s[k]'h ≠ 44 := hc
  have h2 : (s[k]'h).toNat ≠ 44 := fun e => h1 (UInt8.toNat_inj.1 e)
  simp only [bne_iff_ne, ne_eq]
  omega

end Go.Proofs.YtijeblfhkkfjgaaDoor
