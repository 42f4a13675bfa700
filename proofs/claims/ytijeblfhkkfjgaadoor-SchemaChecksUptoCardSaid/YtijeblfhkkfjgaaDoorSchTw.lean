/- The walk of mandrellaw06.SchemaThen. -/
import Derived.Test.YtijeblfhkkfjgaaDoorSchJ
import Derived.Laws.AppendOwn
set_option linter.unusedVariables false
set_option linter.unusedSimpArgs false
namespace Go.Proofs.YtijeblfhkkfjgaaDoor
open Go.RowKit

theorem info_string : (Tryd.prog.info? 9).map (fun i => (i.zero, i.size, i.bytes)) = some (some (.string ⟨#[]⟩), 1, 16) := by kernel_rfl

/-- What the loop has put together. -/
structure Made (l : List ByteArray) (s : ByteArray) : Prop where
  ones : ∀ x ∈ l, x ∈ onesL
  join : s.data.toList = joinD (l.map (·.data.toList))
  size : s.size ≤ l.length * 9

theorem IntsIn.rows {w : World} {v : Value} {zs : List Int} (h : IntsIn w v zs) {k : Nat} (hk : k < zs.length) : ∃ b off cap, v = .slice (some ⟨b, off, none⟩) zs.length cap ∧ b < w.heap.size ∧ Reads w b off zs ∧ InI (zs.getD k 0) := by
  cases h with
  | empty a0 cap => simp at hk
  | row b off cap _ h0 hc hb hr hlen hw => exact ⟨b, off, cap, rfl, hb, hr, hw _ (getD_mem hk)⟩

theorem StrsIn.of_owns {w : World} {base : Nat} {v : Value} {ss : List ByteArray} {n : Nat} (h : w.ownsRow base 9 1 v n (ss.map Value.string)) (hn : ss.length = n) (hl : n ≤ 1000000) : StrsIn w v ss := by
  subst hn
  obtain ⟨_, h | ⟨g, cap, cur, rfl, _, hg, hnc, _, hcur, ht⟩⟩ := h
  · obtain ⟨rfl, h0⟩ := h
    obtain rfl := List.eq_nil_of_length_eq_zero h0
    exact .empty _ _
  · by_cases h0 : ss = []
    · subst h0; exact .empty _ _
    · refine .row g 0 cap ss h0 hnc (Array.getElem?_eq_some_iff.1 hg).1 (fun j t hj => ?_) (by omega)
      have hjl : j < ss.length := (List.getElem?_eq_some_iff.1 hj).1
      rw [World.cell?, hg]
      have h1 : (cur.toList.take (ss.length * 1))[j]? = some (.string t) := by rw [ht, List.getElem?_map, hj]; rfl
      rw [List.getElem?_take_of_lt (by omega)] at h1
      simpa using h1
theorem owns_form {w : World} {base : Nat} {v : Value} {e : TypeId} {z n : Nat} {xs : List Value} (h : w.ownsRow base e z v n xs) : ∃ a c, v = .slice a n c := by
  obtain ⟨_, h | ⟨g, cap, cur, rfl, _⟩⟩ := h
  · obtain ⟨rfl, rfl⟩ := h; exact ⟨_, _, rfl⟩
  · exact ⟨_, _, rfl⟩

theorem thenA_N {w : World} {s : ByteArray} (hs : s.size ≤ 1048576) : AttrN w (thenA s) (.slice none 0 0) (.slice none 0 0) (.slice none 0 0) where
  id := .empty _ _
  ix := .empty _ _
  ii := .empty _ _
  wk := by show InI 3; unfold InI; decide
  wf := by show InI 0; unfold InI; decide
  wi := by show InI 0; unfold InI; decide
  wt := by show InI 0; unfold InI; decide
  zn := by show (4 : Nat) ≤ _; decide
  zs := hs

theorem Made.nil : Made [] ⟨#[]⟩ := ⟨by simp, rfl, by simp [ByteArray.size]⟩

theorem ones_size : ∀ x ∈ onesL, x.size ≤ 8 := by decide +kernel

theorem Made.first {x s : ByteArray} (hs : Made [] s) (hx : x ∈ onesL) : Made [x] (s ++ x) where
  ones := by intro y hy; simp at hy; exact hy ▸ hx
  join := by
    have := hs.join
    rw [ByteArray.data_append, Array.toList_append, this]; rfl
  size := by
    have := hs.size
    have h2 := ones_size x hx
    have h4 : s.size = 0 := by simpa using this
    rw [ByteArray.size_append, h4]; simp; omega

theorem Made.next {l : List ByteArray} {x s : ByteArray} (hs : Made l s) (h0 : l ≠ []) (hx : x ∈ onesL) : Made (l ++ [x]) ((s ++ (⟨#[44]⟩ : ByteArray)) ++ x) where
  ones := by
    intro y hy
    rcases List.mem_append.1 hy with hy | hy
    · exact hs.ones y hy
    · simp at hy; exact hy ▸ hx
  join := by
    rw [List.map_append, List.map_singleton, joinD_snoc (by simpa using h0), ByteArray.data_append, ByteArray.data_append, Array.toList_append, Array.toList_append, hs.join]
    simp
  size := by
    have := hs.size
    have h2 := ones_size x hx
    have h3 : (⟨#[44]⟩ : ByteArray).size = 1 := rfl
    rw [ByteArray.size_append, ByteArray.size_append, h3]; simp; omega

theorem neg_mod {z : Int} (h : z < 0) : ∃ m : Nat, -((z + 1).tmod 10) = (m : Int) ∧ m < onesL.length := by
  refine ⟨((-(z + 1)) % 10).toNat, ?_, ?_⟩
  · rw [← Int.neg_tmod, Int.tmod_eq_emod_of_nonneg (by omega)]; omega
  · show _ < 10; omega
theorem pos_mod {z : Int} (h : ¬ z < 0) : ∃ m : Nat, z % 10 = (m : Int) ∧ m < onesL.length := by
  refine ⟨(z % 10).toNat, by omega, ?_⟩
  show _ < 10; omega

set_option maxRecDepth 100000 in
set_option maxHeartbeats 4000000 in
theorem thenlaw_any {w : World} {v : Value} {zs : List Int} (h : IntsIn w v zs) (hG : Glob w) :
    Calls Tryd.prog 6 #[v] w fun e w' => e = .returned (.bool true) ∧ Below w.heap.size w w' := by
  obtain ⟨i0, hi, hz0, hz1, hz2⟩ := info_parts info_string
  have hzl := h.wf.1
  obtain ⟨a1, c1, rfl⟩ := h.shape
  have HI := Lib.hid h
  have HG := Lib.hid hG
  clear h hG
  go_enter Tryd.func6, Tryd.ntmps6
  go_wp2_with fail
  have hO : Hid (StrsIn (w.alloc (Obj.cells #[.string ⟨#[73, 100, 101, 110, 116, 105, 116, 121]⟩, .string ⟨#[78, 101, 103]⟩, .string ⟨#[65, 98, 115]⟩, .string ⟨#[78, 111, 116]⟩, .string ⟨#[82, 101, 108, 117]⟩, .string ⟨#[83, 113, 114, 116]⟩, .string ⟨#[70, 108, 111, 111, 114]⟩, .string ⟨#[69, 120, 112]⟩, .string ⟨#[83, 105, 103, 109, 111, 105, 100]⟩, .string ⟨#[84, 97, 110, 104]⟩] 9)) (.slice (some ⟨w.heap.size, 0, none⟩) 10 10) onesL) := Lib.hid (strs_new w onesL _ rfl 10 rfl (by decide) (by decide))
  have hB1 : Hid (Below w.heap.size w (w.alloc (Obj.cells #[.string ⟨#[73, 100, 101, 110, 116, 105, 116, 121]⟩, .string ⟨#[78, 101, 103]⟩, .string ⟨#[65, 98, 115]⟩, .string ⟨#[78, 111, 116]⟩, .string ⟨#[82, 101, 108, 117]⟩, .string ⟨#[83, 113, 114, 116]⟩, .string ⟨#[70, 108, 111, 111, 114]⟩, .string ⟨#[69, 120, 112]⟩, .string ⟨#[83, 105, 103, 109, 111, 105, 100]⟩, .string ⟨#[84, 97, 110, 104]⟩] 9))) := Lib.hid ((Below.refl _ w).alloc (Nat.le_refl _) _)
  generalize (w.alloc (Obj.cells #[.string ⟨#[73, 100, 101, 110, 116, 105, 116, 121]⟩, .string ⟨#[78, 101, 103]⟩, .string ⟨#[65, 98, 115]⟩, .string ⟨#[78, 111, 116]⟩, .string ⟨#[82, 101, 108, 117]⟩, .string ⟨#[83, 113, 114, 116]⟩, .string ⟨#[70, 108, 111, 111, 114]⟩, .string ⟨#[69, 120, 112]⟩, .string ⟨#[83, 105, 103, 109, 111, 105, 100]⟩, .string ⟨#[84, 97, 110, 104]⟩] 9)) = W1 at hO hB1 ⊢
  go_loopw [4, 5, 6] (fun v sv i wr => ∃ (ps : List ByteArray) (s : ByteArray) (pl : Nat), pl ≤ zs.length ∧ pl ≤ 40 ∧ i = .int .i64 (pl : Int) ∧ sv = .string s ∧ Hid (Made ps s) ∧ Hid (ps.length = pl) ∧ Hid (wr.ownsRow W1.heap.size 9 1 v pl (ps.map Value.string)) ∧ Hid (Below W1.heap.size W1 wr)) (fun _ _ i _ => 40 - (intOf i).toNat)
  case atStart => exact ⟨[], ⟨#[]⟩, 0, Nat.zero_le _, by omega, rfl, rfl, Lib.hid Made.nil, Lib.hid rfl, Lib.hid (World.ownsRow_nil _ _ _ _), Lib.hid (Below.refl _ _)⟩
  case round =>
    obtain ⟨ps, s, pl, h1, h2, rfl, rfl, hM, hPL, hown, hB⟩ := hrel
    by_cases hk1 : pl < zs.length
    · by_cases hk2 : pl < 40
      · have hki1 : (pl : Int) < (zs.length : Int) := by omega
        have hki2 : (pl : Int) < 40 := by omega
        obtain ⟨b, off, cap, hv, hb, hr, hz⟩ := HI.out.rows hk1
        obtain ⟨rfl, _, rfl⟩ := Value.slice.inj hv
        have c0 : wr.cell? ⟨b, off + pl, none⟩ = some (.int .i64 (zs.getD pl 0)) := ((hB1.out.trans (hB.out.mono hB1.out.size)).cell (p := ⟨b, off + pl, none⟩) hb).trans (hr _ hk1)
        clear hv hr
        generalize zs.getD pl 0 = z at c0 hz
        obtain ⟨hz1', hz2'⟩ := hz
        by_cases hneg : z < 0
        · obtain ⟨m, he, hml⟩ := neg_mod hneg
          obtain ⟨op, hop⟩ : ∃ op, onesL[m]? = some op := ⟨_, List.getElem?_eq_getElem hml⟩
          obtain ⟨bo, oo, co, hvo, hbo, hro⟩ := hO.out.rows m op hop
          have hbb := (Value.slice.inj hvo).1
          obtain ⟨rfl, rfl, _⟩ := Addr.mk.inj (Option.some.inj hbb)
          have c1 : wr.cell? ⟨w.heap.size, m, none⟩ = some (.string op) := by
            have := (hB.out.cell (p := ⟨w.heap.size, 0 + m, none⟩) hbo).trans (hro m op hop)
            rwa [Nat.zero_add] at this
          have hx : Hid (op ∈ onesL) := Lib.hid (List.mem_of_getElem? hop)
          have hxs := ones_size op hx.out
          have hss : s.size ≤ pl * 9 := by have := hM.out.size; rwa [hPL.out] at this
          have hmi : (m : Int) < 10 := by have : m < 10 := hml; omega
          have hmi0 : (0 : Int) ≤ (m : Int) := by omega
          clear hvo hbb hro hop hml
          by_cases hp : pl = 0
          · have hp0 : ¬ (0 : Int) < (pl : Int) := by omega
            clear hp
            go_wp2_with (at_builtin; refine wpList_append_own _ rfl _ _ 22 rfl W1.heap.size 9 i0 (.string ⟨#[]⟩) 1 16 Tryd.underlying22 hi hz0 hz1 hz2 rfl (by decide) _ _ _ rfl (hown.out.alloc _) ⟨wr.heap.size, 0, none⟩ 1 1 [.string op] rfl rfl ?A1 ?A2 ?A3 ?A4 ?A5 ?_)
            case A2 => rfl
            case A3 => unfold maxLen; omega
            case A4 => omega
            case A5 => have := hB.out.size; simp; omega
            intro v' w2 hown' hgrow _
            have hb2 : Hid (Below W1.heap.size W1 w2) := Lib.hid ((hB.out.alloc hB.out.size _).grown hgrow (by have := hB.out.size; simp; omega) fun g hg => (hown.out.lt g hg).1)
            have ho2 : Hid (w2.ownsRow W1.heap.size 9 1 v' (pl + 1) ((ps ++ [op]).map Value.string)) := Lib.hid (by rw [List.map_append]; exact hown')
            have hM2 : Hid (Made (ps ++ [op]) (s ++ op)) := Lib.hid (by
              have e : ps = [] := List.eq_nil_of_length_eq_zero (by rw [hPL.out]; omega)
              have := hM.out
              subst e
              exact this.first hx.out)
            clear hown' hgrow hown hB
            go_wp2_with fail
            go_roundw
            case rel => exact ⟨ps ++ [op], _, pl + 1, by omega, by omega, by go_num, rfl, hM2, Lib.hid (by rw [List.length_append, hPL.out]; rfl), ho2, hb2⟩
            case measure => simp [intOf]; omega
          · have hpl : (0 : Int) < (pl : Int) := by omega
            clear hp
            go_wp2_with (at_builtin; refine wpList_append_own _ rfl _ _ 22 rfl W1.heap.size 9 i0 (.string ⟨#[]⟩) 1 16 Tryd.underlying22 hi hz0 hz1 hz2 rfl (by decide) _ _ _ rfl (hown.out.alloc _) ⟨wr.heap.size, 0, none⟩ 1 1 [.string op] rfl rfl ?B1 ?B2 ?B3 ?B4 ?B5 ?_)
            case B2 => rfl
            case B3 => unfold maxLen; omega
            case B4 => omega
            case B5 => have := hB.out.size; simp; omega
            intro v' w2 hown' hgrow _
            have hb2 : Hid (Below W1.heap.size W1 w2) := Lib.hid ((hB.out.alloc hB.out.size _).grown hgrow (by have := hB.out.size; simp; omega) fun g hg => (hown.out.lt g hg).1)
            have ho2 : Hid (w2.ownsRow W1.heap.size 9 1 v' (pl + 1) ((ps ++ [op]).map Value.string)) := Lib.hid (by rw [List.map_append]; exact hown')
            have hM2 : Hid (Made (ps ++ [op]) ((s ++ (⟨#[44]⟩ : ByteArray)) ++ op)) := Lib.hid (hM.out.next (fun e => by have := hPL.out; rw [e] at this; simp at this; omega) hx.out)
            clear hown' hgrow hown hB
            go_wp2_with fail
            go_roundw
            case rel => exact ⟨ps ++ [op], _, pl + 1, by omega, by omega, by go_num, rfl, hM2, Lib.hid (by rw [List.length_append, hPL.out]; rfl), ho2, hb2⟩
            case measure => simp [intOf]; omega
        · obtain ⟨m, he, hml⟩ := pos_mod hneg
          obtain ⟨op, hop⟩ : ∃ op, onesL[m]? = some op := ⟨_, List.getElem?_eq_getElem hml⟩
          obtain ⟨bo, oo, co, hvo, hbo, hro⟩ := hO.out.rows m op hop
          have hbb := (Value.slice.inj hvo).1
          obtain ⟨rfl, rfl, _⟩ := Addr.mk.inj (Option.some.inj hbb)
          have c1 : wr.cell? ⟨w.heap.size, m, none⟩ = some (.string op) := by
            have := (hB.out.cell (p := ⟨w.heap.size, 0 + m, none⟩) hbo).trans (hro m op hop)
            rwa [Nat.zero_add] at this
          have hx : Hid (op ∈ onesL) := Lib.hid (List.mem_of_getElem? hop)
          have hxs := ones_size op hx.out
          have hss : s.size ≤ pl * 9 := by have := hM.out.size; rwa [hPL.out] at this
          have hmi : (m : Int) < 10 := by have : m < 10 := hml; omega
          have hmi0 : (0 : Int) ≤ (m : Int) := by omega
          clear hvo hbb hro hop hml
          by_cases hp : pl = 0
          · have hp0 : ¬ (0 : Int) < (pl : Int) := by omega
            clear hp
            go_wp2_with (at_builtin; refine wpList_append_own _ rfl _ _ 22 rfl W1.heap.size 9 i0 (.string ⟨#[]⟩) 1 16 Tryd.underlying22 hi hz0 hz1 hz2 rfl (by decide) _ _ _ rfl (hown.out.alloc _) ⟨wr.heap.size, 0, none⟩ 1 1 [.string op] rfl rfl ?C1 ?C2 ?C3 ?C4 ?C5 ?_)
            case C2 => rfl
            case C3 => unfold maxLen; omega
            case C4 => omega
            case C5 => have := hB.out.size; simp; omega
            intro v' w2 hown' hgrow _
            have hb2 : Hid (Below W1.heap.size W1 w2) := Lib.hid ((hB.out.alloc hB.out.size _).grown hgrow (by have := hB.out.size; simp; omega) fun g hg => (hown.out.lt g hg).1)
            have ho2 : Hid (w2.ownsRow W1.heap.size 9 1 v' (pl + 1) ((ps ++ [op]).map Value.string)) := Lib.hid (by rw [List.map_append]; exact hown')
            have hM2 : Hid (Made (ps ++ [op]) (s ++ op)) := Lib.hid (by
              have e : ps = [] := List.eq_nil_of_length_eq_zero (by rw [hPL.out]; omega)
              have := hM.out
              subst e
              exact this.first hx.out)
            clear hown' hgrow hown hB
            go_wp2_with fail
            go_roundw
            case rel => exact ⟨ps ++ [op], _, pl + 1, by omega, by omega, by go_num, rfl, hM2, Lib.hid (by rw [List.length_append, hPL.out]; rfl), ho2, hb2⟩
            case measure => simp [intOf]; omega
          · have hpl : (0 : Int) < (pl : Int) := by omega
            clear hp
            go_wp2_with (at_builtin; refine wpList_append_own _ rfl _ _ 22 rfl W1.heap.size 9 i0 (.string ⟨#[]⟩) 1 16 Tryd.underlying22 hi hz0 hz1 hz2 rfl (by decide) _ _ _ rfl (hown.out.alloc _) ⟨wr.heap.size, 0, none⟩ 1 1 [.string op] rfl rfl ?D1 ?D2 ?D3 ?D4 ?D5 ?_)
            case D2 => rfl
            case D3 => unfold maxLen; omega
            case D4 => omega
            case D5 => have := hB.out.size; simp; omega
            intro v' w2 hown' hgrow _
            have hb2 : Hid (Below W1.heap.size W1 w2) := Lib.hid ((hB.out.alloc hB.out.size _).grown hgrow (by have := hB.out.size; simp; omega) fun g hg => (hown.out.lt g hg).1)
            have ho2 : Hid (w2.ownsRow W1.heap.size 9 1 v' (pl + 1) ((ps ++ [op]).map Value.string)) := Lib.hid (by rw [List.map_append]; exact hown')
            have hM2 : Hid (Made (ps ++ [op]) ((s ++ (⟨#[44]⟩ : ByteArray)) ++ op)) := Lib.hid (hM.out.next (fun e => by have := hPL.out; rw [e] at this; simp at this; omega) hx.out)
            clear hown' hgrow hown hB
            go_wp2_with fail
            go_roundw
            case rel => exact ⟨ps ++ [op], _, pl + 1, by omega, by omega, by go_num, rfl, hM2, Lib.hid (by rw [List.length_append, hPL.out]; rfl), ho2, hb2⟩
            case measure => simp [intOf]; omega
      · have hk40 : ¬ (pl : Int) < 40 := by omega
        have hki1 : (pl : Int) < (zs.length : Int) := by omega
        clear hk1 hk2
        obtain ⟨aw, cw, rfl⟩ := owns_form hown.out
        have hWant := Lib.hid (StrsIn.of_owns hown.out hPL.out (by omega))
        have HBr := Lib.hid (hB1.out.trans (hB.out.mono hB1.out.size))
        have hsz : s.size ≤ 1000 := by have := hM.out.size; rw [hPL.out] at this; omega
        clear hB1 hO HI
        go_wp2_with fail
        have hS : Hid (StrsIn (((wr.alloc (Obj.cells #[.string ⟨#[120]⟩] 9)).alloc (Obj.cells #[.string ⟨#[116, 104, 101, 110]⟩, .int .i64 3, .int .i64 0, .int .i64 0, .string s, .int .i64 0, .slice none 0 0, .slice none 0 0, .slice none 0 0] 37)).alloc (Obj.cells #[.string ⟨#[82, 101, 108, 117]⟩, .string ⟨#[]⟩, .slice (some ⟨wr.heap.size, 0, none⟩) 1 1, .string ⟨#[121]⟩, .slice (some ⟨wr.heap.size + 1, 0, none⟩) 1 1] 25)) (.slice (some ⟨wr.heap.size, 0, none⟩) 1 1) [sx]) := Lib.hid ((strs_new wr [sx] _ rfl 1 rfl (by simp) (by decide)).below (((Below.refl _ _).alloc (Nat.le_refl _) _).alloc (by simp) _))
        have hA : Hid (AttrsIn (((wr.alloc (Obj.cells #[.string ⟨#[120]⟩] 9)).alloc (Obj.cells #[.string ⟨#[116, 104, 101, 110]⟩, .int .i64 3, .int .i64 0, .int .i64 0, .string s, .int .i64 0, .slice none 0 0, .slice none 0 0, .slice none 0 0] 37)).alloc (Obj.cells #[.string ⟨#[82, 101, 108, 117]⟩, .string ⟨#[]⟩, .slice (some ⟨wr.heap.size, 0, none⟩) 1 1, .string ⟨#[121]⟩, .slice (some ⟨wr.heap.size + 1, 0, none⟩) 1 1] 25)) (.slice (some ⟨wr.heap.size + 1, 0, none⟩) 1 1) [thenA s]) := Lib.hid (by
          have h := attr_new (wr.alloc (Obj.cells #[.string ⟨#[120]⟩] 9)) (thenA s) (vd := .slice none 0 0) (vx := .slice none 0 0) (vi := .slice none 0 0) (thenA_N (by omega))
          rw [World.size_alloc] at h
          exact h.below ((Below.refl _ _).alloc (Nat.le_refl _) _))
        have hX : Hid (BoxN (((wr.alloc (Obj.cells #[.string ⟨#[120]⟩] 9)).alloc (Obj.cells #[.string ⟨#[116, 104, 101, 110]⟩, .int .i64 3, .int .i64 0, .int .i64 0, .string s, .int .i64 0, .slice none 0 0, .slice none 0 0, .slice none 0 0] 37)).alloc (Obj.cells #[.string ⟨#[82, 101, 108, 117]⟩, .string ⟨#[]⟩, .slice (some ⟨wr.heap.size, 0, none⟩) 1 1, .string ⟨#[121]⟩, .slice (some ⟨wr.heap.size + 1, 0, none⟩) 1 1] 25)) (wr.heap.size + 1 + 1) #[.string ⟨#[82, 101, 108, 117]⟩, .string ⟨#[]⟩, .slice (some ⟨wr.heap.size, 0, none⟩) 1 1, .string ⟨#[121]⟩, .slice (some ⟨wr.heap.size + 1, 0, none⟩) 1 1] 25) := Lib.hid (by
          have h := BoxN.new ((wr.alloc (Obj.cells #[.string ⟨#[120]⟩] 9)).alloc (Obj.cells #[.string ⟨#[116, 104, 101, 110]⟩, .int .i64 3, .int .i64 0, .int .i64 0, .string s, .int .i64 0, .slice none 0 0, .slice none 0 0, .slice none 0 0] 37)) #[.string ⟨#[82, 101, 108, 117]⟩, .string ⟨#[]⟩, .slice (some ⟨wr.heap.size, 0, none⟩) 1 1, .string ⟨#[121]⟩, .slice (some ⟨wr.heap.size + 1, 0, none⟩) 1 1] 25
          rw [World.size_alloc, World.size_alloc] at h
          exact h)
        have hBx : Hid (Below wr.heap.size wr (((wr.alloc (Obj.cells #[.string ⟨#[120]⟩] 9)).alloc (Obj.cells #[.string ⟨#[116, 104, 101, 110]⟩, .int .i64 3, .int .i64 0, .int .i64 0, .string s, .int .i64 0, .slice none 0 0, .slice none 0 0, .slice none 0 0] 37)).alloc (Obj.cells #[.string ⟨#[82, 101, 108, 117]⟩, .string ⟨#[]⟩, .slice (some ⟨wr.heap.size, 0, none⟩) 1 1, .string ⟨#[121]⟩, .slice (some ⟨wr.heap.size + 1, 0, none⟩) 1 1] 25))) := Lib.hid ((((Below.refl _ wr).alloc (Nat.le_refl _) _).alloc (by simp) _).alloc (by simp; omega) _)
        generalize (((wr.alloc (Obj.cells #[.string ⟨#[120]⟩] 9)).alloc (Obj.cells #[.string ⟨#[116, 104, 101, 110]⟩, .int .i64 3, .int .i64 0, .int .i64 0, .string s, .int .i64 0, .slice none 0 0, .slice none 0 0, .slice none 0 0] 37)).alloc (Obj.cells #[.string ⟨#[82, 101, 108, 117]⟩, .string ⟨#[]⟩, .slice (some ⟨wr.heap.size, 0, none⟩) 1 1, .string ⟨#[121]⟩, .slice (some ⟨wr.heap.size + 1, 0, none⟩) 1 1] 25)) = W4 at hS hA hX hBx ⊢
        have B7 := Lib.hid (HBr.out.trans (hBx.out.mono HBr.out.size))
        have hW4 := Lib.hid (hWant.out.below hBx.out)
        have HLV : Hid (∀ W, Below w.heap.size w W → Calls Tryd.prog 10 #[] W fun e w' => e = .returned (.bool true) ∧ Below W.heap.size W w') := Lib.hid (fun W hW => live_any (HG.out.below hW))
        by_cases hp : pl = 0
        · subst hp
          have hs0 : s = ⟨#[]⟩ := by
            have h1 := hM.out.size
            rw [hPL.out] at h1
            exact data_inj (by have h2 : s.data.size = 0 := by have : s.data.size = s.size := rfl; omega
                               rw [Array.eq_empty_of_size_eq_zero h2])
          subst hs0
          refine (then_node then_nothing (HG.out.below B7.out) hS.out hA.out).mono ?_
          rintro e w5 ⟨B8, v5, rfl, hs5⟩
          have B9 := Lib.hid (B7.out.trans (B8.mono B7.out.size))
          obtain ⟨a5, c5, rfl⟩ := hs5.form
          clear B8 hs5
          go_wp2_with (go_at_call 10; refine (HLV.out _ B9.out).mono ?_; rintro e w6 ⟨rfl, B10⟩; have B11 := Lib.hid (B9.out.trans (B10.mono B9.out.size)); clear B10)
          go_ret
          exact ⟨rfl, B11.out⟩
        · have hj := then_join (l := ps) (fun e => hp (by have := hPL.out; rw [e] at this; simpa using this.symm)) hM.out.ones hM.out.join
          have hchk := relu_check (s := s) (by rw [hj])
          have hpl : (pl : Int) ≠ 0 := by omega
          have hj := Lib.hid hj
          have hchk := Lib.hid hchk
          clear hp
          refine (then_node hj.out (HG.out.below B7.out) hS.out hA.out).mono ?_
          rintro e w5 ⟨B8, v5, rfl, hs5⟩
          have HX5 := Lib.hid (hX.out.below' B8)
          have HSM := Lib.hid (same_any hs5 (hW4.out.below B8))
          have HSS := Lib.hid (hS.out.below B8)
          have HAA := Lib.hid (hA.out.below B8)
          have B9 := Lib.hid (B7.out.trans (B8.mono B7.out.size))
          obtain ⟨a5, c5, rfl⟩ := hs5.form
          clear B8 hs5
          go_wp2_with (first | (go_at_call 13; refine HSM.out.mono ?_; rintro e w6 ⟨rfl, B10⟩; have B11 := Lib.hid (B9.out.trans (B10.mono B9.out.size)); have HX6 := Lib.hid (HX5.out.below' B10); have HSS6 := Lib.hid (HSS.out.below B10); have HAA6 := Lib.hid (HAA.out.below B10); clear B10; have w6k0 : w6.cell? ⟨wr.heap.size + 1 + 1, 0, none⟩ = some (.string ⟨#[82, 101, 108, 117]⟩) := HX6.out.cell 0 rfl; have w6k1 : w6.cell? ⟨wr.heap.size + 1 + 1, 1, none⟩ = some (.string ⟨#[]⟩) := HX6.out.cell 1 rfl; have w6k2 : w6.cell? ⟨wr.heap.size + 1 + 1, 2, none⟩ = some (.slice (some ⟨wr.heap.size, 0, none⟩) 1 1) := HX6.out.cell 2 rfl; have w6k3 : w6.cell? ⟨wr.heap.size + 1 + 1, 3, none⟩ = some (.string ⟨#[121]⟩) := HX6.out.cell 3 rfl; have w6k4 : w6.cell? ⟨wr.heap.size + 1 + 1, 4, none⟩ = some (.slice (some ⟨wr.heap.size + 1, 0, none⟩) 1 1) := HX6.out.cell 4 rfl) | (go_at_call 11; refine (chk_node hchk.out (HG.out.below B11.out) HSS6.out HAA6.out).mono ?_; rintro e w7 ⟨rfl, B12⟩; have B13 := Lib.hid (B11.out.trans (B12.mono B11.out.size)); clear B12) | (go_at_call 10; refine (HLV.out _ B13.out).mono ?_; rintro e w8 ⟨rfl, B14⟩; have B15 := Lib.hid (B13.out.trans (B14.mono B13.out.size)); clear B14))
          go_ret
          exact ⟨rfl, B15.out⟩
    · have hki1 : ¬ (pl : Int) < (zs.length : Int) := by omega
      clear hk1
      obtain ⟨aw, cw, rfl⟩ := owns_form hown.out
      have hWant := Lib.hid (StrsIn.of_owns hown.out hPL.out (by omega))
      have HBr := Lib.hid (hB1.out.trans (hB.out.mono hB1.out.size))
      have hsz : s.size ≤ 1000 := by have := hM.out.size; rw [hPL.out] at this; omega
      clear hB1 hO HI
      go_wp2_with fail
      have hS : Hid (StrsIn (((wr.alloc (Obj.cells #[.string ⟨#[120]⟩] 9)).alloc (Obj.cells #[.string ⟨#[116, 104, 101, 110]⟩, .int .i64 3, .int .i64 0, .int .i64 0, .string s, .int .i64 0, .slice none 0 0, .slice none 0 0, .slice none 0 0] 37)).alloc (Obj.cells #[.string ⟨#[82, 101, 108, 117]⟩, .string ⟨#[]⟩, .slice (some ⟨wr.heap.size, 0, none⟩) 1 1, .string ⟨#[121]⟩, .slice (some ⟨wr.heap.size + 1, 0, none⟩) 1 1] 25)) (.slice (some ⟨wr.heap.size, 0, none⟩) 1 1) [sx]) := Lib.hid ((strs_new wr [sx] _ rfl 1 rfl (by simp) (by decide)).below (((Below.refl _ _).alloc (Nat.le_refl _) _).alloc (by simp) _))
      have hA : Hid (AttrsIn (((wr.alloc (Obj.cells #[.string ⟨#[120]⟩] 9)).alloc (Obj.cells #[.string ⟨#[116, 104, 101, 110]⟩, .int .i64 3, .int .i64 0, .int .i64 0, .string s, .int .i64 0, .slice none 0 0, .slice none 0 0, .slice none 0 0] 37)).alloc (Obj.cells #[.string ⟨#[82, 101, 108, 117]⟩, .string ⟨#[]⟩, .slice (some ⟨wr.heap.size, 0, none⟩) 1 1, .string ⟨#[121]⟩, .slice (some ⟨wr.heap.size + 1, 0, none⟩) 1 1] 25)) (.slice (some ⟨wr.heap.size + 1, 0, none⟩) 1 1) [thenA s]) := Lib.hid (by
        have h := attr_new (wr.alloc (Obj.cells #[.string ⟨#[120]⟩] 9)) (thenA s) (vd := .slice none 0 0) (vx := .slice none 0 0) (vi := .slice none 0 0) (thenA_N (by omega))
        rw [World.size_alloc] at h
        exact h.below ((Below.refl _ _).alloc (Nat.le_refl _) _))
      have hX : Hid (BoxN (((wr.alloc (Obj.cells #[.string ⟨#[120]⟩] 9)).alloc (Obj.cells #[.string ⟨#[116, 104, 101, 110]⟩, .int .i64 3, .int .i64 0, .int .i64 0, .string s, .int .i64 0, .slice none 0 0, .slice none 0 0, .slice none 0 0] 37)).alloc (Obj.cells #[.string ⟨#[82, 101, 108, 117]⟩, .string ⟨#[]⟩, .slice (some ⟨wr.heap.size, 0, none⟩) 1 1, .string ⟨#[121]⟩, .slice (some ⟨wr.heap.size + 1, 0, none⟩) 1 1] 25)) (wr.heap.size + 1 + 1) #[.string ⟨#[82, 101, 108, 117]⟩, .string ⟨#[]⟩, .slice (some ⟨wr.heap.size, 0, none⟩) 1 1, .string ⟨#[121]⟩, .slice (some ⟨wr.heap.size + 1, 0, none⟩) 1 1] 25) := Lib.hid (by
        have h := BoxN.new ((wr.alloc (Obj.cells #[.string ⟨#[120]⟩] 9)).alloc (Obj.cells #[.string ⟨#[116, 104, 101, 110]⟩, .int .i64 3, .int .i64 0, .int .i64 0, .string s, .int .i64 0, .slice none 0 0, .slice none 0 0, .slice none 0 0] 37)) #[.string ⟨#[82, 101, 108, 117]⟩, .string ⟨#[]⟩, .slice (some ⟨wr.heap.size, 0, none⟩) 1 1, .string ⟨#[121]⟩, .slice (some ⟨wr.heap.size + 1, 0, none⟩) 1 1] 25
        rw [World.size_alloc, World.size_alloc] at h
        exact h)
      have hBx : Hid (Below wr.heap.size wr (((wr.alloc (Obj.cells #[.string ⟨#[120]⟩] 9)).alloc (Obj.cells #[.string ⟨#[116, 104, 101, 110]⟩, .int .i64 3, .int .i64 0, .int .i64 0, .string s, .int .i64 0, .slice none 0 0, .slice none 0 0, .slice none 0 0] 37)).alloc (Obj.cells #[.string ⟨#[82, 101, 108, 117]⟩, .string ⟨#[]⟩, .slice (some ⟨wr.heap.size, 0, none⟩) 1 1, .string ⟨#[121]⟩, .slice (some ⟨wr.heap.size + 1, 0, none⟩) 1 1] 25))) := Lib.hid ((((Below.refl _ wr).alloc (Nat.le_refl _) _).alloc (by simp) _).alloc (by simp; omega) _)
      generalize (((wr.alloc (Obj.cells #[.string ⟨#[120]⟩] 9)).alloc (Obj.cells #[.string ⟨#[116, 104, 101, 110]⟩, .int .i64 3, .int .i64 0, .int .i64 0, .string s, .int .i64 0, .slice none 0 0, .slice none 0 0, .slice none 0 0] 37)).alloc (Obj.cells #[.string ⟨#[82, 101, 108, 117]⟩, .string ⟨#[]⟩, .slice (some ⟨wr.heap.size, 0, none⟩) 1 1, .string ⟨#[121]⟩, .slice (some ⟨wr.heap.size + 1, 0, none⟩) 1 1] 25)) = W4 at hS hA hX hBx ⊢
      have B7 := Lib.hid (HBr.out.trans (hBx.out.mono HBr.out.size))
      have hW4 := Lib.hid (hWant.out.below hBx.out)
      have HLV : Hid (∀ W, Below w.heap.size w W → Calls Tryd.prog 10 #[] W fun e w' => e = .returned (.bool true) ∧ Below W.heap.size W w') := Lib.hid (fun W hW => live_any (HG.out.below hW))
      by_cases hp : pl = 0
      · subst hp
        have hs0 : s = ⟨#[]⟩ := by
          have h1 := hM.out.size
          rw [hPL.out] at h1
          exact data_inj (by have h2 : s.data.size = 0 := by have : s.data.size = s.size := rfl; omega
                             rw [Array.eq_empty_of_size_eq_zero h2])
        subst hs0
        refine (then_node then_nothing (HG.out.below B7.out) hS.out hA.out).mono ?_
        rintro e w5 ⟨B8, v5, rfl, hs5⟩
        have B9 := Lib.hid (B7.out.trans (B8.mono B7.out.size))
        obtain ⟨a5, c5, rfl⟩ := hs5.form
        clear B8 hs5
        go_wp2_with (go_at_call 10; refine (HLV.out _ B9.out).mono ?_; rintro e w6 ⟨rfl, B10⟩; have B11 := Lib.hid (B9.out.trans (B10.mono B9.out.size)); clear B10)
        go_ret
        exact ⟨rfl, B11.out⟩
      · have hj := then_join (l := ps) (fun e => hp (by have := hPL.out; rw [e] at this; simpa using this.symm)) hM.out.ones hM.out.join
        have hchk := relu_check (s := s) (by rw [hj])
        have hpl : (pl : Int) ≠ 0 := by omega
        have hj := Lib.hid hj
        have hchk := Lib.hid hchk
        clear hp
        refine (then_node hj.out (HG.out.below B7.out) hS.out hA.out).mono ?_
        rintro e w5 ⟨B8, v5, rfl, hs5⟩
        have HX5 := Lib.hid (hX.out.below' B8)
        have HSM := Lib.hid (same_any hs5 (hW4.out.below B8))
        have HSS := Lib.hid (hS.out.below B8)
        have HAA := Lib.hid (hA.out.below B8)
        have B9 := Lib.hid (B7.out.trans (B8.mono B7.out.size))
        obtain ⟨a5, c5, rfl⟩ := hs5.form
        clear B8 hs5
        go_wp2_with (first | (go_at_call 13; refine HSM.out.mono ?_; rintro e w6 ⟨rfl, B10⟩; have B11 := Lib.hid (B9.out.trans (B10.mono B9.out.size)); have HX6 := Lib.hid (HX5.out.below' B10); have HSS6 := Lib.hid (HSS.out.below B10); have HAA6 := Lib.hid (HAA.out.below B10); clear B10; have w6k0 : w6.cell? ⟨wr.heap.size + 1 + 1, 0, none⟩ = some (.string ⟨#[82, 101, 108, 117]⟩) := HX6.out.cell 0 rfl; have w6k1 : w6.cell? ⟨wr.heap.size + 1 + 1, 1, none⟩ = some (.string ⟨#[]⟩) := HX6.out.cell 1 rfl; have w6k2 : w6.cell? ⟨wr.heap.size + 1 + 1, 2, none⟩ = some (.slice (some ⟨wr.heap.size, 0, none⟩) 1 1) := HX6.out.cell 2 rfl; have w6k3 : w6.cell? ⟨wr.heap.size + 1 + 1, 3, none⟩ = some (.string ⟨#[121]⟩) := HX6.out.cell 3 rfl; have w6k4 : w6.cell? ⟨wr.heap.size + 1 + 1, 4, none⟩ = some (.slice (some ⟨wr.heap.size + 1, 0, none⟩) 1 1) := HX6.out.cell 4 rfl) | (go_at_call 11; refine (chk_node hchk.out (HG.out.below B11.out) HSS6.out HAA6.out).mono ?_; rintro e w7 ⟨rfl, B12⟩; have B13 := Lib.hid (B11.out.trans (B12.mono B11.out.size)); clear B12) | (go_at_call 10; refine (HLV.out _ B13.out).mono ?_; rintro e w8 ⟨rfl, B14⟩; have B15 := Lib.hid (B13.out.trans (B14.mono B13.out.size)); clear B14))
        go_ret
        exact ⟨rfl, B15.out⟩
end Go.Proofs.YtijeblfhkkfjgaaDoor
