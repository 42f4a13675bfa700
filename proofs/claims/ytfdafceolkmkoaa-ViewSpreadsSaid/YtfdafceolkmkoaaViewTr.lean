/- The walk of view.Transpose, every way out. -/
import Derived.Test.YtfdafceolkmkoaaViewZ
import Derived.Test.YtfdafceolkmkoaaViewPw
set_option linter.unusedVariables false
namespace Go.Proofs.Ytfdafceolkmkoaa
open Go.RowKit Vw

/-- What comes out of Transpose. -/
def trO (off : Int) (ds ss ps : List Int) : Int × Int × List Int × List Int :=
  if mayV off ds ss = false then (1, 0, [], []) else if sortI ps = rng ps.length ∧ ps.length = ds.length then (0, off, ps.map fun p => ds.getD p.toNat 0, ps.map fun p => ss.getD p.toNat 0) else (4, 0, [], [])

def ToK (xs : List Int) (k : Nat) : Prop := ∀ j, j < k → xs.getD j 0 = (j : Int)

theorem sortI_mem {zs : List Int} {z : Int} : z ∈ sortI zs ↔ z ∈ zs := (List.mergeSort_perm zs _).mem_iff

theorem Fresh.nil (B : Nat) (w : World) (a : Option Addr) (c : Nat) : Fresh B w (.slice a 0 c) [] := Or.inl ⟨rfl, a, c, rfl⟩

theorem is_rng {xs : List Int} {n : Nat} (hl : xs.length = n) (h : ToK xs n) : xs = rng n := by
  refine List.ext_getElem (by rw [hl, rng_length]) fun j h1 h2 => ?_
  have e1 := h j (by omega)
  have e2 := rng_get (n := n) (k := j) (by omega)
  simp only [List.getD, List.getElem?_eq_getElem h1, List.getElem?_eq_getElem h2, Option.getD_some] at e1 e2
  rw [e1, e2]

attribute [local irreducible] mayV sortI rng pd

set_option maxRecDepth 100000 in
set_option maxHeartbeats 4000000 in
theorem transpose_not {w : World} (off : Int) (d s pv : Value) (ds ss ps : List Int) (hd : Hid (IntsIn w d ds)) (hs : Hid (IntsIn w s ss)) (hp : Hid (IntsIn w pv ps)) (hm : Hid (mayV off ds ss = false)) :
    Calls Try.prog 12 #[.agg #[.int .i64 off, d, s], pv] w fun e w' => e = .returned (.tuple #[.agg #[.int .i64 0, .slice none 0 0, .slice none 0 0], .int .i64 1]) ∧ Below w.heap.size w w' := by
  obtain ⟨a1, c1, rfl⟩ := hd.out.form
  obtain ⟨a2, c2, rfl⟩ := hs.out.form
  obtain ⟨a3, c3, rfl⟩ := hp.out.form
  obtain ⟨WA, hWA⟩ : ∃ WA, (w.alloc (.cells #[.int .i64 off, .slice a1 ds.length c1, .slice a2 ss.length c2] 24)).alloc (.cells #[.int .i64 0, .slice none 0 0, .slice none 0 0] 24) = WA := ⟨_, rfl⟩
  have bA : Below w.heap.size w WA := by rw [← hWA]; exact ((Below.refl _ w).alloc (Nat.le_refl _) _).alloc (by simp) _
  have zA : WA.heap.size = w.heap.size + 2 := by rw [← hWA]; simp
  have p1 : Box3 WA w.heap.size (.int .i64 off) (.slice a1 ds.length c1) (.slice a2 ss.length c2) := by rw [← hWA]; exact (Below.heap_alloc _ _ _ (by simp)).trans (Box3.new w _ _ _)
  have p2 : Box3 WA (w.heap.size + 1) (.int .i64 0) (.slice none 0 0) (.slice none 0 0) := by
    rw [← hWA]
    have := Box3.new (w.alloc (.cells #[.int .i64 off, .slice a1 ds.length c1, .slice a2 ss.length c2] 24)) (.int .i64 0) (.slice none 0 0) (.slice none 0 0)
    rwa [World.size_alloc] at this
  have q0 := p1.c0
  have q1 := p1.c1
  have q2 := p1.c2
  have HF := Lib.hid (fine_any (off := off) (hd.out.below bA) (hs.out.below bA))
  rw [hm.out] at HF
  have P2 := Lib.hid p2
  have BA := Lib.hid bA
  have ZA := Lib.hid zA
  clear p1 p2 bA zA
  go_enter Try.func12, Try.ntmps12
  go_wp2_with fail
  refine HF.out.mono ?_
  rintro e w1 ⟨rfl, hB1⟩
  have B1 : Hid (Below w.heap.size w w1) := Lib.hid (BA.out.trans (hB1.mono (by have := ZA.out; omega)))
  have P4 := Lib.hid (P2.out.below hB1)
  have f0 := P4.out.frozen 0
  have f1 := P4.out.frozen 1
  have f2 := P4.out.frozen 2
  have k0 := P4.out.c0
  have k1 := P4.out.c1
  have k2 := P4.out.c2
  clear hB1 q0 q1 q2
  have hend : Hid (Box3 (put3 w1 (w.heap.size + 1) (.int .i64 0) (.slice none 0 0) (.slice none 0 0)) (w.heap.size + 1) (.int .i64 0) (.slice none 0 0) (.slice none 0 0) ∧ Below w.heap.size w (put3 w1 (w.heap.size + 1) (.int .i64 0) (.slice none 0 0) (.slice none 0 0))) := Lib.hid ⟨P4.out.put _ _ _, below_put B1.out (by omega)⟩
  go_wp2
  obtain ⟨h1, h2⟩ := hend.out
  obtain ⟨x0, x1', x2'⟩ := box3_cells h1
  unfold put3 at x0 x1' x2' h2
  exact bodyPost_ret (v := .tuple #[.agg #[.int .i64 0, .slice none 0 0, .slice none 0 0], .int .i64 1]) (by simp [results, Try.f12, go_sem, x0, x1', x2']) rfl ⟨rfl, h2⟩

set_option maxRecDepth 100000 in
set_option maxHeartbeats 4000000 in
theorem transpose_rest {w : World} (off : Int) (d s pv : Value) (ds ss ps : List Int) (hd : Hid (IntsIn w d ds)) (hs : Hid (IntsIn w s ss)) (hp : Hid (IntsIn w pv ps)) (hm : Hid (mayV off ds ss = true)) (hno : Hid (¬ (sortI ps = rng ps.length ∧ ps.length = ds.length ∧ ds ≠ []))) :
    Calls Try.prog 12 #[.agg #[.int .i64 off, d, s], pv] w (ViewOut w (trO off ds ss ps)) := by
  obtain ⟨a1, c1, rfl⟩ := hd.out.form
  obtain ⟨a2, c2, rfl⟩ := hs.out.form
  obtain ⟨a3, c3, rfl⟩ := hp.out.form
  have hpl := hp.out.wf.1
  have hdl := hd.out.wf.1
  obtain ⟨WA, hWA⟩ : ∃ WA, (w.alloc (.cells #[.int .i64 off, .slice a1 ds.length c1, .slice a2 ss.length c2] 24)).alloc (.cells #[.int .i64 0, .slice none 0 0, .slice none 0 0] 24) = WA := ⟨_, rfl⟩
  have bA : Below w.heap.size w WA := by rw [← hWA]; exact ((Below.refl _ w).alloc (Nat.le_refl _) _).alloc (by simp) _
  have zA : WA.heap.size = w.heap.size + 2 := by rw [← hWA]; simp
  have p1 : Box3 WA w.heap.size (.int .i64 off) (.slice a1 ds.length c1) (.slice a2 ss.length c2) := by rw [← hWA]; exact (Below.heap_alloc _ _ _ (by simp)).trans (Box3.new w _ _ _)
  have p2 : Box3 WA (w.heap.size + 1) (.int .i64 0) (.slice none 0 0) (.slice none 0 0) := by
    rw [← hWA]
    have := Box3.new (w.alloc (.cells #[.int .i64 off, .slice a1 ds.length c1, .slice a2 ss.length c2] 24)) (.int .i64 0) (.slice none 0 0) (.slice none 0 0)
    rwa [World.size_alloc] at this
  have q0 := p1.c0
  have q1 := p1.c1
  have q2 := p1.c2
  have HF := Lib.hid (fine_any (off := off) (hd.out.below bA) (hs.out.below bA))
  rw [hm.out] at HF
  have P1 := Lib.hid p1
  have P2 := Lib.hid p2
  have BA := Lib.hid bA
  have ZA := Lib.hid zA
  clear p1 p2 bA zA
  have HNO : Hid (¬ (sortI ps = rng ps.length ∧ ps.length = ds.length) → trO off ds ss ps = (4, 0, [], [])) := Lib.hid fun h => by unfold trO; rw [if_neg (by rw [hm.out]; decide), if_neg h]
  have HYE : Hid (sortI ps = rng ps.length → ps.length = ds.length → trO off ds ss ps = (0, off, ps.map fun p => ds.getD p.toNat 0, ps.map fun p => ss.getD p.toNat 0)) := Lib.hid fun h g => by unfold trO; rw [if_neg (by rw [hm.out]; decide), if_pos ⟨h, g⟩]
  go_enter Try.func12, Try.ntmps12
  go_wp2_with fail
  refine HF.out.mono ?_
  rintro e w1 ⟨rfl, hB1⟩
  have z1 : w.heap.size + 2 ≤ w1.heap.size := by have := ZA.out; have := hB1.size; omega
  have B1 : Hid (Below w.heap.size w w1) := Lib.hid (BA.out.trans (hB1.mono (by have := ZA.out; omega)))
  have P3 := Lib.hid (P1.out.below hB1)
  have P4 := Lib.hid (P2.out.below hB1)
  obtain ⟨r0, r1, r2⟩ := box3_cells P3.out
  clear hB1 q0 q1 q2
  go_wp2_with (go_at_call 35; refine (values_any _ _ _ _).mono ?_; rintro e w2 ⟨rfl, rfl⟩)
  have B2 : Hid (Below w.heap.size w (w1.alloc (.cells #[.slice a3 ps.length c3] 22))) := Lib.hid (B1.out.alloc (by omega) _)
  have HSo := Lib.hid (sorted_any w1.heap.size a3 c3 ps (by omega) (w1.alloc (.cells #[.slice a3 ps.length c3] 22)) (by simp) (Boxed.new w1 22 (.slice a3 ps.length c3)).cell ((hp.out.below B2.out).rows.2))
  refine HSo.out.mono ?_
  rintro e w3 ⟨v, rfl, hfv, hB3⟩
  have z3 : w1.heap.size + 1 ≤ w3.heap.size := by have := hB3.size; simp at this; omega
  have iv : Hid (IntsIn w3 v (sortI ps)) := Lib.hid (hfv.ints (by rw [sortI_length]; omega) fun z hz => hp.out.wf.2 z (sortI_mem.1 hz))
  obtain ⟨a5, c5, rfl⟩ := iv.out.form
  have R5 := Lib.hid iv.out.rows.2
  have hsl := sortI_length ps
  rw [hsl] at iv ⊢
  have B3 : Hid (Below w.heap.size w w3) := Lib.hid (B2.out.trans (hB3.mono (by simp; omega)))
  have P5 : Hid (Box3 w3 w.heap.size (.int .i64 off) (.slice a1 ds.length c1) (.slice a2 ss.length c2)) := Lib.hid ((hB3.block _ (by simp; omega)).trans ((Below.heap_alloc _ _ _ (by omega)).trans P3.out))
  have P6 : Hid (Box3 w3 (w.heap.size + 1) (.int .i64 0) (.slice none 0 0) (.slice none 0 0)) := Lib.hid ((hB3.block _ (by simp; omega)).trans ((Below.heap_alloc _ _ _ (by omega)).trans P4.out))
  obtain ⟨y0, y1, y2⟩ := box3_cells P5.out
  have HO := Lib.hid (own_any (off := off) (hd.out.below B3.out) (hs.out.below B3.out))
  clear hB3 hfv r0 r1 r2
  have f0 := P6.out.frozen 0
  have f1 := P6.out.frozen 1
  have f2 := P6.out.frozen 2
  have k0 := P6.out.c0
  have k1 := P6.out.c1
  have k2 := P6.out.c2
  have hend : Hid (Box3 (put3 w3 (w.heap.size + 1) (.int .i64 0) (.slice none 0 0) (.slice none 0 0)) (w.heap.size + 1) (.int .i64 0) (.slice none 0 0) (.slice none 0 0) ∧ Below w.heap.size w (put3 w3 (w.heap.size + 1) (.int .i64 0) (.slice none 0 0) (.slice none 0 0))) := Lib.hid ⟨P6.out.put _ _ _, below_put B3.out (by omega)⟩
  go_wp2
  go_loop [19] (fun i => ∃ k : Nat, k ≤ ps.length ∧ i = .int .i64 (k : Int) ∧ Hid (ToK (sortI ps) k)) (fun i => ps.length - (intOf i).toNat)
  case atStart => exact ⟨0, Nat.zero_le _, rfl, Lib.hid fun j hj => by omega⟩
  case round =>
    obtain ⟨k, hk, rfl, hto⟩ := hrel
    by_cases hkl : k < ps.length
    · obtain ⟨b5, o5, rfl, hb5, hr5⟩ := R5.out k (by omega)
      have hcx := hr5 k (by omega)
      have hkli : (k : Int) < (ps.length : Int) := by omega
      by_cases hz : (sortI ps).getD k 0 = (k : Int)
      · have HN : Hid (ToK (sortI ps) (k + 1)) := Lib.hid fun j hj => by
          by_cases e : j = k
          · subst e; exact hz
          · exact hto.out j (by omega)
        rw [hz] at hcx
        clear hz
        go_wp2
        go_round
        case rel => exact ⟨k + 1, by omega, by go_num, HN⟩
        case measure => simp [intOf]; omega
      · have HN := Lib.hid (HNO.out fun h => hz (by rw [h.1]; exact rng_get hkl))
        generalize (sortI ps).getD k 0 = z at *
        have hb : (z != (k : Int)) = true := by simpa using hz
        go_wp2
        rw [HN.out]
        obtain ⟨h1, h2⟩ := hend.out
        obtain ⟨x0, x1', x2'⟩ := box3_cells h1
        unfold put3 at x0 x1' x2' h2
        exact bodyPost_ret (v := .tuple #[.agg #[.int .i64 0, .slice none 0 0, .slice none 0 0], .int .i64 4]) (by simp [results, Try.f12, go_sem, x0, x1', x2']) rfl ⟨h2, Or.inl ⟨by decide, rfl⟩⟩
    · obtain rfl : k = ps.length := by omega
      have hsr := Lib.hid (is_rng hsl hto.out)
      by_cases hl : ps.length = ds.length
      · have h0 : ds = [] := by
          cases ds with
          | nil => rfl
          | cons a l => exact absurd ⟨hsr.out, hl, by simp⟩ hno.out
        have hp0 : ps = [] := by subst h0; exact List.eq_nil_of_length_eq_zero hl
        have HY := Lib.hid (HYE.out hsr.out hl)
        have hss : ss = [] := by
          have := (may_good hm.out).2.2.2.2.1
          rw [h0] at this
          exact List.eq_nil_of_length_eq_zero this
        clear hsr hto hl hdl hpl HNO HYE HSo HF hno k0 k1 k2 f0 f1 f2 hend
        subst h0
        subst hp0
        subst hss
        have HY2 : Hid (trO off [] [] [] = (0, off, [], [])) := Lib.hid HY.out
        clear hm HY
        go_wp2_with fail
        refine HO.out.mono ?_
        rintro e w4 ⟨d', s', rfl, hfd, hfs, hap, hB4⟩
        obtain ⟨a6, c6, rfl⟩ := hfd.form
        obtain ⟨a7, c7, rfl⟩ := hfs.form
        have z4 : w3.heap.size ≤ w4.heap.size := hB4.size
        obtain ⟨W5, hW5⟩ : ∃ W5, Hid (w4.alloc (.cells #[.int .i64 off, .slice a6 0 c6, .slice a7 0 c7] 24) = W5) := ⟨_, Lib.hid rfl⟩
        have x5 : Hid (Box3 W5 w4.heap.size (.int .i64 off) (.slice a6 0 c6) (.slice a7 0 c7)) := Lib.hid (by rw [← hW5.out]; exact Box3.new w4 _ _ _)
        have p5 : Hid (Box3 W5 (w.heap.size + 1) (.int .i64 0) (.slice none 0 0) (.slice none 0 0)) := Lib.hid (by rw [← hW5.out]; exact (Below.heap_alloc _ _ _ (by omega)).trans (P6.out.below hB4))
        have b5 : Hid (Below w.heap.size w W5) := Lib.hid (by rw [← hW5.out]; exact (B3.out.trans (hB4.mono (by omega))).alloc (by omega) _)
        clear hfd hfs hap hB4
        go_wp2_with fail
        rw [hW5.out]
        obtain ⟨u0, u1, u2⟩ := box3_cells x5.out
        have f0 := p5.out.frozen 0
        have f1 := p5.out.frozen 1
        have f2 := p5.out.frozen 2
        have k0 := p5.out.c0
        have k1 := p5.out.c1
        have k2 := p5.out.c2
        have hend : Hid (Box3 (put3 W5 (w.heap.size + 1) (.int .i64 off) (.slice a6 0 c6) (.slice a7 0 c7)) (w.heap.size + 1) (.int .i64 off) (.slice a6 0 c6) (.slice a7 0 c7) ∧ Below w.heap.size w (put3 W5 (w.heap.size + 1) (.int .i64 off) (.slice a6 0 c6) (.slice a7 0 c7))) := Lib.hid ⟨p5.out.put _ _ _, below_put b5.out (by omega)⟩
        refine wp_loop_rounds 1 ?_
        rw [rounds_succ]
        go_wp2_with fail
        rw [HY2.out]
        obtain ⟨h1, h2⟩ := hend.out
        obtain ⟨x0, x1', x2'⟩ := box3_cells h1
        unfold put3 at x0 x1' x2' h2
        exact bodyPost_ret (v := .tuple #[.agg #[.int .i64 off, .slice a6 0 c6, .slice a7 0 c7], .int .i64 0]) (by simp [results, Try.f12, go_sem, x0, x1', x2']) rfl ⟨h2, Or.inr ⟨rfl, .slice a6 0 c6, .slice a7 0 c7, rfl, Fresh.nil _ _ _ _, Fresh.nil _ _ _ _⟩⟩
      · have HN := Lib.hid (HNO.out fun h => hl h.2)
        have hli : ((ps.length : Int) != (ds.length : Int)) = true := by simp; omega
        go_wp2
        rw [HN.out]
        obtain ⟨h1, h2⟩ := hend.out
        obtain ⟨x0, x1', x2'⟩ := box3_cells h1
        unfold put3 at x0 x1' x2' h2
        exact bodyPost_ret (v := .tuple #[.agg #[.int .i64 0, .slice none 0 0, .slice none 0 0], .int .i64 4]) (by simp [results, Try.f12, go_sem, x0, x1', x2']) rfl ⟨h2, Or.inl ⟨by decide, rfl⟩⟩

/-- TRANSPOSE: whatever the view, whatever the order. -/
theorem transpose_any {w : World} {off : Int} {d s pv : Value} {ds ss ps : List Int} (hd : IntsIn w d ds) (hs : IntsIn w s ss) (hp : IntsIn w pv ps) :
    Calls Try.prog 12 #[.agg #[.int .i64 off, d, s], pv] w (ViewOut w (trO off ds ss ps)) := by
  cases hm : mayV off ds ss
  · refine (transpose_not off d s pv ds ss ps (Lib.hid hd) (Lib.hid hs) (Lib.hid hp) (Lib.hid hm)).mono ?_
    rintro e w' ⟨he, hb⟩
    have ho : trO off ds ss ps = (1, 0, [], []) := by unfold trO; rw [if_pos hm]
    rw [ho]
    exact ⟨hb, Or.inl ⟨by decide, he⟩⟩
  · by_cases hno : sortI ps = rng ps.length ∧ ps.length = ds.length ∧ ds ≠ []
    · obtain ⟨h1, h2, h3⟩ := hno
      have hg := may_good hm
      have ho : trO off ds ss ps = (0, off, ps.map fun p => ds.getD p.toNat 0, ps.map fun p => ss.getD p.toNat 0) := by unfold trO; rw [if_neg (by rw [hm]; decide), if_pos ⟨h1, h2⟩]
      have hpos : 0 < ds.length := by cases ds with | nil => exact absurd rfl h3 | cons a l => simp
      cases hp with
      | empty a0 cap => simp at h2; omega
      | row b o cap _ n0 hc hb hr hlen hw =>
        refine (transpose_good off d s b o cap ds ss ps (Lib.hid hd) (Lib.hid hs) (Lib.hid hr) hb (Lib.hid (.row b o cap ps n0 hc hb hr hlen hw)) (Lib.hid hm) hg.2.1 hpos (Lib.hid h2) (Lib.hid hg.2.2.2.2.1) (Lib.hid h1)).mono ?_
        rintro e w' ⟨d', s', rfl, hB, f1, f2⟩
        rw [ho]
        exact ⟨hB, Or.inr ⟨rfl, d', s', rfl, f1, f2⟩⟩
    · exact transpose_rest off d s pv ds ss ps (Lib.hid hd) (Lib.hid hs) (Lib.hid hp) (Lib.hid hm) (Lib.hid hno)

end Go.Proofs.Ytfdafceolkmkoaa
