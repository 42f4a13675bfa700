/- view.Read: a view that may not be; whatever view. -/
import Derived.Test.YtfdafceolkmkoaaViewR
set_option linter.unusedVariables false
namespace Go.Proofs.Ytfdafceolkmkoaa
open Go.RowKit Vw

theorem cnt_ok : ∀ {zs : List Int} {n m : Int}, (∀ d ∈ zs, 1 ≤ d) → 1 ≤ n → n ≤ 65536 → cntLoop n zs = (m, 0) → m = n * pr zs ∧ n * pr zs ≤ 65536 ∧ ∀ d ∈ zs, d ≤ 65536
  | [], n, m, _, h1, h2, h => by
    simp only [cntLoop, Prod.mk.injEq, and_true] at h
    simp [pr, ← h, h2]
  | d :: ds, n, m, hp, h1, h2, h => by
    have hd := hp d (by simp)
    simp only [cntLoop] at h
    by_cases g : 65536 < n * d
    · rw [if_pos g] at h; simp at h
    · rw [if_neg g] at h
      have hn := mul_pos' h1 hd
      obtain ⟨a, b, c⟩ := cnt_ok (zs := ds) (n := n * d) (m := m) (fun x hx => hp x (by simp [hx])) hn (by omega) h
      have e : n * d * pr ds = n * pr (d :: ds) := by simp [pr, Int.mul_assoc]
      refine ⟨by rw [← e]; exact a, by rw [← e]; exact b, ?_⟩
      intro x hx
      rcases List.mem_cons.1 hx with rfl | hx
      · by_cases h3 : 65536 < x
        · exact absurd (mul_big h1 h3) g
        · omega
      · exact c x hx

/-- Dimensions that may be. -/
theorem cnt_good {zs : List Int} (h : (cnt zs).2 = 0) : (∀ d ∈ zs, 1 ≤ d ∧ d ≤ 65536) ∧ zs.length ≤ 6 ∧ (cnt zs).1 = pr zs ∧ pr zs ≤ 65536 := by
  cases ha : zs.any (fun d => decide (d < 1))
  · by_cases g : 6 < zs.length
    · rw [cnt_long ha g] at h; simp at h
    · rw [cnt_loop ha g] at h ⊢
      have hp : ∀ d ∈ zs, 1 ≤ d := fun d hd => by
        have := List.any_eq_false.1 ha d hd
        simpa using this
      obtain ⟨a, b, c⟩ := cnt_ok (n := 1) (m := (cntLoop 1 zs).1) hp (by decide) (by decide) (by rw [← h])
      rw [Int.one_mul] at a b
      exact ⟨fun d hd => ⟨hp d hd, c d hd⟩, by omega, a, b⟩
  · rw [cnt_low ha] at h; simp at h

theorem may_good {off : Int} {ds ss : List Int} (h : mayV off ds ss = true) : (∀ d ∈ ds, 1 ≤ d ∧ d ≤ 65536) ∧ ds.length ≤ 6 ∧ (cnt ds).1 = pr ds ∧ pr ds ≤ 65536 ∧ ss.length = ds.length ∧ 0 ≤ off ∧ off ≤ 65535 ∧ (∀ s ∈ ss, 0 ≤ s ∧ s ≤ 65536) := by
  unfold mayV at h
  simp only [Bool.and_eq_true, decide_eq_true_eq, Bool.not_eq_true'] at h
  obtain ⟨⟨⟨⟨h1, h2⟩, h3⟩, h4⟩, h5⟩ := h
  obtain ⟨a, b, c, d⟩ := cnt_good h1
  refine ⟨a, b, c, d, h2, h3, by omega, fun s hs => ?_⟩
  have := List.any_eq_false.1 h5 s hs
  unfold farS at this
  simp at this; omega

theorem may_none {off : Int} {ds ss data : List Int} (h : mayV off ds ss = false) : readL off ds ss data = none := by
  unfold readL; rw [h]; simp

set_option maxHeartbeats 1000000 in
theorem read_not (off : Int) (a1 a2 : Option Addr) (dv : Value) (n1 n2 c1 c2 : Nat) (ds ss : List Int) (w : World)
    (hd : Hid (IntsIn w (.slice a1 n1 c1) ds)) (hs : Hid (IntsIn w (.slice a2 n2 c2) ss)) (hm : Hid (mayV off ds ss = false)) (a0 : Option Addr) (n0 c0 : Nat) (hdv : dv = .slice a0 n0 c0) :
    Calls Try.prog 21 #[.agg #[.int .i64 off, .slice a1 n1 c1, .slice a2 n2 c2], dv] w fun e w' =>
      Below w.heap.size w w' ∧ e = .returned (.tuple #[.slice none 0 0, .int .i64 1]) := by
  subst hdv
  obtain ⟨WA, hWA⟩ : ∃ WA, (((w.alloc (.cells #[.int .i64 off, .slice a1 n1 c1, .slice a2 n2 c2] 24)).alloc (.cells #[.slice a0 n0 c0] 34)).alloc (.cells #[.slice none 0 0] 34)).alloc (.cells #[.int .i64 0] 26) = WA := ⟨_, rfl⟩
  have zA : Hid (WA.heap.size = w.heap.size + 4) := Lib.hid (by rw [← hWA]; simp)
  have bA : Hid (Below w.heap.size w WA) := Lib.hid (by
    rw [← hWA]
    exact ((((Below.refl _ w).alloc (Nat.le_refl _) _).alloc (by simp) _).alloc (by simp; omega) _).alloc (by simp; omega) _)
  have xr : Hid (Boxed WA (w.heap.size + 1 + 1) 34 (.slice none 0 0)) := Lib.hid (by
    rw [← hWA]
    have := (Boxed.new ((w.alloc (.cells #[.int .i64 off, .slice a1 n1 c1, .slice a2 n2 c2] 24)).alloc (.cells #[.slice a0 n0 c0] 34)) 34 (.slice none 0 0)).alloc (.cells #[.int .i64 0] 26)
    rwa [World.size_alloc, World.size_alloc] at this)
  have xe : Hid (Boxed WA (w.heap.size + 1 + 1 + 1) 26 (.int .i64 0)) := Lib.hid (by
    rw [← hWA]
    have := Boxed.new (((w.alloc (.cells #[.int .i64 off, .slice a1 n1 c1, .slice a2 n2 c2] 24)).alloc (.cells #[.slice a0 n0 c0] 34)).alloc (.cells #[.slice none 0 0] 34)) 26 (.int .i64 0)
    rwa [World.size_alloc, World.size_alloc, World.size_alloc] at this)
  have HF := Lib.hid (fine_any (off := off) (hd.out.below bA.out) (hs.out.below bA.out))
  rw [hm.out, ← hWA] at HF
  have hEq := Lib.hid hWA
  clear hWA
  go_enter Try.func21, Try.ntmps21
  go_wp2_with (go_at_call 33; refine HF.out.mono ?_; rintro e w1 ⟨rfl, hB1⟩; rw [hEq.out] at hB1; have yr : Boxed w1 (w.heap.size + 1 + 1) 34 (.slice none 0 0) := ((hB1.block _ (by have := zA.out; omega)).trans xr.out); have ye : Boxed (w1.setCell ⟨w.heap.size + 1 + 1, 0, none⟩ (.slice none 0 0)) (w.heap.size + 1 + 1 + 1) 26 (.int .i64 0) := (Below.heap_setCell _ _ _ _ (by simp)).trans ((hB1.block _ (by have := zA.out; omega)).trans xe.out); have y1 := yr.cell; have y2 := yr.frozen; have y3 := ye.cell; have y4 := ye.frozen; have YR := Lib.hid yr; have YE := Lib.hid ye; clear yr ye; have HB1 := Lib.hid hB1; clear hB1)
  have b2 : Below w.heap.size w ((w1.setCell ⟨w.heap.size + 1 + 1, 0, none⟩ (.slice none 0 0)).setCell ⟨w.heap.size + 1 + 1 + 1, 0, none⟩ (.int .i64 1)) := ((bA.out.trans (HB1.out.mono (by have := zA.out; omega))).setCell (p := ⟨w.heap.size + 1 + 1, 0, none⟩) (by simp; omega) _).setCell (p := ⟨w.heap.size + 1 + 1 + 1, 0, none⟩) (by simp; omega) _
  have r1 : Boxed ((w1.setCell ⟨w.heap.size + 1 + 1, 0, none⟩ (.slice none 0 0)).setCell ⟨w.heap.size + 1 + 1 + 1, 0, none⟩ (.int .i64 1)) (w.heap.size + 1 + 1) 34 (.slice none 0 0) := (Below.heap_setCell _ _ _ _ (by simp)).trans (YR.out.set _)
  have r2 : Boxed ((w1.setCell ⟨w.heap.size + 1 + 1, 0, none⟩ (.slice none 0 0)).setCell ⟨w.heap.size + 1 + 1 + 1, 0, none⟩ (.int .i64 1)) (w.heap.size + 1 + 1 + 1) 26 (.int .i64 1) := YE.out.set _
  have c1 := r1.cell
  have c2 := r2.cell
  exact bodyPost_ret (v := .tuple #[.slice none 0 0, .int .i64 1]) (by simp [results, Try.f21, go_sem, c1, c2]) rfl ⟨b2, rfl⟩

/-- What comes out of Read. -/
def ReadOut (w : World) (o : Option (List Int)) (e : Ending) (w' : World) : Prop :=
  Below w.heap.size w w' ∧ ((∃ l v, o = some l ∧ e = .returned (.tuple #[v, .int .i64 0]) ∧ w'.ownsRow w.heap.size 2 1 v l.length (l.map (Value.int .i64))) ∨ (o = none ∧ e = .returned (.tuple #[.slice none 0 0, .int .i64 1])))

/-- READ: whatever the view, whatever the elements. -/
theorem read_any {w : World} {off : Int} {d s dv : Value} {ds ss data : List Int} (hd : IntsIn w d ds) (hs : IntsIn w s ss) (hdat : IntsIn w dv data) :
    Calls Try.prog 21 #[.agg #[.int .i64 off, d, s], dv] w (ReadOut w (readL off ds ss data)) := by
  obtain ⟨a1, c1, rfl⟩ := hd.form
  obtain ⟨a2, c2, rfl⟩ := hs.form
  obtain ⟨a3, c3, rfl⟩ := hdat.form
  cases hm : mayV off ds ss
  · refine (read_not off a1 a2 _ _ _ c1 c2 ds ss w (Lib.hid hd) (Lib.hid hs) (Lib.hid hm) a3 _ c3 rfl).mono ?_
    rintro e w' ⟨h1, h2⟩
    exact ⟨h1, Or.inr ⟨may_none hm, h2⟩⟩
  · obtain ⟨h1, h2, h3, h4, h5, h6, h7, h8⟩ := may_good hm
    have hs' := hs
    rw [h5] at hs' ⊢
    exact (callsIn_wide (n := 8)).1 (read_may 8 (by decide) off a1 a2 a3 c1 c2 c3 ds ss data w (Lib.hid hd) (Lib.hid hs') (Lib.hid hdat) (Lib.hid hm) (Lib.hid h5) h2 (Lib.hid h1) (Lib.hid h8) h6 h7 (Lib.hid h4))

end Go.Proofs.Ytfdafceolkmkoaa
