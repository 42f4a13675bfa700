/- The walk of the reference's Transpose. Printed by gen_rtranspose.py. -/
import Derived.Test.YtfdafceolkmkoaaViewPm
import Derived.Deep.RegionHeld3
import Derived.Deep.AppendLies
set_option linter.unusedVariables false
set_option linter.unusedSimpArgs false
namespace Go.Proofs.Ytfdafceolkmkoaa
open Go.RowKit Vw

theorem trO_no {off : Int} {ds ss ps : List Int} (hm : mayV off ds ss = true) (h : ¬ PermD ps ds.length) : trO off ds ss ps = (4, 0, [], []) := by
  unfold trO
  rw [if_neg (by rw [hm]; decide), if_neg]
  rintro ⟨h1, h2⟩
  exact h (permD_ord.2 (Ord.of_sort (by rw [← h2]; exact h1) h2))

/-- What has come of the first ones. -/
def tkn (ds ps : List Int) (k : Nat) : List Value := ((ps.take k).map fun p => ds.getD p.toNat 0).map (Value.int .i64)

theorem tkn_zero (ds ps : List Int) : tkn ds ps 0 = [] := rfl
theorem tkn_next {ds ps : List Int} {k p : Nat} (h : k < ps.length) (hp : ps.getD k 0 = (p : Int)) : tkn ds ps (k + 1) = tkn ds ps k ++ [.int .i64 (ds.getD p 0)] := by
  unfold tkn
  rw [take_next h, hp]; simp
theorem tkn_all (ds ps : List Int) : tkn ds ps ps.length = (ps.map fun p => ds.getD p.toNat 0).map (Value.int .i64) := by
  unfold tkn
  rw [List.take_length]

/-- What stands in a round. -/
structure RtI (w : World) (gO : Nat) (off : Int) (d s vd vs : Value) (kd ks : Nat) (xd xs : List Value) (wr : World) : Prop where
  xv : Box3 wr w.heap.size (.int .i64 off) d s
  xr : Box3 wr (w.heap.size + 1) (.int .i64 0) (.slice none 0 0) (.slice none 0 0)
  xo : Box3 wr gO (.int .i64 off) vd vs
  od : wr.ownsRow (gO + 1) 3 1 vd kd xd
  os : wr.ownsRow (gO + 1) 3 1 vs ks xs
  ap : ∀ g, vd.ownBlock = some g → vs.ownBlock ≠ some g
  bl : Below w.heap.size w wr
  lt : w.heap.size + 2 ≤ gO

theorem owns_block {B : Nat} {w w' : World} {e : TypeId} {size : Nat} {v : Value} {n : Nat} {xs : List Value} (h : w.ownsRow B e size v n xs) (hb : ∀ g, v.ownBlock = some g → w'.heap[g]? = w.heap[g]?) : w'.ownsRow B e size v n xs := by
  obtain ⟨h1, h2⟩ := h
  refine ⟨h1, ?_⟩
  rcases h2 with h | ⟨g, cap, cur, rfl, hg, hc, h3⟩
  · exact Or.inl h
  · exact Or.inr ⟨g, cap, cur, rfl, hg, (hb g rfl).trans hc, h3⟩

theorem owns_form {B : Nat} {w : World} {e : TypeId} {size : Nat} {v : Value} {n : Nat} {xs : List Value} (h : w.ownsRow B e size v n xs) : ∃ a c, v = .slice a n c := by
  rcases h.2 with ⟨rfl, rfl⟩ | ⟨g, cap, cur, rfl, _⟩
  · exact ⟨none, 0, rfl⟩
  · exact ⟨_, _, rfl⟩

theorem RtI.stepD {w W w5 : World} {gO : Nat} {off : Int} {d s vd vs : Value} {kd ks g cap : Nat} {xd xs : List Value} {o : Obj} {x : Value} (h : RtI w gO off d s vd vs kd ks xd xs W) (hown : w5.ownsRow (gO + 1) 3 1 (.slice (some ⟨g, 0, none⟩) (kd + 1) cap) (kd + 1) (xd ++ [x]))
    (hg : (W.drew.alloc o).grownBy w5 vd.ownBlock) (hat : vd.ownBlock = some g ∨ g = W.heap.size + 1) : RtI w gO off d s (.slice (some ⟨g, 0, none⟩) (kd + 1) cap) vs (kd + 1) ks (xd ++ [x]) xs (w5.setCell ⟨gO, 1, none⟩ (.slice (some ⟨g, 0, none⟩) (kd + 1) cap)) := by
  have hl := h.lt
  have hz := h.xo.lt
  have blk : ∀ b, b < W.heap.size → vd.ownBlock ≠ some b → w5.heap[b]? = W.heap[b]? := fun b hb hne => (hg.block b (by simp; omega) (Ne.symm hne)).trans (Below.heap_alloc _ _ _ hb)
  have nown : ∀ b, b ≤ gO → vd.ownBlock ≠ some b := fun b hb e => by have := (h.od.lt b e).1; omega
  have xo5 : Box3 w5 gO (.int .i64 off) vd vs := (blk gO hz (nown gO (Nat.le_refl _))).trans h.xo
  refine ⟨(Below.heap_setCell _ _ _ _ (show w.heap.size ≠ gO by omega)).trans ((blk _ (by omega) (nown _ (by omega))).trans h.xv), (Below.heap_setCell _ _ _ _ (show w.heap.size + 1 ≠ gO by omega)).trans ((blk _ (by omega) (nown _ (by omega))).trans h.xr), xo5.set1 _, ?_, ?_, ?_, ?_, hl⟩
  · exact owns_block hown fun b hb => Below.heap_setCell _ _ _ _ (show b ≠ gO by have := (hown.lt b hb).1; omega)
  · exact owns_block h.os fun b hb => (Below.heap_setCell _ _ _ _ (show b ≠ gO by have := (h.os.lt b hb).1; omega)).trans (blk b (h.os.lt b hb).2 (fun e => h.ap b e hb))
  · intro b hb e
    simp only [Value.ownBlock, Option.some.injEq] at hb
    subst hb
    rcases hat with h1 | h1
    · exact h.ap _ h1 e
    · have := (h.os.lt _ e).2; omega
  · refine h.bl.trans ((((Below.refl _ W).drew.alloc (show w.heap.size ≤ W.heap.size by omega) _).grown hg (by simp; omega) fun b hb => by have := (h.od.lt b hb).1; omega).setCell (p := ⟨gO, 1, none⟩) (show w.heap.size ≤ gO by omega) _)

theorem RtI.stepS {w W w5 : World} {gO : Nat} {off : Int} {d s vd vs : Value} {kd ks g cap : Nat} {xd xs : List Value} {o : Obj} {x : Value} (h : RtI w gO off d s vd vs kd ks xd xs W) (hown : w5.ownsRow (gO + 1) 3 1 (.slice (some ⟨g, 0, none⟩) (ks + 1) cap) (ks + 1) (xs ++ [x]))
    (hg : (W.drew.alloc o).grownBy w5 vs.ownBlock) (hat : vs.ownBlock = some g ∨ g = W.heap.size + 1) : RtI w gO off d s vd (.slice (some ⟨g, 0, none⟩) (ks + 1) cap) kd (ks + 1) xd (xs ++ [x]) (w5.setCell ⟨gO, 2, none⟩ (.slice (some ⟨g, 0, none⟩) (ks + 1) cap)) := by
  have hl := h.lt
  have hz := h.xo.lt
  have blk : ∀ b, b < W.heap.size → vs.ownBlock ≠ some b → w5.heap[b]? = W.heap[b]? := fun b hb hne => (hg.block b (by simp; omega) (Ne.symm hne)).trans (Below.heap_alloc _ _ _ hb)
  have nown : ∀ b, b ≤ gO → vs.ownBlock ≠ some b := fun b hb e => by have := (h.os.lt b e).1; omega
  have xo5 : Box3 w5 gO (.int .i64 off) vd vs := (blk gO hz (nown gO (Nat.le_refl _))).trans h.xo
  refine ⟨(Below.heap_setCell _ _ _ _ (show w.heap.size ≠ gO by omega)).trans ((blk _ (by omega) (nown _ (by omega))).trans h.xv), (Below.heap_setCell _ _ _ _ (show w.heap.size + 1 ≠ gO by omega)).trans ((blk _ (by omega) (nown _ (by omega))).trans h.xr), xo5.set2 _, ?_, ?_, ?_, ?_, hl⟩
  · exact owns_block h.od fun b hb => (Below.heap_setCell _ _ _ _ (show b ≠ gO by have := (h.od.lt b hb).1; omega)).trans (blk b (h.od.lt b hb).2 (fun e => h.ap b hb e))
  · exact owns_block hown fun b hb => Below.heap_setCell _ _ _ _ (show b ≠ gO by have := (hown.lt b hb).1; omega)
  · intro b hb e
    simp only [Value.ownBlock, Option.some.injEq] at e
    subst e
    rcases hat with h1 | h1
    · exact h.ap _ hb h1
    · have := (h.od.lt _ hb).2; omega
  · refine h.bl.trans ((((Below.refl _ W).drew.alloc (show w.heap.size ≤ W.heap.size by omega) _).grown hg (by simp; omega) fun b hb => by have := (h.os.lt b hb).1; omega).setCell (p := ⟨gO, 2, none⟩) (show w.heap.size ≤ gO by omega) _)

attribute [local irreducible] mayV PermD trO tkn

set_option maxRecDepth 100000 in
set_option maxHeartbeats 8000000 in
theorem rtranspose_any {w : World} {off : Int} {d s pv : Value} {ds ss ps : List Int} (hd0 : IntsIn w d ds) (hs0 : IntsIn w s ss) (hp0 : IntsIn w pv ps) :
    Calls Try.prog 13 #[.agg #[.int .i64 off, d, s], pv] w (ViewOut w (trO off ds ss ps)) := by
  obtain ⟨i0, hi, hz0, hz1, hz2⟩ := info_parts info_int
  have hd := Lib.hid hd0
  have hs := Lib.hid hs0
  have hp := Lib.hid hp0
  clear hd0 hs0 hp0
  obtain ⟨a1, c1, rfl⟩ := hd.out.form
  obtain ⟨a2, c2, rfl⟩ := hs.out.form
  obtain ⟨a3, c3, rfl⟩ := hp.out.form
  obtain ⟨WA, hWA⟩ : ∃ WA, (w.alloc (.cells #[.int .i64 off, .slice a1 ds.length c1, .slice a2 ss.length c2] 24)).alloc (.cells #[.int .i64 0, .slice none 0 0, .slice none 0 0] 24) = WA := ⟨_, rfl⟩
  have bA : Below w.heap.size w WA := by rw [← hWA]; exact ((Below.refl _ w).alloc (Nat.le_refl _) _).alloc (by simp) _
  have zA : WA.heap.size = w.heap.size + 2 := by rw [← hWA]; simp
  have p1 : Box3 WA w.heap.size (.int .i64 off) (.slice a1 ds.length c1) (.slice a2 ss.length c2) := by rw [← hWA]; exact (Below.heap_alloc _ _ _ (by simp)).trans (Box3.new w _ _ _)
  have p2 : Box3 WA (w.heap.size + 1) (.int .i64 0) (.slice none 0 0) (.slice none 0 0) := by
    rw [← hWA]
    have := Box3.new (w.alloc (.cells #[.int .i64 off, .slice a1 ds.length c1, .slice a2 ss.length c2] 24)) (.int .i64 0) (.slice none 0 0) (.slice none 0 0)
    rwa [World.size_alloc] at this
  have q0 := p1.c0
  have q1 := p1.c1
  have q2 := p1.c2
  have P1 := Lib.hid p1
  have P2 := Lib.hid p2
  have BA := Lib.hid bA
  have ZA := Lib.hid zA
  have HF := Lib.hid (rmay_any (off := off) (hd.out.below bA) (hs.out.below bA))
  clear p1 p2 bA zA
  have E1 : Hid (mayV off ds ss = false → trO off ds ss ps = (1, 0, [], [])) := Lib.hid fun h => by unfold trO; rw [if_pos h]
  have E2 : Hid (mayV off ds ss = true → ¬ PermD ps ds.length → trO off ds ss ps = (4, 0, [], [])) := Lib.hid trO_no
  have E3 : Hid (mayV off ds ss = true → PermD ps ds.length → trO off ds ss ps = (0, off, ps.map fun p => ds.getD p.toNat 0, ps.map fun p => ss.getD p.toNat 0)) := Lib.hid fun h g => tr_good h (permD_ord.1 g)
  generalize trO off ds ss ps = O at *
  have HR1 := Lib.hid hd.out.rows.2
  have HR2 := Lib.hid hs.out.rows.2
  have HR3 := Lib.hid hp.out.rows.2
  go_enter Try.func13, Try.ntmps13
  go_wp2_with fail
  refine HF.out.mono ?_
  rintro e w1 ⟨rfl, B1⟩
  have z1 : Hid (w.heap.size + 2 ≤ w1.heap.size) := Lib.hid (by have := ZA.out; have := B1.size; omega)
  have b1 : Hid (Below w.heap.size w w1) := Lib.hid (BA.out.trans (B1.mono BA.out.size))
  have P3 := Lib.hid (P1.out.below B1)
  have P4 := Lib.hid (P2.out.below B1)
  clear B1 q0 q1 q2
  cases hm : mayV off ds ss
  · have NX := Lib.hid (E1.out hm)
    clear hm
    have f0 := P4.out.frozen 0
    have f1 := P4.out.frozen 1
    have f2 := P4.out.frozen 2
    have k0 := P4.out.c0
    have k1 := P4.out.c1
    have k2 := P4.out.c2
    have hend : Hid (Box3 (put3 w1 (w.heap.size + 1) (.int .i64 0) (.slice none 0 0) (.slice none 0 0)) (w.heap.size + 1) (.int .i64 0) (.slice none 0 0) (.slice none 0 0) ∧ Below w.heap.size w (put3 w1 (w.heap.size + 1) (.int .i64 0) (.slice none 0 0) (.slice none 0 0))) := Lib.hid ⟨P4.out.put _ _ _, below_put b1.out (by omega)⟩
    go_wp2_with fail
    obtain ⟨h1, h2⟩ := hend.out
    obtain ⟨x0, x1', x2'⟩ := box3_cells h1
    unfold put3 at x0 x1' x2' h2
    exact bodyPost_ret (v := .tuple #[.agg #[.int .i64 0, .slice none 0 0, .slice none 0 0], .int .i64 1]) (by simp [results, Try.f13, go_sem, x0, x1', x2']) rfl (by rw [NX.out]; exact ⟨h2, Or.inl ⟨by decide, rfl⟩⟩)
  have HM := Lib.hid hm
  have hmg := may_good hm
  have hn6 : ds.length ≤ 6 := hmg.2.1
  have hsl : Hid (ss.length = ds.length) := Lib.hid hmg.2.2.2.2.1
  clear hm hmg
  obtain ⟨y0, y1, y2⟩ := box3_cells P3.out
  go_wp2_with fail
  refine (rperm_any (.slice a3 ps.length c3) ps ds.length (hp.out.below b1.out) hn6).mono ?_
  rintro e _ ⟨rfl, rfl⟩
  by_cases hpm : PermD ps ds.length
  rotate_left
  · have NX := Lib.hid (E2.out HM.out hpm)
    rw [decide_eq_false hpm]
    clear hpm
    have f0 := P4.out.frozen 0
    have f1 := P4.out.frozen 1
    have f2 := P4.out.frozen 2
    have k0 := P4.out.c0
    have k1 := P4.out.c1
    have k2 := P4.out.c2
    have hend : Hid (Box3 (put3 w1 (w.heap.size + 1) (.int .i64 0) (.slice none 0 0) (.slice none 0 0)) (w.heap.size + 1) (.int .i64 0) (.slice none 0 0) (.slice none 0 0) ∧ Below w.heap.size w (put3 w1 (w.heap.size + 1) (.int .i64 0) (.slice none 0 0) (.slice none 0 0))) := Lib.hid ⟨P4.out.put _ _ _, below_put b1.out (by omega)⟩
    go_wp2_with fail
    obtain ⟨h1, h2⟩ := hend.out
    obtain ⟨x0, x1', x2'⟩ := box3_cells h1
    unfold put3 at x0 x1' x2' h2
    exact bodyPost_ret (v := .tuple #[.agg #[.int .i64 0, .slice none 0 0, .slice none 0 0], .int .i64 4]) (by simp [results, Try.f13, go_sem, x0, x1', x2']) rfl (by rw [NX.out]; exact ⟨h2, Or.inl ⟨by decide, rfl⟩⟩)
  have NX := Lib.hid (E3.out HM.out hpm)
  have HO := Lib.hid (permD_ord.1 hpm)
  have hpl : Hid (ps.length = ds.length) := Lib.hid (permD_ord.1 hpm).1
  have hp6 : ps.length ≤ 6 := by rw [hpl.out]; exact hn6
  rw [decide_eq_true hpm]
  clear hpm E1 E2 E3
  obtain ⟨gO, hgO⟩ : ∃ gO, Hid (w1.heap.size = gO) := ⟨_, Lib.hid rfl⟩
  have I0 : Hid (RtI w gO off (.slice a1 ds.length c1) (.slice a2 ss.length c2) (.slice none 0 0) (.slice none 0 0) 0 0 (tkn ds ps 0) (tkn ss ps 0) (w1.alloc (.cells #[.int .i64 off, .slice none 0 0, .slice none 0 0] 24))) := Lib.hid ⟨(Below.heap_alloc _ _ _ (by have := z1.out; omega)).trans P3.out, (Below.heap_alloc _ _ _ (by have := z1.out; omega)).trans P4.out, by rw [← hgO.out]; exact Box3.new w1 _ _ _, by rw [tkn_zero]; exact World.ownsRow_nil _ _ _ _, by rw [tkn_zero]; exact World.ownsRow_nil _ _ _ _, fun g hg => by simp [Value.ownBlock] at hg, b1.out.alloc b1.out.size _, by rw [← hgO.out]; exact z1.out⟩
  go_wp2_with fail
  rw [hgO.out]
  go_loopw [7] (fun i wr => ∃ k : Nat, k ≤ ps.length ∧ i = .int .i64 (k : Int) ∧ Hid (∃ vd vs, RtI w gO off (.slice a1 ds.length c1) (.slice a2 ss.length c2) vd vs k k (tkn ds ps k) (tkn ss ps k) wr)) (fun i _ => ps.length - (intOf i).toNat)
  case atStart => exact ⟨0, Nat.zero_le _, rfl, Lib.hid ⟨_, _, I0.out⟩⟩
  case round =>
    obtain ⟨k, hk, rfl, hI⟩ := hrel
    obtain ⟨vd, vs, hI⟩ := hI.out
    by_cases hkl : k < ps.length
    · have hki : (k : Int) < (ps.length : Int) := by omega
      have hat := HO.out.at (show k < ds.length by rw [← hpl.out]; exact hkl)
      obtain ⟨p, hpx⟩ : ∃ p : Nat, ps.getD k 0 = (p : Int) := ⟨(ps.getD k 0).toNat, by omega⟩
      have hpn : p < ds.length := by omega
      have hpi : (p : Int) < (ds.length : Int) := by omega
      have hpi2 : (p : Int) < (ss.length : Int) := by rw [hsl.out]; exact hpi
      have T1 := Lib.hid (tkn_next (ds := ds) hkl hpx)
      have T2 := Lib.hid (tkn_next (ds := ss) hkl hpx)
      obtain ⟨bp, op, rfl, hbp, hrp⟩ := HR3.out k hkl
      obtain ⟨bd, od, rfl, hbd, hrd⟩ := HR1.out p hpn
      obtain ⟨bs, os, rfl, hbs, hrs⟩ := HR2.out p (by rw [hsl.out]; exact hpn)
      have mp := hrp k hkl
      rw [hpx] at mp
      have md := hrd p hpn
      have ms := hrs p (by rw [hsl.out]; exact hpn)
      have HMp := Lib.hid mp
      have HMd := Lib.hid md
      have HMs := Lib.hid ms
      generalize ds.getD p 0 = x1 at *
      generalize ss.getD p 0 = x2 at *
      clear hpx hat mp md ms hrp hrd hrs
      have HI := Lib.hid hI
      clear hI
      go_wp2_with fail
      obtain ⟨W, hW⟩ : ∃ W, Hid (wr = W) := ⟨_, Lib.hid rfl⟩
      rw [hW.out] at HI ⊢
      obtain ⟨x, hx⟩ : ∃ x, Hid (x1 = x) := ⟨_, Lib.hid rfl⟩
      rw [hx.out] at HMd T1
      have hdi := Lib.hid HI.out.od
      have xo := Lib.hid HI.out.xo
      have hsz : Hid (gO < W.heap.size) := Lib.hid HI.out.xo.lt
      have v0 := xo.out.c1
      have v0b := Box3.c1 (show Box3 (W.alloc (.cells #[.int .i64 x] 3)) gO (.int .i64 off) _ _ from (Below.heap_alloc _ _ _ hsz.out).trans xo.out)
      have B0 : Hid (Below gO W W.drew) := Lib.hid (Below.refl _ _).drew
      have B1 : Hid (Below gO W (W.drew.alloc (.cells #[.int .i64 x] 3))) := Lib.hid (B0.out.alloc (Nat.le_of_lt hsz.out) _)
      have hlo : Hid (w.heap.size + 2 ≤ gO) := Lib.hid HI.out.lt
      have HSk : Hid (∀ W', Below gO W W' → W'.cell? ⟨w.heap.size, 1, none⟩ = some (.slice (some ⟨bd, od, none⟩) ds.length c1) ∧ W'.cell? ⟨bp, op + k, none⟩ = some (.int .i64 (p : Int)) ∧ W'.cell? ⟨bd, od + p, none⟩ = some (.int .i64 x)) := Lib.hid fun W' hb => ⟨(hb.cell (p := ⟨w.heap.size, 1, none⟩) (by have := hlo.out; show w.heap.size < gO; omega)).trans HI.out.xv.c1, (hb.cell (p := ⟨bp, op + k, none⟩) (by have := hlo.out; show bp < gO; omega)).trans ((HI.out.bl.cell (p := ⟨bp, op + k, none⟩) hbp).trans HMp.out), (hb.cell (p := ⟨bd, od + p, none⟩) (by have := hlo.out; show bd < gO; omega)).trans ((HI.out.bl.cell (p := ⟨bd, od + p, none⟩) hbd).trans HMd.out)⟩
      refine wp_region_held_drew (S := fun w' => w'.cell? ⟨w.heap.size, 1, none⟩ = some (.slice (some ⟨bd, od, none⟩) ds.length c1) ∧ w'.cell? ⟨bp, op + k, none⟩ = some (.int .i64 (p : Int)) ∧ w'.cell? ⟨bd, od + p, none⟩ = some (.int .i64 x)) (by kernel_rfl) ?_ (fun hHeld => ?_)
      · exact HSk.out _ B0.out
      refine wpAnyH_take (i := 0) (v := ?vv1) rfl (by kernel_rfl) (by kernel_rfl) (by kernel_rfl) (fun _ _ _ h => h) (Or.inl ⟨by rfl, ?hh1⟩) (by assumption) ?rr1
      case hh1 => (intro w' hSw; (try dsimp only at hSw); first | (go_simp; done) | (go_simp; with_reducible rfl))
      try simp only [Act.put, List.setIfInBounds_toArray, List.set_cons_zero, List.set_cons_succ]
      refine wpAnyH_take (i := 2) (v := ?vv2) rfl (by kernel_rfl) (by kernel_rfl) (by kernel_rfl) (fun _ _ _ h => h) (Or.inl ⟨by rfl, ?hh2⟩) (by assumption) ?rr2
      case hh2 => (intro w' hSw; (try dsimp only at hSw); first | (go_simp; done) | (go_simp; with_reducible rfl))
      try simp only [Act.put, List.setIfInBounds_toArray, List.set_cons_zero, List.set_cons_succ]
      refine wpAnyH_take (i := 3) (v := ?vv3) rfl (by kernel_rfl) (by kernel_rfl) (by kernel_rfl) (fun _ _ _ h => h) (Or.inl ⟨by rfl, ?hh3⟩) (by assumption) ?rr3
      case hh3 => (intro w' hSw; (try dsimp only at hSw); first | (go_simp; done) | (go_simp; with_reducible rfl))
      try simp only [Act.put, List.setIfInBounds_toArray, List.set_cons_zero, List.set_cons_succ]
      refine wpAnyH_take (i := 4) (v := ?vv4) rfl (by kernel_rfl) (by kernel_rfl) (by kernel_rfl) (fun _ _ _ h => h) (Or.inl ⟨by rfl, ?hh4⟩) (by assumption) ?rr4
      case hh4 => (intro w' hSw; (try dsimp only at hSw); first | (go_simp; done) | (go_simp; with_reducible rfl))
      try simp only [Act.put, List.setIfInBounds_toArray, List.set_cons_zero, List.set_cons_succ]
      refine wpAnyH_take (i := 5) (v := ?vv5) rfl (by kernel_rfl) (by kernel_rfl) (by kernel_rfl) (fun _ _ _ h => h) (Or.inl ⟨by rfl, ?hh5⟩) (by assumption) ?rr5
      case hh5 => (intro w' hSw; (try dsimp only at hSw); first | (go_simp; done) | (go_simp; with_reducible rfl))
      try simp only [Act.put, List.setIfInBounds_toArray, List.set_cons_zero, List.set_cons_succ]
      refine wpAnyH_take (i := 6) (v := ?vv6) rfl (by kernel_rfl) (by kernel_rfl) (by kernel_rfl) (fun _ _ _ h => h) (Or.inl ⟨by rfl, ?hh6⟩) (by assumption) ?rr6
      case hh6 => (intro w' hSw; (try dsimp only at hSw); first | (go_simp; done) | (go_simp; with_reducible rfl))
      try simp only [Act.put, List.setIfInBounds_toArray, List.set_cons_zero, List.set_cons_succ]
      refine wpAnyH_take (i := 7) (v := ?vv7) rfl (by kernel_rfl) (by kernel_rfl) (by kernel_rfl) (fun _ _ _ h => h) (Or.inl ⟨by rfl, ?hh7⟩) (by assumption) ?rr7
      case hh7 => (intro w' hSw; (try dsimp only at hSw); first | (go_simp; done) | (go_simp; with_reducible rfl))
      try simp only [Act.put, List.setIfInBounds_toArray, List.set_cons_zero, List.set_cons_succ]
      refine wpAnyH_take (i := 8) (v := ?vv8) rfl (by kernel_rfl) (by kernel_rfl) (by kernel_rfl) (fun _ _ _ h => h) (Or.inl ⟨by rfl, ?hh8⟩) (by assumption) ?rr8
      case hh8 => (intro w' hSw; (try dsimp only at hSw); first | (go_simp; done) | (go_simp; with_reducible rfl))
      try simp only [Act.put, List.setIfInBounds_toArray, List.set_cons_zero, List.set_cons_succ]
      refine wpAnyH_take (i := 9) (v := ?vv9) rfl (by kernel_rfl) (by kernel_rfl) (by kernel_rfl) (fun _ _ _ h => h) (Or.inl ⟨by rfl, ?hh9⟩) (by assumption) ?rr9
      case hh9 => (intro w' hSw; (try dsimp only at hSw); first | (go_simp; done) | (go_simp; with_reducible rfl))
      try simp only [Act.put, List.setIfInBounds_toArray, List.set_cons_zero, List.set_cons_succ]
      refine wpAnyH_ready (rs := [1, 10]) (by kernel_rfl) (by simp) ?_
      refine AllReadyH.cons rfl (fun K hK => ?_) (AllReadyH.cons rfl (fun K hK => ?_) AllReadyH.nil)
      · go_simp
        refine hK.out _ _ ?_ (fun hHeld2 => ?_)
        · (first | exact HSk.out _ B0.out | exact HSk.out _ B1.out | exact HSk.out _ B2.out | exact HSk.out _ B3.out)
        clear hK K
        try simp only [Act.put, List.setIfInBounds_toArray, List.set_cons_zero, List.set_cons_succ]
        refine wpAnyH_ready (rs := [10]) (by kernel_rfl) (by simp) ?_
        refine AllReadyH.cons rfl (fun K hK => ?_) AllReadyH.nil
        go_simp
        refine hK.out _ _ ?_ (fun hHeld2 => ?_)
        · (first | exact HSk.out _ B0.out | exact HSk.out _ B1.out | exact HSk.out _ B2.out | exact HSk.out _ B3.out)
        clear hK K
        try simp only [Act.put, List.setIfInBounds_toArray, List.set_cons_zero, List.set_cons_succ]
        refine wpAnyH_ready (rs := [11]) (by kernel_rfl) (by simp) ?_
        refine AllReadyH.cons rfl (fun K hK => ?_) AllReadyH.nil
        refine step_append_lies _ (by rfl) _ _ _ (by rfl) (gO + 1) 3 i0 (.int .i64 0) 1 8 Try.underlying22 hi hz0 hz1 hz2 rfl (by decide) _ k _ (by rfl) (hdi.out.alloc _).drew ⟨W.heap.size, 0, none⟩ 1 1 [.int .i64 x] (by rfl) (by rfl) (World.news_of_block (cs := #[.int .i64 x]) (t := 3) (fr := (0, 0)) (heap_alloc_new W _)) (by simp [Value.oneCell']) (by decide) (by unfold maxLen; omega) (by omega) (by have := hsz.out; simp; omega) (W.heap.size + 1) (by simp) ?_
        intro g cap w5 hown5 hgrow5 hat5 hlt5
        have B2 : Hid (Below gO W w5) := Lib.hid (B1.out.grown hgrow5 (by have := hsz.out; simp; omega) (fun g hg => by have := (hdi.out.lt g hg).1; omega))
        have B3 : Hid (Below gO W (w5.setCell ⟨gO, 1, none⟩ (.slice (some ⟨g, 0, none⟩) (k + 1) cap))) := Lib.hid (B2.out.setCell (p := ⟨gO, 1, none⟩) (Nat.le_refl _) _)
        have xo5 : Hid (Box3 w5 gO (.int .i64 off) vd vs) := Lib.hid ((hgrow5.block gO (by have := hsz.out; simp; omega) (fun e => by have := (hdi.out.lt gO e.symm).1; omega)).trans ((Below.heap_alloc _ _ _ hsz.out).trans xo.out))
        have HO5 := Lib.hid hown5
        have HG5 := Lib.hid hgrow5
        have HA5 := Lib.hid hat5
        have HL5 := Lib.hid hlt5
        clear hown5 hgrow5 hat5 hlt5
        have v5 := xo5.out.c1
        have f5 := xo5.out.frozen 1
        refine hK.out _ _ ?_ (fun hHeld2 => ?_)
        · (first | exact HSk.out _ B0.out | exact HSk.out _ B1.out | exact HSk.out _ B2.out | exact HSk.out _ B3.out)
        clear hK K
        try simp only [Act.put, List.setIfInBounds_toArray, List.set_cons_zero, List.set_cons_succ]
        refine wpAnyH_take (i := 12) (v := ?vv10) rfl (by kernel_rfl) (by kernel_rfl) (by kernel_rfl) (fun _ _ _ h => h) (Or.inl ⟨by rfl, ?hh10⟩) (by assumption) ?rr10
        case hh10 => (intro w' hSw; (try dsimp only at hSw); first | (go_simp; done) | (go_simp; with_reducible rfl))
        try simp only [Act.put, List.setIfInBounds_toArray, List.set_cons_zero, List.set_cons_succ]
        refine wpAnyH_ready (rs := [13]) (by kernel_rfl) (by simp) ?_
        refine AllReadyH.cons rfl (fun K hK => ?_) AllReadyH.nil
        go_simp
        refine hK.out _ _ ?_ (fun hHeld2 => ?_)
        · (first | exact HSk.out _ B0.out | exact HSk.out _ B1.out | exact HSk.out _ B2.out | exact HSk.out _ B3.out)
        clear hK K
        try simp only [Act.put, List.setIfInBounds_toArray, List.set_cons_zero, List.set_cons_succ]
        refine wpAnyH_done (by kernel_rfl) ?_ _
        have HJ := Lib.hid (RtI.stepD HI.out HO5.out HG5.out HA5.out)
        clear xo5 HO5 HG5 HA5 HL5 v5 f5 B0 B1 B2 B3 HSk v0 v0b hdi xo hHeld HI hsz hW
        go_wp2_with fail
        generalize (Value.slice (some ⟨g, 0, none⟩) (k + 1) cap) = vd2 at HJ ⊢
        obtain ⟨W, hW⟩ : ∃ W, Hid ((w5.setCell ⟨gO, 1, none⟩ vd2) = W) := ⟨_, Lib.hid rfl⟩
        rw [hW.out] at HJ ⊢
        obtain ⟨x, hx⟩ : ∃ x, Hid (x2 = x) := ⟨_, Lib.hid rfl⟩
        rw [hx.out] at HMs T2
        have hdi := Lib.hid HJ.out.os
        have xo := Lib.hid HJ.out.xo
        have hsz : Hid (gO < W.heap.size) := Lib.hid HJ.out.xo.lt
        have v0 := xo.out.c2
        have v0b := Box3.c2 (show Box3 (W.alloc (.cells #[.int .i64 x] 3)) gO (.int .i64 off) _ _ from (Below.heap_alloc _ _ _ hsz.out).trans xo.out)
        have B0 : Hid (Below gO W W.drew) := Lib.hid (Below.refl _ _).drew
        have B1 : Hid (Below gO W (W.drew.alloc (.cells #[.int .i64 x] 3))) := Lib.hid (B0.out.alloc (Nat.le_of_lt hsz.out) _)
        have hlo : Hid (w.heap.size + 2 ≤ gO) := Lib.hid HJ.out.lt
        have HSk : Hid (∀ W', Below gO W W' → W'.cell? ⟨w.heap.size, 2, none⟩ = some (.slice (some ⟨bs, os, none⟩) ss.length c2) ∧ W'.cell? ⟨bp, op + k, none⟩ = some (.int .i64 (p : Int)) ∧ W'.cell? ⟨bs, os + p, none⟩ = some (.int .i64 x)) := Lib.hid fun W' hb => ⟨(hb.cell (p := ⟨w.heap.size, 2, none⟩) (by have := hlo.out; show w.heap.size < gO; omega)).trans HJ.out.xv.c2, (hb.cell (p := ⟨bp, op + k, none⟩) (by have := hlo.out; show bp < gO; omega)).trans ((HJ.out.bl.cell (p := ⟨bp, op + k, none⟩) hbp).trans HMp.out), (hb.cell (p := ⟨bs, os + p, none⟩) (by have := hlo.out; show bs < gO; omega)).trans ((HJ.out.bl.cell (p := ⟨bs, os + p, none⟩) hbs).trans HMs.out)⟩
        refine wp_region_held_drew (S := fun w' => w'.cell? ⟨w.heap.size, 2, none⟩ = some (.slice (some ⟨bs, os, none⟩) ss.length c2) ∧ w'.cell? ⟨bp, op + k, none⟩ = some (.int .i64 (p : Int)) ∧ w'.cell? ⟨bs, os + p, none⟩ = some (.int .i64 x)) (by kernel_rfl) ?_ (fun hHeld => ?_)
        · exact HSk.out _ B0.out
        refine wpAnyH_take (i := 0) (v := ?vv11) rfl (by kernel_rfl) (by kernel_rfl) (by kernel_rfl) (fun _ _ _ h => h) (Or.inl ⟨by rfl, ?hh11⟩) (by assumption) ?rr11
        case hh11 => (intro w' hSw; (try dsimp only at hSw); first | (go_simp; done) | (go_simp; with_reducible rfl))
        try simp only [Act.put, List.setIfInBounds_toArray, List.set_cons_zero, List.set_cons_succ]
        refine wpAnyH_take (i := 2) (v := ?vv12) rfl (by kernel_rfl) (by kernel_rfl) (by kernel_rfl) (fun _ _ _ h => h) (Or.inl ⟨by rfl, ?hh12⟩) (by assumption) ?rr12
        case hh12 => (intro w' hSw; (try dsimp only at hSw); first | (go_simp; done) | (go_simp; with_reducible rfl))
        try simp only [Act.put, List.setIfInBounds_toArray, List.set_cons_zero, List.set_cons_succ]
        refine wpAnyH_take (i := 3) (v := ?vv13) rfl (by kernel_rfl) (by kernel_rfl) (by kernel_rfl) (fun _ _ _ h => h) (Or.inl ⟨by rfl, ?hh13⟩) (by assumption) ?rr13
        case hh13 => (intro w' hSw; (try dsimp only at hSw); first | (go_simp; done) | (go_simp; with_reducible rfl))
        try simp only [Act.put, List.setIfInBounds_toArray, List.set_cons_zero, List.set_cons_succ]
        refine wpAnyH_take (i := 4) (v := ?vv14) rfl (by kernel_rfl) (by kernel_rfl) (by kernel_rfl) (fun _ _ _ h => h) (Or.inl ⟨by rfl, ?hh14⟩) (by assumption) ?rr14
        case hh14 => (intro w' hSw; (try dsimp only at hSw); first | (go_simp; done) | (go_simp; with_reducible rfl))
        try simp only [Act.put, List.setIfInBounds_toArray, List.set_cons_zero, List.set_cons_succ]
        refine wpAnyH_take (i := 5) (v := ?vv15) rfl (by kernel_rfl) (by kernel_rfl) (by kernel_rfl) (fun _ _ _ h => h) (Or.inl ⟨by rfl, ?hh15⟩) (by assumption) ?rr15
        case hh15 => (intro w' hSw; (try dsimp only at hSw); first | (go_simp; done) | (go_simp; with_reducible rfl))
        try simp only [Act.put, List.setIfInBounds_toArray, List.set_cons_zero, List.set_cons_succ]
        refine wpAnyH_take (i := 6) (v := ?vv16) rfl (by kernel_rfl) (by kernel_rfl) (by kernel_rfl) (fun _ _ _ h => h) (Or.inl ⟨by rfl, ?hh16⟩) (by assumption) ?rr16
        case hh16 => (intro w' hSw; (try dsimp only at hSw); first | (go_simp; done) | (go_simp; with_reducible rfl))
        try simp only [Act.put, List.setIfInBounds_toArray, List.set_cons_zero, List.set_cons_succ]
        refine wpAnyH_take (i := 7) (v := ?vv17) rfl (by kernel_rfl) (by kernel_rfl) (by kernel_rfl) (fun _ _ _ h => h) (Or.inl ⟨by rfl, ?hh17⟩) (by assumption) ?rr17
        case hh17 => (intro w' hSw; (try dsimp only at hSw); first | (go_simp; done) | (go_simp; with_reducible rfl))
        try simp only [Act.put, List.setIfInBounds_toArray, List.set_cons_zero, List.set_cons_succ]
        refine wpAnyH_take (i := 8) (v := ?vv18) rfl (by kernel_rfl) (by kernel_rfl) (by kernel_rfl) (fun _ _ _ h => h) (Or.inl ⟨by rfl, ?hh18⟩) (by assumption) ?rr18
        case hh18 => (intro w' hSw; (try dsimp only at hSw); first | (go_simp; done) | (go_simp; with_reducible rfl))
        try simp only [Act.put, List.setIfInBounds_toArray, List.set_cons_zero, List.set_cons_succ]
        refine wpAnyH_take (i := 9) (v := ?vv19) rfl (by kernel_rfl) (by kernel_rfl) (by kernel_rfl) (fun _ _ _ h => h) (Or.inl ⟨by rfl, ?hh19⟩) (by assumption) ?rr19
        case hh19 => (intro w' hSw; (try dsimp only at hSw); first | (go_simp; done) | (go_simp; with_reducible rfl))
        try simp only [Act.put, List.setIfInBounds_toArray, List.set_cons_zero, List.set_cons_succ]
        refine wpAnyH_ready (rs := [1, 10]) (by kernel_rfl) (by simp) ?_
        refine AllReadyH.cons rfl (fun K hK => ?_) (AllReadyH.cons rfl (fun K hK => ?_) AllReadyH.nil)
        · go_simp
          refine hK.out _ _ ?_ (fun hHeld2 => ?_)
          · (first | exact HSk.out _ B0.out | exact HSk.out _ B1.out | exact HSk.out _ B2.out | exact HSk.out _ B3.out)
          clear hK K
          try simp only [Act.put, List.setIfInBounds_toArray, List.set_cons_zero, List.set_cons_succ]
          refine wpAnyH_ready (rs := [10]) (by kernel_rfl) (by simp) ?_
          refine AllReadyH.cons rfl (fun K hK => ?_) AllReadyH.nil
          go_simp
          refine hK.out _ _ ?_ (fun hHeld2 => ?_)
          · (first | exact HSk.out _ B0.out | exact HSk.out _ B1.out | exact HSk.out _ B2.out | exact HSk.out _ B3.out)
          clear hK K
          try simp only [Act.put, List.setIfInBounds_toArray, List.set_cons_zero, List.set_cons_succ]
          refine wpAnyH_ready (rs := [11]) (by kernel_rfl) (by simp) ?_
          refine AllReadyH.cons rfl (fun K hK => ?_) AllReadyH.nil
          refine step_append_lies _ (by rfl) _ _ _ (by rfl) (gO + 1) 3 i0 (.int .i64 0) 1 8 Try.underlying22 hi hz0 hz1 hz2 rfl (by decide) _ k _ (by rfl) (hdi.out.alloc _).drew ⟨W.heap.size, 0, none⟩ 1 1 [.int .i64 x] (by rfl) (by rfl) (World.news_of_block (cs := #[.int .i64 x]) (t := 3) (fr := (0, 0)) (heap_alloc_new W _)) (by simp [Value.oneCell']) (by decide) (by unfold maxLen; omega) (by omega) (by have := hsz.out; simp; omega) (W.heap.size + 1) (by simp) ?_
          intro g cap w5 hown5 hgrow5 hat5 hlt5
          have B2 : Hid (Below gO W w5) := Lib.hid (B1.out.grown hgrow5 (by have := hsz.out; simp; omega) (fun g hg => by have := (hdi.out.lt g hg).1; omega))
          have B3 : Hid (Below gO W (w5.setCell ⟨gO, 2, none⟩ (.slice (some ⟨g, 0, none⟩) (k + 1) cap))) := Lib.hid (B2.out.setCell (p := ⟨gO, 2, none⟩) (Nat.le_refl _) _)
          have xo5 : Hid (Box3 w5 gO (.int .i64 off) vd2 vs) := Lib.hid ((hgrow5.block gO (by have := hsz.out; simp; omega) (fun e => by have := (hdi.out.lt gO e.symm).1; omega)).trans ((Below.heap_alloc _ _ _ hsz.out).trans xo.out))
          have HO5 := Lib.hid hown5
          have HG5 := Lib.hid hgrow5
          have HA5 := Lib.hid hat5
          have HL5 := Lib.hid hlt5
          clear hown5 hgrow5 hat5 hlt5
          have v5 := xo5.out.c2
          have f5 := xo5.out.frozen 2
          refine hK.out _ _ ?_ (fun hHeld2 => ?_)
          · (first | exact HSk.out _ B0.out | exact HSk.out _ B1.out | exact HSk.out _ B2.out | exact HSk.out _ B3.out)
          clear hK K
          try simp only [Act.put, List.setIfInBounds_toArray, List.set_cons_zero, List.set_cons_succ]
          refine wpAnyH_take (i := 12) (v := ?vv20) rfl (by kernel_rfl) (by kernel_rfl) (by kernel_rfl) (fun _ _ _ h => h) (Or.inl ⟨by rfl, ?hh20⟩) (by assumption) ?rr20
          case hh20 => (intro w' hSw; (try dsimp only at hSw); first | (go_simp; done) | (go_simp; with_reducible rfl))
          try simp only [Act.put, List.setIfInBounds_toArray, List.set_cons_zero, List.set_cons_succ]
          refine wpAnyH_ready (rs := [13]) (by kernel_rfl) (by simp) ?_
          refine AllReadyH.cons rfl (fun K hK => ?_) AllReadyH.nil
          go_simp
          refine hK.out _ _ ?_ (fun hHeld2 => ?_)
          · (first | exact HSk.out _ B0.out | exact HSk.out _ B1.out | exact HSk.out _ B2.out | exact HSk.out _ B3.out)
          clear hK K
          try simp only [Act.put, List.setIfInBounds_toArray, List.set_cons_zero, List.set_cons_succ]
          refine wpAnyH_done (by kernel_rfl) ?_ _
          have HK := Lib.hid (RtI.stepS HJ.out HO5.out HG5.out HA5.out)
          rw [← T1.out, ← T2.out] at HK
          clear xo5 HO5 HG5 HA5 HL5 v5 f5 B0 B1 B2 B3 HSk v0 v0b hdi xo hHeld
          go_wp2_with fail
          go_roundw
          case rel => exact ⟨k + 1, by omega, by go_num, Lib.hid ⟨_, _, HK.out⟩⟩
          case measure => simp [intOf]; omega
        · go_simp
          refine hK.out _ _ ?_ (fun hHeld2 => ?_)
          · (first | exact HSk.out _ B0.out | exact HSk.out _ B1.out | exact HSk.out _ B2.out | exact HSk.out _ B3.out)
          clear hK K
          try simp only [Act.put, List.setIfInBounds_toArray, List.set_cons_zero, List.set_cons_succ]
          refine wpAnyH_ready (rs := [1]) (by kernel_rfl) (by simp) ?_
          refine AllReadyH.cons rfl (fun K hK => ?_) AllReadyH.nil
          go_simp
          refine hK.out _ _ ?_ (fun hHeld2 => ?_)
          · (first | exact HSk.out _ B0.out | exact HSk.out _ B1.out | exact HSk.out _ B2.out | exact HSk.out _ B3.out)
          clear hK K
          try simp only [Act.put, List.setIfInBounds_toArray, List.set_cons_zero, List.set_cons_succ]
          refine wpAnyH_ready (rs := [11]) (by kernel_rfl) (by simp) ?_
          refine AllReadyH.cons rfl (fun K hK => ?_) AllReadyH.nil
          refine step_append_lies _ (by rfl) _ _ _ (by rfl) (gO + 1) 3 i0 (.int .i64 0) 1 8 Try.underlying22 hi hz0 hz1 hz2 rfl (by decide) _ k _ (by rfl) (hdi.out.alloc _).drew ⟨W.heap.size, 0, none⟩ 1 1 [.int .i64 x] (by rfl) (by rfl) (World.news_of_block (cs := #[.int .i64 x]) (t := 3) (fr := (0, 0)) (heap_alloc_new W _)) (by simp [Value.oneCell']) (by decide) (by unfold maxLen; omega) (by omega) (by have := hsz.out; simp; omega) (W.heap.size + 1) (by simp) ?_
          intro g cap w5 hown5 hgrow5 hat5 hlt5
          have B2 : Hid (Below gO W w5) := Lib.hid (B1.out.grown hgrow5 (by have := hsz.out; simp; omega) (fun g hg => by have := (hdi.out.lt g hg).1; omega))
          have B3 : Hid (Below gO W (w5.setCell ⟨gO, 2, none⟩ (.slice (some ⟨g, 0, none⟩) (k + 1) cap))) := Lib.hid (B2.out.setCell (p := ⟨gO, 2, none⟩) (Nat.le_refl _) _)
          have xo5 : Hid (Box3 w5 gO (.int .i64 off) vd2 vs) := Lib.hid ((hgrow5.block gO (by have := hsz.out; simp; omega) (fun e => by have := (hdi.out.lt gO e.symm).1; omega)).trans ((Below.heap_alloc _ _ _ hsz.out).trans xo.out))
          have HO5 := Lib.hid hown5
          have HG5 := Lib.hid hgrow5
          have HA5 := Lib.hid hat5
          have HL5 := Lib.hid hlt5
          clear hown5 hgrow5 hat5 hlt5
          have v5 := xo5.out.c2
          have f5 := xo5.out.frozen 2
          refine hK.out _ _ ?_ (fun hHeld2 => ?_)
          · (first | exact HSk.out _ B0.out | exact HSk.out _ B1.out | exact HSk.out _ B2.out | exact HSk.out _ B3.out)
          clear hK K
          try simp only [Act.put, List.setIfInBounds_toArray, List.set_cons_zero, List.set_cons_succ]
          refine wpAnyH_take (i := 12) (v := ?vv21) rfl (by kernel_rfl) (by kernel_rfl) (by kernel_rfl) (fun _ _ _ h => h) (Or.inl ⟨by rfl, ?hh21⟩) (by assumption) ?rr21
          case hh21 => (intro w' hSw; (try dsimp only at hSw); first | (go_simp; done) | (go_simp; with_reducible rfl))
          try simp only [Act.put, List.setIfInBounds_toArray, List.set_cons_zero, List.set_cons_succ]
          refine wpAnyH_ready (rs := [13]) (by kernel_rfl) (by simp) ?_
          refine AllReadyH.cons rfl (fun K hK => ?_) AllReadyH.nil
          go_simp
          refine hK.out _ _ ?_ (fun hHeld2 => ?_)
          · (first | exact HSk.out _ B0.out | exact HSk.out _ B1.out | exact HSk.out _ B2.out | exact HSk.out _ B3.out)
          clear hK K
          try simp only [Act.put, List.setIfInBounds_toArray, List.set_cons_zero, List.set_cons_succ]
          refine wpAnyH_done (by kernel_rfl) ?_ _
          have HK := Lib.hid (RtI.stepS HJ.out HO5.out HG5.out HA5.out)
          rw [← T1.out, ← T2.out] at HK
          clear xo5 HO5 HG5 HA5 HL5 v5 f5 B0 B1 B2 B3 HSk v0 v0b hdi xo hHeld
          go_wp2_with fail
          go_roundw
          case rel => exact ⟨k + 1, by omega, by go_num, Lib.hid ⟨_, _, HK.out⟩⟩
          case measure => simp [intOf]; omega
      · go_simp
        refine hK.out _ _ ?_ (fun hHeld2 => ?_)
        · (first | exact HSk.out _ B0.out | exact HSk.out _ B1.out | exact HSk.out _ B2.out | exact HSk.out _ B3.out)
        clear hK K
        try simp only [Act.put, List.setIfInBounds_toArray, List.set_cons_zero, List.set_cons_succ]
        refine wpAnyH_ready (rs := [1]) (by kernel_rfl) (by simp) ?_
        refine AllReadyH.cons rfl (fun K hK => ?_) AllReadyH.nil
        go_simp
        refine hK.out _ _ ?_ (fun hHeld2 => ?_)
        · (first | exact HSk.out _ B0.out | exact HSk.out _ B1.out | exact HSk.out _ B2.out | exact HSk.out _ B3.out)
        clear hK K
        try simp only [Act.put, List.setIfInBounds_toArray, List.set_cons_zero, List.set_cons_succ]
        refine wpAnyH_ready (rs := [11]) (by kernel_rfl) (by simp) ?_
        refine AllReadyH.cons rfl (fun K hK => ?_) AllReadyH.nil
        refine step_append_lies _ (by rfl) _ _ _ (by rfl) (gO + 1) 3 i0 (.int .i64 0) 1 8 Try.underlying22 hi hz0 hz1 hz2 rfl (by decide) _ k _ (by rfl) (hdi.out.alloc _).drew ⟨W.heap.size, 0, none⟩ 1 1 [.int .i64 x] (by rfl) (by rfl) (World.news_of_block (cs := #[.int .i64 x]) (t := 3) (fr := (0, 0)) (heap_alloc_new W _)) (by simp [Value.oneCell']) (by decide) (by unfold maxLen; omega) (by omega) (by have := hsz.out; simp; omega) (W.heap.size + 1) (by simp) ?_
        intro g cap w5 hown5 hgrow5 hat5 hlt5
        have B2 : Hid (Below gO W w5) := Lib.hid (B1.out.grown hgrow5 (by have := hsz.out; simp; omega) (fun g hg => by have := (hdi.out.lt g hg).1; omega))
        have B3 : Hid (Below gO W (w5.setCell ⟨gO, 1, none⟩ (.slice (some ⟨g, 0, none⟩) (k + 1) cap))) := Lib.hid (B2.out.setCell (p := ⟨gO, 1, none⟩) (Nat.le_refl _) _)
        have xo5 : Hid (Box3 w5 gO (.int .i64 off) vd vs) := Lib.hid ((hgrow5.block gO (by have := hsz.out; simp; omega) (fun e => by have := (hdi.out.lt gO e.symm).1; omega)).trans ((Below.heap_alloc _ _ _ hsz.out).trans xo.out))
        have HO5 := Lib.hid hown5
        have HG5 := Lib.hid hgrow5
        have HA5 := Lib.hid hat5
        have HL5 := Lib.hid hlt5
        clear hown5 hgrow5 hat5 hlt5
        have v5 := xo5.out.c1
        have f5 := xo5.out.frozen 1
        refine hK.out _ _ ?_ (fun hHeld2 => ?_)
        · (first | exact HSk.out _ B0.out | exact HSk.out _ B1.out | exact HSk.out _ B2.out | exact HSk.out _ B3.out)
        clear hK K
        try simp only [Act.put, List.setIfInBounds_toArray, List.set_cons_zero, List.set_cons_succ]
        refine wpAnyH_take (i := 12) (v := ?vv22) rfl (by kernel_rfl) (by kernel_rfl) (by kernel_rfl) (fun _ _ _ h => h) (Or.inl ⟨by rfl, ?hh22⟩) (by assumption) ?rr22
        case hh22 => (intro w' hSw; (try dsimp only at hSw); first | (go_simp; done) | (go_simp; with_reducible rfl))
        try simp only [Act.put, List.setIfInBounds_toArray, List.set_cons_zero, List.set_cons_succ]
        refine wpAnyH_ready (rs := [13]) (by kernel_rfl) (by simp) ?_
        refine AllReadyH.cons rfl (fun K hK => ?_) AllReadyH.nil
        go_simp
        refine hK.out _ _ ?_ (fun hHeld2 => ?_)
        · (first | exact HSk.out _ B0.out | exact HSk.out _ B1.out | exact HSk.out _ B2.out | exact HSk.out _ B3.out)
        clear hK K
        try simp only [Act.put, List.setIfInBounds_toArray, List.set_cons_zero, List.set_cons_succ]
        refine wpAnyH_done (by kernel_rfl) ?_ _
        have HJ := Lib.hid (RtI.stepD HI.out HO5.out HG5.out HA5.out)
        clear xo5 HO5 HG5 HA5 HL5 v5 f5 B0 B1 B2 B3 HSk v0 v0b hdi xo hHeld HI hsz hW
        go_wp2_with fail
        generalize (Value.slice (some ⟨g, 0, none⟩) (k + 1) cap) = vd2 at HJ ⊢
        obtain ⟨W, hW⟩ : ∃ W, Hid ((w5.setCell ⟨gO, 1, none⟩ vd2) = W) := ⟨_, Lib.hid rfl⟩
        rw [hW.out] at HJ ⊢
        obtain ⟨x, hx⟩ : ∃ x, Hid (x2 = x) := ⟨_, Lib.hid rfl⟩
        rw [hx.out] at HMs T2
        have hdi := Lib.hid HJ.out.os
        have xo := Lib.hid HJ.out.xo
        have hsz : Hid (gO < W.heap.size) := Lib.hid HJ.out.xo.lt
        have v0 := xo.out.c2
        have v0b := Box3.c2 (show Box3 (W.alloc (.cells #[.int .i64 x] 3)) gO (.int .i64 off) _ _ from (Below.heap_alloc _ _ _ hsz.out).trans xo.out)
        have B0 : Hid (Below gO W W.drew) := Lib.hid (Below.refl _ _).drew
        have B1 : Hid (Below gO W (W.drew.alloc (.cells #[.int .i64 x] 3))) := Lib.hid (B0.out.alloc (Nat.le_of_lt hsz.out) _)
        have hlo : Hid (w.heap.size + 2 ≤ gO) := Lib.hid HJ.out.lt
        have HSk : Hid (∀ W', Below gO W W' → W'.cell? ⟨w.heap.size, 2, none⟩ = some (.slice (some ⟨bs, os, none⟩) ss.length c2) ∧ W'.cell? ⟨bp, op + k, none⟩ = some (.int .i64 (p : Int)) ∧ W'.cell? ⟨bs, os + p, none⟩ = some (.int .i64 x)) := Lib.hid fun W' hb => ⟨(hb.cell (p := ⟨w.heap.size, 2, none⟩) (by have := hlo.out; show w.heap.size < gO; omega)).trans HJ.out.xv.c2, (hb.cell (p := ⟨bp, op + k, none⟩) (by have := hlo.out; show bp < gO; omega)).trans ((HJ.out.bl.cell (p := ⟨bp, op + k, none⟩) hbp).trans HMp.out), (hb.cell (p := ⟨bs, os + p, none⟩) (by have := hlo.out; show bs < gO; omega)).trans ((HJ.out.bl.cell (p := ⟨bs, os + p, none⟩) hbs).trans HMs.out)⟩
        refine wp_region_held_drew (S := fun w' => w'.cell? ⟨w.heap.size, 2, none⟩ = some (.slice (some ⟨bs, os, none⟩) ss.length c2) ∧ w'.cell? ⟨bp, op + k, none⟩ = some (.int .i64 (p : Int)) ∧ w'.cell? ⟨bs, os + p, none⟩ = some (.int .i64 x)) (by kernel_rfl) ?_ (fun hHeld => ?_)
        · exact HSk.out _ B0.out
        refine wpAnyH_take (i := 0) (v := ?vv23) rfl (by kernel_rfl) (by kernel_rfl) (by kernel_rfl) (fun _ _ _ h => h) (Or.inl ⟨by rfl, ?hh23⟩) (by assumption) ?rr23
        case hh23 => (intro w' hSw; (try dsimp only at hSw); first | (go_simp; done) | (go_simp; with_reducible rfl))
        try simp only [Act.put, List.setIfInBounds_toArray, List.set_cons_zero, List.set_cons_succ]
        refine wpAnyH_take (i := 2) (v := ?vv24) rfl (by kernel_rfl) (by kernel_rfl) (by kernel_rfl) (fun _ _ _ h => h) (Or.inl ⟨by rfl, ?hh24⟩) (by assumption) ?rr24
        case hh24 => (intro w' hSw; (try dsimp only at hSw); first | (go_simp; done) | (go_simp; with_reducible rfl))
        try simp only [Act.put, List.setIfInBounds_toArray, List.set_cons_zero, List.set_cons_succ]
        refine wpAnyH_take (i := 3) (v := ?vv25) rfl (by kernel_rfl) (by kernel_rfl) (by kernel_rfl) (fun _ _ _ h => h) (Or.inl ⟨by rfl, ?hh25⟩) (by assumption) ?rr25
        case hh25 => (intro w' hSw; (try dsimp only at hSw); first | (go_simp; done) | (go_simp; with_reducible rfl))
        try simp only [Act.put, List.setIfInBounds_toArray, List.set_cons_zero, List.set_cons_succ]
        refine wpAnyH_take (i := 4) (v := ?vv26) rfl (by kernel_rfl) (by kernel_rfl) (by kernel_rfl) (fun _ _ _ h => h) (Or.inl ⟨by rfl, ?hh26⟩) (by assumption) ?rr26
        case hh26 => (intro w' hSw; (try dsimp only at hSw); first | (go_simp; done) | (go_simp; with_reducible rfl))
        try simp only [Act.put, List.setIfInBounds_toArray, List.set_cons_zero, List.set_cons_succ]
        refine wpAnyH_take (i := 5) (v := ?vv27) rfl (by kernel_rfl) (by kernel_rfl) (by kernel_rfl) (fun _ _ _ h => h) (Or.inl ⟨by rfl, ?hh27⟩) (by assumption) ?rr27
        case hh27 => (intro w' hSw; (try dsimp only at hSw); first | (go_simp; done) | (go_simp; with_reducible rfl))
        try simp only [Act.put, List.setIfInBounds_toArray, List.set_cons_zero, List.set_cons_succ]
        refine wpAnyH_take (i := 6) (v := ?vv28) rfl (by kernel_rfl) (by kernel_rfl) (by kernel_rfl) (fun _ _ _ h => h) (Or.inl ⟨by rfl, ?hh28⟩) (by assumption) ?rr28
        case hh28 => (intro w' hSw; (try dsimp only at hSw); first | (go_simp; done) | (go_simp; with_reducible rfl))
        try simp only [Act.put, List.setIfInBounds_toArray, List.set_cons_zero, List.set_cons_succ]
        refine wpAnyH_take (i := 7) (v := ?vv29) rfl (by kernel_rfl) (by kernel_rfl) (by kernel_rfl) (fun _ _ _ h => h) (Or.inl ⟨by rfl, ?hh29⟩) (by assumption) ?rr29
        case hh29 => (intro w' hSw; (try dsimp only at hSw); first | (go_simp; done) | (go_simp; with_reducible rfl))
        try simp only [Act.put, List.setIfInBounds_toArray, List.set_cons_zero, List.set_cons_succ]
        refine wpAnyH_take (i := 8) (v := ?vv30) rfl (by kernel_rfl) (by kernel_rfl) (by kernel_rfl) (fun _ _ _ h => h) (Or.inl ⟨by rfl, ?hh30⟩) (by assumption) ?rr30
        case hh30 => (intro w' hSw; (try dsimp only at hSw); first | (go_simp; done) | (go_simp; with_reducible rfl))
        try simp only [Act.put, List.setIfInBounds_toArray, List.set_cons_zero, List.set_cons_succ]
        refine wpAnyH_take (i := 9) (v := ?vv31) rfl (by kernel_rfl) (by kernel_rfl) (by kernel_rfl) (fun _ _ _ h => h) (Or.inl ⟨by rfl, ?hh31⟩) (by assumption) ?rr31
        case hh31 => (intro w' hSw; (try dsimp only at hSw); first | (go_simp; done) | (go_simp; with_reducible rfl))
        try simp only [Act.put, List.setIfInBounds_toArray, List.set_cons_zero, List.set_cons_succ]
        refine wpAnyH_ready (rs := [1, 10]) (by kernel_rfl) (by simp) ?_
        refine AllReadyH.cons rfl (fun K hK => ?_) (AllReadyH.cons rfl (fun K hK => ?_) AllReadyH.nil)
        · go_simp
          refine hK.out _ _ ?_ (fun hHeld2 => ?_)
          · (first | exact HSk.out _ B0.out | exact HSk.out _ B1.out | exact HSk.out _ B2.out | exact HSk.out _ B3.out)
          clear hK K
          try simp only [Act.put, List.setIfInBounds_toArray, List.set_cons_zero, List.set_cons_succ]
          refine wpAnyH_ready (rs := [10]) (by kernel_rfl) (by simp) ?_
          refine AllReadyH.cons rfl (fun K hK => ?_) AllReadyH.nil
          go_simp
          refine hK.out _ _ ?_ (fun hHeld2 => ?_)
          · (first | exact HSk.out _ B0.out | exact HSk.out _ B1.out | exact HSk.out _ B2.out | exact HSk.out _ B3.out)
          clear hK K
          try simp only [Act.put, List.setIfInBounds_toArray, List.set_cons_zero, List.set_cons_succ]
          refine wpAnyH_ready (rs := [11]) (by kernel_rfl) (by simp) ?_
          refine AllReadyH.cons rfl (fun K hK => ?_) AllReadyH.nil
          refine step_append_lies _ (by rfl) _ _ _ (by rfl) (gO + 1) 3 i0 (.int .i64 0) 1 8 Try.underlying22 hi hz0 hz1 hz2 rfl (by decide) _ k _ (by rfl) (hdi.out.alloc _).drew ⟨W.heap.size, 0, none⟩ 1 1 [.int .i64 x] (by rfl) (by rfl) (World.news_of_block (cs := #[.int .i64 x]) (t := 3) (fr := (0, 0)) (heap_alloc_new W _)) (by simp [Value.oneCell']) (by decide) (by unfold maxLen; omega) (by omega) (by have := hsz.out; simp; omega) (W.heap.size + 1) (by simp) ?_
          intro g cap w5 hown5 hgrow5 hat5 hlt5
          have B2 : Hid (Below gO W w5) := Lib.hid (B1.out.grown hgrow5 (by have := hsz.out; simp; omega) (fun g hg => by have := (hdi.out.lt g hg).1; omega))
          have B3 : Hid (Below gO W (w5.setCell ⟨gO, 2, none⟩ (.slice (some ⟨g, 0, none⟩) (k + 1) cap))) := Lib.hid (B2.out.setCell (p := ⟨gO, 2, none⟩) (Nat.le_refl _) _)
          have xo5 : Hid (Box3 w5 gO (.int .i64 off) vd2 vs) := Lib.hid ((hgrow5.block gO (by have := hsz.out; simp; omega) (fun e => by have := (hdi.out.lt gO e.symm).1; omega)).trans ((Below.heap_alloc _ _ _ hsz.out).trans xo.out))
          have HO5 := Lib.hid hown5
          have HG5 := Lib.hid hgrow5
          have HA5 := Lib.hid hat5
          have HL5 := Lib.hid hlt5
          clear hown5 hgrow5 hat5 hlt5
          have v5 := xo5.out.c2
          have f5 := xo5.out.frozen 2
          refine hK.out _ _ ?_ (fun hHeld2 => ?_)
          · (first | exact HSk.out _ B0.out | exact HSk.out _ B1.out | exact HSk.out _ B2.out | exact HSk.out _ B3.out)
          clear hK K
          try simp only [Act.put, List.setIfInBounds_toArray, List.set_cons_zero, List.set_cons_succ]
          refine wpAnyH_take (i := 12) (v := ?vv32) rfl (by kernel_rfl) (by kernel_rfl) (by kernel_rfl) (fun _ _ _ h => h) (Or.inl ⟨by rfl, ?hh32⟩) (by assumption) ?rr32
          case hh32 => (intro w' hSw; (try dsimp only at hSw); first | (go_simp; done) | (go_simp; with_reducible rfl))
          try simp only [Act.put, List.setIfInBounds_toArray, List.set_cons_zero, List.set_cons_succ]
          refine wpAnyH_ready (rs := [13]) (by kernel_rfl) (by simp) ?_
          refine AllReadyH.cons rfl (fun K hK => ?_) AllReadyH.nil
          go_simp
          refine hK.out _ _ ?_ (fun hHeld2 => ?_)
          · (first | exact HSk.out _ B0.out | exact HSk.out _ B1.out | exact HSk.out _ B2.out | exact HSk.out _ B3.out)
          clear hK K
          try simp only [Act.put, List.setIfInBounds_toArray, List.set_cons_zero, List.set_cons_succ]
          refine wpAnyH_done (by kernel_rfl) ?_ _
          have HK := Lib.hid (RtI.stepS HJ.out HO5.out HG5.out HA5.out)
          rw [← T1.out, ← T2.out] at HK
          clear xo5 HO5 HG5 HA5 HL5 v5 f5 B0 B1 B2 B3 HSk v0 v0b hdi xo hHeld
          go_wp2_with fail
          go_roundw
          case rel => exact ⟨k + 1, by omega, by go_num, Lib.hid ⟨_, _, HK.out⟩⟩
          case measure => simp [intOf]; omega
        · go_simp
          refine hK.out _ _ ?_ (fun hHeld2 => ?_)
          · (first | exact HSk.out _ B0.out | exact HSk.out _ B1.out | exact HSk.out _ B2.out | exact HSk.out _ B3.out)
          clear hK K
          try simp only [Act.put, List.setIfInBounds_toArray, List.set_cons_zero, List.set_cons_succ]
          refine wpAnyH_ready (rs := [1]) (by kernel_rfl) (by simp) ?_
          refine AllReadyH.cons rfl (fun K hK => ?_) AllReadyH.nil
          go_simp
          refine hK.out _ _ ?_ (fun hHeld2 => ?_)
          · (first | exact HSk.out _ B0.out | exact HSk.out _ B1.out | exact HSk.out _ B2.out | exact HSk.out _ B3.out)
          clear hK K
          try simp only [Act.put, List.setIfInBounds_toArray, List.set_cons_zero, List.set_cons_succ]
          refine wpAnyH_ready (rs := [11]) (by kernel_rfl) (by simp) ?_
          refine AllReadyH.cons rfl (fun K hK => ?_) AllReadyH.nil
          refine step_append_lies _ (by rfl) _ _ _ (by rfl) (gO + 1) 3 i0 (.int .i64 0) 1 8 Try.underlying22 hi hz0 hz1 hz2 rfl (by decide) _ k _ (by rfl) (hdi.out.alloc _).drew ⟨W.heap.size, 0, none⟩ 1 1 [.int .i64 x] (by rfl) (by rfl) (World.news_of_block (cs := #[.int .i64 x]) (t := 3) (fr := (0, 0)) (heap_alloc_new W _)) (by simp [Value.oneCell']) (by decide) (by unfold maxLen; omega) (by omega) (by have := hsz.out; simp; omega) (W.heap.size + 1) (by simp) ?_
          intro g cap w5 hown5 hgrow5 hat5 hlt5
          have B2 : Hid (Below gO W w5) := Lib.hid (B1.out.grown hgrow5 (by have := hsz.out; simp; omega) (fun g hg => by have := (hdi.out.lt g hg).1; omega))
          have B3 : Hid (Below gO W (w5.setCell ⟨gO, 2, none⟩ (.slice (some ⟨g, 0, none⟩) (k + 1) cap))) := Lib.hid (B2.out.setCell (p := ⟨gO, 2, none⟩) (Nat.le_refl _) _)
          have xo5 : Hid (Box3 w5 gO (.int .i64 off) vd2 vs) := Lib.hid ((hgrow5.block gO (by have := hsz.out; simp; omega) (fun e => by have := (hdi.out.lt gO e.symm).1; omega)).trans ((Below.heap_alloc _ _ _ hsz.out).trans xo.out))
          have HO5 := Lib.hid hown5
          have HG5 := Lib.hid hgrow5
          have HA5 := Lib.hid hat5
          have HL5 := Lib.hid hlt5
          clear hown5 hgrow5 hat5 hlt5
          have v5 := xo5.out.c2
          have f5 := xo5.out.frozen 2
          refine hK.out _ _ ?_ (fun hHeld2 => ?_)
          · (first | exact HSk.out _ B0.out | exact HSk.out _ B1.out | exact HSk.out _ B2.out | exact HSk.out _ B3.out)
          clear hK K
          try simp only [Act.put, List.setIfInBounds_toArray, List.set_cons_zero, List.set_cons_succ]
          refine wpAnyH_take (i := 12) (v := ?vv33) rfl (by kernel_rfl) (by kernel_rfl) (by kernel_rfl) (fun _ _ _ h => h) (Or.inl ⟨by rfl, ?hh33⟩) (by assumption) ?rr33
          case hh33 => (intro w' hSw; (try dsimp only at hSw); first | (go_simp; done) | (go_simp; with_reducible rfl))
          try simp only [Act.put, List.setIfInBounds_toArray, List.set_cons_zero, List.set_cons_succ]
          refine wpAnyH_ready (rs := [13]) (by kernel_rfl) (by simp) ?_
          refine AllReadyH.cons rfl (fun K hK => ?_) AllReadyH.nil
          go_simp
          refine hK.out _ _ ?_ (fun hHeld2 => ?_)
          · (first | exact HSk.out _ B0.out | exact HSk.out _ B1.out | exact HSk.out _ B2.out | exact HSk.out _ B3.out)
          clear hK K
          try simp only [Act.put, List.setIfInBounds_toArray, List.set_cons_zero, List.set_cons_succ]
          refine wpAnyH_done (by kernel_rfl) ?_ _
          have HK := Lib.hid (RtI.stepS HJ.out HO5.out HG5.out HA5.out)
          rw [← T1.out, ← T2.out] at HK
          clear xo5 HO5 HG5 HA5 HL5 v5 f5 B0 B1 B2 B3 HSk v0 v0b hdi xo hHeld
          go_wp2_with fail
          go_roundw
          case rel => exact ⟨k + 1, by omega, by go_num, Lib.hid ⟨_, _, HK.out⟩⟩
          case measure => simp [intOf]; omega
    · obtain rfl : k = ps.length := by omega
      obtain ⟨av, cv, rfl⟩ := owns_form hI.od
      obtain ⟨au, cu, rfl⟩ := owns_form hI.os
      have hFD : Hid (Fresh (gO + 1) wr (.slice av ps.length cv) (ps.map fun p => ds.getD p.toNat 0)) := Lib.hid (Fresh.of_owns (by rw [← tkn_all, List.length_map]; exact hI.od))
      have hFS : Hid (Fresh (gO + 1) wr (.slice au ps.length cu) (ps.map fun p => ss.getD p.toNat 0)) := Lib.hid (Fresh.of_owns (by rw [← tkn_all, List.length_map]; exact hI.os))
      have hlo : Hid (w.heap.size + 2 ≤ gO) := Lib.hid hI.lt
      have P8 := Lib.hid hI.xr
      have b8 := Lib.hid hI.bl
      obtain ⟨t0, t1, t2⟩ := box3_cells hI.xo
      have f0 := P8.out.frozen 0
      have f1 := P8.out.frozen 1
      have f2 := P8.out.frozen 2
      have k0 := P8.out.c0
      have k1 := P8.out.c1
      have k2 := P8.out.c2
      clear hI
      have hend : Hid (Box3 (put3 wr (w.heap.size + 1) (.int .i64 off) (.slice av ps.length cv) (.slice au ps.length cu)) (w.heap.size + 1) (.int .i64 off) (.slice av ps.length cv) (.slice au ps.length cu) ∧ Below w.heap.size w (put3 wr (w.heap.size + 1) (.int .i64 off) (.slice av ps.length cv) (.slice au ps.length cu)) ∧ Fresh w.heap.size (put3 wr (w.heap.size + 1) (.int .i64 off) (.slice av ps.length cv) (.slice au ps.length cu)) (.slice av ps.length cv) (ps.map fun p => ds.getD p.toNat 0) ∧ Fresh w.heap.size (put3 wr (w.heap.size + 1) (.int .i64 off) (.slice av ps.length cv) (.slice au ps.length cu)) (.slice au ps.length cu) (ps.map fun p => ss.getD p.toNat 0)) := Lib.hid ⟨P8.out.put _ _ _, below_put b8.out (by omega), hFD.out.put (by have := hlo.out; omega) (by have := hlo.out; omega), hFS.out.put (by have := hlo.out; omega) (by have := hlo.out; omega)⟩
      go_wp2_with fail
      obtain ⟨h1, h2, h3, h4⟩ := hend.out
      obtain ⟨x0, x1', x2'⟩ := box3_cells h1
      unfold put3 at x0 x1' x2' h2 h3 h4
      exact bodyPost_ret (v := .tuple #[.agg #[.int .i64 off, .slice av ps.length cv, .slice au ps.length cu], .int .i64 0]) (by simp [results, Try.f13, go_sem, x0, x1', x2']) rfl (by rw [NX.out]; exact ⟨h2, Or.inr ⟨rfl, _, _, rfl, h3, h4⟩⟩)

end Go.Proofs.Ytfdafceolkmkoaa
