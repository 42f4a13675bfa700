/- The walk of mandrellaw04.ViewParts. -/
import Derived.Test.YtfdafceolkmkoaaViewSl
import Derived.Test.YtfdafceolkmkoaaViewLv
import Derived.Test.YtfdafceolkmkoaaViewPa
set_option linter.unusedVariables false
namespace Go.Proofs.Ytfdafceolkmkoaa
open Go.RowKit Vw

/-- What comes out of a cut of the first dimension. -/
def Sl0 (w : World) (off fr to : Int) (ds ss : List Int) (e : Ending) (w' : World) : Prop :=
  Below w.heap.size w w' ∧ ∃ o c ds' ss' a1 c1 a2 c2, e = .returned (.tuple #[.agg #[.int .i64 o, .slice a1 ds'.length c1, .slice a2 ss'.length c2], .int .i64 c]) ∧ IntsIn w' (.slice a1 ds'.length c1) ds' ∧ IntsIn w' (.slice a2 ss'.length c2) ss' ∧ Fresh w.heap.size w' (.slice a1 ds'.length c1) ds' ∧ Fresh w.heap.size w' (.slice a2 ss'.length c2) ss' ∧
    (c ≠ 0 ∨ (c = 0 ∧ mayV off ds ss = true ∧ 0 ≤ fr ∧ fr < to ∧ to ≤ ds.getD 0 0 ∧ off + fr * ss.getD 0 0 < 65536 ∧ o = off + fr * ss.getD 0 0 ∧ ds' = ds.set 0 (to - fr) ∧ ss' = ss))

theorem sl0_no {w w' : World} {off fr to c : Int} {ds ss : List Int} {e : Ending} (h0 : c ≠ 0) (h : e = .returned (.tuple #[.agg #[.int .i64 0, .slice none 0 0, .slice none 0 0], .int .i64 c]) ∧ Below w.heap.size w w') : Sl0 w off fr to ds ss e w' :=
  ⟨h.2, 0, c, [], [], none, 0, none, 0, h.1, .empty none 0, .empty none 0, Or.inl ⟨rfl, none, 0, rfl⟩, Or.inl ⟨rfl, none, 0, rfl⟩, Or.inl h0⟩

theorem slice0_any {w : World} {off fr to : Int} {d s : Value} {ds ss : List Int} (hd : IntsIn w d ds) (hs : IntsIn w s ss) (h0 : 0 < ds.length) (hto : InI to) (hfr : InI fr) :
    Calls Try.prog 26 #[.agg #[.int .i64 off, d, s], .int .i64 0, .int .i64 fr, .int .i64 to] w (Sl0 w off fr to ds ss) := by
  have g1 := Lib.hid hd
  have g2 := Lib.hid hs
  cases hm : mayV off ds ss
  · exact (slice_not off 0 fr to d s ds ss g1 g2 (Lib.hid hm)).mono fun e w' h => sl0_no (by decide) h
  · have g3 := Lib.hid hm
    by_cases h2 : fr < 0
    · exact (slice_fr off 0 fr to d s ds ss g1 g2 g3 (by decide) (by omega) h2).mono fun e w' h => sl0_no (by decide) h
    by_cases h3 : ds.getD 0 0 < to
    · exact (slice_to off 0 fr to d s ds ss g1 g2 g3 (by decide) (by omega) (by omega) h3).mono fun e w' h => sl0_no (by decide) h
    by_cases h4 : to ≤ fr
    · exact (slice_ge off 0 fr to d s ds ss g1 g2 g3 (by decide) (by omega) (by omega) (by show to ≤ ds.getD 0 0; omega) h4).mono fun e w' h => sl0_no (by decide) h
    by_cases h5 : 65536 ≤ off + fr * ss.getD 0 0
    · exact (slice_far off 0 fr to d s ds ss g1 g2 g3 (by decide) (by omega) (by omega) (by show to ≤ ds.getD 0 0; omega) (by omega) h5).mono fun e w' h => sl0_no (by decide) h
    refine (slice_good off fr to 0 d s ds ss g1 g2 g3 h0 (by omega) (by omega) (by omega) (by omega)).mono ?_
    rintro e w' ⟨d', s', rfl, hB, f1, f2⟩
    have hg := may_good hm
    have hsw := hs.wf
    have hdw := hd.wf
    have i1 : IntsIn w' d' (ds.set 0 (to - fr)) := f1.ints (by rw [List.length_set]; exact hdw.1) (fun z hz => by
      rcases List.mem_or_eq_of_mem_set hz with h | rfl
      · exact hdw.2 z h
      · have := (hg.1 _ (getD_mem (zs := ds) (k := 0) h0)).2
        constructor <;> omega)
    have i2 : IntsIn w' s' ss := f2.ints hsw.1 hsw.2
    obtain ⟨a1, c1, rfl⟩ := i1.form
    obtain ⟨a2, c2, rfl⟩ := i2.form
    exact ⟨hB, _, 0, _, _, a1, c1, a2, c2, rfl, i1, i2, f1, f2, Or.inr ⟨rfl, hm, by omega, by omega, by omega, by omega, rfl, rfl, rfl⟩⟩

/-- What comes out of Read, in a form for later calls. -/
def Rd0 (w : World) (off : Int) (ds ss data : List Int) (e : Ending) (w' : World) : Prop :=
  Below w.heap.size w w' ∧ ∃ c l a n, e = .returned (.tuple #[a, .int .i64 c]) ∧ IntsIn w' a l ∧ n = l.length ∧ w'.ownsRow w.heap.size 2 1 a l.length (l.map (Value.int .i64)) ∧ ((c = 0 ∧ readL off ds ss data = some l) ∨ (c ≠ 0 ∧ readL off ds ss data = none))

theorem read0_any {w : World} {off : Int} {d s dv : Value} {ds ss data : List Int} (hd : IntsIn w d ds) (hs : IntsIn w s ss) (hdat : IntsIn w dv data) :
    Calls Try.prog 21 #[.agg #[.int .i64 off, d, s], dv] w (Rd0 w off ds ss data) := by
  refine (read_any hd hs hdat).mono ?_
  rintro e w' ⟨hB, (⟨l, v, he, rfl, hrow⟩ | ⟨he, rfl⟩)⟩
  · have hm := read_mem he
    exact ⟨hB, 0, l, v, _, rfl, IntsIn.of_owns hrow (by omega) (fun z hz => by rcases hm.2 z hz with h | rfl; exact hdat.wf.2 z h; constructor <;> omega), rfl, hrow, Or.inl ⟨rfl, he⟩⟩
  · exact ⟨hB, 1, [], _, _, rfl, .empty none 0, rfl, World.ownsRow_nil _ _ _ _, Or.inr ⟨by decide, he⟩⟩

/-- What lies behind the second cut. -/
structure Aft (W1 W2 : World) (b9 : Nat) (off at_ d0 o2 k2 : Int) (ds ss ds2 ss2 : List Int) (a6 : Option Addr) (c6 : Nat) (a7 : Option Addr) (c7 : Nat) : Prop where
  below : Below W1.heap.size W1 W2
  box : Box3 W2 b9 (.int .i64 o2) (.slice a6 ds2.length c6) (.slice a7 ss2.length c7)
  i1 : IntsIn W2 (.slice a6 ds2.length c6) ds2
  i2 : IntsIn W2 (.slice a7 ss2.length c7) ss2
  what : k2 ≠ 0 ∨ (k2 = 0 ∧ mayV off ds ss = true ∧ 0 ≤ at_ ∧ at_ < d0 ∧ d0 ≤ ds.getD 0 0 ∧ off + at_ * ss.getD 0 0 < 65536 ∧ o2 = off + at_ * ss.getD 0 0 ∧ ds2 = ds.set 0 (d0 - at_) ∧ ss2 = ss)

theorem owns_below {B : Nat} {w w' : World} {e : TypeId} {size : Nat} {v : Value} {n : Nat} {xs : List Value} (h : w.ownsRow B e size v n xs) (hb : Below w.heap.size w w') : w'.ownsRow B e size v n xs := by
  obtain ⟨h1, h2⟩ := h
  refine ⟨h1, ?_⟩
  rcases h2 with h | ⟨g, cap, cur, rfl, hg, hc, h3⟩
  · exact Or.inl h
  · exact Or.inr ⟨g, cap, cur, rfl, hg, (hb.block g (Array.getElem?_eq_some_iff.1 hc).1).trans hc, h3⟩

theorem wpList_append_wanted {P : Program} (w : World) {ops : Array Oper} {rest : List Oper} {o : Oper} {a : Act} {Q : Exit → Act → World → Prop} (hw : Region.wanted o (yielded ops a.tmps) = true) (s x : Operand) (t : TypeId)
    (ho : o.op = .call { callee := .builtin .append, args := #[s, x], argTypes := #[t, t] })
    (base : Nat) (e : TypeId) (i : TypeInfo) (z : Value) (size bytes : Nat) (ht : P.underlying t = some (.slice e)) (hi : P.info? e = some i) (hz : i.zero = some z)
    (hsize : i.size = size) (hby : i.bytes = bytes) (hzs : z.cells.size = size) (hsz : 0 < size)
    (v : Value) (n : Nat) (xs : List Value) (hs : a.eval s = v) (hown : w.ownsRow base e size v n xs)
    (ad : Addr) (m c : Nat) (news : List Value) (hx : a.eval x = .slice (some ad) m c) (hl : news.length = m * size) (hnews : ∀ j u, news[j]? = some u → w.cell? (ad.add j) = some u) (h1 : ∀ u ∈ news, u.oneCell' = true)
    (h63 : n + m ≤ maxLen) (hbytes : (n + m) * bytes ≤ 140737488355328) (hbase : base ≤ w.heap.size)
    (h : ∀ v' w', w'.ownsRow base e size v' (n + m) (xs ++ news) → w.grownBy w' v.ownBlock → (v' = .slice none 0 0 ↔ v = .slice none 0 0 ∧ m = 0) → wpList P ops Q rest (a.put o.dst v') w') : wpList P ops Q (o :: rest) a w :=
  wpList_step fun K hK => by
    rw [if_pos hw]
    exact wp_append_own w s x t ho base e i z size bytes ht hi hz hsize hby hzs hsz v n xs hs hown ad m c news hx hl hnews h1 h63 hbytes hbase fun v' w' h2 h3 h4 => hK _ _ (h v' w' h2 h3 h4)

theorem reads_cells {w : World} {b o : Nat} {zs : List Int} (h : Reads w b o zs) : ∀ j u, (zs.map (Value.int .i64))[j]? = some u → w.cell? ((⟨b, o, none⟩ : Addr).add j) = some u := by
  intro j u hu
  rw [List.getElem?_map] at hu
  by_cases hj : j < zs.length
  · rw [List.getElem?_eq_getElem hj] at hu
    have := h j hj
    simp only [Option.map_some, Option.some.injEq] at hu
    rw [← hu]
    have e : (⟨b, o, none⟩ : Addr).add j = ⟨b, o + j, none⟩ := by
      unfold Addr.add
      split
      · rename_i h0; subst h0; rfl
      · rfl
    rw [e, this]
    simp [List.getD, List.getElem?_eq_getElem hj]
  · rw [List.getElem?_eq_none (by omega)] at hu; simp at hu

theorem ints_one (zs : List Int) : ∀ u ∈ zs.map (Value.int .i64), u.oneCell' = true := by
  intro u hu
  obtain ⟨z, _, rfl⟩ := List.mem_map.1 hu
  rfl

theorem share10 {G : Prop} {P R : World → Nat → Int → Int → List Int → List Int → Option Addr → Nat → Option Addr → Nat → Prop} (h : (∀ a b c d e f g i j k, P a b c d e f g i j k → R a b c d e f g i j k) → G) (k : ∀ a b c d e f g i j k, P a b c d e f g i j k → R a b c d e f g i j k) : G := h k

attribute [local irreducible] mayV cnt strd readL

set_option maxRecDepth 100000 in
set_option maxHeartbeats 4000000 in
theorem parts_none (off at_ : Int) (a1 a2 : Option Addr) (c1 n2 c2 : Nat) (dv : Value) (w : World) :
    Calls Try.prog 8 #[.agg #[.int .i64 off, .slice a1 0 c1, .slice a2 n2 c2], .int .i64 at_, dv] w fun e w' => e = .returned (.bool true) ∧ Below w.heap.size w w' := by
  have bA : Hid (Below w.heap.size w (w.alloc (.cells #[.int .i64 off, .slice a1 0 c1, .slice a2 n2 c2] 24))) := Lib.hid ((Below.refl _ w).alloc (Nat.le_refl _) _)
  go_enter Try.func8, Try.ntmps8
  go_wp2_with fail
  refine (live_any _).mono ?_
  rintro e w1 ⟨rfl, hB⟩
  have b1 := Lib.hid (bA.out.trans (hB.mono bA.out.size))
  clear hB
  go_wp2_with fail
  go_ret
  exact ⟨rfl, b1.out⟩

set_option maxRecDepth 100000 in
set_option maxHeartbeats 4000000 in
theorem parts_some {w : World} (off at_ : Int) (d s dv : Value) (ds ss data : List Int) (hd : Hid (IntsIn w d ds)) (hs : Hid (IntsIn w s ss)) (hdat : Hid (IntsIn w dv data)) (h0 : 0 < ds.length) (hat : Hid (InI at_)) :
    Calls Try.prog 8 #[.agg #[.int .i64 off, d, s], .int .i64 at_, dv] w fun e w' => e = .returned (.bool true) ∧ Below w.heap.size w w' := by
  obtain ⟨a1, c1, rfl⟩ := hd.out.form
  obtain ⟨a2, c2, rfl⟩ := hs.out.form
  obtain ⟨a3, c3, rfl⟩ := hdat.out.form
  obtain ⟨bd, od, rfl, hbd, hrd⟩ := hd.out.rows.2 0 h0
  obtain ⟨W0, hW0⟩ : ∃ W0, Hid (w.alloc (.cells #[.int .i64 off, .slice (some ⟨bd, od, none⟩) ds.length c1, .slice a2 ss.length c2] 24) = W0) := ⟨_, Lib.hid rfl⟩
  have z0 : Hid (W0.heap.size = w.heap.size + 1) := Lib.hid (by rw [← hW0.out]; simp)
  have b0 : Hid (Below w.heap.size w W0) := Lib.hid (by rw [← hW0.out]; exact (Below.refl _ w).alloc (Nat.le_refl _) _)
  have x0 : Hid (Box3 W0 w.heap.size (.int .i64 off) (.slice (some ⟨bd, od, none⟩) ds.length c1) (.slice a2 ss.length c2)) := Lib.hid (by rw [← hW0.out]; exact Box3.new w _ _ _)
  have h0' : (0 : Int) < (ds.length : Int) := by omega
  have h0n : ¬ ((ds.length : Int) = 0) := by omega
  go_enter Try.func8, Try.ntmps8
  go_wp2_with fail
  rw [hW0.out]
  refine (slice0_any (hd.out.below b0.out) (hs.out.below b0.out) h0 hat.out (show InI 0 by constructor <;> omega)).mono ?_
  rintro e w1 ⟨B1, o1, k1, ds1, ss1, a4, c4, a5, c5, rfl, i1, i2, _, _, hA⟩
  have HA := Lib.hid hA
  have I1 := Lib.hid i1
  have I2 := Lib.hid i2
  have b1 : Hid (Below w.heap.size w w1) := Lib.hid (b0.out.trans (B1.mono b0.out.size))
  have x1 := Lib.hid (x0.out.below B1)
  have z1 : Hid (W0.heap.size ≤ w1.heap.size) := Lib.hid B1.size
  clear hA i1 i2 B1
  obtain ⟨y0, y1, y2⟩ := box3_cells x1.out
  go_wp2_with fail
  obtain ⟨W1, hW1⟩ : ∃ W1, Hid (w1.alloc (.cells #[.int .i64 o1, .slice a4 ds1.length c4, .slice a5 ss1.length c5] 24) = W1) := ⟨_, Lib.hid rfl⟩
  have z2 : Hid (W1.heap.size = w1.heap.size + 1) := Lib.hid (by rw [← hW1.out]; simp)
  have b2 : Hid (Below w1.heap.size w1 W1) := Lib.hid (by rw [← hW1.out]; exact (Below.refl _ w1).alloc (Nat.le_refl _) _)
  have x2 : Hid (Box3 W1 w1.heap.size (.int .i64 o1) (.slice a4 ds1.length c4) (.slice a5 ss1.length c5)) := Lib.hid (by rw [← hW1.out]; exact Box3.new w1 _ _ _)
  have x3 := Lib.hid (x1.out.below b2.out)
  have b3 : Hid (Below w.heap.size w W1) := Lib.hid (b1.out.trans (b2.out.mono b1.out.size))
  have I3 := Lib.hid (I1.out.below b2.out)
  have I4 := Lib.hid (I2.out.below b2.out)
  rw [hW1.out]
  clear y0 y1 y2
  obtain ⟨y0, y1, y2⟩ := box3_cells x3.out
  have kd := (b3.out.cell (p := ⟨bd, od + 0, none⟩) hbd).trans (hrd 0 h0)
  rw [Nat.add_zero] at kd
  have hdi := hd.out.wf.2 _ (getD_mem h0)
  have bz : Hid (Below W1.heap.size W1 (W1.alloc (.cells #[.int .i64 0, .slice none 0 0, .slice none 0 0] 24)).drew) := Lib.hid (((Below.refl _ W1).alloc (Nat.le_refl _) _).drew)
  have xz : Hid (Box3 (W1.alloc (.cells #[.int .i64 0, .slice none 0 0, .slice none 0 0] 24)).drew W1.heap.size (.int .i64 0) (.slice none 0 0) (.slice none 0 0)) := Lib.hid (Box3.new W1 _ _ _)
  have zz : Hid ((W1.alloc (.cells #[.int .i64 0, .slice none 0 0, .slice none 0 0] 24)).drew.heap.size = W1.heap.size + 1) := Lib.hid (by simp)
  have b5 := b3.out.trans (bz.out.mono b3.out.size)
  have b6 : Below w.heap.size w (W1.alloc (.cells #[.int .i64 0, .slice none 0 0, .slice none 0 0] 24)) := b3.out.alloc b3.out.size _
  have kdz := (b6.cell (p := ⟨bd, od + 0, none⟩) hbd).trans (hrd 0 h0)
  rw [Nat.add_zero] at kdz
  obtain ⟨yz0, yz1, yz2⟩ := box3_cells (x3.out.below ((Below.refl _ W1).alloc (Nat.le_refl _) (.cells #[.int .i64 0, .slice none 0 0, .slice none 0 0] 24)))
  clear b6
  have HS := Lib.hid (slice0_any (off := off) (fr := at_) (to := ds.getD 0 0) (hd.out.below b3.out.drew) (hs.out.below b3.out.drew) h0 hdi hat.out)
  have HT := Lib.hid (slice0_any (off := off) (fr := at_) (to := ds.getD 0 0) (hd.out.below b5) (hs.out.below b5) h0 hdi hat.out)
  clear b5
  generalize hd0 : ds.getD 0 0 = d0 at kd kdz HS HT
  have Hd0 := Lib.hid hd0
  clear hd0 hdi
  apply share10 (P := fun W2 b9 o2 k2 ds2 ss2 a6 c6 a7 c7 => Hid (Aft W1 W2 b9 off at_ d0 o2 k2 ds ss ds2 ss2 a6 c6 a7 c7))
  · intro hrest
    go_region_with (first | (go_at_call 26; refine HS.out.mono ?_; rintro e w2 ⟨B4, o2, k2, ds2, ss2, a6, c6, a7, c7, rfl, i5, i6, q5, q6, hB⟩; have HB := Lib.hid hB; have I5 := Lib.hid i5; have I6 := Lib.hid i6; have Q5 := Lib.hid q5; have Q6 := Lib.hid q6; have B5 := Lib.hid B4; clear hB i5 i6 q5 q6 B4) | (go_at_call 26; refine HT.out.mono ?_; rintro e w2 ⟨B4, o2, k2, ds2, ss2, a6, c6, a7, c7, rfl, i5, i6, q5, q6, hB⟩; have HB := Lib.hid hB; have I5 := Lib.hid i5; have I6 := Lib.hid i6; have Q5 := Lib.hid q5; have Q6 := Lib.hid q6; have B5 := Lib.hid B4; have X5 := Lib.hid (xz.out.below B4); obtain ⟨k0, k1', k2'⟩ := box3_cells X5.out; have f0 := X5.out.frozen 0; have f1 := X5.out.frozen 1; have f2 := X5.out.frozen 2; clear hB i5 i6 q5 q6 B4))
    all_goals first
      | (have HAf : Hid (Aft W1 (put3 w2 W1.heap.size (.int .i64 o2) (.slice a6 ds2.length c6) (.slice a7 ss2.length c7)) W1.heap.size off at_ d0 o2 k2 ds ss ds2 ss2 a6 c6 a7 c7) := Lib.hid ⟨below_put (bz.out.trans (B5.out.mono (by rw [zz.out]; omega))) (Nat.le_refl _), X5.out.put _ _ _, (Q5.out.put (B' := 0) (by rw [zz.out]; omega) (by omega)).ints I5.out.wf.1 I5.out.wf.2, (Q6.out.put (B' := 0) (by rw [zz.out]; omega) (by omega)).ints I6.out.wf.1 I6.out.wf.2, HB.out⟩
         unfold put3 at HAf
         generalize (((w2.setCell ⟨W1.heap.size, 0, none⟩ (.int .i64 o2)).setCell ⟨W1.heap.size, 1, none⟩ (.slice a6 ds2.length c6)).setCell ⟨W1.heap.size, 2, none⟩ (.slice a7 ss2.length c7)) = W2 at HAf ⊢
         generalize W1.heap.size = b9 at HAf ⊢
         exact hrest W2 b9 o2 k2 ds2 ss2 a6 c6 a7 c7 HAf)
      | (have HAf : Hid (Aft W1 (w2.alloc (.cells #[.int .i64 o2, .slice a6 ds2.length c6, .slice a7 ss2.length c7] 24)) w2.heap.size off at_ d0 o2 k2 ds ss ds2 ss2 a6 c6 a7 c7) := Lib.hid ⟨((Below.refl _ W1).drew.trans B5.out).alloc B5.out.size _, Box3.new w2 _ _ _, I5.out.below ((Below.refl _ w2).alloc (Nat.le_refl _) _), I6.out.below ((Below.refl _ w2).alloc (Nat.le_refl _) _), HB.out⟩
         generalize (w2.alloc (.cells #[.int .i64 o2, .slice a6 ds2.length c6, .slice a7 ss2.length c7] 24)) = W2 at HAf ⊢
         generalize w2.heap.size = b9 at HAf ⊢
         exact hrest W2 b9 o2 k2 ds2 ss2 a6 c6 a7 c7 HAf)
  · intro W2 b9 o2 k2 ds2 ss2 a6 c6 a7 c7 HAf
    have BB := Lib.hid HAf.out.below
    have b4 : Hid (Below w.heap.size w W2) := Lib.hid (b3.out.trans (BB.out.mono b3.out.size))
    have x4 := Lib.hid (x3.out.below BB.out)
    have x5 := Lib.hid (x2.out.below BB.out)
    have x6 := Lib.hid HAf.out.box
    have I5 := Lib.hid (I3.out.below BB.out)
    have I6 := Lib.hid (I4.out.below BB.out)
    have I7 := Lib.hid HAf.out.i1
    have I8 := Lib.hid HAf.out.i2
    have HW := Lib.hid HAf.out.what
    clear y0 y1 y2 kd kdz yz0 yz1 yz2
    obtain ⟨t0, t1, t2⟩ := box3_cells x4.out
    go_wp2_with fail
    refine (read0_any (hd.out.below b4.out) (hs.out.below b4.out) (hdat.out.below b4.out)).mono ?_
    rintro e w3 ⟨B3, k3, l, av, n3, rfl, il, hn3, hrl, hR⟩
    obtain ⟨a8, c8, rfl⟩ := il.form
    have B3' := Lib.hid B3
    have b5 : Hid (Below w.heap.size w w3) := Lib.hid (b4.out.trans (B3.mono b4.out.size))
    have IL := Lib.hid il
    have HR := Lib.hid hR
    have x7 := Lib.hid (x5.out.below B3)
    have x8 := Lib.hid (x6.out.below B3)
    have I9 := Lib.hid (I5.out.below B3)
    have I10 := Lib.hid (I6.out.below B3)
    have I11 := Lib.hid (I7.out.below B3)
    have I12 := Lib.hid (I8.out.below B3)
    clear B3 il hn3 hrl hR t0 t1 t2
    have hbad : ∀ {W' : World}, Below w3.heap.size w3 W' → Hid (Below w.heap.size w W') := fun h => Lib.hid (b5.out.trans (h.mono b5.out.size))
    by_cases hk1 : k1 = 0
    · by_cases hk2 : k2 = 0
      · by_cases hk3 : k3 = 0
        · subst hk1 hk2 hk3
          obtain ⟨u0, u1, u2⟩ := box3_cells x7.out
          go_wp2_with fail
          refine (read0_any I9.out I10.out (hdat.out.below b5.out)).mono ?_
          rintro e w4 ⟨B4, k4, l4, av4, n4, rfl, il4, hn4, hrow4, hR4⟩
          obtain ⟨a10, c10, rfl⟩ := il4.form
          have B4' := Lib.hid B4
          have b6 : Hid (Below w.heap.size w w4) := Lib.hid (b5.out.trans (B4.mono b5.out.size))
          have x9 := Lib.hid (x8.out.below B4)
          have I13 := Lib.hid (I11.out.below B4)
          have I14 := Lib.hid (I12.out.below B4)
          have IL4 := Lib.hid (IL.out.below B4)
          have HRW := Lib.hid hrow4
          have HR4 := Lib.hid hR4
          clear B4 il4 hn4 hrow4 hR4 u0 u1 u2
          obtain ⟨u0, u1, u2⟩ := box3_cells x9.out
          go_wp2_with fail
          refine (read0_any I13.out I14.out (hdat.out.below b6.out)).mono ?_
          rintro e w5 ⟨B5, k5, l5, av5, n5, rfl, il5, hn5, hrow5, hR5⟩
          obtain ⟨x, y, q1, q2, q3⟩ : ∃ x y, readL o1 ds1 ss1 data = some x ∧ readL o2 ds2 ss2 data = some y ∧ x ++ y = l := by
            obtain p1 | ⟨_, p1, p2, p3, p4, p5, rfl, rfl, rfl⟩ := HA.out
            · exact absurd rfl p1
            obtain r1 | ⟨_, r1, r2, r3, r4, r5, rfl, rfl, rfl⟩ := HW.out
            · exact absurd rfl r1
            obtain ⟨_, s1⟩ | ⟨s1, _⟩ := HR.out
            · have := Hd0.out; rw [← this]; rw [← this] at r3; exact parts_facts h0 p1 p3 r3 r5 s1
            · exact absurd rfl s1
          obtain ⟨rfl, hx⟩ | ⟨_, hx⟩ := HR4.out
          rotate_left
          · rw [q1] at hx; exact absurd hx (by simp)
          obtain ⟨rfl, hy⟩ | ⟨_, hy⟩ := hR5
          rotate_left
          · rw [q2] at hy; exact absurd hy (by simp)
          obtain rfl : l4 = x := by rw [q1] at hx; exact (Option.some.inj hx).symm
          obtain rfl : l5 = y := by rw [q2] at hy; exact (Option.some.inj hy).symm
          have hly := read_some_ne q2
          have hm4 := (read_mem q1).1
          have hm5 := (read_mem q2).1
          have hlw := il5.wf.2
          have hlw4 := IL4.out.wf.2
          cases il5 with
          | empty a0 cap => exact absurd rfl hly
          | row by_ oy cy _ hy0 hcy hby hry hyl hyw =>
          have b7 : Hid (Below w.heap.size w w5) := Lib.hid (b6.out.trans (B5.mono b6.out.size))
          have IL5 := Lib.hid (IL4.out.below B5)
          have HO := owns_below HRW.out B5
          have HRY := Lib.hid hry
          have Q3 := Lib.hid q3
          have bsz : w.heap.size ≤ w3.heap.size ∧ w3.heap.size ≤ w5.heap.size := ⟨b5.out.size, Nat.le_trans B4'.out.size B5.size⟩
          have bb : Hid (Below w3.heap.size w3 w5) := Lib.hid (B4'.out.trans (B5.mono B4'.out.size))
          clear B5 hrow5 hn5 hry q1 q2 q3 hx hy u0 u1 u2
          obtain ⟨i0, hi, hz0, hz1, hz2⟩ := info_parts info_int64
          have HC := reads_cells HRY.out
          have bsz2 : w3.heap.size ≤ w5.heap.size := bsz.2
          go_wp2_with (at_builtin; refine wpList_append_wanted _ ?c1 _ _ 34 rfl w3.heap.size 2 i0 (.int .i64 0) 1 8 Try.underlying34 hi hz0 hz1 hz2 rfl (by decide) _ _ _ rfl HO ⟨by_, oy, none⟩ l5.length cy (l5.map (Value.int .i64)) rfl (by simp) HC (ints_one l5) ?c3 ?c4 bsz2 ?_)
          case c3 => unfold maxLen; omega
          case c4 => omega
          intro v' w6 hown hgrow _
          have hge : ∀ g, (Value.slice a10 l4.length c10).ownBlock = some g → w3.heap.size ≤ g := fun g hg => (HO.lt g hg).1
          have b8 : Hid (Below w.heap.size w w6) := Lib.hid (b7.out.grown hgrow (by omega) fun g hg => Nat.le_trans bsz.1 (hge g hg))
          have bc : Hid (Below w3.heap.size w3 w6) := Lib.hid (bb.out.grown hgrow bsz2 hge)
          have il6 := Lib.hid (IL.out.below bc.out)
          rw [← List.map_append, ← List.length_append, Q3.out] at hown
          have iv6 : Hid (IntsIn w6 v' l) := Lib.hid (IntsIn.of_owns hown IL.out.wf.1 IL.out.wf.2)
          clear hown hgrow hge HO HC hlw hlw4
          obtain ⟨a12, c12, rfl⟩ := iv6.out.form
          go_wp2_with fail
          refine (sameData_any iv6.out il6.out).mono ?_
          rintro e w7 ⟨he, B7⟩
          rw [decide_eq_true rfl] at he
          subst he
          have b9' : Hid (Below w.heap.size w w7) := Lib.hid (b8.out.trans (B7.mono b8.out.size))
          clear B7
          go_wp2_with fail
          refine (live_any _).mono ?_
          rintro e w8 ⟨rfl, B8⟩
          have b10 : Hid (Below w.heap.size w w8) := Lib.hid (b9'.out.trans (B8.mono b9'.out.size))
          clear B8
          go_wp2_with fail
          go_ret
          exact ⟨rfl, b10.out⟩
        · have hb1 : (k3 != 0) = true := by simpa using hk3
          subst hk1 hk2
          go_wp2_with fail
          refine (live_any _).mono ?_
          rintro e w4 ⟨rfl, hB⟩
          have b6 := hbad hB
          clear hB
          go_wp2_with fail
          go_ret
          exact ⟨rfl, b6.out⟩
      · have hb1 : (k2 != 0) = true := by simpa using hk2
        subst hk1
        go_wp2_with fail
        refine (live_any _).mono ?_
        rintro e w4 ⟨rfl, hB⟩
        have b6 := hbad hB
        clear hB
        go_wp2_with fail
        go_ret
        exact ⟨rfl, b6.out⟩
    · have hb1 : (k1 != 0) = true := by simpa using hk1
      go_wp2_with fail
      refine (live_any _).mono ?_
      rintro e w4 ⟨rfl, hB⟩
      have b6 := hbad hB
      clear hB
      go_wp2_with fail
      go_ret
      exact ⟨rfl, b6.out⟩

end Go.Proofs.Ytfdafceolkmkoaa
