/- The walk of the reference's Read. -/
import Derived.Test.YtfdafceolkmkoaaViewCo
import Derived.IntWalk
import Derived.BigQuiet
import Derived.Deep.QuietTactic
set_option linter.unusedVariables false
namespace Go.Proofs.Ytfdafceolkmkoaa
open Go.RowKit Vw

theorem plc_next : ∀ {ss cs : List Int} {j : Nat}, j < ss.length → cs.length = ss.length → plc (ss.take (j + 1)) (cs.take (j + 1)) = plc (ss.take j) (cs.take j) + cs.getD j 0 * ss.getD j 0
  | [], _, _, h, _ => by simp at h
  | _ :: _, [], _, _, h => by simp at h
  | s :: ss, c :: cs, 0, _, _ => by simp [plc]
  | s :: ss, c :: cs, j + 1, h, hc => by
    have ih := plc_next (ss := ss) (cs := cs) (j := j) (by simpa using h) (by simpa using hc)
    simp only [List.take_succ_cons, plc, List.getD_cons_succ]
    rw [ih, Int.add_assoc]

/-- Where the first dimensions come to. -/
structure At (off : Int) (ds ss : List Int) (k : Int) (Q : Nat → Int) : Prop where
  zero : Q 0 = off
  next : ∀ m, m < ds.length → Q (m + 1) = Q m + (crd ds k).getD m 0 * ss.getD m 0
  last : Q ds.length = off + plc ss (crd ds k)
  low : ∀ m, m ≤ ds.length → 0 ≤ Q m ∧ Q m ≤ 1099511627776
  prod : ∀ m, m < ds.length → 0 ≤ (crd ds k).getD m 0 * ss.getD m 0 ∧ (crd ds k).getD m 0 * ss.getD m 0 ≤ 4294967296

theorem At.mk' {off : Int} {ds ss : List Int} {k : Int} (hD : ∀ d ∈ ds, 1 ≤ d ∧ d ≤ 65536) (hS : ∀ s ∈ ss, 0 ≤ s ∧ s ≤ 65536) (hss : ss.length = ds.length) (h0 : 0 ≤ off) (h1 : off ≤ 65535) (hk0 : 0 ≤ k) (hk1 : k < pr ds) (hlen : ds.length ≤ 6) :
    At off ds ss k fun m => off + plc (ss.take m) ((crd ds k).take m) := by
  have hpos : Pos ds := fun d hd => (hD d hd).1
  have hcl : (crd ds k).length = ds.length := crd_length
  have hc : ∀ c ∈ crd ds k, 0 ≤ c ∧ c ≤ 65536 := fun c hc => by
    obtain ⟨j, hj, rfl⟩ := List.getElem_of_mem hc
    have hj' : j < ds.length := by omega
    have h1 := crd_range hpos hk0 hk1 j hj'
    have h2 := hD _ (getD_mem hj')
    rw [show (crd ds k).getD j 0 = (crd ds k)[j] by simp [List.getD, List.getElem?_eq_getElem hj]] at h1
    omega
  have hp : ∀ m, m < ds.length → 0 ≤ (crd ds k).getD m 0 * ss.getD m 0 ∧ (crd ds k).getD m 0 * ss.getD m 0 ≤ 4294967296 := fun m hm => by
    have c1 := hc _ (getD_mem (zs := crd ds k) (k := m) (by omega))
    have c2 := hS _ (getD_mem (zs := ss) (k := m) (by omega))
    refine ⟨Int.mul_nonneg c1.1 c2.1, ?_⟩
    have m1 : (crd ds k).getD m 0 * ss.getD m 0 ≤ 65536 * 65536 := Int.mul_le_mul c1.2 c2.2 c2.1 (by decide)
    omega
  refine ⟨by simp [plc], fun m hm => ?_, ?_, fun m hm => ?_, hp⟩
  · show off + _ = off + _ + _
    rw [plc_next (by omega) (by omega), Int.add_assoc]
  · show off + _ = _
    rw [List.take_of_length_le (by omega), List.take_of_length_le (by omega)]
  · have b := plc_bound (ss := ss.take m) (cs := (crd ds k).take m) (fun s hs => hS s (List.mem_of_mem_take hs)) (fun c h => hc c (List.mem_of_mem_take h))
    have l2 : ((crd ds k).take m).length ≤ 6 := by simp; omega
    show 0 ≤ off + _ ∧ off + _ ≤ _
    omega

/-- The elements at places. -/
def gotI (data : List Int) (ps : List Int) : List Int := ps.map fun p => data.getD p.toNat 0

theorem read_stops {off : Int} {ds ss data : List Int} {k n : Nat} (hn : pr ds = (n : Int)) (hk : k < n) (h : (data.length : Int) ≤ off + plc ss (crd ds (k : Int))) : readL off ds ss data = none := by
  unfold readL
  rw [if_neg]
  rintro ⟨_, h2⟩
  have := h2 (off + plc ss (crd ds (k : Int))) (List.mem_map.2 ⟨k, List.mem_range.2 (by omega), rfl⟩)
  omega

theorem read_all {off : Int} {ds ss data : List Int} {n : Nat} (hm : mayV off ds ss = true) (hn : pr ds = (n : Int)) (h : ∀ p ∈ places off ds ss n, p < data.length) : readL off ds ss data = some (gotI data (places off ds ss n)) := by
  unfold readL
  rw [hn, Int.toNat_natCast, if_pos ⟨hm, h⟩]
  rfl

def RrOut (w : World) (o : Option (List Int)) (e : Ending) (w' : World) : Prop :=
  Below w.heap.size w w' ∧ ((∃ l v, o = some l ∧ e = .returned (.tuple #[v, .int .i64 0]) ∧ IntsIn w' v l) ∨ (o = none ∧ e = .returned (.tuple #[.slice none 0 0, .int .i64 1])))

theorem got_next {data : List Int} {off : Int} {ds ss : List Int} {k : Nat} : gotI data (places off ds ss (k + 1)) = gotI data (places off ds ss k) ++ [data.getD (off + plc ss (crd ds (k : Int))).toNat 0] := by
  rw [places_next]; simp [gotI]

theorem got_length {data : List Int} {off : Int} {ds ss : List Int} {k : Nat} : (gotI data (places off ds ss k)).length = k := by simp [gotI, places_length]

attribute [local irreducible] cnt pr crd plc mayV readL places gotI

set_option maxRecDepth 100000 in
set_option maxHeartbeats 4000000 in
theorem rread_any {w : World} {off : Int} {d s dv : Value} {ds ss data : List Int} (hd : IntsIn w d ds) (hs : IntsIn w s ss) (hdat : IntsIn w dv data) :
    Calls Try.prog 22 #[.agg #[.int .i64 off, d, s], dv] w (RrOut w (readL off ds ss data)) := by
  obtain ⟨i0, hi, hz0, hz1, hz2⟩ := info_parts info_int64
  obtain ⟨a1, c1, rfl⟩ := hd.form
  obtain ⟨a2, c2, rfl⟩ := hs.form
  obtain ⟨a3, c3, rfl⟩ := hdat.form
  obtain ⟨W0, hW0⟩ : ∃ W0, Hid (w.alloc (.cells #[.int .i64 off, .slice a1 ds.length c1, .slice a2 ss.length c2] 24) = W0) := ⟨_, Lib.hid rfl⟩
  have b0 : Hid (Below w.heap.size w W0) := Lib.hid (by rw [← hW0.out]; exact (Below.refl _ w).alloc (Nat.le_refl _) _)
  have z0 : Hid (W0.heap.size = w.heap.size + 1) := Lib.hid (by rw [← hW0.out]; simp)
  have x0 : Hid (Box3 W0 w.heap.size (.int .i64 off) (.slice a1 ds.length c1) (.slice a2 ss.length c2)) := Lib.hid (by rw [← hW0.out]; exact Box3.new w _ _ _)
  have HD := Lib.hid (hd.below b0.out)
  have HS := Lib.hid (hs.below b0.out)
  have HT := Lib.hid (hdat.below b0.out)
  clear hd hs hdat
  go_enter Try.func22, Try.ntmps22
  go_wp2_with fail
  rw [hW0.out]
  obtain ⟨y0, y1, y2⟩ := box3_cells x0.out
  go_wp2_with fail
  refine (rmay_any HD.out HS.out).mono ?_
  rintro e w1 ⟨rfl, B1⟩
  have bx : Hid (Below W0.heap.size W0 w1) := Lib.hid B1
  have x1 := Lib.hid (x0.out.below B1)
  clear B1 y0 y1 y2
  obtain ⟨y0, y1, y2⟩ := box3_cells x1.out
  cases hm : mayV off ds ss
  · have HN := Lib.hid (may_none (data := data) hm)
    clear hm
    go_wp2_with fail
    go_ret2
    rw [HN.out]
    exact ⟨b0.out.trans (bx.out.mono b0.out.size), Or.inr ⟨rfl, rfl⟩⟩
  · have hg := may_good hm
    have HG := Lib.hid hg
    have HM := Lib.hid hm
    obtain ⟨n, hn⟩ : ∃ n : Nat, Hid (pr ds = (n : Int)) := ⟨(pr ds).toNat, Lib.hid (by have := pr_pos (fun d hd => (hg.1 d hd).1); omega)⟩
    have hce : Hid ((cnt ds).2 = 0) := Lib.hid (by simp [mayV] at hm; exact hm.1.1.1.1)
    have hn6 : n ≤ 65536 := by have := hg.2.2.2.1; have := hn.out; omega
    have hcn : Hid (cnt ds = ((n : Int), 0)) := Lib.hid (Prod.ext (by rw [hg.2.2.1, hn.out]) hce.out)
    have hlen := hg.2.1
    have hoff := hg.2.2.2.2.2.1
    have hoff2 := hg.2.2.2.2.2.2.1
    have hsl : Hid (ss.length = ds.length) := Lib.hid hg.2.2.2.2.1
    have HDR := Lib.hid HD.out.rows.2
    have HSR := Lib.hid HS.out.rows.2
    have HTR := Lib.hid HT.out.rows.2
    have hdl := HT.out.wf.1
    clear hm hg
    go_wp2_with fail
    refine (rcount_any (HD.out.below bx.out)).mono ?_
    rintro e _ ⟨rfl, rfl⟩
    rw [hcn.out]
    go_wp2_with fail
    go_loopw [8, 9] (fun v i wr => ∃ k : Nat, k ≤ n ∧ i = .int .i64 (k : Int) ∧ Hid (wr.ownsRow W0.heap.size 2 1 v k ((gotI data (places off ds ss k)).map (Value.int .i64))) ∧ Hid (Below W0.heap.size W0 wr) ∧ Hid (∀ p ∈ places off ds ss k, p < data.length)) (fun _ i _ => n - (intOf i).toNat)
    case atStart => exact ⟨0, Nat.zero_le _, rfl, Lib.hid (by rw [show places off ds ss 0 = [] by unfold places; rfl]; unfold gotI; exact World.ownsRow_nil _ _ _ _), bx, Lib.hid (by rw [show places off ds ss 0 = [] by unfold places; rfl]; intro p hp; cases hp)⟩
    case round =>
      obtain ⟨k, hk, rfl, hown, hb, hall⟩ := hrel
      have x2 := Lib.hid (x0.out.below hb.out)
      clear y0 y1 y2
      obtain ⟨y0, y1, y2⟩ := box3_cells x2.out
      by_cases hkl : k < n
      · have hki : (k : Int) < (n : Int) := by omega
        have HC := Lib.hid (coords_good (.slice a1 ds.length c1) ds (k : Int) (HD.out.below hb.out) (by omega) (Lib.hid (by rw [hn.out]; omega)) hce)
        obtain ⟨Q, hQ⟩ : ∃ Q, Hid (At off ds ss (k : Int) Q) := ⟨_, Lib.hid (At.mk' HG.out.1 HG.out.2.2.2.2.2.2.2 hsl.out hoff hoff2 (by omega) (by rw [hn.out]; omega) hlen)⟩
        go_wp2_with fail
        refine HC.out.mono ?_
        rintro e w2 ⟨rfl, hrow, B2⟩
        have b2 : Hid (Below W0.heap.size W0 w2) := Lib.hid (hb.out.trans (B2.mono hb.out.size))
        have x3 := Lib.hid (x2.out.below B2)
        have hown2 := Lib.hid (owns_below hown.out B2)
        have hrw := Lib.hid hrow
        clear B2 hrow y0 y1 y2
        generalize hgB : wr.heap.size = gB at hrw ⊢
        clear hgB
        obtain ⟨y0, y1, y2⟩ := box3_cells x3.out
        go_wp2_with fail
        go_loopw [12, 13] (fun t j wq => ∃ m : Nat, m ≤ ds.length ∧ t = .int .i64 (Q m) ∧ j = .int .i64 (m : Int) ∧ Hid (Below w2.heap.size w2 wq)) (fun _ j _ => ds.length - (intOf j).toNat)
        case atStart => exact ⟨0, Nat.zero_le _, by rw [hQ.out.zero], rfl, Lib.hid (Below.refl _ _)⟩
        case round =>
          obtain ⟨m, hm, rfl, rfl, hq⟩ := hrel
          have x4 := Lib.hid (x3.out.below hq.out)
          clear y0 y1 y2
          obtain ⟨y0, y1, y2⟩ := box3_cells x4.out
          by_cases hml : m < ds.length
          · have hmi : (m : Int) < (ds.length : Int) := by omega
            obtain ⟨b, o, rfl, hbb, hr⟩ := HSR.out m (by rw [hsl.out]; exact hml)
            have bq : Hid (Below W0.heap.size W0 wr) := Lib.hid (b2.out.trans (hq.out.mono b2.out.size))
            have hcs := (bq.out.cell (p := ⟨b, o + m, none⟩) hbb).trans (hr m (by rw [hsl.out]; exact hml))
            have hcc := (hq.out.cell (p := ⟨gB, m, none⟩) hrw.out.lt).trans (hrw.out.cell (j := m) (by rw [crd_length]; exact hml))
            have hmi2 : (m : Int) < (ss.length : Int) := by rw [hsl.out]; exact hmi
            have hnx := Lib.hid (hQ.out.next m hml)
            have hlo := hQ.out.low m (by omega)
            have hpr := hQ.out.prod m hml
            generalize (crd ds (k : Int)).getD m 0 = c at *
            generalize ss.getD m 0 = s at *
            generalize hp : c * s = p at *
            generalize hqm : Q m = qm at *
            have e1 : IntKind.i64.wrap (c * s) = p := by rw [hp]; exact IntWalk.i64_in _ (by omega)
            have e2 : IntKind.i64.wrap (qm + p) = qm + p := IntWalk.i64_in _ (by omega)
            clear hp
            go_wp2
            go_quiet (fail)
            go_wp2
            go_roundw
            case rel => exact ⟨m + 1, by omega, by rw [hnx.out], by go_num, Lib.hid (below_drewN hq.out _)⟩
            case measure => simp [intOf]; omega
          · obtain rfl : m = ds.length := by omega
            have hlo := hQ.out.low ds.length (Nat.le_refl _)
            have hla := Lib.hid hQ.out.last
            obtain ⟨p, hp⟩ : ∃ p : Nat, Q ds.length = (p : Int) := ⟨(Q ds.length).toNat, by omega⟩
            rw [hp] at hla hlo ⊢
            have bq : Hid (Below W0.heap.size W0 wr) := Lib.hid (b2.out.trans (hq.out.mono b2.out.size))
            by_cases hpd : data.length ≤ p
            · have hN := Lib.hid (read_stops (off := off) (ds := ds) (ss := ss) (data := data) hn.out hkl (by rw [← hla.out]; omega))
              clear hp hQ
              go_wp2
              go_ret2
              rw [hN.out]
              exact ⟨b0.out.trans (bq.out.mono b0.out.size), Or.inr ⟨rfl, rfl⟩⟩
            · have hpi : (p : Int) < (data.length : Int) := by omega
              obtain ⟨b, o, rfl, hbb, hr⟩ := HTR.out p (by omega)
              have hcs := (bq.out.cell (p := ⟨b, o + p, none⟩) hbb).trans (hr p (by omega))
              have hown3 := owns_below hown2.out hq.out
              have hgn : Hid (gotI data (places off ds ss (k + 1)) = gotI data (places off ds ss k) ++ [data.getD p 0]) := Lib.hid (by rw [got_next, ← hla.out, Int.toNat_natCast])
              have hall2 : Hid (∀ q ∈ places off ds ss (k + 1), q < data.length) := Lib.hid (by
                rw [places_next]
                intro q hq
                rcases List.mem_append.1 hq with h | h
                · exact hall.out q h
                · rw [List.mem_singleton.1 h, ← hla.out]; exact hpi)
              generalize data.getD p 0 = x at *
              clear hp hQ hown hown2 hrw y0 y1 y2 hpd
              go_wp2_with (first
                | (at_builtin; refine wpList_append_own _ rfl _ _ 34 rfl W0.heap.size 2 i0 (.int .i64 0) 1 8 Try.underlying34 hi hz0 hz1 hz2 rfl (by decide) _ _ _ rfl (hown3.alloc _) ⟨wr.heap.size, 0, none⟩ 1 1 [.int .i64 x] rfl rfl ?c1 ?c2 ?c3 ?c4 ?c5 ?_)
                | go_in)
              case c1 =>
                intro j u hj
                match j, hj with
                | 0, hj => simp at hj; subst hj; simp [Addr.add]
              case c2 => intro u hu; simp at hu; subst hu; rfl
              case c3 => unfold maxLen; omega
              case c4 => omega
              case c5 => have := bq.out.size; simp; omega
              intro v' w5 hown' hgrow _
              have hb1 : Hid (Below W0.heap.size W0 w5) := Lib.hid ((bq.out.alloc bq.out.size _).grown hgrow (by have := bq.out.size; simp; omega) fun g hg => (hown3.lt g hg).1)
              have ho1 : Hid (w5.ownsRow W0.heap.size 2 1 v' (k + 1) ((gotI data (places off ds ss (k + 1))).map (Value.int .i64))) := Lib.hid (by rw [hgn.out, List.map_append]; exact hown')
              clear hown' hgrow hown3
              go_wp2
              go_roundw
              case rel => exact ⟨k + 1, by omega, by go_num, ho1, hb1, hall2⟩
              case measure => simp [intOf]; omega
      · obtain rfl : k = n := by omega
        have hA := Lib.hid (read_all HM.out hn.out hall.out)
        have hL : Hid ((gotI data (places off ds ss k)).length = k) := Lib.hid got_length
        have hW : Hid (∀ z ∈ gotI data (places off ds ss k), InI z) := Lib.hid (fun z hz => by rcases (read_mem hA.out).2 z hz with h | rfl; exact HT.out.wf.2 z h; constructor <;> omega)
        go_wp2
        go_ret2
        rw [hA.out]
        exact ⟨b0.out.trans (hb.out.mono b0.out.size), Or.inl ⟨_, _, rfl, rfl, IntsIn.of_owns (B := W0.heap.size) (by rw [hL.out]; exact hown.out) (by rw [hL.out]; omega) hW.out⟩⟩

end Go.Proofs.Ytfdafceolkmkoaa
