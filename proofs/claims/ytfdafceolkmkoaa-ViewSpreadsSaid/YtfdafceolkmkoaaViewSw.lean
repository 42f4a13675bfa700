/- The walk of mandrellaw04.ViewSpreads. -/
import Derived.Test.YtfdafceolkmkoaaViewSq
import Derived.Deep.RegionHeld3
set_option linter.unusedVariables false
namespace Go.Proofs.Ytfdafceolkmkoaa
open Go.RowKit Vw

theorem spO_ok {off : Int} {ds ss W : List Int} (h : (spO off ds ss W).1 = 0) : (bcO ds W).1 = 0 ∧ (bcO ds W).2 = W ∧ spO off ds ss W = (0, off, W, spS ds ss W) := by
  unfold spO at h ⊢
  by_cases h1 : mayV off ds ss = false
  · rw [if_pos h1] at h; exact absurd h (by decide)
  rw [if_neg h1] at h ⊢
  by_cases h2 : (bcO ds W).1 ≠ 0
  · rw [if_pos h2] at h; exact absurd h h2
  rw [if_neg h2] at h ⊢
  by_cases h3 : (bcO ds W).2 ≠ W
  · rw [if_pos h3] at h; exact absurd h (by decide)
  · rw [if_neg h3]; exact ⟨by simpa using h2, by simpa using h3, rfl⟩

theorem ownc_length : ∀ {ds cs : List Int}, cs.length = ds.length → (ownc ds cs).length = ds.length
  | [], [], _ => rfl
  | d :: ds, c :: cs, h => by
    simp only [ownc, List.length_cons]
    rw [ownc_length (by simpa using h)]
theorem ownc_get : ∀ {ds cs : List Int} {i : Nat}, cs.length = ds.length → i < ds.length → (ownc ds cs).getD i 0 = if ds.getD i 0 = 1 then 0 else cs.getD i 0
  | [], _, _, _, h => by simp at h
  | d :: ds, c :: cs, 0, _, _ => by simp [ownc]
  | d :: ds, c :: cs, i + 1, h, g => by
    simp only [ownc, List.getD_cons_succ]
    exact ownc_get (by simpa using h) (by simpa using g)

/-- The coordinates, the first ones of which are the view's. -/
def OwnTo (ds C : List Int) (ah j : Nat) (cs : List Int) : Prop := cs.length = C.length ∧ ∀ i, i < ds.length → cs.getD (ah + i) 0 = if i < j then (ownc ds (C.drop ah)).getD i 0 else C.getD (ah + i) 0

theorem OwnTo.len {ds C cs : List Int} {ah j : Nat} (h : OwnTo ds C ah j cs) : cs.length = C.length := h.1
theorem OwnTo.zero (ds C : List Int) (ah : Nat) : OwnTo ds C ah 0 C := ⟨rfl, fun i _ => by rw [if_neg (by omega)]⟩
theorem OwnTo.put {ds C cs : List Int} {ah j : Nat} (h : OwnTo ds C ah j cs) (hC : C.length = ah + ds.length) (hj : j < ds.length) (e : ds.getD j 0 = 1) : OwnTo ds C ah (j + 1) (cs.set (ah + j) 0) := by
  have hl : (C.drop ah).length = ds.length := by simp; omega
  refine ⟨by rw [List.length_set]; exact h.1, fun i hi => ?_⟩
  by_cases ei : i = j
  · subst ei
    rw [if_pos (by omega), ownc_get hl hi, if_pos e]
    have hlt : ah + i < cs.length := by rw [h.1]; omega
    simp [List.getD, hlt]
  · have : (cs.set (ah + j) 0).getD (ah + i) 0 = cs.getD (ah + i) 0 := by simp [List.getD, List.getElem?_set_ne (show ah + j ≠ ah + i by omega)]
    rw [this, h.2 i hi]
    by_cases g : i < j
    · rw [if_pos g, if_pos (by omega)]
    · rw [if_neg g, if_neg (by omega)]
theorem OwnTo.stay {ds C cs : List Int} {ah j : Nat} (h : OwnTo ds C ah j cs) (hC : C.length = ah + ds.length) (hj : j < ds.length) (e : ds.getD j 0 ≠ 1) : OwnTo ds C ah (j + 1) cs := by
  have hl : (C.drop ah).length = ds.length := by simp; omega
  refine ⟨h.1, fun i hi => ?_⟩
  rw [h.2 i hi]
  by_cases ei : i = j
  · subst ei
    rw [if_neg (by omega), if_pos (by omega), ownc_get hl hi, if_neg e, getD_drop]
  · by_cases g : i < j
    · rw [if_pos g, if_pos (by omega)]
    · rw [if_neg g, if_neg (by omega)]
theorem OwnTo.ints {ds C cs : List Int} {ah g : Nat} {w : World} (h : OwnTo ds C ah ds.length cs) (hC : C.length = ah + ds.length) (h0 : 0 < ds.length) (h6 : ds.length ≤ 6) (hr : RowAt w g cs) (hv : Val ds (ownc ds (C.drop ah))) (hd : ∀ d ∈ ds, d ≤ 65536) : IntsIn w (.slice (some ⟨g, ah, none⟩) ds.length ds.length) (ownc ds (C.drop ah)) := by
  have hl : (C.drop ah).length = ds.length := by simp; omega
  have hol := ownc_length hl
  have := IntsIn.row (w := w) g ah ds.length (ownc ds (C.drop ah)) (by intro e; rw [e] at hol; simp at hol; omega) (by omega) hr.lt (fun j hj => by
    rw [hol] at hj
    rw [hr.cell (j := ah + j) (by rw [h.1]; omega), h.2 j hj, if_pos hj]) (by omega) (fun z hz => by
    obtain ⟨i, hi, rfl⟩ := List.getElem_of_mem hz
    have hi' : i < ds.length := by omega
    have hx := val_at hv hi'
    have hy := hd _ (getD_mem hi')
    rw [show (ownc ds (C.drop ah)).getD i 0 = (ownc ds (C.drop ah))[i] by simp [List.getD, List.getElem?_eq_getElem hi]] at hx
    constructor <;> omega)
  rw [hol] at this
  exact this

attribute [local irreducible] mayV cnt strd readL upto wholeO spO bcO pr OwnTo ownc Val plc crd spS

set_option maxRecDepth 100000 in
set_option maxHeartbeats 8000000 in
theorem spreads_walk {w : World} (d : Value) (ds : List Int) (pv : Value) (ps : List Int) (hd : Hid (IntsIn w d ds)) (hp : Hid (IntsIn w pv ps)) :
    Calls Try.prog 9 #[d, pv] w fun e w' => e = .returned (.bool true) ∧ Below w.heap.size w w' := by
  obtain ⟨a1, c1, rfl⟩ := hd.out.form
  obtain ⟨a2, c2, rfl⟩ := hp.out.form
  have HR1 := Lib.hid hd.out.rows.2
  have b0 : Hid (Below w.heap.size w w) := Lib.hid (Below.refl _ _)
  go_enter Try.func9, Try.ntmps9
  go_wp2_with fail
  refine (rcount_any hd.out).mono ?_
  rintro e _ ⟨rfl, rfl⟩
  go_wp2_with fail
  refine (rcount_any hp.out).mono ?_
  rintro e _ ⟨rfl, rfl⟩
  by_cases hc : (cnt ds).2 = 0
  rotate_left
  · generalize (cnt ds).2 = ce at *
    have hb : (ce != 0) = true := by simpa using hc
    clear hc
    go_wp2_with fail
    refine (live_from b0).mono ?_
    rintro e w2 ⟨rfl, b2⟩
    go_wp2_with fail
    go_ret
    exact ⟨rfl, b2.out⟩
  by_cases hf : (cnt ps).2 = 0
  rotate_left
  · rw [hc]
    generalize (cnt ps).2 = ce at *
    have hb : (ce != 0) = true := by simpa using hf
    clear hf hc
    go_wp2_with fail
    refine (live_from b0).mono ?_
    rintro e w2 ⟨rfl, b2⟩
    go_wp2_with fail
    go_ret
    exact ⟨rfl, b2.out⟩
  have hg := cnt_good hc
  have hgp := cnt_good hf
  have HPs := Lib.hid (cnt_pos hc)
  have HPp := Lib.hid (cnt_pos hf)
  have HG := Lib.hid hg
  have HC := Lib.hid hc
  have HF := Lib.hid hf
  have hps6 := hgp.2.1
  have hds6 := hg.2.1
  obtain ⟨n, hn⟩ : ∃ n : Nat, Hid (pr ds = (n : Int)) := ⟨(pr ds).toNat, Lib.hid (by have := pr_pos HPs.out; omega)⟩
  obtain ⟨m, hm⟩ : ∃ m : Nat, Hid (pr ps = (m : Int)) := ⟨(pr ps).toNat, Lib.hid (by have := pr_pos HPp.out; omega)⟩
  have hcn : cnt ds = ((n : Int), 0) := Prod.ext (by rw [hg.2.2.1, hn.out]) hc
  have hcm : cnt ps = ((m : Int), 0) := Prod.ext (by rw [hgp.2.2.1, hm.out]) hf
  rw [hcn, hcm]
  clear hcn hcm hc hf hg hgp
  by_cases h2000 : 2000 < n
  · have hb : (2000 : Int) < (n : Int) := by omega
    go_wp2_with fail
    refine (live_from b0).mono ?_
    rintro e w2 ⟨rfl, b2⟩
    go_wp2_with fail
    go_ret
    exact ⟨rfl, b2.out⟩
  have hb0 : ¬ (2000 : Int) < (n : Int) := by omega
  by_cases h2001 : 2000 < m
  · have hb : (2000 : Int) < (m : Int) := by omega
    go_wp2_with fail
    refine (live_from b0).mono ?_
    rintro e w2 ⟨rfl, b2⟩
    go_wp2_with fail
    go_ret
    exact ⟨rfl, b2.out⟩
  have hb1 : ¬ (2000 : Int) < (m : Int) := by omega
  have hn6 : n ≤ 65536 := by omega
  go_wp2_with fail
  refine (whole_any hd.out).mono ?_
  rintro e w1 ⟨B1, h1⟩
  have b1 : Hid (Below w.heap.size w w1) := Lib.hid B1
  clear B1
  have hO : wholeO ds = (0, 0, ds, strd ds) := by unfold wholeO; rw [if_pos HC.out]
  rw [hO] at h1
  rcases h1 with ⟨hne, _⟩ | ⟨_, dv, sv, rfl, g1, g2⟩
  · exact absurd rfl hne
  clear hO
  have i1 := Lib.hid (g1.ints hd.out.wf.1 hd.out.wf.2)
  have i2 : Hid (IntsIn w1 sv (strd ds)) := Lib.hid (g2.ints (by rw [strd_length]; exact hd.out.wf.1) fun z hz => by have := strd_mem HPs.out hz; have := HG.out.2.2.2; constructor <;> omega)
  clear g1 g2
  obtain ⟨a3, c3, rfl⟩ := i1.out.form
  obtain ⟨a4, c4, rfl⟩ := i2.out.form
  obtain ⟨W2, hW2⟩ : ∃ W2, Hid (w1.alloc (.cells #[.int .i64 0, .slice a3 ds.length c3, .slice a4 (strd ds).length c4] 24) = W2) := ⟨_, Lib.hid rfl⟩
  have b2 : Hid (Below w1.heap.size w1 W2) := Lib.hid (by rw [← hW2.out]; exact (Below.refl _ w1).alloc (Nat.le_refl _) _)
  have x2 : Hid (Box3 W2 w1.heap.size (.int .i64 0) (.slice a3 ds.length c3) (.slice a4 (strd ds).length c4)) := Lib.hid (by rw [← hW2.out]; exact Box3.new w1 _ _ _)
  have b3 : Hid (Below w.heap.size w W2) := Lib.hid (b1.out.trans (b2.out.mono b1.out.size))
  have I1 := Lib.hid (i1.out.below b2.out)
  have I2 := Lib.hid (i2.out.below b2.out)
  obtain ⟨y0, y1, y2⟩ := box3_cells x2.out
  go_wp2_with fail
  rw [hW2.out]
  go_wp2_with fail
  refine (spread_any I1.out I2.out (hp.out.below b3.out)).mono ?_
  rintro e w3 ⟨B3, h3⟩
  have b4 : Hid (Below w.heap.size w w3) := Lib.hid (b3.out.trans (B3.mono b3.out.size))
  clear B3 y0 y1 y2 hW2
  rcases h3 with ⟨hne, rfl⟩ | ⟨h0, d', s', rfl, g1, g2⟩
  · generalize (spO 0 ds (strd ds) ps).1 = cc at hne ⊢
    have hb1 : (cc != 0) = true := by simpa using hne
    have b5 : Hid (Below w.heap.size w (w3.alloc (.cells #[.int .i64 0, .slice none 0 0, .slice none 0 0] 24))) := Lib.hid (b4.out.alloc b4.out.size _)
    clear hne
    go_wp2_with fail
    refine (live_from b5).mono ?_
    rintro e w4 ⟨rfl, b6⟩
    go_wp2_with fail
    go_ret
    exact ⟨rfl, b6.out⟩
  obtain ⟨hb1', hb2', hO⟩ := spO_ok h0
  rw [hO] at g1 g2 ⊢
  have hle : ds.length ≤ ps.length := (spread_cmp hb1' hb2').1
  obtain ⟨l, hl, hl2, hl3⟩ := spreads_law HC.out hn.out HF.out hm.out hb1' hb2'
  have HL := Lib.hid hl
  have HL3 := Lib.hid hl3
  have fS := Lib.hid ((spO_outc (off := 0) (ds := ds) (ss := strd ds) (ps := ps) i2.out.wf.2 hp.out.wf.2).s)
  rw [hO] at fS
  have j1 := Lib.hid (g1.ints hp.out.wf.1 hp.out.wf.2)
  have j2 := Lib.hid (fS.out.ints g2)
  clear hl hl3 hO h0 g1 g2 hb1' hb2' fS
  generalize spS ds (strd ds) ps = ss' at *
  obtain ⟨a5, c5, rfl⟩ := j1.out.form
  obtain ⟨a6, c6, rfl⟩ := j2.out.form
  obtain ⟨W3, hW3⟩ : ∃ W3, Hid (w3.alloc (.cells #[.int .i64 0, .slice a5 ps.length c5, .slice a6 ss'.length c6] 24) = W3) := ⟨_, Lib.hid rfl⟩
  have b5 : Hid (Below w3.heap.size w3 W3) := Lib.hid (by rw [← hW3.out]; exact (Below.refl _ w3).alloc (Nat.le_refl _) _)
  have x5 : Hid (Box3 W3 w3.heap.size (.int .i64 0) (.slice a5 ps.length c5) (.slice a6 ss'.length c6)) := Lib.hid (by rw [← hW3.out]; exact Box3.new w3 _ _ _)
  have b6 : Hid (Below w.heap.size w W3) := Lib.hid (b4.out.trans (b5.out.mono b4.out.size))
  have J1 := Lib.hid (j1.out.below b5.out)
  have J2 := Lib.hid (j2.out.below b5.out)
  go_wp2_with fail
  rw [hW3.out]
  obtain ⟨y0, y1, y2⟩ := box3_cells x5.out
  go_region_held3 (fun w' => w'.cell? ⟨w3.heap.size, 0, none⟩ = some (.int .i64 0) ∧ w'.cell? ⟨w3.heap.size, 1, none⟩ = some (.slice a5 ps.length c5) ∧ w'.cell? ⟨w3.heap.size, 2, none⟩ = some (.slice a6 ss'.length c6)) (go_keep) (first | (go_at_call 25; refine (numbers_any n hn6 _).mono ?_; rintro e w4 ⟨B4, v, rfl, r4, i4⟩; have X3 := Lib.hid (x5.out.drew.below B4); obtain ⟨t0, t1, t2⟩ := box3_cells X3.out; have BB := Lib.hid ((Below.refl _ W3).drew.trans B4); have J4 := Lib.hid i4; clear B4 r4 i4) | (go_at_call 21; refine (read0_any (J1.out.below BB.out) (J2.out.below BB.out) J4.out).mono ?_; rintro e w5 ⟨B5, k5, l5, av5, n5, rfl, il5, hn5, hrow5, hR5⟩; have X5 := Lib.hid (X3.out.below B5); obtain ⟨u0, u1, u2⟩ := box3_cells X5.out; have BC := Lib.hid (BB.out.trans (B5.mono BB.out.size)); have I5 := Lib.hid il5; have HR5 := Lib.hid hR5; clear B5 il5 hn5 hrow5 hR5) | fail)
  have hkl : k5 = 0 ∧ l5 = l := by
    rcases HR5.out with ⟨h1, h2⟩ | ⟨h1, h2⟩
    · rw [HL.out] at h2; exact ⟨h1, (Option.some.inj h2).symm⟩
    · rw [HL.out] at h2; exact absurd h2 (by simp)
  obtain ⟨rfl, rfl⟩ := hkl
  obtain ⟨a7, c7, rfl⟩ := I5.out.form
  have b7 : Hid (Below w.heap.size w w5) := Lib.hid (b6.out.trans (BC.out.mono b6.out.size))
  have HR := Lib.hid I5.out.rows.2
  clear t0 t1 t2 u0 u1 u2 y0 y1 y2
  rw [hl2] at I5 ⊢
  obtain ⟨ah, hah⟩ : ∃ ah : Nat, ah = ps.length - ds.length := ⟨_, rfl⟩
  rw [← hah] at HL3
  have hsub : (ps.length : Int) - (ds.length : Int) = (ah : Int) := by omega
  have hlen : ps.length - ah = ds.length := by omega
  have hpa : Hid (ps.length = ah + ds.length) := Lib.hid (by omega)
  clear hah
  go_wp2_with fail
  go_loopw [15] (fun i wr => ∃ k : Nat, k ≤ m ∧ i = .int .i64 (k : Int) ∧ Hid (Below w5.heap.size w5 wr)) (fun i _ => m - (intOf i).toNat)
  case atStart => exact ⟨0, Nat.zero_le _, rfl, Lib.hid (Below.refl _ _)⟩
  case round =>
    obtain ⟨k, hk, rfl, hb⟩ := hrel
    have bw := Lib.hid (b7.out.trans (hb.out.mono b7.out.size))
    by_cases hkl : k < m
    · have hki : (k : Int) < (m : Int) := by omega
      have HCo := Lib.hid (coords_good (.slice a2 ps.length c2) ps (k : Int) (hp.out.below bw.out) (by omega) (Lib.hid (by rw [hm.out]; omega)) HF)
      have hcl : Hid ((crd ps (k : Int)).length = ps.length) := Lib.hid crd_length
      have hv := Lib.hid (HL3.out k hkl).1
      have hlk := Lib.hid (HL3.out k hkl).2
      obtain ⟨bl, ol, rfl, hbl, hrl⟩ := HR.out k (by omega)
      have hlc := Lib.hid (hrl k (by omega))
      rw [hlk.out] at hlc
      clear hlk hrl
      generalize crd ps (k : Int) = C at *
      go_wp2_with fail
      refine HCo.out.mono ?_
      rintro e w6 ⟨rfl, hrow, B6⟩
      have hgB : Hid (w5.heap.size ≤ wr.heap.size) := Lib.hid hb.out.size
      have b6' := Lib.hid (hb.out.trans (B6.mono hb.out.size))
      have hrw := Lib.hid hrow
      clear B6 hrow HCo
      generalize wr.heap.size = gC at hgB hrw ⊢
      by_cases h0 : ds.length = 0
      · have hds : ds = [] := List.eq_nil_of_length_eq_zero h0
        have hal : ah = ps.length := by have := hpa.out; omega
        have hown : ownc ds (C.drop ah) = [] := by subst hds; unfold ownc; rfl
        rw [hown] at hv hlc
        clear hown h0 hds hlen
        have b6w := Lib.hid (b7.out.trans (b6'.out.mono b7.out.size))
        have HOf := Lib.hid (fun (x : Value) (hx : IntsIn w6 x []) => offset_good (.slice a1 ds.length c1) x ds [] (hd.out.below b6w.out) hx HC hv)
        have xl := (b6'.out.cell (p := ⟨bl, ol + k, none⟩) hbl).trans hlc.out
        have HLc := hlc
        clear hlc
        go_wp2_with fail
        refine wp_loop_rounds 1 ?_
        rw [rounds_succ]
        go_wp2_with fail
        refine (HOf.out (.slice (some ⟨gC, 0, none⟩) 0 0) (.empty _ _)).mono ?_
        rintro e w7 ⟨rfl, B7⟩
        have b8 := Lib.hid (b6'.out.trans (B7.mono b6'.out.size))
        have xl2 := (b8.out.cell (p := ⟨bl, ol + k, none⟩) hbl).trans HLc.out
        clear B7 xl HOf
        generalize plc (strd ds) [] = P at *
        go_wp2_with fail
        go_roundw
        case rel => exact ⟨k + 1, by omega, by go_num, b8⟩
        case measure => simp [intOf]; omega
      · have h0' : 0 < ds.length := by omega
        have hal : ah < ps.length := by have := hpa.out; omega
        have hali : (ah : Int) < (ps.length : Int) := by omega
        have hC : Hid (C.length = ah + ds.length) := Lib.hid (by rw [hcl.out, hpa.out])
        have hOw := Lib.hid (OwnTo.zero ds C ah)
        go_wp2_with fail
        go_loopw [19] (fun j wq => ∃ i : Nat, i ≤ ds.length ∧ j = .int .i64 (i : Int) ∧ Hid (∃ cs, RowAt wq gC cs ∧ OwnTo ds C ah i cs) ∧ Hid (Below w5.heap.size w5 wq)) (fun j _ => ds.length - (intOf j).toNat)
        case atStart => exact ⟨0, Nat.zero_le _, rfl, Lib.hid ⟨_, hrw.out, hOw.out⟩, b6'⟩
        case round =>
          obtain ⟨i, hi, rfl, hx, hb2⟩ := hrel
          obtain ⟨cs, hr, how⟩ := hx.out
          have bw2 := Lib.hid (b7.out.trans (hb2.out.mono b7.out.size))
          by_cases hil : i < ds.length
          · have hii : (i : Int) < (ds.length : Int) := by omega
            obtain ⟨b, o, rfl, hbb, hrd⟩ := HR1.out i hil
            have xc := (bw2.out.cell (p := ⟨b, o + i, none⟩) hbb).trans (hrd i hil)
            have hput := how.put hC.out hil
            have hstay := how.stay hC.out hil
            have hcell := hr.cell (j := ah + i) (by rw [how.len, hC.out]; omega)
            have hfz := hr.frozen (ah + i)
            have hset := hr.set (ah + i) 0
            generalize ds.getD i 0 = d1 at *
            by_cases he : d1 = 1
            · have HPT := Lib.hid (hput he)
              have HST := Lib.hid hset
              have hbs : Hid (Below w5.heap.size w5 (wr.setCell ⟨gC, ah + i, none⟩ (.int .i64 0))) := Lib.hid (hb2.out.setCell (p := ⟨gC, ah + i, none⟩) hgB.out _)
              clear hput hstay hset hr how hx
              subst he
              go_wp2_with fail
              go_roundw
              case rel => exact ⟨i + 1, by omega, by go_num, Lib.hid ⟨_, HST.out, HPT.out⟩, hbs⟩
              case measure => simp [intOf]; omega
            · have HPT := Lib.hid (hstay he)
              have HST := Lib.hid hr
              have hbq : (d1 == 1) = false := by simpa using he
              clear hput hstay hset hr how hx he
              go_wp2_with fail
              go_roundw
              case rel => exact ⟨i + 1, by omega, by go_num, Lib.hid ⟨_, HST.out, HPT.out⟩, hb2⟩
              case measure => simp [intOf]; omega
          · obtain rfl : i = ds.length := by omega
            have iq := Lib.hid (how.ints hC.out h0' hds6 hr hv.out (fun d hd => (HG.out.1 d hd).2))
            clear hr how hx
            go_wp2_with fail
            refine (offset_good (.slice a1 ds.length c1) (.slice (some ⟨gC, ah, none⟩) ds.length ds.length) ds (ownc ds (C.drop ah)) (hd.out.below bw2.out) iq.out HC hv).mono ?_
            rintro e w7 ⟨rfl, B7⟩
            have b8 := Lib.hid (hb2.out.trans (B7.mono hb2.out.size))
            have xl := (b8.out.cell (p := ⟨bl, ol + k, none⟩) hbl).trans hlc.out
            clear B7
            generalize plc (strd ds) (ownc ds (C.drop ah)) = P at *
            go_wp2_with fail
            go_roundw
            case rel => exact ⟨k + 1, by omega, by go_num, b8⟩
            case measure => simp [intOf]; omega
    · go_wp2_with fail
      refine (live_from bw).mono ?_
      rintro e w9 ⟨rfl, b9⟩
      go_wp2_with fail
      go_ret
      exact ⟨rfl, b9.out⟩

end Go.Proofs.Ytfdafceolkmkoaa
