/- The plain law of ViewOnce: the whole, however turned, shows each element once. -/
import Derived.Test.YtfdafceolkmkoaaViewWp
import Derived.Test.YtfdafceolkmkoaaViewRr
import Derived.Test.YtfdafceolkmkoaaViewTr
set_option linter.unusedVariables false
namespace Go.Proofs.Ytfdafceolkmkoaa
open Go.RowKit Vw

theorem pr_perm {xs ys : List Int} (h : xs.Perm ys) : pr xs = pr ys := by
  induction h with
  | nil => rfl
  | cons x _ ih => simp only [pr, ih]
  | swap x y l => simp only [pr]; rw [← Int.mul_assoc, ← Int.mul_assoc, Int.mul_comm x y]
  | trans _ _ ih1 ih2 => exact ih1.trans ih2

theorem cntLoop_of : ∀ {ds : List Int} {n : Int}, Pos ds → 1 ≤ n → n * pr ds ≤ 65536 → cntLoop n ds = (n * pr ds, 0)
  | [], n, _, _, _ => by simp [cntLoop, pr]
  | d :: ds, n, hp, hn, h => by
    have h1 := pr_pos hp.tail
    have hd := hp.head
    have e : n * pr (d :: ds) = n * d * pr ds := by simp only [pr]; rw [Int.mul_assoc]
    have hnd : 1 ≤ n * d := mul_pos' hn hd
    have h2 : n * d * 1 ≤ n * d * pr ds := Int.mul_le_mul_of_nonneg_left h1 (by omega)
    rw [e] at h ⊢
    rw [cntLoop, if_neg (by omega)]
    exact cntLoop_of hp.tail hnd h

theorem cnt_of {ds : List Int} (hp : Pos ds) (hl : ds.length ≤ 6) (h : pr ds ≤ 65536) : cnt ds = (pr ds, 0) := by
  have hlow : ds.any (fun d => decide (d < 1)) = false := by
    rw [List.any_eq_false]
    intro d hd
    have := hp d hd
    simp; omega
  rw [cnt_loop hlow (by omega), cntLoop_of hp (by omega) (by omega)]
  rw [Int.one_mul]

/-- Coordinates that are there. -/
def Val : List Int → List Int → Prop
  | [], [] => True
  | d :: ds, c :: cs => (0 ≤ c ∧ c < d) ∧ Val ds cs
  | _, _ => False

theorem val_plc : ∀ {ds cs : List Int}, Pos ds → Val ds cs → (0 ≤ plc (strd ds) cs ∧ plc (strd ds) cs < pr ds) ∧ crd ds (plc (strd ds) cs) = cs
  | [], [], _, _ => by simp [strd, plc, pr, crd]
  | [], _ :: _, _, h => h.elim
  | _ :: _, [], _, h => h.elim
  | d :: ds, c :: cs, hp, h => by
    obtain ⟨⟨h1, h2⟩, h3⟩ := h
    obtain ⟨⟨i1, i2⟩, i3⟩ := val_plc hp.tail h3
    have hpp := pr_pos hp.tail
    simp only [strd, plc, pr, crd]
    generalize plc (strd ds) cs = r at *
    generalize pr ds = P at *
    have m1 : 0 ≤ c * P := Int.mul_nonneg h1 (by omega)
    have m2 : (c + 1) * P ≤ d * P := Int.mul_le_mul_of_nonneg_right (by omega) (by omega)
    rw [Int.add_mul, Int.one_mul] at m2
    have e1 : (c * P + r) / P = c := by
      rw [Int.add_comm, Int.add_mul_ediv_right _ _ (by omega), Int.ediv_eq_zero_of_lt i1 i2]; omega
    have e2 : (c * P + r) % P = r := by
      rw [Int.add_comm, Int.add_mul_emod_self_right, Int.emod_eq_of_lt i1 i2]
    rw [e1, e2, i3]
    exact ⟨⟨by omega, by omega⟩, rfl⟩

abbrev Q4 := (Int × Int) × (Int × Int)

def z4 : List Int → List Int → List Int → List Int → List Q4
  | d :: ds, s :: ss, a :: us, b :: bs => ((d, s), (a, b)) :: z4 ds ss us bs
  | _, _, _, _ => []

def sm (f : Q4 → Int) : List Q4 → Int
  | [] => 0
  | t :: T => f t + sm f T

theorem sm_perm {f : Q4 → Int} {xs ys : List Q4} (h : xs.Perm ys) : sm f xs = sm f ys := by
  induction h with
  | nil => rfl
  | cons x _ ih => simp only [sm, ih]
  | swap x y l => simp only [sm]; omega
  | trans _ _ ih1 ih2 => exact ih1.trans ih2

theorem lift_perm {α β : Type} (f : α → β) {xs ys : List β} (h : xs.Perm ys) : ∀ T : List α, T.map f = xs → ∃ T', T.Perm T' ∧ T'.map f = ys := by
  induction h with
  | nil => intro T hT; exact ⟨T, .refl _, hT⟩
  | cons x _ ih =>
    intro T hT
    obtain ⟨t, T1, rfl, rfl, h1⟩ := List.map_eq_cons_iff.1 hT
    obtain ⟨T2, p, e⟩ := ih T1 h1
    exact ⟨t :: T2, p.cons t, by rw [List.map_cons, e]⟩
  | swap x y l =>
    intro T hT
    obtain ⟨t, T1, rfl, rfl, h1⟩ := List.map_eq_cons_iff.1 hT
    obtain ⟨u, T2, rfl, rfl, h2⟩ := List.map_eq_cons_iff.1 h1
    exact ⟨u :: t :: T2, .swap _ _ _, by simp [h2]⟩
  | trans _ _ ih1 ih2 =>
    intro T hT
    obtain ⟨T1, p1, e1⟩ := ih1 T hT
    obtain ⟨T2, p2, e2⟩ := ih2 T1 e1
    exact ⟨T2, p1.trans p2, e2⟩

theorem z4_fst : ∀ {ds ss us bs : List Int}, ss.length = ds.length → us.length = ds.length → bs.length = ds.length → (z4 ds ss us bs).map (·.1) = ds.zip ss
  | [], [], [], [], _, _, _ => rfl
  | d :: ds, s :: ss, a :: us, b :: bs, h1, h2, h3 => by
    simp only [z4, List.map_cons, List.zip_cons_cons]
    rw [z4_fst (by simpa using h1) (by simpa using h2) (by simpa using h3)]

theorem z4_sm1 : ∀ {ds ss us bs : List Int}, ss.length = ds.length → us.length = ds.length → bs.length = ds.length → sm (fun t => t.2.1 * t.1.2) (z4 ds ss us bs) = plc ss us
  | [], [], [], [], _, _, _ => rfl
  | d :: ds, s :: ss, a :: us, b :: bs, h1, h2, h3 => by
    simp only [z4, sm, plc]
    rw [z4_sm1 (by simpa using h1) (by simpa using h2) (by simpa using h3)]

theorem z4_sm2 : ∀ {ds ss us bs : List Int}, ss.length = ds.length → us.length = ds.length → bs.length = ds.length → sm (fun t => t.2.2 * t.1.2) (z4 ds ss us bs) = plc ss bs
  | [], [], [], [], _, _, _ => rfl
  | d :: ds, s :: ss, a :: us, b :: bs, h1, h2, h3 => by
    simp only [z4, sm, plc]
    rw [z4_sm2 (by simpa using h1) (by simpa using h2) (by simpa using h3)]

/-- Four that lie over dimensions. -/
theorem z4_of : ∀ {T : List Q4} {ds ss : List Int}, ss.length = ds.length → T.map (·.1) = ds.zip ss → (∀ t ∈ T, (0 ≤ t.2.1 ∧ t.2.1 < t.1.1) ∧ (0 ≤ t.2.2 ∧ t.2.2 < t.1.1)) →
    ∃ us bs, T = z4 ds ss us bs ∧ us.length = ds.length ∧ bs.length = ds.length ∧ Val ds us ∧ Val ds bs
  | [], [], [], _, _, _ => ⟨[], [], rfl, rfl, rfl, trivial, trivial⟩
  | [], _ :: _, _ :: _, _, h, _ => by simp at h
  | _ :: _, [], [], _, h, _ => by simp at h
  | ((d, s), (a, b)) :: T, d' :: ds, s' :: ss, hl, h, hv => by
    simp only [List.map_cons, List.zip_cons_cons, List.cons.injEq, Prod.mk.injEq] at h
    obtain ⟨⟨rfl, rfl⟩, h2⟩ := h
    obtain ⟨us, bs, rfl, l1, l2, v1, v2⟩ := z4_of (by simpa using hl) h2 (fun t ht => hv t (by simp [ht]))
    have h0 := hv _ (List.mem_cons_self ..)
    exact ⟨a :: us, b :: bs, rfl, by simp [l1], by simp [l2], ⟨h0.1, v1⟩, ⟨h0.2, v2⟩⟩

theorem z4_mem : ∀ {ds ss us bs : List Int}, Val ds us → Val ds bs → ∀ t ∈ z4 ds ss us bs, (0 ≤ t.2.1 ∧ t.2.1 < t.1.1) ∧ (0 ≤ t.2.2 ∧ t.2.2 < t.1.1)
  | [], _, _, _, _, _ => by intro t ht; simp [z4] at ht
  | d :: ds, [], us, bs, _, _ => by intro t ht; cases us <;> cases bs <;> simp [z4] at ht
  | d :: ds, s :: ss, [], _, h, _ => h.elim
  | d :: ds, s :: ss, _ :: _, [], _, h => h.elim
  | d :: ds, s :: ss, a :: us, b :: bs, h1, h2 => by
    intro t ht
    simp only [z4, List.mem_cons] at ht
    rcases ht with rfl | ht
    · exact ⟨h1.1, h2.1⟩
    · exact z4_mem h1.2 h2.2 t ht

theorem z4_eq : ∀ {ds ss us bs : List Int}, ss.length = ds.length → us.length = ds.length → bs.length = ds.length → (∀ t ∈ z4 ds ss us bs, t.2.1 = t.2.2) → us = bs
  | [], [], [], [], _, _, _, _ => rfl
  | d :: ds, s :: ss, a :: us, b :: bs, h1, h2, h3, h => by
    have e : a = b := h ((d, s), (a, b)) (by simp [z4])
    rw [e, z4_eq (ds := ds) (ss := ss) (us := us) (bs := bs) (by simpa using h1) (by simpa using h2) (by simpa using h3) (fun t ht => h t (by simp [z4, ht]))]

theorem z4_refl : ∀ {ds ss us : List Int}, ∀ t ∈ z4 ds ss us us, t.2.1 = t.2.2
  | [], _, _ => by intro t ht; simp [z4] at ht
  | d :: ds, [], us => by intro t ht; cases us <;> simp [z4] at ht
  | d :: ds, s :: ss, [] => by intro t ht; simp [z4] at ht
  | d :: ds, s :: ss, a :: us => by
    intro t ht
    simp only [z4, List.mem_cons] at ht
    rcases ht with rfl | ht
    · rfl
    · exact z4_refl t ht

theorem crd_val : ∀ {ds : List Int} {k : Int}, Pos ds → 0 ≤ k → k < pr ds → Val ds (crd ds k)
  | [], k, _, _, _ => trivial
  | d :: ds, k, hp, h0, h1 => by
    have hpp := pr_pos hp.tail
    simp only [pr] at h1
    refine ⟨⟨Int.ediv_nonneg h0 (by omega), Int.ediv_lt_of_lt_mul (by omega) h1⟩, ?_⟩
    exact crd_val hp.tail (Int.emod_nonneg k (by omega)) (Int.emod_lt_of_pos k (by omega))

/-- A view's dimensions and strides that are those of the whole in another order. -/
theorem turned_place {ds ds' ss' : List Int} (hp : Pos ds) (hp' : Pos ds') (hl : ss'.length = ds'.length) (hz : (ds'.zip ss').Perm (ds.zip (strd ds))) {k1 k2 : Int} (h1 : 0 ≤ k1 ∧ k1 < pr ds') (h2 : 0 ≤ k2 ∧ k2 < pr ds') :
    (0 ≤ plc ss' (crd ds' k1) ∧ plc ss' (crd ds' k1) < pr ds) ∧ (plc ss' (crd ds' k1) = plc ss' (crd ds' k2) → k1 = k2) := by
  obtain ⟨T', hperm, hT⟩ := lift_perm (·.1) hz (z4 ds' ss' (crd ds' k1) (crd ds' k2)) (z4_fst hl crd_length crd_length)
  have hv := z4_mem (ss := ss') (crd_val hp' h1.1 h1.2) (crd_val hp' h2.1 h2.2)
  obtain ⟨us, bs, rfl, l1, l2, v1, v2⟩ := z4_of (T := T') (ds := ds) (ss := strd ds) strd_length hT (fun t ht => hv t (hperm.mem_iff.2 ht))
  have e1 : plc ss' (crd ds' k1) = plc (strd ds) us := by rw [← z4_sm1 (ds := ds') (bs := crd ds' k2) hl crd_length crd_length, sm_perm hperm, z4_sm1 strd_length l1 l2]
  have e2 : plc ss' (crd ds' k2) = plc (strd ds) bs := by rw [← z4_sm2 (ds := ds') (us := crd ds' k1) hl crd_length crd_length, sm_perm hperm, z4_sm2 strd_length l1 l2]
  have p1 := val_plc hp v1
  have p2 := val_plc hp v2
  rw [e1, e2]
  refine ⟨p1.1, fun e => ?_⟩
  have e3 : us = bs := by rw [← p1.2, ← p2.2, e]
  have e4 : crd ds' k1 = crd ds' k2 := z4_eq (ds := ds') (ss := ss') hl crd_length crd_length (fun t ht => by
    have h3 := hperm.mem_iff.1 ht
    subst e3
    exact z4_refl t h3)
  rw [← plc_strd hp' h1.1 h1.2, ← plc_strd hp' h2.1 h2.2, e4]

theorem zip_turn (ds ss ps : List Int) : (ps.map fun p => ds.getD p.toNat 0).zip (ps.map fun p => ss.getD p.toNat 0) = ps.map fun p => (ds.getD p.toNat 0, ss.getD p.toNat 0) := by
  induction ps with
  | nil => rfl
  | cons p ps ih => simp only [List.map_cons, List.zip_cons_cons, ih]

theorem zip_all {ds ss : List Int} (h : ss.length = ds.length) : (rng ds.length).map (fun p => (ds.getD p.toNat 0, ss.getD p.toNat 0)) = ds.zip ss := by
  refine List.ext_getElem (by simp [rng_length]; omega) fun j h1 h2 => ?_
  have hj : j < ds.length := by simpa [rng_length] using h1
  simp [rng, List.getD, List.getElem?_eq_getElem hj, List.getElem?_eq_getElem (show j < ss.length by omega)]

theorem map_all (ds : List Int) : (rng ds.length).map (fun p => ds.getD p.toNat 0) = ds := by
  refine List.ext_getElem (by simp [rng_length]) fun j h1 h2 => ?_
  simp [rng, List.getD, List.getElem?_eq_getElem h2]

theorem order_perm {ps : List Int} {n : Nat} (h : sortI ps = rng n) : ps.Perm (rng n) := by
  rw [← h]; exact (List.mergeSort_perm ps _).symm

/-- THE PLAIN LAW. -/
theorem once_law {ds ps : List Int} {n : Nat} (hc : (cnt ds).2 = 0) (hn : pr ds = (n : Int)) (hs : sortI ps = rng ps.length) (hl : ps.length = ds.length) :
    ∃ l, readL 0 (ps.map fun p => ds.getD p.toNat 0) (ps.map fun p => (strd ds).getD p.toNat 0) (upto n) = some l ∧ l.length = n ∧ (∀ i, i < n → 0 ≤ l.getD i 0 ∧ l.getD i 0 < n) ∧ (∀ i j, i < n → j < n → l.getD i 0 = l.getD j 0 → i = j) := by
  rw [hl] at hs
  have hg := cnt_good hc
  have hp := cnt_pos hc
  have hperm := order_perm hs
  generalize hds : (ps.map fun p => ds.getD p.toNat 0) = ds'
  generalize hss : (ps.map fun p => (strd ds).getD p.toNat 0) = ss'
  have pd : ds'.Perm ds := by
    have := hperm.map (fun p => ds.getD p.toNat 0)
    rw [map_all, hds] at this
    exact this
  have psx : ss'.Perm (strd ds) := by
    have := hperm.map (fun p => (strd ds).getD p.toNat 0)
    rw [← strd_length, map_all, hss] at this
    exact this
  have pz : (ds'.zip ss').Perm (ds.zip (strd ds)) := by
    have := hperm.map (fun p => (ds.getD p.toNat 0, (strd ds).getD p.toNat 0))
    rw [zip_all strd_length, ← zip_turn, hds, hss] at this
    exact this
  have hp' : Pos ds' := fun d hd => hp d (pd.mem_iff.1 hd)
  have hpr : pr ds' = pr ds := pr_perm pd
  have hll : ss'.length = ds'.length := by rw [psx.length_eq, pd.length_eq, strd_length]
  have hcnt : cnt ds' = (pr ds', 0) := cnt_of hp' (by rw [pd.length_eq]; exact hg.2.1) (by rw [hpr]; exact hg.2.2.2)
  have hfar : ss'.any farS = false := by
    rw [List.any_eq_false]
    intro s hs
    have := strd_mem hp (psx.mem_iff.1 hs)
    have h1 := hg.2.2.2
    simp only [farS, decide_eq_true_eq]
    omega
  have hm : mayV 0 ds' ss' = true := by simp [mayV, hcnt, hll, hfar]
  have hplace : ∀ k : Nat, k < n → 0 ≤ plc ss' (crd ds' (k : Int)) ∧ plc ss' (crd ds' (k : Int)) < (n : Int) := fun k hk => by
    have := (turned_place hp hp' hll pz (k1 := (k : Int)) (k2 := (k : Int)) (by rw [hpr]; omega) (by rw [hpr]; omega)).1
    rw [hn] at this
    exact this
  have hr := read_all (off := 0) (ds := ds') (ss := ss') (data := upto n) (n := n) hm (by rw [hpr, hn]) (fun p hp => by
    obtain ⟨k, hk, rfl⟩ := List.mem_map.1 hp
    have := hplace k (List.mem_range.1 hk)
    rw [upto_length]; omega)
  have hget : ∀ i, i < n → (gotI (upto n) (places 0 ds' ss' n)).getD i 0 = plc ss' (crd ds' (i : Int)) := fun i hi => by
    have := hplace i hi
    have e : (gotI (upto n) (places 0 ds' ss' n))[i]? = some ((upto n).getD (0 + plc ss' (crd ds' (i : Int))).toNat 0) := by
      simp [gotI, places, hi]
    rw [List.getD, e, Option.getD_some, upto_getD (by omega)]
    omega
  refine ⟨_, hr, got_length, fun i hi => by rw [hget i hi]; exact hplace i hi, fun i j hi hj e => ?_⟩
  rw [hget i hi, hget j hj] at e
  have := (turned_place hp hp' hll pz (k1 := (i : Int)) (k2 := (j : Int)) (by rw [hpr]; omega) (by rw [hpr]; omega)).2 e
  omega

end Go.Proofs.Ytfdafceolkmkoaa
