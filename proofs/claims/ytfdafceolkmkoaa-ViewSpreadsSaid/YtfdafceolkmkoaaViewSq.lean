/- The plain law of ViewSpreads. -/
import Derived.Test.YtfdafceolkmkoaaViewOf
set_option linter.unusedVariables false
namespace Go.Proofs.Ytfdafceolkmkoaa
open Go.RowKit Vw

/-- The coordinates that the view has: 0 where it has one alone. -/
def ownc : List Int → List Int → List Int
  | d :: ds, c :: cs => (if d = 1 then 0 else c) :: ownc ds cs
  | _, _ => []
def zw : List Int → List Int → List Int → List Int
  | d :: ds, s :: ss, w :: ws => (if d = w then s else 0) :: zw ds ss ws
  | _, _, _ => []
/-- Each dimension is as the wide one, or 1. -/
def Cmp : List Int → List Int → Prop
  | [], [] => True
  | d :: ds, w :: ws => (d = w ∨ d = 1) ∧ Cmp ds ws
  | _, _ => False

theorem zw_length : ∀ {ds ss ws : List Int}, ss.length = ds.length → ws.length = ds.length → (zw ds ss ws).length = ds.length
  | [], [], [], _, _ => rfl
  | d :: ds, s :: ss, w :: ws, h1, h2 => by
    simp only [zw, List.length_cons]
    rw [zw_length (by simpa using h1) (by simpa using h2)]
theorem zw_get : ∀ {ds ss ws : List Int} {j : Nat}, ss.length = ds.length → ws.length = ds.length → j < ds.length → (zw ds ss ws).getD j 0 = if ds.getD j 0 = ws.getD j 0 then ss.getD j 0 else 0
  | [], _, _, _, _, _, h => by simp at h
  | d :: ds, s :: ss, w :: ws, 0, _, _, _ => by simp [zw]
  | d :: ds, s :: ss, w :: ws, j + 1, h1, h2, h3 => by
    simp only [zw, List.getD_cons_succ]
    exact zw_get (by simpa using h1) (by simpa using h2) (by simpa using h3)

theorem list_getD {xs ys : List Int} (hl : xs.length = ys.length) (h : ∀ j, j < ys.length → xs.getD j 0 = ys.getD j 0) : xs = ys := by
  refine List.ext_getElem hl fun j h1 h2 => ?_
  have := h j h2
  simpa [List.getD, List.getElem?_eq_getElem h1, List.getElem?_eq_getElem h2] using this

theorem getD_drop {xs : List Int} {a j : Nat} : (xs.drop a).getD j 0 = xs.getD (a + j) 0 := by simp [List.getD, List.getElem?_drop]

theorem spS_eq {ds ss W : List Int} (hl : ds.length ≤ W.length) (hs : ss.length = ds.length) : spS ds ss W = List.replicate (W.length - ds.length) 0 ++ zw ds ss (W.drop (W.length - ds.length)) := by
  have hw : (W.drop (W.length - ds.length)).length = ds.length := by simp; omega
  have hz := zw_length (ws := W.drop (W.length - ds.length)) hs hw
  refine (list_getD (by rw [spS_length]; simp; omega) fun j hj => ?_).symm
  rw [spS_length] at hj
  rw [spS_get hj]
  unfold spA
  by_cases h : W.length - ds.length ≤ j
  · have e : (List.replicate (W.length - ds.length) (0 : Int) ++ zw ds ss (W.drop (W.length - ds.length))).getD j 0 = (zw ds ss (W.drop (W.length - ds.length))).getD (j - (W.length - ds.length)) 0 := by
      simp [List.getD, List.getElem?_append_right, h]
    rw [e, zw_get hs hw (by omega), getD_drop, show W.length - ds.length + (j - (W.length - ds.length)) = j by omega]
    by_cases g : ds.getD (j - (W.length - ds.length)) 0 = W.getD j 0
    · rw [if_pos g, if_pos ⟨h, g⟩]
    · rw [if_neg g, if_neg (fun q => g q.2)]
  · rw [if_neg (fun q => h q.1)]
    simp [List.getD, List.getElem?_append_left, show j < W.length - ds.length by omega]

theorem plc_rep : ∀ {a : Nat} {S C : List Int}, a ≤ C.length → plc (List.replicate a 0 ++ S) C = plc S (C.drop a)
  | 0, _, _, _ => by simp
  | a + 1, _, [], h => by simp at h
  | a + 1, S, c :: C, h => by
    have := plc_rep (a := a) (S := S) (C := C) (by simpa using h)
    simp only [List.replicate_succ, List.cons_append, plc, List.drop_succ_cons]
    rw [this]; omega

theorem zw_plc : ∀ {ds ss ws cs : List Int}, Cmp ds ws → Val ws cs → ss.length = ds.length → plc (zw ds ss ws) cs = plc ss (ownc ds cs)
  | [], [], [], [], _, _, _ => rfl
  | d :: ds, s :: ss, w :: ws, c :: cs, h1, h2, h3 => by
    have ih := zw_plc h1.2 h2.2 (by simpa using h3)
    simp only [zw, ownc, plc]
    rw [ih]
    congr 1
    obtain ⟨g1, g2⟩ := h2.1
    by_cases e : d = w
    · rw [if_pos e]
      by_cases f : d = 1
      · rw [if_pos f, show c = 0 by omega]
      · rw [if_neg f]
    · have f : d = 1 := h1.1.resolve_left e
      rw [if_neg e, if_pos f]; simp
  | [], _, _ :: _, _, h, _, _ => h.elim
  | _ :: _, _, [], _, h, _, _ => h.elim
  | _, _, _ :: _, [], _, h, _ => h.elim
  | _, _, [], _ :: _, _, h, _ => h.elim
  | [], _ :: _, _, _, _, _, h => by simp at h
  | _ :: _, [], _, _, _, _, h => by simp at h

theorem ownc_val : ∀ {ds ws cs : List Int}, Cmp ds ws → Val ws cs → Val ds (ownc ds cs)
  | [], [], [], _, _ => trivial
  | d :: ds, w :: ws, c :: cs, h1, h2 => by
    refine ⟨?_, ownc_val h1.2 h2.2⟩
    obtain ⟨g1, g2⟩ := h2.1
    by_cases f : d = 1
    · rw [if_pos f]; omega
    · rw [if_neg f]
      have := h1.1.resolve_right f
      omega
  | [], _ :: _, _, h, _ => h.elim
  | _ :: _, [], _, h, _ => h.elim
  | _, _ :: _, [], _, h => h.elim
  | _, [], _ :: _, _, h => h.elim

theorem cmp_of : ∀ {ds ws : List Int}, ws.length = ds.length → (∀ i, i < ds.length → ds.getD i 0 = ws.getD i 0 ∨ ds.getD i 0 = 1) → Cmp ds ws
  | [], [], _, _ => trivial
  | [], _ :: _, h, _ => by simp at h
  | _ :: _, [], h, _ => by simp at h
  | d :: ds, w :: ws, h, g => ⟨by simpa using g 0 (by simp), cmp_of (by simpa using h) fun i hi => by simpa using g (i + 1) (by simpa using hi)⟩

theorem spread_cmp {ds W : List Int} (h1 : (bcO ds W).1 = 0) (h2 : (bcO ds W).2 = W) : ds.length ≤ W.length ∧ Cmp ds (W.drop (W.length - ds.length)) := by
  obtain ⟨g1, g2, g3, g4, g5⟩ := bc_good h1
  rw [g4] at h2
  have hl : ds.length ≤ W.length := by
    have := congrArg List.length h2
    rw [outL_length] at this; omega
  refine ⟨hl, cmp_of (by simp; omega) fun i hi => ?_⟩
  have hp := bc_pair (L := W) (S := ds) hl hi
  rw [outL_comm, h2] at hp
  have hc := hp.2.1 ((g3.comm) (ds.length - 1 - i) (by omega))
  have d1 := cnt_pos g1 _ (getD_mem hi)
  rw [getD_drop]
  have := hp.1
  omega

/-- THE PLAIN LAW. -/
theorem spreads_law {ds W : List Int} {n m : Nat} (hc : (cnt ds).2 = 0) (hn : pr ds = (n : Int)) (hW : (cnt W).2 = 0) (hm : pr W = (m : Int)) (h1 : (bcO ds W).1 = 0) (h2 : (bcO ds W).2 = W) :
    ∃ l, readL 0 W (spS ds (strd ds) W) (upto n) = some l ∧ l.length = m ∧ ∀ k, k < m → Val ds (ownc ds ((crd W (k : Int)).drop (W.length - ds.length))) ∧ l.getD k 0 = plc (strd ds) (ownc ds ((crd W (k : Int)).drop (W.length - ds.length))) := by
  obtain ⟨hl, hcm⟩ := spread_cmp h1 h2
  have hp := cnt_pos hc
  have hpW := cnt_pos hW
  have hval : ∀ k : Nat, k < m → Val ds (ownc ds ((crd W (k : Int)).drop (W.length - ds.length))) := fun k hk => ownc_val hcm (val_drop _ (crd_val hpW (by omega) (by omega)))
  have hpl : ∀ k : Nat, k < m → plc (spS ds (strd ds) W) (crd W (k : Int)) = plc (strd ds) (ownc ds ((crd W (k : Int)).drop (W.length - ds.length))) := fun k hk => by
    rw [spS_eq hl strd_length, plc_rep (by rw [crd_length]; omega)]
    exact zw_plc hcm (val_drop _ (crd_val hpW (by omega) (by omega))) strd_length
  have hfar : (spS ds (strd ds) W).any farS = false := by
    rw [List.any_eq_false]
    intro s hs
    obtain ⟨j, _, rfl⟩ := List.mem_map.1 hs
    have hb : ∀ i, 0 ≤ (strd ds).getD i 0 ∧ (strd ds).getD i 0 ≤ 65536 := fun i => by
      by_cases hi : i < (strd ds).length
      · have := strd_mem hp (getD_mem hi)
        have := (cnt_good hc).2.2.2
        omega
      · rw [List.getD, List.getElem?_eq_none (by omega)]; decide
    simp only [farS, decide_eq_true_eq]
    unfold spA
    by_cases h : W.length - ds.length ≤ j ∧ ds.getD (j - (W.length - ds.length)) 0 = W.getD j 0
    · rw [if_pos h]; have := hb (j - (W.length - ds.length)); omega
    · rw [if_neg h]; omega
  have hmay : mayV 0 W (spS ds (strd ds) W) = true := by simp [mayV, hW, spS_length, hfar]
  have hlt : ∀ k : Nat, k < m → 0 ≤ plc (spS ds (strd ds) W) (crd W (k : Int)) ∧ plc (spS ds (strd ds) W) (crd W (k : Int)) < (n : Int) := fun k hk => by
    rw [hpl k hk, ← hn]; exact (val_plc hp (hval k hk)).1
  have hr := read_all (off := 0) (ds := W) (ss := spS ds (strd ds) W) (data := upto n) (n := m) hmay hm (fun p hp => by
    obtain ⟨k, hk, rfl⟩ := List.mem_map.1 hp
    have := hlt k (List.mem_range.1 hk)
    rw [upto_length]; omega)
  refine ⟨_, hr, got_length, fun k hk => ⟨hval k hk, ?_⟩⟩
  have h3 := hlt k hk
  rw [← hpl k hk]
  have e : (gotI (upto n) (places 0 W (spS ds (strd ds) W) m))[k]? = some ((upto n).getD (0 + plc (spS ds (strd ds) W) (crd W (k : Int))).toNat 0) := by
    simp [gotI, places, hk]
  rw [List.getD, e, Option.getD_some, upto_getD (by omega)]
  omega

end Go.Proofs.Ytfdafceolkmkoaa
