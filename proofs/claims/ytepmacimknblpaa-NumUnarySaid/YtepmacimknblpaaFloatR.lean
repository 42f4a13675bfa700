/- What the model makes of each operation on floats, as plain functions of the operands and of the world (which answers where a NaN's bits are open): rules for a walk, whatever the program. -/
import Derived.WalkKit
import Derived.WalkLawsBesides
import Derived.Laws.FloatArith
import Derived.Laws.Externs
import Derived.Test.YtepmacimknblpaaFloatB
namespace Go.Proofs.Ytepmacimknblpaa
namespace Fl
open Ieee

theorem okS : single.binade ≤ single.infRung := by decide
theorem okD : double.binade ≤ double.infRung := by decide
theorem okK (k : FloatKind) : k.format.binade ≤ k.format.infRung := by cases k <;> decide

/-- The bits that the tape gives where a NaN's are open. -/
def nanBy (w : World) (q : Question) : Nat := q.cut (w.tape w.drawn q)

theorem nan32 (t : Nat) : 2139095040 < (t % 2 * 2 ^ 31 + 0x7f800000 + 1 + t / 2 % (2 ^ 23 - 1)) % 2147483648 := by
  have h1 : t % 2 = 0 ∨ t % 2 = 1 := by omega
  have h2 := Nat.mod_lt (t / 2) (show 2 ^ 23 - 1 > 0 by decide)
  generalize t / 2 % (2 ^ 23 - 1) = u at *
  rcases h1 with h | h <;> rw [h] <;> omega

theorem nan64 (t : Nat) : 9218868437227405312 < (t % 2 * 2 ^ 63 + 0x7ff0000000000000 + 1 + t / 2 % (2 ^ 52 - 1)) % 9223372036854775808 := by
  have h1 : t % 2 = 0 ∨ t % 2 = 1 := by omega
  have h2 := Nat.mod_lt (t / 2) (show 2 ^ 52 - 1 > 0 by decide)
  generalize t / 2 % (2 ^ 52 - 1) = u at *
  rcases h1 with h | h <;> rw [h] <;> omega

theorem nanBy_bits (w : World) (k : FloatKind) (x y : Nat) : isNaN k.format (nanBy w (.nanBits k x y)) = true := by
  cases k
  · have h : (nanBy w (.nanBits .f32 x y)) = (w.tape w.drawn (.nanBits .f32 x y) % 2) * 2 ^ 31 + 0x7f800000 + 1 + (w.tape w.drawn (.nanBits .f32 x y) / 2) % (2 ^ 23 - 1) := rfl
    rw [h]
    have e1 : single.infRung = 2139095040 := by decide
    have e2 : single.signWeight = 2147483648 := by decide
    simp only [isNaN, FloatKind.format, e1, e2, decide_eq_true_eq]
    exact nan32 _
  · have h : (nanBy w (.nanBits .f64 x y)) = (w.tape w.drawn (.nanBits .f64 x y) % 2) * 2 ^ 63 + 0x7ff0000000000000 + 1 + (w.tape w.drawn (.nanBits .f64 x y) / 2) % (2 ^ 52 - 1) := rfl
    rw [h]
    have e1 : double.infRung = 9218868437227405312 := by decide
    have e2 : double.signWeight = 9223372036854775808 := by decide
    simp only [isNaN, FloatKind.format, e1, e2, decide_eq_true_eq]
    exact nan64 _

theorem nanBy_conv (w : World) (k : FloatKind) (x : Nat) : isNaN k.format (nanBy w (.nanConv k x)) = true := by
  cases k
  · have h : (nanBy w (.nanConv .f32 x)) = (w.tape w.drawn (.nanConv .f32 x) % 2) * 2 ^ 31 + 0x7f800000 + 1 + (w.tape w.drawn (.nanConv .f32 x) / 2) % (2 ^ 23 - 1) := rfl
    rw [h]
    have e1 : single.infRung = 2139095040 := by decide
    have e2 : single.signWeight = 2147483648 := by decide
    simp only [isNaN, FloatKind.format, e1, e2, decide_eq_true_eq]
    exact nan32 _
  · have h : (nanBy w (.nanConv .f64 x)) = (w.tape w.drawn (.nanConv .f64 x) % 2) * 2 ^ 63 + 0x7ff0000000000000 + 1 + (w.tape w.drawn (.nanConv .f64 x) / 2) % (2 ^ 52 - 1) := rfl
    rw [h]
    have e1 : double.infRung = 9218868437227405312 := by decide
    have e2 : double.signWeight = 9223372036854775808 := by decide
    simp only [isNaN, FloatKind.format, e1, e2, decide_eq_true_eq]
    exact nan64 _

/-- What comes out of an arithmetic operation: the result, or the tape's NaN. -/
def orNan (o : Option Nat) (w : World) (q : Question) : Nat := match o with | some r => r | none => nanBy w q
/-- The world behind it. -/
def orDrew (o : Option Nat) (w : World) : World := match o with | some _ => w | none => w.drew

def ar (op : BinOp) (k : FloatKind) (x y : Nat) (w : World) : Nat := orNan (floatBits op k x y) w (.nanBits k x y)
def arW (op : BinOp) (k : FloatKind) (x y : Nat) (w : World) : World := orDrew (floatBits op k x y) w

theorem run_choose {P : Program} {α : Type} (q : Question) (f : Nat → α) (w : World) (h : q.forced = false) :
    ((choose q >>= fun n => pure (f n) : Sem α)).run P w = .ok (f (nanBy w q)) w.drew := by
  show Sem.run P (.choose q fun n => .pure (f n)) w = _
  simp only [Sem.run, h]
  rfl

theorem run_arith {P : Program} (op : BinOp) (hop : op = .add ∨ op = .sub ∨ op = .mul ∨ op = .quo) (t : TypeId) (k : FloatKind) (x y : Nat) (w : World) :
    (binOp op t (.float k x) (.float k y)).run P w = .ok (.float k (ar op k x y w)) (arW op k x y w) := by
  cases h : floatBits op k x y with
  | some r =>
    rw [run_float_arith w op t k x y r h]
    simp [ar, arW, orNan, orDrew, h]
  | none =>
    have e : binOp op t (.float k x) (.float k y) = Op.floatArith op k x y := by rcases hop with rfl | rfl | rfl | rfl <;> simp [binOp]
    rw [e]
    have e2 : Op.floatArith op k x y = (choose (.nanBits k x y) >>= fun n => pure (.float k n) : Sem Value) := by
      rcases hop with rfl | rfl | rfl | rfl <;> simp only [floatBits] at h <;> simp [Op.floatArith, h]
    rw [e2, run_choose (.nanBits k x y) (fun n => Value.float k n) w rfl]
    simp [ar, arW, orNan, orDrew, h]

theorem run_add {P : Program} (t : TypeId) (k : FloatKind) (x y : Nat) (w : World) : (binOp .add t (.float k x) (.float k y)).run P w = .ok (.float k (ar .add k x y w)) (arW .add k x y w) := run_arith _ (by simp) t k x y w
theorem run_sub {P : Program} (t : TypeId) (k : FloatKind) (x y : Nat) (w : World) : (binOp .sub t (.float k x) (.float k y)).run P w = .ok (.float k (ar .sub k x y w)) (arW .sub k x y w) := run_arith _ (by simp) t k x y w
theorem run_mul {P : Program} (t : TypeId) (k : FloatKind) (x y : Nat) (w : World) : (binOp .mul t (.float k x) (.float k y)).run P w = .ok (.float k (ar .mul k x y w)) (arW .mul k x y w) := run_arith _ (by simp) t k x y w
theorem run_quo {P : Program} (t : TypeId) (k : FloatKind) (x y : Nat) (w : World) : (binOp .quo t (.float k x) (.float k y)).run P w = .ok (.float k (ar .quo k x y w)) (arW .quo k x y w) := run_arith _ (by simp) t k x y w

/-- 'float64(x)' of a float32: what it is, or the tape's NaN. -/
def widen (x : Nat) : Option Nat := if isNaN single x then none else some (double.write (single.read x))
def wide (x : Nat) (w : World) : Nat := orNan (widen x) w (.nanConv .f64 x)
def wideW (x : Nat) (w : World) : World := orDrew (widen x) w

/-- 'float32(x)' of a float64: what it is, the tape's NaN, or (of a finite number too great) any word that the tape gives. -/
def narrow (x : Nat) (w : World) : Nat :=
  if isNaN double x then nanBy w (.nanConv .f32 x)
  else if fin double x && (single.read (single.write (double.read x))).isInfinity then nanBy w (.floatToFloat x)
  else single.write (double.read x)
def narrowW (x : Nat) (w : World) : World :=
  if isNaN double x || (fin double x && (single.read (single.write (double.read x))).isInfinity) then w.drew else w

theorem wide_finite {x : Nat} (h : fin single x = true) : (double.read (double.write (single.read x))).isInfinity = false := by
  obtain ⟨m, p, e, hp, hg⟩ := read_fin (fin_lt h)
  rw [e]
  simp only [Format.write, nearest_eq]
  have hle : rnd double m p < double.infRung := by
    have hmg : mg single (rung single x) < mg single single.infRung := mg_lt (fin_lt h)
    have hq : rnd double m p ≤ double.infRung - 1 := by
      refine rnd_le ?_
      have hL : double.leastPlace = -1074 := by decide
      have hS : single.leastPlace = -149 := by decide
      rw [hL]
      rw [hS] at hp hg
      have e1 : (-1074 - p).toNat = 0 := by omega
      have e2 : (p - -1074).toNat = (p - -149).toNat + 925 := by omega
      rw [e1, e2, Nat.pow_add, ← Nat.mul_assoc, hg]
      have : mg single single.infRung * 2 ^ 925 ≤ mg double (double.infRung - 1) * 2 ^ 0 := by decide +kernel
      exact Nat.le_trans (Nat.mul_le_mul_right _ (Nat.le_of_lt hmg)) this
    have : 0 < double.infRung := by decide
    omega
  have hw := rung_word (f := double) (neg := sgn single x) (r := rnd double m p) (rnd_lt _ _ _)
  obtain ⟨m', p', e', _, _⟩ := read_fin (f := double) (w := double.word (sgn single x) (rnd double m p)) (by rw [hw]; exact hle)
  rw [e']; rfl

theorem run_widen {P : Program} (src dst : TypeId) (b : Nat) (hs : P.underlying src = some (.float .f32)) (hd : P.underlying dst = some (.float .f64)) (w : World) :
    (convert src dst (.float .f32 b)).run P w = .ok (.float .f64 (wide b w)) (wideW b w) := by
  have key : (convert src dst (.float .f32 b)).run P w = (Conv.floatToFloat .f32 b .f64).run P w := by
    simp [convert, run_underlying hs, run_underlying hd]
  rw [key]
  unfold Conv.floatToFloat
  rw [if_neg (by decide)]
  by_cases hn : isNaN single b = true
  · have e : FloatKind.f32.decode b = .nan (sgn single b) (rung single b - single.infRung) := read_nan okS hn
    rw [e]
    simp only
    rw [run_choose (.nanConv .f64 b) (fun n => Value.float .f64 n) w rfl]
    simp [wide, wideW, orNan, orDrew, widen, hn]
  · simp only [Bool.not_eq_true] at hn
    have ev : widen b = some (double.write (single.read b)) := by unfold widen; rw [hn]; rfl
    have e1 : wide b w = double.write (single.read b) := by simp [wide, orNan, ev]
    have e2 : wideW b w = w := by simp [wideW, orDrew, ev]
    rw [e1, e2]
    by_cases hf : fin single b = true
    · obtain ⟨m, p, e, _, _⟩ := read_fin (fin_lt hf)
      have hfi := wide_finite hf
      have e' : FloatKind.f32.decode b = .number (sgn single b) m p := e
      rw [e'] ; rw [e] at hfi ⊢
      simp only
      have : (FloatKind.f64.decode (FloatKind.f64.encode (.number (sgn single b) m p))).isInfinity = false := hfi
      rw [this]
      rfl
    · have hinf : rung single b = single.infRung := by
        have h1 := le_inf_of hn
        have h2 : ¬ rung single b < single.infRung := by simpa [fin] using hf
        omega
      have e : single.read b = .infinity (sgn single b) := read_inf okS hinf
      have e' : FloatKind.f32.decode b = .infinity (sgn single b) := e
      rw [e', e]
      rfl

theorem run_narrow {P : Program} (src dst : TypeId) (b : Nat) (hs : P.underlying src = some (.float .f64)) (hd : P.underlying dst = some (.float .f32)) (w : World) :
    (convert src dst (.float .f64 b)).run P w = .ok (.float .f32 (narrow b w)) (narrowW b w) := by
  have key : (convert src dst (.float .f64 b)).run P w = (Conv.floatToFloat .f64 b .f32).run P w := by
    simp [convert, run_underlying hs, run_underlying hd]
  rw [key]
  unfold Conv.floatToFloat
  rw [if_neg (by decide)]
  by_cases hn : isNaN double b = true
  · have e : FloatKind.f64.decode b = .nan (sgn double b) (rung double b - double.infRung) := read_nan okD hn
    rw [e]
    simp only
    rw [run_choose (.nanConv .f32 b) (fun n => Value.float .f32 n) w rfl]
    simp [narrow, narrowW, hn]
  · simp only [Bool.not_eq_true] at hn
    by_cases hf : fin double b = true
    · obtain ⟨m, p, e, _, _⟩ := read_fin (fin_lt hf)
      have e' : FloatKind.f64.decode b = .number (sgn double b) m p := e
      rw [e']
      simp only
      by_cases hi : (single.read (single.write (.number (sgn double b) m p))).isInfinity = true
      · have : (FloatKind.f32.decode (FloatKind.f32.encode (.number (sgn double b) m p))).isInfinity = true := hi
        rw [this]
        simp only [if_true]
        rw [run_choose (.floatToFloat b) (fun n => Value.float .f32 n) w rfl]
        simp [narrow, narrowW, hn, hf, e, hi]
      · simp only [Bool.not_eq_true] at hi
        have : (FloatKind.f32.decode (FloatKind.f32.encode (.number (sgn double b) m p))).isInfinity = false := hi
        rw [this]
        simp [narrow, narrowW, hn, e, hi, FloatKind.encode, FloatKind.format]
    · have hinf : rung double b = double.infRung := by
        have h1 := le_inf_of hn
        have h2 : ¬ rung double b < double.infRung := by simpa [fin] using hf
        omega
      have e : double.read b = .infinity (sgn double b) := read_inf okD hinf
      have e' : FloatKind.f64.decode b = .infinity (sgn double b) := e
      rw [e']
      simp only [Bool.not_eq_true] at hf
      simp [narrow, narrowW, hn, hf, e, FloatKind.encode, FloatKind.format]

/-- math.Sqrt, of the machine. -/
def sqrt64 (x : Nat) (w : World) : Nat := orNan (double.sqrt x) w (.nanBits .f64 x x)
def sqrt64W (x : Nat) (w : World) : World := orDrew (double.sqrt x) w

theorem run_sqrt_entry {P : Program} (x : Nat) (w : World) : (Extern.MathSqrt.sqrt #[.float .f64 x]).run P w = .ok (.float .f64 (sqrt64 x w)) (sqrt64W x w) := by
  change Sem.run P (match FloatKind.f64.format.sqrt x with | some r => pure (.float .f64 r) | none => (choose (.nanBits .f64 x x) >>= fun n => pure (Value.float .f64 n))) w = _
  have e : FloatKind.f64.format.sqrt x = double.sqrt x := rfl
  rw [e]
  cases h : double.sqrt x with
  | some r => simp [sqrt64, sqrt64W, orNan, orDrew, h]
  | none =>
    simp only
    rw [run_choose (.nanBits .f64 x x) (fun n => Value.float .f64 n) w rfl]
    simp [sqrt64, sqrt64W, orNan, orDrew, h]

/-- math.Floor, of the machine: a NaN stays one; of a signalling one the tape says which ('q' is what it is asked). -/
def floor64 (q : Question) (x : Nat) (w : World) : Nat :=
  match double.read x with
  | .nan s t => if double.quiet t = t then x else (if nanBy w q == 1 then x else double.write (.nan s (double.quiet t)))
  | d => double.write (d.integral .down)
def floor64W (x : Nat) (w : World) : World :=
  match double.read x with
  | .nan _ t => if double.quiet t = t then w else w.drew
  | _ => w

theorem run_floor_any : ∃ q : Question, ∀ (P : Program) (x : Nat) (w : World), (Extern.MathFloor.toIntegral "math.archFloor" .down #[.float .f64 x]).run P w = .ok (.float .f64 (floor64 q x w)) (floor64W x w) := by
  refine ⟨?q, fun P x w => ?_⟩
  rotate_left
  · change Sem.run P (match FloatKind.f64.decode x with
      | .nan s t => if FloatKind.f64.format.quiet t = t then pure (.float .f64 x) else
        (choose ?q >>= fun kept => pure (Value.float .f64 (if kept == 1 then x else FloatKind.f64.encode (.nan s (FloatKind.f64.format.quiet t)))))
      | d => pure (.float .f64 (FloatKind.f64.encode (d.integral .down)))) w = _
    have e : FloatKind.f64.decode x = double.read x := rfl
    rw [e]
    cases h : double.read x with
    | nan s t =>
      simp only
      have e2 : FloatKind.f64.format.quiet t = double.quiet t := rfl
      rw [e2]
      by_cases hq : double.quiet t = t
      · rw [if_pos hq]; simp [floor64, floor64W, h, hq]
      · rw [if_neg hq]
        rw [run_choose _ (fun kept => Value.float .f64 (if kept == 1 then x else FloatKind.f64.encode (.nan s (double.quiet t)))) w rfl]
        simp [floor64, floor64W, h, hq]; rfl
    | number s m p => simp [floor64, floor64W, h]; rfl
    | infinity s => simp [floor64, floor64W, h]; rfl

noncomputable def floorQ : Question := Classical.choose run_floor_any
theorem run_floor_entry {P : Program} (x : Nat) (w : World) : (Extern.MathFloor.toIntegral "math.archFloor" .down #[.float .f64 x]).run P w = .ok (.float .f64 (floor64 floorQ x w)) (floor64W x w) :=
  Classical.choose_spec run_floor_any P x w

end Fl
end Go.Proofs.Ytepmacimknblpaa
