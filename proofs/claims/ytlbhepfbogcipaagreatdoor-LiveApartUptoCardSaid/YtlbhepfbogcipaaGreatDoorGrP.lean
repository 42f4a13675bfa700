/- Graphs: the plain functions; maps of names, plain. -/
import Derived.Test.YtlbhepfbogcipaaGreatDoorGrA
import Derived.Test.YtlbhepfbogcipaaGreatDoorSchP
import Derived.Maps.Views
set_option linter.unusedVariables false
set_option linter.unusedSimpArgs false
namespace Go.Proofs.YtlbhepfbogcipaaGreatDoor
open Go.RowKit Go.ChangeShapes Go.WideShapes

/-! ### a map of names -/

def keyS (s : ByteArray) : Lit := .string s.data.toList
theorem keyS_inj {a b : ByteArray} (h : keyS a = keyS b) : a = b := by
  unfold keyS at h
  cases a; cases b
  simpa using h
theorem keyS_key (s : ByteArray) : WideAt.IsKeyLit (keyS s) := by unfold keyS; trivial
theorem sameKey_keyS (a b : ByteArray) : (keyS a).sameKey (keyS b) = decide (a = b) := by
  by_cases h : a = b
  · subst h
    rw [decide_eq_true rfl]
    unfold keyS Lit.sameKey
    simp
  · rw [decide_eq_false h]
    exact Maps.sameKey_ne fun e => h (keyS_inj e)

variable {H : Type}

/-- The map behind so many stores. -/
def putAll (l : List (ByteArray × Int)) : DataW H := l.foldl (fun m p => m.put (keyS p.1) (.lit (.int .i64 p.2))) (.map [])
theorem putAll_nil : (putAll [] : DataW H) = .map [] := rfl
theorem putAll_snoc (l : List (ByteArray × Int)) (p : ByteArray × Int) : (putAll (l ++ [p]) : DataW H) = (putAll l).put (keyS p.1) (.lit (.int .i64 p.2)) := by unfold putAll; rw [List.foldl_append]; rfl
theorem snoc_ind {α : Type} {P : List α → Prop} (h0 : P []) (h1 : ∀ l x, P l → P (l ++ [x])) (l : List α) : P l := by
  rw [← List.reverse_reverse l]
  induction l.reverse with
  | nil => exact h0
  | cons x t ih => rw [List.reverse_cons]; exact h1 _ _ ih
theorem putAll_tidy (l : List (ByteArray × Int)) : Maps.Tidy (putAll l : DataW H) := by
  induction l using snoc_ind with
  | h0 => exact Maps.tidy_empty
  | h1 l p ih => rw [putAll_snoc]; exact ih.put (keyS_key _) _
theorem has_putAll (l : List (ByteArray × Int)) (s : ByteArray) : Maps.has (putAll l : DataW H) (keyS s) = l.any fun p => decide (p.1 = s) := by
  induction l using snoc_ind with
  | h0 => rfl
  | h1 l p ih =>
    rw [putAll_snoc, List.any_append]
    by_cases e : p.1 = s
    · subst e
      rw [Maps.has_put_same (putAll_tidy l).isMap (keyS_key _)]
      simp
    · rw [Maps.has_put_other (fun c => e (keyS_inj c).symm), ih]
      simp [e]
/-- What stands at a name: what was stored last. -/
theorem at_putAll (l : List (ByteArray × Int)) (s : ByteArray) : (putAll l : DataW H).atKey (keyS s) (.lit (.int .i64 0)) = .lit (.int .i64 (((l.reverse.find? fun p => decide (p.1 = s)).map Prod.snd).getD 0)) := by
  induction l using snoc_ind with
  | h0 => rfl
  | h1 l p ih =>
    rw [putAll_snoc, List.reverse_append]
    by_cases e : p.1 = s
    · subst e
      rw [Maps.atKey_put_same (putAll_tidy l).isMap (keyS_key _)]
      simp
    · rw [Maps.atKey_put_other (fun c => e (keyS_inj c).symm), ih]
      simp [e]
theorem size_putAll (l : List (ByteArray × Int)) (p : ByteArray × Int) : Maps.size (putAll (l ++ [p]) : DataW H) = if (l.any fun q => decide (q.1 = p.1)) = true then Maps.size (putAll l : DataW H) else Maps.size (putAll l : DataW H) + 1 := by
  rw [putAll_snoc, Maps.size_put (putAll_tidy l), has_putAll]

/-! ### the order of work -/

def insE : List Vl → Int
  | [] => 0
  | v :: t => if chk v.typ 0 = false then 5 else if (cnt v.dims).2 ≠ 0 then (cnt v.dims).2 else insE t
def initsE : List Nm → Int
  | [] => 0
  | x :: t => if pbE x.typ x.dims x.data ≠ 0 then pbE x.typ x.dims x.data else initsE t
def nodesE : List Nd → Int
  | [] => 0
  | n :: t => if checkP n ≠ 0 then checkP n else nodesE t
def partsE (g : Gr) : Int := if insE g.ins ≠ 0 then insE g.ins else if initsE g.inits ≠ 0 then initsE g.inits else nodesE g.nodes

/-- The names of all values, with the nodes that make them. -/
def pairs (g : Gr) : List (ByteArray × Int) := g.ins.map (fun v => (v.name, -1)) ++ g.inits.map (fun x => (x.name, -1)) ++ g.nodes.mapIdx (fun i n => (n.out, (i : Int)))
def namesG (g : Gr) : List ByteArray := g.ins.map (·.name) ++ g.inits.map (·.name) ++ g.nodes.map (·.out)
/-- Are all names there, and unlike? -/
def unlikeB (l : List ByteArray) : Bool := l.all (fun s => decide (s ≠ ⟨#[]⟩)) && decide l.Nodup
/-- Is all that is read and put out there? -/
def namedB (g : Gr) : Bool := g.nodes.all (fun n => n.ins.all fun s => hasS (namesG g) s) && g.outs.all (fun v => hasS (namesG g) v.name) && decide (g.outs ≠ []) && decide (g.outs.map (·.name)).Nodup

/-- The node that makes a value. -/
def maker (g : Gr) (s : ByteArray) : Option Nat := g.nodes.findIdx? fun n => decide (n.out = s)
def readyB (g : Gr) (out : List Nat) (i : Nat) : Bool :=
  !out.contains i && match g.nodes[i]? with
    | none => false
    | some n => n.ins.all fun s => match maker g s with
      | none => true
      | some k => out.contains k
def nextW (g : Gr) (out : List Nat) : Option Nat := (List.range g.nodes.length).find? (readyB g out)
def workF (g : Gr) : Nat → List Nat → List Nat
  | 0, out => out
  | f + 1, out => match nextW g out with
    | none => out
    | some i => workF g f (out ++ [i])
def work (g : Gr) : List Nat := workF g g.nodes.length []

def tooGreat (g : Gr) : Bool := decide (1000 < g.nodes.length) || decide (3000 < g.ins.length + g.inits.length + g.nodes.length) || decide (3000 < g.outs.length)
def orderE (g : Gr) : Int :=
  if tooGreat g = true then 6 else if partsE g ≠ 0 then partsE g else if unlikeB (namesG g) = false then 4 else if namedB g = false then 4 else if (work g).length ≠ g.nodes.length then 4 else 0
def orderL (g : Gr) : List Nat := if orderE g = 0 then work g else []

end Go.Proofs.YtlbhepfbogcipaaGreatDoor
