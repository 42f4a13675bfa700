/-
  No cell of these rows narrows 'for every input' (looked for: loops, veiled, ifaces, maps, wideKeys, modest, calm, conditions, laid).
  DERIVED. THE GIVEN ROWS OF THIS SEAT. 8 by the template 'for every input the law returns true; each argument reads behind the call as it read before'; 0 by the template 'total and deterministic' (their statements: YtfdafceolkmkoaaTotals.lean).
  GIVEN WITH THE SEED: the statements are not yours to turn. If you find one false, say at which input.
  Laid BY PROGRAM, IN A SANDBOX (cutbox-rows.mjs): the forced cells as the released guide's own fill.sh prints them over the translation 50c664bc520b1b6c… (all of the seat's roots in one cut). By AI agents, Wed Nov 11 2026. No macro, syntax, notation, axiom, sorry.
-/
import Derived.Test.YtfdafceolkmkoaaChecked
import GoSem.Claim
import GoSem.ClaimJoined
import GoSem.ClaimMapViews
import Derived.JoinedTies
import Derived.KernelRfl
namespace Go.Proofs.Ytfdafceolkmkoaa
/- THE CELL 'sum', in the pinned program and in every row, IS THE sha256 OF THE DUMP (.gsa) THAT YtfdafceolkmkoaaProg.lean LOADS. Nothing in Lean hashes anything: it is a label: what it is worth is what the hold of that sum in a sandbox is worth. -/
noncomputable def Try.pinned : Pinned := { name := "ytfdafceolkmkoaa", sum := "50c664bc520b1b6cee2fb2246a8f1e9b452938c8daeea40d4dce49322ce69b71", checked := Try.checked }
namespace Rows
def none {H : Type} : Left H := { results := [], args := [] }

/-- 'mandrellaw04.ViewTurns': WHATEVER THE INPUT: true; the input reads as it did. -/
def viewTurnsSpec : ChangeSpec := { name := "viewTurns", fn := fun _ => fun
  | [d1, d2] => { results := [.lit (.bool true)], args := [d1, d2] }
  | _ => none }
def viewTurnsRow : OpenClaim := { program := "ytfdafceolkmkoaa", sum := "50c664bc520b1b6cee2fb2246a8f1e9b452938c8daeea40d4dce49322ce69b71", func := "mandrel/mandrellaw04.ViewTurns", spec := "viewTurns", unfollowed := true, recurses := true, apart := false }
def ViewTurnsSaid : Prop := viewTurnsRow.holds Try.pinned (OpenSpec.ofChange viewTurnsSpec)

/-- ITS FALSE NEIGHBOUR: 'it returns false'. Refute it at one input. -/
def viewTurnsWrong : ChangeSpec := { name := "viewTurns", fn := fun _ => fun
  | [d1, d2] => { results := [.lit (.bool false)], args := [d1, d2] }
  | _ => none }
def ViewTurnsWrongFalsely : Prop := viewTurnsRow.holds Try.pinned (OpenSpec.ofChange viewTurnsWrong)

/-- 'mandrellaw04.ViewReads': WHATEVER THE INPUT: true; the input reads as it did. -/
def viewReadsSpec : ChangeSpec := { name := "viewReads", fn := fun _ => fun
  | [d1, d2] => { results := [.lit (.bool true)], args := [d1, d2] }
  | _ => none }
def viewReadsRow : OpenClaim := { program := "ytfdafceolkmkoaa", sum := "50c664bc520b1b6cee2fb2246a8f1e9b452938c8daeea40d4dce49322ce69b71", func := "mandrel/mandrellaw04.ViewReads", spec := "viewReads", unfollowed := true, recurses := true, apart := false }
def ViewReadsSaid : Prop := viewReadsRow.holds Try.pinned (OpenSpec.ofChange viewReadsSpec)

/-- ITS FALSE NEIGHBOUR: 'it returns false'. Refute it at one input. -/
def viewReadsWrong : ChangeSpec := { name := "viewReads", fn := fun _ => fun
  | [d1, d2] => { results := [.lit (.bool false)], args := [d1, d2] }
  | _ => none }
def ViewReadsWrongFalsely : Prop := viewReadsRow.holds Try.pinned (OpenSpec.ofChange viewReadsWrong)

/-- 'mandrellaw04.ViewBack': WHATEVER THE INPUT: true; the input reads as it did. -/
def viewBackSpec : ChangeSpec := { name := "viewBack", fn := fun _ => fun
  | [d1, d2, d3] => { results := [.lit (.bool true)], args := [d1, d2, d3] }
  | _ => none }
def viewBackRow : OpenClaim := { program := "ytfdafceolkmkoaa", sum := "50c664bc520b1b6cee2fb2246a8f1e9b452938c8daeea40d4dce49322ce69b71", func := "mandrel/mandrellaw04.ViewBack", spec := "viewBack", unfollowed := true, recurses := true, apart := false }
def ViewBackSaid : Prop := viewBackRow.holds Try.pinned (OpenSpec.ofChange viewBackSpec)

/-- ITS FALSE NEIGHBOUR: 'it returns false'. Refute it at one input. -/
def viewBackWrong : ChangeSpec := { name := "viewBack", fn := fun _ => fun
  | [d1, d2, d3] => { results := [.lit (.bool false)], args := [d1, d2, d3] }
  | _ => none }
def ViewBackWrongFalsely : Prop := viewBackRow.holds Try.pinned (OpenSpec.ofChange viewBackWrong)

/-- 'mandrellaw04.ViewWhole': WHATEVER THE INPUT: true; the input reads as it did. -/
def viewWholeSpec : ChangeSpec := { name := "viewWhole", fn := fun _ => fun
  | [d1, d2] => { results := [.lit (.bool true)], args := [d1, d2] }
  | _ => none }
def viewWholeRow : OpenClaim := { program := "ytfdafceolkmkoaa", sum := "50c664bc520b1b6cee2fb2246a8f1e9b452938c8daeea40d4dce49322ce69b71", func := "mandrel/mandrellaw04.ViewWhole", spec := "viewWhole", unfollowed := true, recurses := true, apart := false }
def ViewWholeSaid : Prop := viewWholeRow.holds Try.pinned (OpenSpec.ofChange viewWholeSpec)

/-- ITS FALSE NEIGHBOUR: 'it returns false'. Refute it at one input. -/
def viewWholeWrong : ChangeSpec := { name := "viewWhole", fn := fun _ => fun
  | [d1, d2] => { results := [.lit (.bool false)], args := [d1, d2] }
  | _ => none }
def ViewWholeWrongFalsely : Prop := viewWholeRow.holds Try.pinned (OpenSpec.ofChange viewWholeWrong)

/-- 'mandrellaw04.ViewOnce': WHATEVER THE INPUT: true; the input reads as it did. -/
def viewOnceSpec : ChangeSpec := { name := "viewOnce", fn := fun _ => fun
  | [d1, d2] => { results := [.lit (.bool true)], args := [d1, d2] }
  | _ => none }
def viewOnceRow : OpenClaim := { program := "ytfdafceolkmkoaa", sum := "50c664bc520b1b6cee2fb2246a8f1e9b452938c8daeea40d4dce49322ce69b71", func := "mandrel/mandrellaw04.ViewOnce", spec := "viewOnce", unfollowed := true, recurses := true, apart := false }
def ViewOnceSaid : Prop := viewOnceRow.holds Try.pinned (OpenSpec.ofChange viewOnceSpec)

/-- ITS FALSE NEIGHBOUR: 'it returns false'. Refute it at one input. -/
def viewOnceWrong : ChangeSpec := { name := "viewOnce", fn := fun _ => fun
  | [d1, d2] => { results := [.lit (.bool false)], args := [d1, d2] }
  | _ => none }
def ViewOnceWrongFalsely : Prop := viewOnceRow.holds Try.pinned (OpenSpec.ofChange viewOnceWrong)

/-- 'mandrellaw04.ViewParts': WHATEVER THE INPUT: true; the input reads as it did. -/
def viewPartsSpec : ChangeSpec := { name := "viewParts", fn := fun _ => fun
  | [d1, d2, d3] => { results := [.lit (.bool true)], args := [d1, d2, d3] }
  | _ => none }
def viewPartsRow : OpenClaim := { program := "ytfdafceolkmkoaa", sum := "50c664bc520b1b6cee2fb2246a8f1e9b452938c8daeea40d4dce49322ce69b71", func := "mandrel/mandrellaw04.ViewParts", spec := "viewParts", unfollowed := true, recurses := true, apart := false }
def ViewPartsSaid : Prop := viewPartsRow.holds Try.pinned (OpenSpec.ofChange viewPartsSpec)

/-- ITS FALSE NEIGHBOUR: 'it returns false'. Refute it at one input. -/
def viewPartsWrong : ChangeSpec := { name := "viewParts", fn := fun _ => fun
  | [d1, d2, d3] => { results := [.lit (.bool false)], args := [d1, d2, d3] }
  | _ => none }
def ViewPartsWrongFalsely : Prop := viewPartsRow.holds Try.pinned (OpenSpec.ofChange viewPartsWrong)

/-- 'mandrellaw04.ViewSpreads': WHATEVER THE INPUT: true; the input reads as it did. -/
def viewSpreadsSpec : ChangeSpec := { name := "viewSpreads", fn := fun _ => fun
  | [d1, d2] => { results := [.lit (.bool true)], args := [d1, d2] }
  | _ => none }
def viewSpreadsRow : OpenClaim := { program := "ytfdafceolkmkoaa", sum := "50c664bc520b1b6cee2fb2246a8f1e9b452938c8daeea40d4dce49322ce69b71", func := "mandrel/mandrellaw04.ViewSpreads", spec := "viewSpreads", unfollowed := true, recurses := true, apart := false }
def ViewSpreadsSaid : Prop := viewSpreadsRow.holds Try.pinned (OpenSpec.ofChange viewSpreadsSpec)

/-- ITS FALSE NEIGHBOUR: 'it returns false'. Refute it at one input. -/
def viewSpreadsWrong : ChangeSpec := { name := "viewSpreads", fn := fun _ => fun
  | [d1, d2] => { results := [.lit (.bool false)], args := [d1, d2] }
  | _ => none }
def ViewSpreadsWrongFalsely : Prop := viewSpreadsRow.holds Try.pinned (OpenSpec.ofChange viewSpreadsWrong)

/-- 'mandrellaw04.ViewCuts': WHATEVER THE INPUT: true; the input reads as it did. -/
def viewCutsSpec : ChangeSpec := { name := "viewCuts", fn := fun _ => fun
  | [d1, d2, d3] => { results := [.lit (.bool true)], args := [d1, d2, d3] }
  | _ => none }
def viewCutsRow : OpenClaim := { program := "ytfdafceolkmkoaa", sum := "50c664bc520b1b6cee2fb2246a8f1e9b452938c8daeea40d4dce49322ce69b71", func := "mandrel/mandrellaw04.ViewCuts", spec := "viewCuts", unfollowed := true, recurses := true, apart := false }
def ViewCutsSaid : Prop := viewCutsRow.holds Try.pinned (OpenSpec.ofChange viewCutsSpec)

/-- ITS FALSE NEIGHBOUR: 'it returns false'. Refute it at one input. -/
def viewCutsWrong : ChangeSpec := { name := "viewCuts", fn := fun _ => fun
  | [d1, d2, d3] => { results := [.lit (.bool false)], args := [d1, d2, d3] }
  | _ => none }
def ViewCutsWrongFalsely : Prop := viewCutsRow.holds Try.pinned (OpenSpec.ofChange viewCutsWrong)

/- THE SECOND FORM. 'bulk': how many values and letters a reading holds, each counted each time it is reached (what is shared counts as often as it is met; a slice's spare places count too). A statement '..UptoSaid' is the law's where the arguments, and the package variables that the reading takes, are together of bulk at most 1048576: NARROWER than '..Said'. Prove '..Said' where nothing that the law and all that it calls make is longer than what came in: it says more and counts as full. Else prove '..UptoSaid'. A law counts once. -/
mutual
def uptoBulk {H : Type} : DataW H → Nat
  | .lit (.string bytes) => bytes.length + 1
  | .lit _ => 1
  | .nil => 1
  | .ptr d => uptoBulk d + 1
  | .slice elems spare => uptoBulkAll elems + uptoBulkAll spare + 1
  | .agg parts => uptoBulkAll parts + 1
  | .iface _ d => uptoBulk d + 1
  | .map entries => uptoBulkEntries entries + 1
  | .held _ => 1
def uptoBulkAll {H : Type} : List (DataW H) → Nat
  | [] => 0
  | d :: r => uptoBulk d + uptoBulkAll r
def uptoBulkEntries {H : Type} : List (Lit × DataW H) → Nat
  | [] => 0
  | x :: r => uptoBulkEntry x + uptoBulkEntries r
def uptoBulkEntry {H : Type} : Lit × DataW H → Nat
  | (.string bytes, d) => bytes.length + uptoBulk d + 1
  | (_, d) => uptoBulk d + 1
 end
def uptoSmall : (H : Type) → List (DataW H) → Bool := fun _ ds => decide (uptoBulkAll ds ≤ 1048576)
def OpenSpec.upto (s : _root_.Go.ChangeSpec) : _root_.Go.OpenSpec := { _root_.Go.OpenSpec.ofChange s with cond := some uptoSmall }

/-- 'mandrellaw04.ViewTurns', WHERE WHAT IT READS IS OF BULK AT MOST 1048576: true; the input reads as it did. -/
def viewTurnsUptoRow : OpenClaim := { program := "ytfdafceolkmkoaa", sum := "50c664bc520b1b6cee2fb2246a8f1e9b452938c8daeea40d4dce49322ce69b71", func := "mandrel/mandrellaw04.ViewTurns", spec := "viewTurns", unfollowed := true, recurses := true, apart := false, narrowed := true }
def ViewTurnsUptoSaid : Prop := viewTurnsUptoRow.holds Try.pinned (OpenSpec.upto viewTurnsSpec)

/-- 'mandrellaw04.ViewReads', WHERE WHAT IT READS IS OF BULK AT MOST 1048576: true; the input reads as it did. -/
def viewReadsUptoRow : OpenClaim := { program := "ytfdafceolkmkoaa", sum := "50c664bc520b1b6cee2fb2246a8f1e9b452938c8daeea40d4dce49322ce69b71", func := "mandrel/mandrellaw04.ViewReads", spec := "viewReads", unfollowed := true, recurses := true, apart := false, narrowed := true }
def ViewReadsUptoSaid : Prop := viewReadsUptoRow.holds Try.pinned (OpenSpec.upto viewReadsSpec)

/-- 'mandrellaw04.ViewBack', WHERE WHAT IT READS IS OF BULK AT MOST 1048576: true; the input reads as it did. -/
def viewBackUptoRow : OpenClaim := { program := "ytfdafceolkmkoaa", sum := "50c664bc520b1b6cee2fb2246a8f1e9b452938c8daeea40d4dce49322ce69b71", func := "mandrel/mandrellaw04.ViewBack", spec := "viewBack", unfollowed := true, recurses := true, apart := false, narrowed := true }
def ViewBackUptoSaid : Prop := viewBackUptoRow.holds Try.pinned (OpenSpec.upto viewBackSpec)

/-- 'mandrellaw04.ViewWhole', WHERE WHAT IT READS IS OF BULK AT MOST 1048576: true; the input reads as it did. -/
def viewWholeUptoRow : OpenClaim := { program := "ytfdafceolkmkoaa", sum := "50c664bc520b1b6cee2fb2246a8f1e9b452938c8daeea40d4dce49322ce69b71", func := "mandrel/mandrellaw04.ViewWhole", spec := "viewWhole", unfollowed := true, recurses := true, apart := false, narrowed := true }
def ViewWholeUptoSaid : Prop := viewWholeUptoRow.holds Try.pinned (OpenSpec.upto viewWholeSpec)

/-- 'mandrellaw04.ViewOnce', WHERE WHAT IT READS IS OF BULK AT MOST 1048576: true; the input reads as it did. -/
def viewOnceUptoRow : OpenClaim := { program := "ytfdafceolkmkoaa", sum := "50c664bc520b1b6cee2fb2246a8f1e9b452938c8daeea40d4dce49322ce69b71", func := "mandrel/mandrellaw04.ViewOnce", spec := "viewOnce", unfollowed := true, recurses := true, apart := false, narrowed := true }
def ViewOnceUptoSaid : Prop := viewOnceUptoRow.holds Try.pinned (OpenSpec.upto viewOnceSpec)

/-- 'mandrellaw04.ViewParts', WHERE WHAT IT READS IS OF BULK AT MOST 1048576: true; the input reads as it did. -/
def viewPartsUptoRow : OpenClaim := { program := "ytfdafceolkmkoaa", sum := "50c664bc520b1b6cee2fb2246a8f1e9b452938c8daeea40d4dce49322ce69b71", func := "mandrel/mandrellaw04.ViewParts", spec := "viewParts", unfollowed := true, recurses := true, apart := false, narrowed := true }
def ViewPartsUptoSaid : Prop := viewPartsUptoRow.holds Try.pinned (OpenSpec.upto viewPartsSpec)

/-- 'mandrellaw04.ViewSpreads', WHERE WHAT IT READS IS OF BULK AT MOST 1048576: true; the input reads as it did. -/
def viewSpreadsUptoRow : OpenClaim := { program := "ytfdafceolkmkoaa", sum := "50c664bc520b1b6cee2fb2246a8f1e9b452938c8daeea40d4dce49322ce69b71", func := "mandrel/mandrellaw04.ViewSpreads", spec := "viewSpreads", unfollowed := true, recurses := true, apart := false, narrowed := true }
def ViewSpreadsUptoSaid : Prop := viewSpreadsUptoRow.holds Try.pinned (OpenSpec.upto viewSpreadsSpec)

/-- 'mandrellaw04.ViewCuts', WHERE WHAT IT READS IS OF BULK AT MOST 1048576: true; the input reads as it did. -/
def viewCutsUptoRow : OpenClaim := { program := "ytfdafceolkmkoaa", sum := "50c664bc520b1b6cee2fb2246a8f1e9b452938c8daeea40d4dce49322ce69b71", func := "mandrel/mandrellaw04.ViewCuts", spec := "viewCuts", unfollowed := true, recurses := true, apart := false, narrowed := true }
def ViewCutsUptoSaid : Prop := viewCutsUptoRow.holds Try.pinned (OpenSpec.upto viewCutsSpec)

end Rows
end Go.Proofs.Ytfdafceolkmkoaa
