/- What live asks of two small graphs: plain facts. -/
import Derived.Test.YtccjflhliicdlaaDoorGrT
set_option linter.unusedVariables false
namespace Go.Proofs.YtccjflhliicdlaaDoor
open Go.RowKit

def gx : ByteArray := ⟨#[120]⟩
def gy : ByteArray := ⟨#[121]⟩
def gz : ByteArray := ⟨#[122]⟩
def opReluG : ByteArray := ⟨#[82, 101, 108, 117]⟩
def opNegG : ByteArray := ⟨#[78, 101, 103]⟩
/-- The graph of two nodes, the later one first; turned: both need one another. -/
def gTwo (x : ByteArray) : Gr := ⟨⟨#[]⟩, [⟨opReluG, ⟨#[]⟩, [gz], gy, []⟩, ⟨opNegG, ⟨#[]⟩, [x], gz, []⟩], [⟨gx, 1, []⟩], [⟨gy, 1, []⟩], []⟩

theorem two_order : orderE (gTwo gx) = 0 ∧ work (gTwo gx) = [1, 0] := by decide +kernel
theorem two_turned : orderE (gTwo gy) = 4 := by decide +kernel
theorem two_reads : rdrs (gTwo gx) gx 2 = [1] := by decide +kernel

end Go.Proofs.YtccjflhliicdlaaDoor
