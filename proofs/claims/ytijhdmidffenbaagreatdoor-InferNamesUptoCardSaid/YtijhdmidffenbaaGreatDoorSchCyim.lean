import Derived.Test.YtijhdmidffenbaaGreatDoorSchCaim
open Go.Lib (hid)
set_option linter.unusedVariables false
set_option linter.unusedSimpArgs false
namespace Go.Proofs.YtijhdmidffenbaaGreatDoor
open Go.RowKit
theorem rcopy_any {w:World} {v:Value} {zs:List Int} (h:IntsIn w v zs) :
  Calls Tryz.prog 37 #[v] w fun e w'=>∃ v',e=.returned v'∧w'.ownsRow w.heap.size 3 1 v' zs.length (zs.map (Value.int .i64))∧Below w.heap.size w w':=by
 obtain ⟨i0,hi,hz0,hz1,hz2⟩:=info_parts info_int
 have H:=hid h.news
 obtain ⟨a1,c1,rfl⟩:=h.shape
 clear h
 go_enter Tryz.func37,Tryz.ntmps37
 go_wp2_with (at_builtin;refine wpList_append_copy rfl _ _ 27 rfl Tryz.underlying27 hi hz0 hz1 hz2 rfl (by decide) rfl rfl H.out ?_)
 intro v' w' h1 h2
 have H1:=hid h1
 have H2:=hid h2
 clear h1 h2
 go_wp2
 go_ret
 exact ⟨_,rfl,H1.out,H2.out⟩
end Go.Proofs.YtijhdmidffenbaaGreatDoor
