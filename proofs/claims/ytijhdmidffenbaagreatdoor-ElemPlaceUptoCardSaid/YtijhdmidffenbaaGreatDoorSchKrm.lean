import Derived.Test.YtijhdmidffenbaaGreatDoorSchSrm
open Go.Lib (hid)
set_option linter.unusedVariables false
set_option linter.unusedSimpArgs false
namespace Go.Proofs.YtijhdmidffenbaaGreatDoor
open Go.RowKit
def kindL (c:Int):Int:=if c=105 then 2 else if c=115 then 7 else if c=102 then 1 else if c=116 then 4 else 3
set_option maxHeartbeats 1000000 in
theorem kind_any (c:Int) (w:World):Calls Tryz.prog 99 #[.int .u8 c] w fun e w'=>e=.returned (.int .i64 (kindL c))∧w=w':=by
 go_enter Tryz.func99,Tryz.ntmps99
 go_wp2
 all_goals (go_ret;refine ⟨ret_val (int_val ?_),rfl⟩)
 all_goals (unfold kindL;simp_all)
def hasW (nm:ByteArray) (s:ByteArray):Bool:=Lib.hasPrefix s.data.toList (nm.data.toList++[32])
theorem eg_attrs1:∀ args w,(callFunc 97 args).run Tryz.prog w=.ok (.enter 97 args) w:=enters_of Tryz.func97 (by kernel_rfl) rfl
theorem eg_attrs2:∀ args w,(callFunc 101 args).run Tryz.prog w=.ok (.enter 101 args) w:=enters_of Tryz.func101 (by kernel_rfl) rfl
theorem attrs1_any (s nm:ByteArray) (hn:nm.size≤1048576) (w:World) (b:Nat) (h1:w.cell? ⟨b,0,none⟩=some (.string nm)) :
  Calls Tryz.prog 97 #[.string s,.pointer (some ⟨b,0,none⟩)] w fun e w'=>e=.returned (.bool (hasW nm s))∧Below w.heap.size w w':=by
 have H:=hid (fun p=>Tryz.strings_HasPrefix s p w);go_enter Tryz.func97,Tryz.ntmps97
 go_wp2_with (go_at_call 98;refine (H.out _).mono ?_;rintro e w' ⟨rfl,rfl⟩)
 go_ret
 exact ⟨ret_val (bool_val rfl),Below.refl _ _⟩
set_option maxHeartbeats 1000000 in
theorem attrs2_any (nm:ByteArray) (w:World) (b:Nat) (h1:w.cell? ⟨b,0,none⟩=some (.string nm)) (a:At) (vd vx vi:Value) :
  Calls Tryz.prog 101 #[a.val vd vx vi,.pointer (some ⟨b,0,none⟩)] w fun e w'=>e=.returned (.bool (decide (a.name=nm)))∧Below w.heap.size w w':=by
 unfold At.val;have h3:=cell_alloc h1 (.cells #[Value.string a.name,Value.int IntKind.i64 a.kind,Value.int IntKind.i64 a.f,Value.int IntKind.i64 a.i,Value.string a.s,Value.int IntKind.i64 a.typ,vd,vx,vi] 69);go_enter Tryz.func101,Tryz.ntmps101
 go_wp2_with fail
 go_ret
 refine ⟨ret_val (bool_val ?_),(Below.refl _ _).alloc (Nat.le_refl _) _⟩;cases h:(a.name.toList==nm.toList)
 ·have:a.name≠nm:=fun e=>by rw [e] at h;simp at h
  simp [this]
 ·have:a.name=nm:=toList_inj (by simpa using h);simp [this]
theorem testS_attrs (nm:ByteArray) (hn:nm.size≤1048576) (w:World) (b:Nat) (h1:w.cell? ⟨b,0,none⟩=some (.string nm)):TestS 97 #[.pointer (some ⟨b,0,none⟩)] (hasW nm) w :=
 fun W s hB=>attrs1_any s nm hn W b ((hB.cell (p:=⟨b,0,none⟩) (cell_in h1)).trans h1)
theorem testA_attrs (nm:ByteArray) (w:World) (b:Nat) (h1:w.cell? ⟨b,0,none⟩=some (.string nm)):TestA 101 #[.pointer (some ⟨b,0,none⟩)] (fun a=>decide (a.name=nm)) w :=
 fun W a vd vx vi hB _=>attrs2_any nm W b ((hB.cell (p:=⟨b,0,none⟩) (cell_in h1)).trans h1) a vd vx vi
end Go.Proofs.YtijhdmidffenbaaGreatDoor
