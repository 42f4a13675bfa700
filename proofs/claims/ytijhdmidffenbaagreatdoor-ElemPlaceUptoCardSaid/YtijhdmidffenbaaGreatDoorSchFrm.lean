import Derived.Test.YtijhdmidffenbaaGreatDoorSchArm
import Derived.Shelf.Abstract
import Derived.Laws.StructEq
import Derived.RangeFuncRecord
open Go.Lib (hid)
set_option linter.unusedVariables false
set_option linter.unusedSimpArgs false
namespace Go.Proofs.YtijhdmidffenbaaGreatDoor
open Go.RowKit
def TestA (g:Nat) (lb:Array Value) (p:At→Bool) (w:World):Prop :=
 ∀ (W:World) (a:At) (vd vx vi:Value),Below w.heap.size w W→AttrN W a vd vx vi→Calls Tryz.prog g (#[a.val vd vx vi]++lb) W fun e w'=>e=.returned (.bool (p a))∧Below W.heap.size W w'
set_option maxHeartbeats 1000000 in
theorem indexA_row (b off cap:Nat) (ats:List At) (hlen:ats.length≤1048576) (w:World) (hb:b < w.heap.size) (hr:Hid (ReadsA w b off ats)) (g:Nat) (lb:Array Value) (eg:∀ args w,(callFunc g args).run Tryz.prog w=.ok (.enter g args) w) (p:At→Bool) (hp:Hid (TestA g lb p w)) :
  Calls Tryz.prog 106 #[.slice (some ⟨b,off,none⟩) ats.length cap,.func (.func g) #[] lb] w fun e w'=>e=.returned (.int .i64 (gidx p ats))∧Below w.heap.size w w':=by
 go_enter Tryz.func106,Tryz.ntmps106
 go_wp2
 go_loopg [5,8] ats.length (fun gg _ s8 wr=>∃ k:Nat,k≤ats.length∧ats.length - k≤gg∧s8=.int .i64 (k:Int)∧Hid (Below w.heap.size w wr)∧Hid ((ats.take k).any p=false))
 case atStart=>exact ⟨0,Nat.zero_le _,by omega,rfl,hid (Below.refl _ _),hid (by simp)⟩
 case round =>
  obtain ⟨k,hk,hg,rfl,hB,hany⟩:=hrel;by_cases hkl:k < ats.length
  ·have hki:(k:Int) < (ats.length:Int):=by omega
   obtain ⟨a,ha⟩:∃ a,ats[k]?=some a:=⟨_,List.getElem?_eq_getElem hkl⟩;obtain ⟨vd,vx,vi,hc,hn⟩:=hr.out k a ha;obtain ⟨c0,c1,c2,c3,c4,c5,c6,c7,c8⟩:=hc.below hb hB.out;have hcall:=hid (hp.out _ a vd vx vi hB.out (hn.below hB.out));have HA:=hid ha;clear ha hc hn;unfold At.val at hcall;cases hq:p a with
   | true =>
    have e:=hid (gidx_at HA.out hany.out hq);rw [hq] at hcall;clear hq;go_wp2_with (go_at_fn g;refine hcall.out.mono ?_;rintro e w' ⟨rfl,hB2⟩)
    go_ret
    exact ⟨ret_val (int_val e.out.symm),hB.out.trans (hB2.mono hB.out.size)⟩
   | false =>
    have e:=hid (take_any HA.out hany.out hq);rw [hq] at hcall;clear hq;go_wp2_with (go_at_fn g;refine hcall.out.mono ?_;rintro e w' ⟨rfl,hB2⟩)
    go_roundg (ats.length - (k+1))
    case measure=>omega
    case rel=>exact ⟨k+1,by omega,by omega,by go_num,hid (hB.out.trans (hB2.mono hB.out.size)),e⟩
  ·have hki:¬ (k:Int) < (ats.length:Int):=by omega
   obtain rfl:k=ats.length:=by omega
   have e:Hid (gidx p ats=-1):=hid (gidx_none (by have:=hany.out;rwa [List.take_length] at this));go_wp2
   go_ret
   exact ⟨ret_val (int_val e.out.symm),hB.out⟩
theorem indexA_empty (a0:Option Addr) (cap:Nat) (fn:Value) (p:At→Bool) (w:World) :
  Calls Tryz.prog 106 #[.slice a0 0 cap,fn] w fun e w'=>e=.returned (.int .i64 (gidx p []))∧Below w.heap.size w w':=by
 have e:gidx p []=-1:=rfl;rw [e];go_enter Tryz.func106,Tryz.ntmps106
 go_wp2
 go_rounds 1
 go_ret
 exact ⟨rfl,Below.refl _ _⟩
theorem indexA_any {w:World} {v:Value} {ats:List At} (h:AttrsIn w v ats) (g:Nat) (lb:Array Value) (eg:∀ args w,(callFunc g args).run Tryz.prog w=.ok (.enter g args) w) (p:At→Bool) (hp:TestA g lb p w) :
  Calls Tryz.prog 106 #[v,.func (.func g) #[] lb] w fun e w'=>e=.returned (.int .i64 (gidx p ats))∧Below w.heap.size w w':=by
 cases h with
 | empty a0 cap=>exact indexA_empty a0 cap _ p w
 | row b off cap _ h0 hc hb hr hlen=>exact indexA_row b off cap ats hlen w hb (hid hr) g lb eg p (hid hp)
theorem containsA_any {w:World} {v:Value} {ats:List At} (h:AttrsIn w v ats) (g:Nat) (lb:Array Value) (eg:∀ args w,(callFunc g args).run Tryz.prog w=.ok (.enter g args) w) (p:At→Bool) (hp:TestA g lb p w) :
  Calls Tryz.prog 100 #[v,.func (.func g) #[] lb] w fun e w'=>e=.returned (.bool (ats.any p))∧Below w.heap.size w w':=by
 have H:=hid (indexA_any h g lb eg p hp);have hg:=hid (gidx_ge p ats);go_enter Tryz.func100,Tryz.ntmps100
 go_wp2_with (go_at_call 106;refine H.out.mono ?_;rintro e w' ⟨rfl,hB⟩)
 go_ret
 refine ⟨ret_val (bool_val ?_),hB⟩;have:=hg.out
 simpa using this
theorem toList_inj {a b:ByteArray} (h:a.toList=b.toList):a=b:=by
 rw [ByteArray.toList_eq,ByteArray.toList_eq] at h;cases a;cases b
 simp at h;simp [h]
theorem str_ne {a b:ByteArray} (h:¬ a.toList=b.toList):¬ a=b:=fun e=>h (by rw [e])
theorem cell_in {w:World} {x:Addr} {v:Value} (h:w.cell? x=some v):x.block < w.heap.size:=by
 rcases Nat.lt_or_ge x.block w.heap.size with g | g
 ·exact g
 ·rw [World.cell?,Array.getElem?_eq_none g] at h;cases h
theorem cell_alloc {w:World} {x:Addr} {v:Value} (h:w.cell? x=some v) (o:Obj):(w.alloc o).cell? x=some v :=
 (((Below.refl w.heap.size w).alloc (Nat.le_refl _) o).cell (cell_in h)).trans h
theorem named_any (nm:ByteArray) (kd:Int) (w:World) :
  Calls Tryz.prog 107 #[.string nm,.int .i64 kd] w fun e w'=>e=.returned (.func (.func 147) #[] #[.pointer (some ⟨w.heap.size,0,none⟩),.pointer (some ⟨w.heap.size+1,0,none⟩)])∧Below w.heap.size w w'∧w'.cell? ⟨w.heap.size,0,none⟩=some (.string nm)∧w'.cell? ⟨w.heap.size+1,0,none⟩=some (.int .i64 kd):=by
 go_enter Tryz.func107,Tryz.ntmps107
 go_wp2
 go_ret
 refine ⟨rfl,((Below.refl _ _).alloc (Nat.le_refl _) _).alloc (by simp) _,cell_alloc ?_ _,?_⟩
 ·rw [World.cell?,World.alloc_heap_new];rfl
 ·have:=World.alloc_heap_new (w.alloc (Obj.cells #[Value.string nm] 9)) (Obj.cells #[Value.int IntKind.i64 kd] 3);simp only [World.size_alloc] at this;rw [World.cell?,this];rfl
set_option maxHeartbeats 1000000 in
theorem named1_any (nm:ByteArray) (kd:Int) (w:World) (x y:Addr) (h1:w.cell? x=some (.string nm)) (h2:w.cell? y=some (.int .i64 kd)) (a:At) (vd vx vi:Value) :
  Calls Tryz.prog 147 #[a.val vd vx vi,.pointer (some x),.pointer (some y)] w fun e w'=>e=.returned (.bool (decide (a.name=nm)&&a.kind==kd))∧Below w.heap.size w w':=by
 unfold At.val;have h3:=cell_alloc h1 (.cells #[Value.string a.name,Value.int IntKind.i64 a.kind,Value.int IntKind.i64 a.f,Value.int IntKind.i64 a.i,Value.string a.s,Value.int IntKind.i64 a.typ,vd,vx,vi] 69);have h4:=cell_alloc h2 (.cells #[Value.string a.name,Value.int IntKind.i64 a.kind,Value.int IntKind.i64 a.f,Value.int IntKind.i64 a.i,Value.string a.s,Value.int IntKind.i64 a.typ,vd,vx,vi] 69);go_enter Tryz.func147,Tryz.ntmps147
 go_wp2_with fail
 ·rename_i h
  go_ret
  refine ⟨ret_val (bool_val ?_),(Below.refl _ _).alloc (Nat.le_refl _) _⟩;simp [toList_inj h]
 ·rename_i h
  go_ret
  refine ⟨ret_val (bool_val ?_),(Below.refl _ _).alloc (Nat.le_refl _) _⟩;simp [str_ne h]
end Go.Proofs.YtijhdmidffenbaaGreatDoor
