import Derived.Test.YtijhdmidffenbaaGreatDoorSchFrm
open Go.Lib (hid)
set_option linter.unusedVariables false
set_option linter.unusedSimpArgs false
namespace Go.Proofs.YtijhdmidffenbaaGreatDoor
open Go.RowKit
structure Glob (w:World):Prop where
 ones:∀ (j:Nat) s,onesL[j]?=some s→w.cell? ⟨0,j,none⟩=some (.string s)
 max:∃ m,w.cell? ⟨2,0,none⟩=some (.int .i64 m)
theorem Glob.below {w w':World} (h:Glob w) (hB:Below w.heap.size w w'):Glob w':=by
 refine ⟨fun j s hj=>?_,?_⟩
 ·have:=h.ones j s hj;exact (hB.cell (cell_in this)).trans this
 ·obtain ⟨m,hm⟩:=h.max;exact ⟨m,(hB.cell (cell_in hm)).trans hm⟩
theorem lit_of {l:List UInt8} {op:ByteArray} (h:(l==op.toList)=true):(⟨l.toArray⟩:ByteArray).toList=op.toList:=by
 rw [ByteArray.toList_eq];simpa using h
theorem lit_not {l:List UInt8} {op:ByteArray} (h:(l==op.toList)=false):¬ (⟨l.toArray⟩:ByteArray).toList=op.toList:=by
 rw [ByteArray.toList_eq];simpa using h
def oneB (op:ByteArray):Bool:=onesL.any fun s=>decide (s=op)
theorem oneB_hit {op:ByteArray} {k:Nat} (h:onesL[k]?=some op):oneB op=true:=List.any_eq_true.2 ⟨op,List.mem_of_getElem? h,by simp⟩
def Miss (op:ByteArray) (k:Nat):Prop:=∀ j s,j < k→onesL[j]?=some s→op≠s
theorem Miss.next {op:ByteArray} {k:Nat} {s:ByteArray} (h:Miss op k) (hs:onesL[k]?=some s) (g:¬ s.toList=op.toList):Miss op (k+1):=fun j t hj ht=>by
 by_cases e:j=k
 ·subst e;rw [hs] at ht;obtain rfl:=Option.some.inj ht;exact fun e=>g (by rw [e])
 ·exact h j t (by omega) ht
theorem Miss.all {op:ByteArray} (h:Miss op 10):oneB op=false:=List.any_eq_false.2 fun s hs=>by
 obtain ⟨k,hk,e⟩:=List.mem_iff_getElem.1 hs;have:=h k s hk (by rw [←e];exact List.getElem?_eq_getElem hk)
 simpa using fun e2=>this e2.symm
set_option maxRecDepth 100000 in
set_option maxHeartbeats 2000000 in
theorem ofOne_any (op:ByteArray) {w:World} (hG:Glob w):Calls Tryz.prog 93 #[.string op] w fun e w'=>e=.returned (.bool (oneB op))∧w=w':=by
  have o0:=hG.ones 0 _ rfl;have o1:=hG.ones 1 _ rfl;have o2:=hG.ones 2 _ rfl;have o3:=hG.ones 3 _ rfl;have o4:=hG.ones 4 _ rfl;have o5:=hG.ones 5 _ rfl;have o6:=hG.ones 6 _ rfl;have o7:=hG.ones 7 _ rfl;have o8:=hG.ones 8 _ rfl;have o9:=hG.ones 9 _ rfl;clear hG;have i0:∀ w,(Instr.index 162 (.agg #[.string ⟨#[73,100,101,110,116,105,116,121]⟩,.string ⟨#[78,101,103]⟩,.string ⟨#[65,98,115]⟩,.string ⟨#[78,111,116]⟩,.string ⟨#[82,101,108,117]⟩,.string ⟨#[83,113,114,116]⟩,.string ⟨#[70,108,111,111,114]⟩,.string ⟨#[69,120,112]⟩,.string ⟨#[83,105,103,109,111,105,100]⟩,.string ⟨#[84,97,110,104]⟩]) (.int .i64 0)).run Tryz.prog w=.ok (.string ⟨#[73,100,101,110,116,105,116,121]⟩) w:=fun _=>by kernel_rfl
  have i1:∀ w,(Instr.index 162 (.agg #[.string ⟨#[73,100,101,110,116,105,116,121]⟩,.string ⟨#[78,101,103]⟩,.string ⟨#[65,98,115]⟩,.string ⟨#[78,111,116]⟩,.string ⟨#[82,101,108,117]⟩,.string ⟨#[83,113,114,116]⟩,.string ⟨#[70,108,111,111,114]⟩,.string ⟨#[69,120,112]⟩,.string ⟨#[83,105,103,109,111,105,100]⟩,.string ⟨#[84,97,110,104]⟩]) (.int .i64 1)).run Tryz.prog w=.ok (.string ⟨#[78,101,103]⟩) w:=fun _=>by kernel_rfl
  have i2:∀ w,(Instr.index 162 (.agg #[.string ⟨#[73,100,101,110,116,105,116,121]⟩,.string ⟨#[78,101,103]⟩,.string ⟨#[65,98,115]⟩,.string ⟨#[78,111,116]⟩,.string ⟨#[82,101,108,117]⟩,.string ⟨#[83,113,114,116]⟩,.string ⟨#[70,108,111,111,114]⟩,.string ⟨#[69,120,112]⟩,.string ⟨#[83,105,103,109,111,105,100]⟩,.string ⟨#[84,97,110,104]⟩]) (.int .i64 2)).run Tryz.prog w=.ok (.string ⟨#[65,98,115]⟩) w:=fun _=>by kernel_rfl
  have i3:∀ w,(Instr.index 162 (.agg #[.string ⟨#[73,100,101,110,116,105,116,121]⟩,.string ⟨#[78,101,103]⟩,.string ⟨#[65,98,115]⟩,.string ⟨#[78,111,116]⟩,.string ⟨#[82,101,108,117]⟩,.string ⟨#[83,113,114,116]⟩,.string ⟨#[70,108,111,111,114]⟩,.string ⟨#[69,120,112]⟩,.string ⟨#[83,105,103,109,111,105,100]⟩,.string ⟨#[84,97,110,104]⟩]) (.int .i64 3)).run Tryz.prog w=.ok (.string ⟨#[78,111,116]⟩) w:=fun _=>by kernel_rfl
  have i4:∀ w,(Instr.index 162 (.agg #[.string ⟨#[73,100,101,110,116,105,116,121]⟩,.string ⟨#[78,101,103]⟩,.string ⟨#[65,98,115]⟩,.string ⟨#[78,111,116]⟩,.string ⟨#[82,101,108,117]⟩,.string ⟨#[83,113,114,116]⟩,.string ⟨#[70,108,111,111,114]⟩,.string ⟨#[69,120,112]⟩,.string ⟨#[83,105,103,109,111,105,100]⟩,.string ⟨#[84,97,110,104]⟩]) (.int .i64 4)).run Tryz.prog w=.ok (.string ⟨#[82,101,108,117]⟩) w:=fun _=>by kernel_rfl
  have i5:∀ w,(Instr.index 162 (.agg #[.string ⟨#[73,100,101,110,116,105,116,121]⟩,.string ⟨#[78,101,103]⟩,.string ⟨#[65,98,115]⟩,.string ⟨#[78,111,116]⟩,.string ⟨#[82,101,108,117]⟩,.string ⟨#[83,113,114,116]⟩,.string ⟨#[70,108,111,111,114]⟩,.string ⟨#[69,120,112]⟩,.string ⟨#[83,105,103,109,111,105,100]⟩,.string ⟨#[84,97,110,104]⟩]) (.int .i64 5)).run Tryz.prog w=.ok (.string ⟨#[83,113,114,116]⟩) w:=fun _=>by kernel_rfl
  have i6:∀ w,(Instr.index 162 (.agg #[.string ⟨#[73,100,101,110,116,105,116,121]⟩,.string ⟨#[78,101,103]⟩,.string ⟨#[65,98,115]⟩,.string ⟨#[78,111,116]⟩,.string ⟨#[82,101,108,117]⟩,.string ⟨#[83,113,114,116]⟩,.string ⟨#[70,108,111,111,114]⟩,.string ⟨#[69,120,112]⟩,.string ⟨#[83,105,103,109,111,105,100]⟩,.string ⟨#[84,97,110,104]⟩]) (.int .i64 6)).run Tryz.prog w=.ok (.string ⟨#[70,108,111,111,114]⟩) w:=fun _=>by kernel_rfl
  have i7:∀ w,(Instr.index 162 (.agg #[.string ⟨#[73,100,101,110,116,105,116,121]⟩,.string ⟨#[78,101,103]⟩,.string ⟨#[65,98,115]⟩,.string ⟨#[78,111,116]⟩,.string ⟨#[82,101,108,117]⟩,.string ⟨#[83,113,114,116]⟩,.string ⟨#[70,108,111,111,114]⟩,.string ⟨#[69,120,112]⟩,.string ⟨#[83,105,103,109,111,105,100]⟩,.string ⟨#[84,97,110,104]⟩]) (.int .i64 7)).run Tryz.prog w=.ok (.string ⟨#[69,120,112]⟩) w:=fun _=>by kernel_rfl
  have i8:∀ w,(Instr.index 162 (.agg #[.string ⟨#[73,100,101,110,116,105,116,121]⟩,.string ⟨#[78,101,103]⟩,.string ⟨#[65,98,115]⟩,.string ⟨#[78,111,116]⟩,.string ⟨#[82,101,108,117]⟩,.string ⟨#[83,113,114,116]⟩,.string ⟨#[70,108,111,111,114]⟩,.string ⟨#[69,120,112]⟩,.string ⟨#[83,105,103,109,111,105,100]⟩,.string ⟨#[84,97,110,104]⟩]) (.int .i64 8)).run Tryz.prog w=.ok (.string ⟨#[83,105,103,109,111,105,100]⟩) w:=fun _=>by kernel_rfl
  have i9:∀ w,(Instr.index 162 (.agg #[.string ⟨#[73,100,101,110,116,105,116,121]⟩,.string ⟨#[78,101,103]⟩,.string ⟨#[65,98,115]⟩,.string ⟨#[78,111,116]⟩,.string ⟨#[82,101,108,117]⟩,.string ⟨#[83,113,114,116]⟩,.string ⟨#[70,108,111,111,114]⟩,.string ⟨#[69,120,112]⟩,.string ⟨#[83,105,103,109,111,105,100]⟩,.string ⟨#[84,97,110,104]⟩]) (.int .i64 9)).run Tryz.prog w=.ok (.string ⟨#[84,97,110,104]⟩) w:=fun _=>by kernel_rfl
  go_enter Tryz.func93,Tryz.ntmps93
  go_wp2
  go_loop [4,6] (fun _ i=>∃ k:Nat,k≤10∧i=.int .i64 (k:Int)∧Hid (Miss op k)) (fun _ i=>10 - (intOf i).toNat)
  case atStart=>exact ⟨0,Nat.zero_le _,rfl,hid (fun j s hj=>by omega)⟩
  case round =>
    obtain ⟨k,hk,rfl,hm⟩:=hrel
    match k,hk,hm with
    | 0,_,hm =>
      go_wp2
      all_goals first
        | (have h:(([73,100,101,110,116,105,116,121]:List UInt8)==op.toList)=true:=by assumption
           go_ret
           exact ⟨ret_val (bool_val (oneB_hit (op:=op) (k:=0) (by rw [←toList_inj (lit_of h)];rfl)).symm),rfl⟩)
        | (have h:(([73,100,101,110,116,105,116,121]:List UInt8)==op.toList)=false:=by assumption
           go_round
           case rel=>exact ⟨1,by omega,rfl,hid (hm.out.next rfl (lit_not h))⟩
           case measure=>simp [intOf])
    | 1,_,hm =>
      go_wp2
      all_goals first
        | (have h:(([78,101,103]:List UInt8)==op.toList)=true:=by assumption
           go_ret
           exact ⟨ret_val (bool_val (oneB_hit (op:=op) (k:=1) (by rw [←toList_inj (lit_of h)];rfl)).symm),rfl⟩)
        | (have h:(([78,101,103]:List UInt8)==op.toList)=false:=by assumption
           go_round
           case rel=>exact ⟨2,by omega,rfl,hid (hm.out.next rfl (lit_not h))⟩
           case measure=>simp [intOf])
    | 2,_,hm =>
      go_wp2
      all_goals first
        | (have h:(([65,98,115]:List UInt8)==op.toList)=true:=by assumption
           go_ret
           exact ⟨ret_val (bool_val (oneB_hit (op:=op) (k:=2) (by rw [←toList_inj (lit_of h)];rfl)).symm),rfl⟩)
        | (have h:(([65,98,115]:List UInt8)==op.toList)=false:=by assumption
           go_round
           case rel=>exact ⟨3,by omega,rfl,hid (hm.out.next rfl (lit_not h))⟩
           case measure=>simp [intOf])
    | 3,_,hm =>
      go_wp2
      all_goals first
        | (have h:(([78,111,116]:List UInt8)==op.toList)=true:=by assumption
           go_ret
           exact ⟨ret_val (bool_val (oneB_hit (op:=op) (k:=3) (by rw [←toList_inj (lit_of h)];rfl)).symm),rfl⟩)
        | (have h:(([78,111,116]:List UInt8)==op.toList)=false:=by assumption
           go_round
           case rel=>exact ⟨4,by omega,rfl,hid (hm.out.next rfl (lit_not h))⟩
           case measure=>simp [intOf])
    | 4,_,hm =>
      go_wp2
      all_goals first
        | (have h:(([82,101,108,117]:List UInt8)==op.toList)=true:=by assumption
           go_ret
           exact ⟨ret_val (bool_val (oneB_hit (op:=op) (k:=4) (by rw [←toList_inj (lit_of h)];rfl)).symm),rfl⟩)
        | (have h:(([82,101,108,117]:List UInt8)==op.toList)=false:=by assumption
           go_round
           case rel=>exact ⟨5,by omega,rfl,hid (hm.out.next rfl (lit_not h))⟩
           case measure=>simp [intOf])
    | 5,_,hm =>
      go_wp2
      all_goals first
        | (have h:(([83,113,114,116]:List UInt8)==op.toList)=true:=by assumption
           go_ret
           exact ⟨ret_val (bool_val (oneB_hit (op:=op) (k:=5) (by rw [←toList_inj (lit_of h)];rfl)).symm),rfl⟩)
        | (have h:(([83,113,114,116]:List UInt8)==op.toList)=false:=by assumption
           go_round
           case rel=>exact ⟨6,by omega,rfl,hid (hm.out.next rfl (lit_not h))⟩
           case measure=>simp [intOf])
    | 6,_,hm =>
      go_wp2
      all_goals first
        | (have h:(([70,108,111,111,114]:List UInt8)==op.toList)=true:=by assumption
           go_ret
           exact ⟨ret_val (bool_val (oneB_hit (op:=op) (k:=6) (by rw [←toList_inj (lit_of h)];rfl)).symm),rfl⟩)
        | (have h:(([70,108,111,111,114]:List UInt8)==op.toList)=false:=by assumption
           go_round
           case rel=>exact ⟨7,by omega,rfl,hid (hm.out.next rfl (lit_not h))⟩
           case measure=>simp [intOf])
    | 7,_,hm =>
      go_wp2
      all_goals first
        | (have h:(([69,120,112]:List UInt8)==op.toList)=true:=by assumption
           go_ret
           exact ⟨ret_val (bool_val (oneB_hit (op:=op) (k:=7) (by rw [←toList_inj (lit_of h)];rfl)).symm),rfl⟩)
        | (have h:(([69,120,112]:List UInt8)==op.toList)=false:=by assumption
           go_round
           case rel=>exact ⟨8,by omega,rfl,hid (hm.out.next rfl (lit_not h))⟩
           case measure=>simp [intOf])
    | 8,_,hm =>
      go_wp2
      all_goals first
        | (have h:(([83,105,103,109,111,105,100]:List UInt8)==op.toList)=true:=by assumption
           go_ret
           exact ⟨ret_val (bool_val (oneB_hit (op:=op) (k:=8) (by rw [←toList_inj (lit_of h)];rfl)).symm),rfl⟩)
        | (have h:(([83,105,103,109,111,105,100]:List UInt8)==op.toList)=false:=by assumption
           go_round
           case rel=>exact ⟨9,by omega,rfl,hid (hm.out.next rfl (lit_not h))⟩
           case measure=>simp [intOf])
    | 9,_,hm =>
      go_wp2
      all_goals first
        | (have h:(([84,97,110,104]:List UInt8)==op.toList)=true:=by assumption
           go_ret
           exact ⟨ret_val (bool_val (oneB_hit (op:=op) (k:=9) (by rw [←toList_inj (lit_of h)];rfl)).symm),rfl⟩)
        | (have h:(([84,97,110,104]:List UInt8)==op.toList)=false:=by assumption
           go_round
           case rel=>exact ⟨10,by omega,rfl,hid (hm.out.next rfl (lit_not h))⟩
           case measure=>simp [intOf])
    | 10,_,hm =>
      go_wp2
      go_ret
      exact ⟨ret_val (bool_val (hm.out.all).symm),rfl⟩
    | k+11,hk,_=>omega
end Go.Proofs.YtijhdmidffenbaaGreatDoor
