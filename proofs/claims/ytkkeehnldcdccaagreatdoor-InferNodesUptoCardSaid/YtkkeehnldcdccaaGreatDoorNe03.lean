import Derived.Test.YtkkeehnldcdccaaGreatDoorNe02
set_option linter.unusedVariables false
set_option linter.unusedSimpArgs false
set_option maxRecDepth 100000
set_option maxHeartbeats 20000000
namespace Go.Proofs.YtkkeehnldcdccaaGreatDoor
open Go.Lib (hid)
open Go.RowKit
section
structure Dw where
 least:Int
 most:Int
 words:List UInt8
deriving DecidableEq
def Ee:List (List UInt8×Dw)→ByteArray→Option Dw
 | [],_=>none
 | (l,r)::t,op=>if op.toList==l then some r else Ee t op
theorem AD{l:List UInt8}{r:Dw}{t:List (List UInt8×Dw)}{op:ByteArray}(h:(op.toList==l)=true):Ee ((l,r)::t) op=some r:=by unfold Ee;rw[if_pos h]
theorem Ay{l:List UInt8}{r:Dw}{t:List (List UInt8×Dw)}{op:ByteArray}(h:(op.toList==l)=false):Ee ((l,r)::t) op=Ee t op:=by simp[Ee,h]
def XW:List (List UInt8×Dw):=[]
def Zf:List (List UInt8×Dw):=([67,111,110,115,116,97,110,116],⟨0,0,[118,97,108,117,101,32,116,42]⟩)::XW
def Zg:List (List UInt8×Dw):=([66,97,116,99,104,78,111,114,109,97,108,105,122,97,116,105,111,110],⟨5,5,[101,112,115,105,108,111,110,32,102]⟩)::Zf
def Zh:List (List UInt8×Dw):=([65,118,101,114,97,103,101,80,111,111,108],⟨1,1,[107,101,114,110,101,108,95,115,104,97,112,101,32,115,42,44,115,116,114,105,100,101,115,32,115,44,112,97,100,115,32,115]⟩)::Zg
def Zi:List (List UInt8×Dw):=([77,97,120,80,111,111,108],⟨1,1,[107,101,114,110,101,108,95,115,104,97,112,101,32,115,42,44,115,116,114,105,100,101,115,32,115,44,112,97,100,115,32,115]⟩)::Zh
def Zj:List (List UInt8×Dw):=([67,111,110,118],⟨2,3,[115,116,114,105,100,101,115,32,115,44,112,97,100,115,32,115,44,100,105,108,97,116,105,111,110,115,32,115,44,103,114,111,117,112,32,105]⟩)::Zi
def Zk:List (List UInt8×Dw):=([71,101,109,109],⟨2,3,[116,114,97,110,115,65,32,105,44,116,114,97,110,115,66,32,105,44,97,108,112,104,97,32,102,44,98,101,116,97,32,102]⟩)::Zj
def Zl:List (List UInt8×Dw):=([83,111,102,116,109,97,120],⟨1,1,[97,120,105,115,32,105]⟩)::Zk
def Zm:List (List UInt8×Dw):=([70,108,97,116,116,101,110],⟨1,1,[97,120,105,115,32,105]⟩)::Zl
def Zn:List (List UInt8×Dw):=([85,110,115,113,117,101,101,122,101],⟨1,1,[97,120,101,115,32,115,42]⟩)::Zm
def Zo:List (List UInt8×Dw):=([83,113,117,101,101,122,101],⟨1,1,[97,120,101,115,32,115,42]⟩)::Zn
def Zp:List (List UInt8×Dw):=([80,97,100],⟨1,1,[112,97,100,115,32,115,42,44,118,97,108,117,101,32,102]⟩)::Zo
def Zq:List (List UInt8×Dw):=([71,97,116,104,101,114],⟨2,2,[97,120,105,115,32,105]⟩)::Zp
def Zs:List (List UInt8×Dw):=([83,108,105,99,101],⟨1,1,[115,116,97,114,116,115,32,115,42,44,101,110,100,115,32,115,42,44,97,120,101,115,32,115]⟩)::Zq
def Zt:List (List UInt8×Dw):=([67,111,110,99,97,116],⟨1,20,[97,120,105,115,32,105,42]⟩)::Zs
def Zu:List (List UInt8×Dw):=([84,114,97,110,115,112,111,115,101],⟨1,1,[112,101,114,109,32,115]⟩)::Zt
def Zv:List (List UInt8×Dw):=([69,120,112,97,110,100],⟨1,1,[115,104,97,112,101,32,115,42]⟩)::Zu
def Zw:List (List UInt8×Dw):=([82,101,115,104,97,112,101],⟨1,1,[115,104,97,112,101,32,115,42]⟩)::Zv
def Zx:List (List UInt8×Dw):=([65,114,103,77,97,120],⟨1,1,[97,120,105,115,32,105,44,107,101,101,112,100,105,109,115,32,105]⟩)::Zw
def Zy:List (List UInt8×Dw):=([82,101,100,117,99,101,77,101,97,110],⟨1,1,[97,120,101,115,32,115,44,107,101,101,112,100,105,109,115,32,105]⟩)::Zx
def Zz:List (List UInt8×Dw):=([82,101,100,117,99,101,77,97,120],⟨1,1,[97,120,101,115,32,115,44,107,101,101,112,100,105,109,115,32,105]⟩)::Zy
def ZA:List (List UInt8×Dw):=([82,101,100,117,99,101,83,117,109],⟨1,1,[97,120,101,115,32,115,44,107,101,101,112,100,105,109,115,32,105]⟩)::Zz
def ZB:List (List UInt8×Dw):=([67,97,115,116],⟨1,1,[116,111,32,105,42]⟩)::ZA
def ZC:List (List UInt8×Dw):=([67,108,105,112],⟨1,1,[109,105,110,32,102,44,109,97,120,32,102]⟩)::ZB
def ZD:List (List UInt8×Dw):=([87,104,101,114,101],⟨3,3,[]⟩)::ZC
def ZE:List (List UInt8×Dw):=([77,97,116,77,117,108],⟨2,2,[]⟩)::ZD
def ZF:List (List UInt8×Dw):=([71,114,101,97,116,101,114],⟨2,2,[]⟩)::ZE
def ZG:List (List UInt8×Dw):=([76,101,115,115],⟨2,2,[]⟩)::ZF
def ZH:List (List UInt8×Dw):=([69,113,117,97,108],⟨2,2,[]⟩)::ZG
def bA:List (List UInt8×Dw):=([88,111,114],⟨2,2,[]⟩)::ZH
def bB:List (List UInt8×Dw):=([79,114],⟨2,2,[]⟩)::bA
def bC:List (List UInt8×Dw):=([65,110,100],⟨2,2,[]⟩)::bB
def bD:List (List UInt8×Dw):=([77,105,110],⟨2,2,[]⟩)::bC
def bE:List (List UInt8×Dw):=([77,97,120],⟨2,2,[]⟩)::bD
def bF:List (List UInt8×Dw):=([68,105,118],⟨2,2,[]⟩)::bE
def bG:List (List UInt8×Dw):=([77,117,108],⟨2,2,[]⟩)::bF
def bH:List (List UInt8×Dw):=([83,117,98],⟨2,2,[]⟩)::bG
def bI:List (List UInt8×Dw):=([65,100,100],⟨2,2,[]⟩)::bH
def ID:List (List UInt8×Dw):=([71,108,111,98,97,108,65,118,101,114,97,103,101,80,111,111,108],⟨1,1,[]⟩)::bI
def BR(op:ByteArray):Dw×Bool:=
 match Ee ID op with
 | some r=>(r,true)
 | none=>(⟨1,1,[]⟩,Cq op)
theorem NS{op:ByteArray}{r:Dw}(h:Ee ID op=some r):BR op=(r,true):=by unfold BR;rw[h]
theorem LU{op:ByteArray}(h:Ee ID op=none):BR op=(⟨1,1,[]⟩,Cq op):=by unfold BR;rw[h]
def Ce(op:ByteArray)(w:World)(e:Ending)(w':World):Prop:=
 e=.returned (.tuple #[.agg #[.int .i64 (BR op).1.least,.int .i64 (BR op).1.most,.string ⟨(BR op).1.words.toArray⟩],.bool (BR op).2])∧Below w.heap.size w w'
theorem Ce.hit{op:ByteArray}{w w':World}{r:Dw}(h:Ee ID op=some r)(hB:Below w.heap.size w w'):Ce op w (.returned (.tuple #[.agg #[.int .i64 r.least,.int .i64 r.most,.string ⟨r.words.toArray⟩],.bool true])) w':=by
 unfold Ce;rw[NS h];exact⟨rfl,hB⟩
theorem Ce.miss{op:ByteArray}{w w':World}(h:Ee ID op=none)(hB:Below w.heap.size w w'):Ce op w (.returned (.tuple #[.agg #[.int .i64 1,.int .i64 1,.string ⟨#[]⟩],.bool (Cq op)])) w':=by
 unfold Ce;rw[LU h];exact⟨rfl,hB⟩
theorem Ug(op:ByteArray):Ee XW op=none:=rfl
attribute [local irreducible] Ee
theorem Uh(op:ByteArray){w:World}(hG:Eu w):Calls Tryz.prog 33 #[.string op] w (Ce op w):=by
 have H:=hid (LT op (hG.below ((Below.refl _ w).alloc (Nat.le_refl _) (Obj.cells #[.int .i64 0,.int .i64 0,.string ⟨#[]⟩] 71))));have hm0:Hid (Ee ID op=Ee ID op):=hid rfl;clear hG;go_enter Tryz.func33,Tryz.ntmps33
 iterate 32 go_step
 cases h:(op.toList==([71,108,111,98,97,108,65,118,101,114,97,103,101,80,111,111,108]:List UInt8))with
 | true=>
  have hm:=hid (hm0.out.trans (AD h));clear h hm0 H
  repeat' go_step
  refine bodyPost_ret (v:=.tuple #[.agg #[.int .i64 1,.int .i64 1,.string ⟨#[]⟩],.bool true]) (by simp[results,Tryz.f33,go_sem]) rfl ?_;exact Ce.hit hm.out ((Below.refl _ w).alloc (Nat.le_refl _) _)
 | false=>
 have hm1:=hid (hm0.out.trans (Ay h));clear h hm0;go_step
 iterate 12 go_step
 cases h:(op.toList==([65,100,100]:List UInt8))with
 | true=>
  have hm:=hid (hm1.out.trans (AD h));clear h hm1 H
  repeat' go_step
  refine bodyPost_ret (v:=.tuple #[.agg #[.int .i64 2,.int .i64 2,.string ⟨#[]⟩],.bool true]) (by simp[results,Tryz.f33,go_sem]) rfl ?_;exact Ce.hit hm.out ((Below.refl _ w).alloc (Nat.le_refl _) _)
 | false=>
 have hm2:=hid (hm1.out.trans (Ay h));clear h hm1;go_step
 iterate 11 go_step
 cases h:(op.toList==([83,117,98]:List UInt8))with
 | true=>
  have hm:=hid (hm2.out.trans (AD h));clear h hm2 H
  repeat' go_step
  refine bodyPost_ret (v:=.tuple #[.agg #[.int .i64 2,.int .i64 2,.string ⟨#[]⟩],.bool true]) (by simp[results,Tryz.f33,go_sem]) rfl ?_;exact Ce.hit hm.out ((Below.refl _ w).alloc (Nat.le_refl _) _)
 | false=>
 have hm3:=hid (hm2.out.trans (Ay h));clear h hm2;go_step
 iterate 11 go_step
 cases h:(op.toList==([77,117,108]:List UInt8))with
 | true=>
  have hm:=hid (hm3.out.trans (AD h));clear h hm3 H
  repeat' go_step
  refine bodyPost_ret (v:=.tuple #[.agg #[.int .i64 2,.int .i64 2,.string ⟨#[]⟩],.bool true]) (by simp[results,Tryz.f33,go_sem]) rfl ?_;exact Ce.hit hm.out ((Below.refl _ w).alloc (Nat.le_refl _) _)
 | false=>
 have hm4:=hid (hm3.out.trans (Ay h));clear h hm3;go_step
 iterate 11 go_step
 cases h:(op.toList==([68,105,118]:List UInt8))with
 | true=>
  have hm:=hid (hm4.out.trans (AD h));clear h hm4 H
  repeat' go_step
  refine bodyPost_ret (v:=.tuple #[.agg #[.int .i64 2,.int .i64 2,.string ⟨#[]⟩],.bool true]) (by simp[results,Tryz.f33,go_sem]) rfl ?_;exact Ce.hit hm.out ((Below.refl _ w).alloc (Nat.le_refl _) _)
 | false=>
 have hm5:=hid (hm4.out.trans (Ay h));clear h hm4;go_step
 iterate 11 go_step
 cases h:(op.toList==([77,97,120]:List UInt8))with
 | true=>
  have hm:=hid (hm5.out.trans (AD h));clear h hm5 H
  repeat' go_step
  refine bodyPost_ret (v:=.tuple #[.agg #[.int .i64 2,.int .i64 2,.string ⟨#[]⟩],.bool true]) (by simp[results,Tryz.f33,go_sem]) rfl ?_;exact Ce.hit hm.out ((Below.refl _ w).alloc (Nat.le_refl _) _)
 | false=>
 have hm6:=hid (hm5.out.trans (Ay h));clear h hm5;go_step
 iterate 11 go_step
 cases h:(op.toList==([77,105,110]:List UInt8))with
 | true=>
  have hm:=hid (hm6.out.trans (AD h));clear h hm6 H
  repeat' go_step
  refine bodyPost_ret (v:=.tuple #[.agg #[.int .i64 2,.int .i64 2,.string ⟨#[]⟩],.bool true]) (by simp[results,Tryz.f33,go_sem]) rfl ?_;exact Ce.hit hm.out ((Below.refl _ w).alloc (Nat.le_refl _) _)
 | false=>
 have hm7:=hid (hm6.out.trans (Ay h));clear h hm6;go_step
 iterate 11 go_step
 cases h:(op.toList==([65,110,100]:List UInt8))with
 | true=>
  have hm:=hid (hm7.out.trans (AD h));clear h hm7 H
  repeat' go_step
  refine bodyPost_ret (v:=.tuple #[.agg #[.int .i64 2,.int .i64 2,.string ⟨#[]⟩],.bool true]) (by simp[results,Tryz.f33,go_sem]) rfl ?_;exact Ce.hit hm.out ((Below.refl _ w).alloc (Nat.le_refl _) _)
 | false=>
 have hm8:=hid (hm7.out.trans (Ay h));clear h hm7;go_step
 iterate 11 go_step
 cases h:(op.toList==([79,114]:List UInt8))with
 | true=>
  have hm:=hid (hm8.out.trans (AD h));clear h hm8 H
  repeat' go_step
  refine bodyPost_ret (v:=.tuple #[.agg #[.int .i64 2,.int .i64 2,.string ⟨#[]⟩],.bool true]) (by simp[results,Tryz.f33,go_sem]) rfl ?_;exact Ce.hit hm.out ((Below.refl _ w).alloc (Nat.le_refl _) _)
 | false=>
 have hm9:=hid (hm8.out.trans (Ay h));clear h hm8;go_step
 iterate 11 go_step
 cases h:(op.toList==([88,111,114]:List UInt8))with
 | true=>
  have hm:=hid (hm9.out.trans (AD h));clear h hm9 H
  repeat' go_step
  refine bodyPost_ret (v:=.tuple #[.agg #[.int .i64 2,.int .i64 2,.string ⟨#[]⟩],.bool true]) (by simp[results,Tryz.f33,go_sem]) rfl ?_;exact Ce.hit hm.out ((Below.refl _ w).alloc (Nat.le_refl _) _)
 | false=>
 have hm10:=hid (hm9.out.trans (Ay h));clear h hm9;go_step
 iterate 11 go_step
 cases h:(op.toList==([69,113,117,97,108]:List UInt8))with
 | true=>
  have hm:=hid (hm10.out.trans (AD h));clear h hm10 H
  repeat' go_step
  refine bodyPost_ret (v:=.tuple #[.agg #[.int .i64 2,.int .i64 2,.string ⟨#[]⟩],.bool true]) (by simp[results,Tryz.f33,go_sem]) rfl ?_;exact Ce.hit hm.out ((Below.refl _ w).alloc (Nat.le_refl _) _)
 | false=>
 have hm11:=hid (hm10.out.trans (Ay h));clear h hm10;go_step
 iterate 11 go_step
 cases h:(op.toList==([76,101,115,115]:List UInt8))with
 | true=>
  have hm:=hid (hm11.out.trans (AD h));clear h hm11 H
  repeat' go_step
  refine bodyPost_ret (v:=.tuple #[.agg #[.int .i64 2,.int .i64 2,.string ⟨#[]⟩],.bool true]) (by simp[results,Tryz.f33,go_sem]) rfl ?_;exact Ce.hit hm.out ((Below.refl _ w).alloc (Nat.le_refl _) _)
 | false=>
 have hm12:=hid (hm11.out.trans (Ay h));clear h hm11;go_step
 iterate 11 go_step
 cases h:(op.toList==([71,114,101,97,116,101,114]:List UInt8))with
 | true=>
  have hm:=hid (hm12.out.trans (AD h));clear h hm12 H
  repeat' go_step
  refine bodyPost_ret (v:=.tuple #[.agg #[.int .i64 2,.int .i64 2,.string ⟨#[]⟩],.bool true]) (by simp[results,Tryz.f33,go_sem]) rfl ?_;exact Ce.hit hm.out ((Below.refl _ w).alloc (Nat.le_refl _) _)
 | false=>
 have hm13:=hid (hm12.out.trans (Ay h));clear h hm12;go_step
 iterate 10 go_step
 cases h:(op.toList==([77,97,116,77,117,108]:List UInt8))with
 | true=>
  have hm:=hid (hm13.out.trans (AD h));clear h hm13 H
  repeat' go_step
  refine bodyPost_ret (v:=.tuple #[.agg #[.int .i64 2,.int .i64 2,.string ⟨#[]⟩],.bool true]) (by simp[results,Tryz.f33,go_sem]) rfl ?_;exact Ce.hit hm.out ((Below.refl _ w).alloc (Nat.le_refl _) _)
 | false=>
 have hm14:=hid (hm13.out.trans (Ay h));clear h hm13;go_step
 iterate 11 go_step
 cases h:(op.toList==([87,104,101,114,101]:List UInt8))with
 | true=>
  have hm:=hid (hm14.out.trans (AD h));clear h hm14 H
  repeat' go_step
  refine bodyPost_ret (v:=.tuple #[.agg #[.int .i64 3,.int .i64 3,.string ⟨#[]⟩],.bool true]) (by simp[results,Tryz.f33,go_sem]) rfl ?_;exact Ce.hit hm.out ((Below.refl _ w).alloc (Nat.le_refl _) _)
 | false=>
 have hm15:=hid (hm14.out.trans (Ay h));clear h hm14;go_step
 iterate 11 go_step
 cases h:(op.toList==([67,108,105,112]:List UInt8))with
 | true=>
  have hm:=hid (hm15.out.trans (AD h));clear h hm15 H
  repeat' go_step
  refine bodyPost_ret (v:=.tuple #[.agg #[.int .i64 1,.int .i64 1,.string ⟨#[109,105,110,32,102,44,109,97,120,32,102]⟩],.bool true]) (by simp[results,Tryz.f33,go_sem]) rfl ?_;exact Ce.hit hm.out ((Below.refl _ w).alloc (Nat.le_refl _) _)
 | false=>
 have hm16:=hid (hm15.out.trans (Ay h));clear h hm15;go_step
 iterate 11 go_step
 cases h:(op.toList==([67,97,115,116]:List UInt8))with
 | true=>
  have hm:=hid (hm16.out.trans (AD h));clear h hm16 H
  repeat' go_step
  refine bodyPost_ret (v:=.tuple #[.agg #[.int .i64 1,.int .i64 1,.string ⟨#[116,111,32,105,42]⟩],.bool true]) (by simp[results,Tryz.f33,go_sem]) rfl ?_;exact Ce.hit hm.out ((Below.refl _ w).alloc (Nat.le_refl _) _)
 | false=>
 have hm17:=hid (hm16.out.trans (Ay h));clear h hm16;go_step
 iterate 12 go_step
 cases h:(op.toList==([82,101,100,117,99,101,83,117,109]:List UInt8))with
 | true=>
  have hm:=hid (hm17.out.trans (AD h));clear h hm17 H
  repeat' go_step
  refine bodyPost_ret (v:=.tuple #[.agg #[.int .i64 1,.int .i64 1,.string ⟨#[97,120,101,115,32,115,44,107,101,101,112,100,105,109,115,32,105]⟩],.bool true]) (by simp[results,Tryz.f33,go_sem]) rfl ?_;exact Ce.hit hm.out ((Below.refl _ w).alloc (Nat.le_refl _) _)
 | false=>
 have hm18:=hid (hm17.out.trans (Ay h));clear h hm17;go_step
 iterate 11 go_step
 cases h:(op.toList==([82,101,100,117,99,101,77,97,120]:List UInt8))with
 | true=>
  have hm:=hid (hm18.out.trans (AD h));clear h hm18 H
  repeat' go_step
  refine bodyPost_ret (v:=.tuple #[.agg #[.int .i64 1,.int .i64 1,.string ⟨#[97,120,101,115,32,115,44,107,101,101,112,100,105,109,115,32,105]⟩],.bool true]) (by simp[results,Tryz.f33,go_sem]) rfl ?_;exact Ce.hit hm.out ((Below.refl _ w).alloc (Nat.le_refl _) _)
 | false=>
 have hm19:=hid (hm18.out.trans (Ay h));clear h hm18;go_step
 iterate 10 go_step
 cases h:(op.toList==([82,101,100,117,99,101,77,101,97,110]:List UInt8))with
 | true=>
  have hm:=hid (hm19.out.trans (AD h));clear h hm19 H
  repeat' go_step
  refine bodyPost_ret (v:=.tuple #[.agg #[.int .i64 1,.int .i64 1,.string ⟨#[97,120,101,115,32,115,44,107,101,101,112,100,105,109,115,32,105]⟩],.bool true]) (by simp[results,Tryz.f33,go_sem]) rfl ?_;exact Ce.hit hm.out ((Below.refl _ w).alloc (Nat.le_refl _) _)
 | false=>
 have hm20:=hid (hm19.out.trans (Ay h));clear h hm19;go_step
 iterate 11 go_step
 cases h:(op.toList==([65,114,103,77,97,120]:List UInt8))with
 | true=>
  have hm:=hid (hm20.out.trans (AD h));clear h hm20 H
  repeat' go_step
  refine bodyPost_ret (v:=.tuple #[.agg #[.int .i64 1,.int .i64 1,.string ⟨#[97,120,105,115,32,105,44,107,101,101,112,100,105,109,115,32,105]⟩],.bool true]) (by simp[results,Tryz.f33,go_sem]) rfl ?_;exact Ce.hit hm.out ((Below.refl _ w).alloc (Nat.le_refl _) _)
 | false=>
 have hm21:=hid (hm20.out.trans (Ay h));clear h hm20;go_step
 iterate 12 go_step
 cases h:(op.toList==([82,101,115,104,97,112,101]:List UInt8))with
 | true=>
  have hm:=hid (hm21.out.trans (AD h));clear h hm21 H
  repeat' go_step
  refine bodyPost_ret (v:=.tuple #[.agg #[.int .i64 1,.int .i64 1,.string ⟨#[115,104,97,112,101,32,115,42]⟩],.bool true]) (by simp[results,Tryz.f33,go_sem]) rfl ?_;exact Ce.hit hm.out ((Below.refl _ w).alloc (Nat.le_refl _) _)
 | false=>
 have hm22:=hid (hm21.out.trans (Ay h));clear h hm21;go_step
 iterate 10 go_step
 cases h:(op.toList==([69,120,112,97,110,100]:List UInt8))with
 | true=>
  have hm:=hid (hm22.out.trans (AD h));clear h hm22 H
  repeat' go_step
  refine bodyPost_ret (v:=.tuple #[.agg #[.int .i64 1,.int .i64 1,.string ⟨#[115,104,97,112,101,32,115,42]⟩],.bool true]) (by simp[results,Tryz.f33,go_sem]) rfl ?_;exact Ce.hit hm.out ((Below.refl _ w).alloc (Nat.le_refl _) _)
 | false=>
 have hm23:=hid (hm22.out.trans (Ay h));clear h hm22;go_step
 iterate 11 go_step
 cases h:(op.toList==([84,114,97,110,115,112,111,115,101]:List UInt8))with
 | true=>
  have hm:=hid (hm23.out.trans (AD h));clear h hm23 H
  repeat' go_step
  refine bodyPost_ret (v:=.tuple #[.agg #[.int .i64 1,.int .i64 1,.string ⟨#[112,101,114,109,32,115]⟩],.bool true]) (by simp[results,Tryz.f33,go_sem]) rfl ?_;exact Ce.hit hm.out ((Below.refl _ w).alloc (Nat.le_refl _) _)
 | false=>
 have hm24:=hid (hm23.out.trans (Ay h));clear h hm23;go_step
 iterate 11 go_step
 cases h:(op.toList==([67,111,110,99,97,116]:List UInt8))with
 | true=>
  have hm:=hid (hm24.out.trans (AD h));clear h hm24 H
  repeat' go_step
  refine bodyPost_ret (v:=.tuple #[.agg #[.int .i64 1,.int .i64 20,.string ⟨#[97,120,105,115,32,105,42]⟩],.bool true]) (by simp[results,Tryz.f33,go_sem]) rfl ?_;exact Ce.hit hm.out ((Below.refl _ w).alloc (Nat.le_refl _) _)
 | false=>
 have hm25:=hid (hm24.out.trans (Ay h));clear h hm24;go_step
 iterate 11 go_step
 cases h:(op.toList==([83,108,105,99,101]:List UInt8))with
 | true=>
  have hm:=hid (hm25.out.trans (AD h));clear h hm25 H
  repeat' go_step
  refine bodyPost_ret (v:=.tuple #[.agg #[.int .i64 1,.int .i64 1,.string ⟨#[115,116,97,114,116,115,32,115,42,44,101,110,100,115,32,115,42,44,97,120,101,115,32,115]⟩],.bool true]) (by simp[results,Tryz.f33,go_sem]) rfl ?_;exact Ce.hit hm.out ((Below.refl _ w).alloc (Nat.le_refl _) _)
 | false=>
 have hm26:=hid (hm25.out.trans (Ay h));clear h hm25;go_step
 iterate 11 go_step
 cases h:(op.toList==([71,97,116,104,101,114]:List UInt8))with
 | true=>
  have hm:=hid (hm26.out.trans (AD h));clear h hm26 H
  repeat' go_step
  refine bodyPost_ret (v:=.tuple #[.agg #[.int .i64 2,.int .i64 2,.string ⟨#[97,120,105,115,32,105]⟩],.bool true]) (by simp[results,Tryz.f33,go_sem]) rfl ?_;exact Ce.hit hm.out ((Below.refl _ w).alloc (Nat.le_refl _) _)
 | false=>
 have hm27:=hid (hm26.out.trans (Ay h));clear h hm26;go_step
 iterate 11 go_step
 cases h:(op.toList==([80,97,100]:List UInt8))with
 | true=>
  have hm:=hid (hm27.out.trans (AD h));clear h hm27 H
  repeat' go_step
  refine bodyPost_ret (v:=.tuple #[.agg #[.int .i64 1,.int .i64 1,.string ⟨#[112,97,100,115,32,115,42,44,118,97,108,117,101,32,102]⟩],.bool true]) (by simp[results,Tryz.f33,go_sem]) rfl ?_;exact Ce.hit hm.out ((Below.refl _ w).alloc (Nat.le_refl _) _)
 | false=>
 have hm28:=hid (hm27.out.trans (Ay h));clear h hm27;go_step
 iterate 12 go_step
 cases h:(op.toList==([83,113,117,101,101,122,101]:List UInt8))with
 | true=>
  have hm:=hid (hm28.out.trans (AD h));clear h hm28 H
  repeat' go_step
  refine bodyPost_ret (v:=.tuple #[.agg #[.int .i64 1,.int .i64 1,.string ⟨#[97,120,101,115,32,115,42]⟩],.bool true]) (by simp[results,Tryz.f33,go_sem]) rfl ?_;exact Ce.hit hm.out ((Below.refl _ w).alloc (Nat.le_refl _) _)
 | false=>
 have hm29:=hid (hm28.out.trans (Ay h));clear h hm28;go_step
 iterate 10 go_step
 cases h:(op.toList==([85,110,115,113,117,101,101,122,101]:List UInt8))with
 | true=>
  have hm:=hid (hm29.out.trans (AD h));clear h hm29 H
  repeat' go_step
  refine bodyPost_ret (v:=.tuple #[.agg #[.int .i64 1,.int .i64 1,.string ⟨#[97,120,101,115,32,115,42]⟩],.bool true]) (by simp[results,Tryz.f33,go_sem]) rfl ?_;exact Ce.hit hm.out ((Below.refl _ w).alloc (Nat.le_refl _) _)
 | false=>
 have hm30:=hid (hm29.out.trans (Ay h));clear h hm29;go_step
 iterate 12 go_step
 cases h:(op.toList==([70,108,97,116,116,101,110]:List UInt8))with
 | true=>
  have hm:=hid (hm30.out.trans (AD h));clear h hm30 H
  repeat' go_step
  refine bodyPost_ret (v:=.tuple #[.agg #[.int .i64 1,.int .i64 1,.string ⟨#[97,120,105,115,32,105]⟩],.bool true]) (by simp[results,Tryz.f33,go_sem]) rfl ?_;exact Ce.hit hm.out ((Below.refl _ w).alloc (Nat.le_refl _) _)
 | false=>
 have hm31:=hid (hm30.out.trans (Ay h));clear h hm30;go_step
 iterate 10 go_step
 cases h:(op.toList==([83,111,102,116,109,97,120]:List UInt8))with
 | true=>
  have hm:=hid (hm31.out.trans (AD h));clear h hm31 H
  repeat' go_step
  refine bodyPost_ret (v:=.tuple #[.agg #[.int .i64 1,.int .i64 1,.string ⟨#[97,120,105,115,32,105]⟩],.bool true]) (by simp[results,Tryz.f33,go_sem]) rfl ?_;exact Ce.hit hm.out ((Below.refl _ w).alloc (Nat.le_refl _) _)
 | false=>
 have hm32:=hid (hm31.out.trans (Ay h));clear h hm31;go_step
 iterate 11 go_step
 cases h:(op.toList==([71,101,109,109]:List UInt8))with
 | true=>
  have hm:=hid (hm32.out.trans (AD h));clear h hm32 H
  repeat' go_step
  refine bodyPost_ret (v:=.tuple #[.agg #[.int .i64 2,.int .i64 3,.string ⟨#[116,114,97,110,115,65,32,105,44,116,114,97,110,115,66,32,105,44,97,108,112,104,97,32,102,44,98,101,116,97,32,102]⟩],.bool true]) (by simp[results,Tryz.f33,go_sem]) rfl ?_;exact Ce.hit hm.out ((Below.refl _ w).alloc (Nat.le_refl _) _)
 | false=>
 have hm33:=hid (hm32.out.trans (Ay h));clear h hm32;go_step
 iterate 11 go_step
 cases h:(op.toList==([67,111,110,118]:List UInt8))with
 | true=>
  have hm:=hid (hm33.out.trans (AD h));clear h hm33 H
  repeat' go_step
  refine bodyPost_ret (v:=.tuple #[.agg #[.int .i64 2,.int .i64 3,.string ⟨#[115,116,114,105,100,101,115,32,115,44,112,97,100,115,32,115,44,100,105,108,97,116,105,111,110,115,32,115,44,103,114,111,117,112,32,105]⟩],.bool true]) (by simp[results,Tryz.f33,go_sem]) rfl ?_;exact Ce.hit hm.out ((Below.refl _ w).alloc (Nat.le_refl _) _)
 | false=>
 have hm34:=hid (hm33.out.trans (Ay h));clear h hm33;go_step
 iterate 12 go_step
 cases h:(op.toList==([77,97,120,80,111,111,108]:List UInt8))with
 | true=>
  have hm:=hid (hm34.out.trans (AD h));clear h hm34 H
  repeat' go_step
  refine bodyPost_ret (v:=.tuple #[.agg #[.int .i64 1,.int .i64 1,.string ⟨#[107,101,114,110,101,108,95,115,104,97,112,101,32,115,42,44,115,116,114,105,100,101,115,32,115,44,112,97,100,115,32,115]⟩],.bool true]) (by simp[results,Tryz.f33,go_sem]) rfl ?_;exact Ce.hit hm.out ((Below.refl _ w).alloc (Nat.le_refl _) _)
 | false=>
 have hm35:=hid (hm34.out.trans (Ay h));clear h hm34;go_step
 iterate 10 go_step
 cases h:(op.toList==([65,118,101,114,97,103,101,80,111,111,108]:List UInt8))with
 | true=>
  have hm:=hid (hm35.out.trans (AD h));clear h hm35 H
  repeat' go_step
  refine bodyPost_ret (v:=.tuple #[.agg #[.int .i64 1,.int .i64 1,.string ⟨#[107,101,114,110,101,108,95,115,104,97,112,101,32,115,42,44,115,116,114,105,100,101,115,32,115,44,112,97,100,115,32,115]⟩],.bool true]) (by simp[results,Tryz.f33,go_sem]) rfl ?_;exact Ce.hit hm.out ((Below.refl _ w).alloc (Nat.le_refl _) _)
 | false=>
 have hm36:=hid (hm35.out.trans (Ay h));clear h hm35;go_step
 iterate 11 go_step
 cases h:(op.toList==([66,97,116,99,104,78,111,114,109,97,108,105,122,97,116,105,111,110]:List UInt8))with
 | true=>
  have hm:=hid (hm36.out.trans (AD h));clear h hm36 H
  repeat' go_step
  refine bodyPost_ret (v:=.tuple #[.agg #[.int .i64 5,.int .i64 5,.string ⟨#[101,112,115,105,108,111,110,32,102]⟩],.bool true]) (by simp[results,Tryz.f33,go_sem]) rfl ?_;exact Ce.hit hm.out ((Below.refl _ w).alloc (Nat.le_refl _) _)
 | false=>
 have hm37:=hid (hm36.out.trans (Ay h));clear h hm36;go_step
 iterate 11 go_step
 cases h:(op.toList==([67,111,110,115,116,97,110,116]:List UInt8))with
 | true=>
  have hm:=hid (hm37.out.trans (AD h));clear h hm37 H
  repeat' go_step
  refine bodyPost_ret (v:=.tuple #[.agg #[.int .i64 0,.int .i64 0,.string ⟨#[118,97,108,117,101,32,116,42]⟩],.bool true]) (by simp[results,Tryz.f33,go_sem]) rfl ?_;exact Ce.hit hm.out ((Below.refl _ w).alloc (Nat.le_refl _) _)
 | false=>
 have hm38:=hid (hm37.out.trans (Ay h));clear h hm37;go_step
 go_wp2_with (go_at_call 81;refine H.out.mono ?_;rintro e w'⟨rfl,rfl⟩)
 refine bodyPost_ret (v:=.tuple #[.agg #[.int .i64 1,.int .i64 1,.string ⟨#[]⟩],.bool (Cq op)]) (by simp[results,Tryz.f33,go_sem]) rfl ?_;exact Ce.miss (hm38.out.trans (Ug op)) ((Below.refl _ w).alloc (Nat.le_refl _) _)
end
end Go.Proofs.YtkkeehnldcdccaaGreatDoor
