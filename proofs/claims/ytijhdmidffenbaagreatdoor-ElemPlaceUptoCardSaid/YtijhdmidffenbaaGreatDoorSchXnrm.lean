import Derived.Test.YtijhdmidffenbaaGreatDoorSchArm
import Derived.Test.YtijhdmidffenbaaGreatDoorOpenrm
set_option linter.unusedVariables false
set_option linter.unusedSimpArgs false
set_option maxRecDepth 100000
namespace Go.Proofs.YtijhdmidffenbaaGreatDoor
open Go.RowKit Go.ChangeShapes Go.WideShapes Go.Deep
theorem cellsS1:Tryz.prog.cellsOf 9 = 1:=by kernel_rfl
theorem cellsI1:Tryz.prog.cellsOf 3 = 1:=by kernel_rfl
theorem cellsL1:Tryz.prog.cellsOf 2 = 1:=by kernel_rfl
theorem IntsIn.of_sl {w:World} {v:Value} {zs:List Int} (h:SlIn 1 rdInt w v zs):IntsIn w v zs:=by
 cases h with
 | empty a0 cap=>exact .empty a0 cap
 | row b off cap _ h0 hc hb hr hlen =>
  refine .row b off cap zs h0 hc hb (fun j hj=>?_) (by omega) (fun z hz=>?_)
  ·obtain ⟨cs,_,⟨rfl,_⟩,h3⟩:=hr j _ (List.getElem?_eq_getElem hj);have:=h3 0 _ rfl;rw [Nat.mul_one] at this
   simpa [List.getD,List.getElem?_eq_getElem hj] using this
  ·obtain ⟨j,hj⟩:=List.getElem?_of_mem hz;obtain ⟨cs,_,⟨_,h2⟩,_⟩:=hr j z hj;exact h2
theorem StrsIn.of_sl {w:World} {v:Value} {ss:List ByteArray} (h:SlIn 1 rdStr w v ss):StrsIn w v ss:=by
 cases h with
 | empty a0 cap=>exact .empty a0 cap
 | row b off cap _ h0 hc hb hr hlen =>
  refine .row b off cap ss h0 hc hb (fun j s hj=>?_) (by omega);obtain ⟨cs,_,⟨rfl,_⟩,h3⟩:=hr j _ hj;have:=h3 0 _ rfl
  rwa [Nat.mul_one] at this
def rdAttr:Rd At:=fun w cs a=>∃ vd vx vi,cs=[.string a.name,.int .i64 a.kind,.int .i64 a.f,.int .i64 a.i,.string a.s,.int .i64 a.typ,vd,vx,vi]∧AttrN w a vd vx vi
theorem AttrsIn.of_sl {w:World} {v:Value} {l:List At} (h:SlIn 9 rdAttr w v l):AttrsIn w v l:=by
 cases h with
 | empty a0 cap=>exact .empty a0 cap
 | row b off cap _ h0 hc hb hr hlen =>
  refine .row b off cap l h0 hc hb (fun j a hj=>?_) (by omega);obtain ⟨cs,_,⟨vd,vx,vi,rfl,h2⟩,h3⟩:=hr j _ hj;exact ⟨vd,vx,vi,⟨h3 0 _ rfl,h3 1 _ rfl,h3 2 _ rfl,h3 3 _ rfl,h3 4 _ rfl,h3 5 _ rfl,h3 6 _ rfl,h3 7 _ rfl,h3 8 _ rfl⟩,h2⟩
theorem fits_string:Fits Tryz.prog 9 1 rdStr:=fits_str Tryz.underlying9 cellsS1
theorem fits_i:Fits Tryz.prog 3 1 rdInt:=fits_int Tryz.underlying3 cellsI1
theorem fits_l:Fits Tryz.prog 2 1 rdInt:=fits_int Tryz.underlying2 cellsL1
theorem fits_ints:Fits Tryz.prog 27 1 (rdSl 1 rdInt):=fits_slice Tryz.underlying27 (by kernel_rfl) (by decide) fits_i
theorem fits_data:Fits Tryz.prog 44 1 (rdSl 1 rdInt):=fits_slice Tryz.underlying44 (by kernel_rfl) (by decide) fits_l
theorem fits_strs:Fits Tryz.prog 22 1 (rdSl 1 rdStr):=fits_slice Tryz.underlying22 (by kernel_rfl) (by decide) fits_string
theorem take1 {x y:Value} {l:List Value} (h:List.take 1 (x :: l)=[y]):x=y:=by simpa using h
def rdTensor:Rd (Int × List Int × List Int):=fun w cs t=>∃ vd vx,cs=[.int .i64 t.1,vd,vx]∧InI t.1∧IntsIn w vd t.2.1∧IntsIn w vx t.2.2
theorem fits_tensor:Fits Tryz.prog 46 3 rdTensor:=by
 refine ⟨by kernel_rfl,fun {H} enc W fuel cs x h hlt hb=>?_⟩;obtain ⟨xs,n,_,rfl,hl,hlen,hf⟩:=DataW.trod_struct Tryz.underlying46 h;rw [show Tryz.prog.cellsOf 46 = 3 by kernel_rfl] at hl
 match cs,hl with
 | [c0,c1,c2],_ =>
  obtain ⟨a0,e0,i0⟩:=fits_field hf hlen hlt hb (i:=0) rfl fits_i;obtain ⟨a1,v1,e1,i1⟩:=fits_field hf hlen hlt hb (i:=1) rfl fits_ints;obtain ⟨a2,v2,e2,i2⟩:=fits_field hf hlen hlt hb (i:=2) rfl fits_data;obtain rfl:=take1 e0;obtain rfl:=take1 e1;obtain rfl:=take1 e2;exact ⟨(a0,a1,a2),_,_,rfl,i0,IntsIn.of_sl i1,IntsIn.of_sl i2⟩
end Go.Proofs.YtijhdmidffenbaaGreatDoor
