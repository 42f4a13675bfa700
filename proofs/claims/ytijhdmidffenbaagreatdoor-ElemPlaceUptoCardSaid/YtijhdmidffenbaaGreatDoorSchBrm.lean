import Derived.Test.YtijhdmidffenbaaGreatDoorSchCrm
import Derived.Test.YtijhdmidffenbaaGreatDoorSchNrm
import Derived.Test.YtijhdmidffenbaaGreatDoorSchGrm
open Go.Lib (hid)
set_option linter.unusedVariables false
set_option linter.unusedSimpArgs false
namespace Go.Proofs.YtijhdmidffenbaaGreatDoor
open Go.RowKit
def pbE (typ:Int) (dims data:List Int):Int :=
 if chk typ 0=false then 5 else if (cnt dims).2≠0 then (cnt dims).2 else if (data.length:Int)≠(cnt dims).1 then 4 else if data.any (fun x=>!chk typ x)=true then 4 else 0
theorem pbE_type {typ:Int} {dims data:List Int} (h:chk typ 0=false):pbE typ dims data=5:=by unfold pbE;rw [if_pos h]
theorem pbE_dims {typ:Int} {dims data:List Int} (h:chk typ 0=true) (g:(cnt dims).2≠0):pbE typ dims data=(cnt dims).2:=by unfold pbE;rw [if_neg (by rw [h];decide),if_pos g]
theorem pbE_len {typ:Int} {dims data:List Int} (h:chk typ 0=true) (g:(cnt dims).2=0) (l:(data.length:Int)≠(cnt dims).1):pbE typ dims data=4:=by
 unfold pbE;rw [if_neg (by rw [h];decide),if_neg (fun k=>k g),if_pos l]
theorem pbE_bad {typ:Int} {dims data:List Int} (h:chk typ 0=true) (g:(cnt dims).2=0) (l:(data.length:Int)=(cnt dims).1) (x:data.any (fun x=>!chk typ x)=true):pbE typ dims data=4:=by
 unfold pbE;rw [if_neg (by rw [h];decide),if_neg (fun k=>k g),if_neg (fun k=>k l),if_pos x]
theorem pbE_good {typ:Int} {dims data:List Int} (h:chk typ 0=true) (g:(cnt dims).2=0) (l:(data.length:Int)=(cnt dims).1) (x:data.any (fun x=>!chk typ x)=false):pbE typ dims data=0:=by
 unfold pbE;rw [if_neg (by rw [h];decide),if_neg (fun k=>k g),if_neg (fun k=>k l),if_neg (by rw [x];decide)]
theorem typed_any (t:Int) (w:World):Calls Tryz.prog 108 #[.int .i64 t] w fun e w'=>e=.returned (.bool (chk t 0))∧w=w':=by
 have H:=hid (check_any t 0 (by decide) (by decide) w);go_enter Tryz.func108,Tryz.ntmps108
 go_wp2_with (go_at_call 30;refine H.out.mono ?_;rintro e w' ⟨rfl,rfl⟩)
 go_ret
 exact ⟨rfl,rfl⟩
theorem eg_pb1:∀ args w,(callFunc 110 args).run Tryz.prog w=.ok (.enter 110 args) w:=enters_of Tryz.func110 (by kernel_rfl) rfl
theorem pb1_any (t z:Int) (hz:InI z) (w:World) (b:Nat) (h1:w.cell? ⟨b,0,none⟩=some (.int .i64 t)) :
  Calls Tryz.prog 110 #[.int .i64 z,.pointer (some ⟨b,0,none⟩)] w fun e w'=>e=.returned (.bool (!chk t z))∧Below w.heap.size w w':=by
 have H:=hid (check_any t z hz.1 hz.2 w);clear hz;go_enter Tryz.func110,Tryz.ntmps110
 go_wp2_with (go_at_call 30;refine H.out.mono ?_;rintro e w' ⟨rfl,rfl⟩)
 go_ret
 exact ⟨rfl,Below.refl _ _⟩
theorem testL_pb (t:Int) (w:World) (b:Nat) (h1:w.cell? ⟨b,0,none⟩=some (.int .i64 t)):TestI 110 #[.pointer (some ⟨b,0,none⟩)] (fun x=>!chk t x) w :=
 fun W z hB hz=>pb1_any t z hz W b ((hB.cell (p:=⟨b,0,none⟩) (cell_in h1)).trans h1)
attribute [local irreducible] pbE cnt chk
set_option maxRecDepth 100000 in
set_option maxHeartbeats 2000000 in
theorem pb_any (t:Int) (dims data:List Int) {w:World} {vd vx:Value} (hd:IntsIn w vd dims) (hx:IntsIn w vx data) :
  Calls Tryz.prog 59 #[.agg #[.int .i64 t,vd,vx]] w fun e w'=>e=.returned (.int .i64 (pbE t dims data))∧Below w.heap.size w w':=by
 obtain ⟨ad,cd,rfl⟩:=hd.shape;obtain ⟨ax,cx,rfl⟩:=hx.shape;have HD:=hid hd;have HX:=hid hx;clear hd hx;go_enter Tryz.func59,Tryz.ntmps59
 go_wp2_with fail
 generalize hw1:w.alloc (Obj.cells #[Value.int IntKind.i64 t,Value.slice ad dims.length cd,Value.slice ax data.length cx] 46)=W1;have hB1:Hid (Below w.heap.size w W1):=hid (by rw [←hw1];exact (Below.refl _ w).alloc (Nat.le_refl _) _);have hX1:Hid (BoxN W1 w.heap.size #[Value.int IntKind.i64 t,Value.slice ad dims.length cd,Value.slice ax data.length cx] 46):=hid (by rw [←hw1];exact BoxN.new w _ _);clear hw1;have HT:=hid (fun W=>typed_any t W);have k0:W1.cell? ⟨w.heap.size,0,none⟩=some (.int .i64 t):=hX1.out.cell 0 rfl;have k1:W1.cell? ⟨w.heap.size,1,none⟩=some (.slice ad dims.length cd):=hX1.out.cell 1 rfl;cases ht:chk t 0 with
 | false =>
  have e:=hid (pbE_type (dims:=dims) (data:=data) ht);rw [ht] at HT;clear ht;refine (HT.out _).mono ?_;rintro e w2 ⟨rfl,rfl⟩;go_wp2_with fail
  go_ret
  exact ⟨ret_val (int_val e.out.symm),hB1.out⟩
 | true =>
  have HTT:=hid ht;rw [ht] at HT;clear ht;have HC:=hid (count_any (HD.out.below hB1.out));refine (HT.out _).mono ?_;rintro e w2 ⟨rfl,rfl⟩;have HB:Hid (∀ w2,Below W1.heap.size W1 w2→Below w.heap.size w w2):=hid (fun w2 h=>hB1.out.trans (h.mono hB1.out.size));generalize hc:cnt dims=c at HC;obtain ⟨c,ce⟩:=c;have E1:(cnt dims).1=c:=by rw [hc]
  have E2:(cnt dims).2=ce:=by rw [hc]
  have E1:=hid E1;have E2:=hid E2;clear hc;by_cases hg:ce=0
  ·subst hg;by_cases hl:(data.length:Int)=c
   ·have HLL:=hid (hl.trans E1.out.symm);subst hl;cases hx:data.any (fun x=>!chk t x) with
    | false =>
     have e:=hid (pbE_good HTT.out E2.out HLL.out hx);have HXX:=hid hx;clear hx;go_wp2_with (first | (go_at_call 31;refine HC.out.mono ?_;rintro e w2 ⟨rfl,B2⟩;have HB2:=hid B2;have k2:w2.cell? ⟨w.heap.size,2,none⟩=some (.slice ax data.length cx):=(hX1.out.below' B2).cell 2 rfl;have k3:w2.cell? ⟨w.heap.size,0,none⟩=some (.int .i64 t):=(hX1.out.below' B2).cell 0 rfl;clear B2) | (go_at_call 109;refine (containsL_any (HX.out.below (HB.out _ HB2.out)) _ _ eg_pb1 _ (testL_pb t _ _ k3)).mono ?_;rw [HXX.out];rintro e w3 ⟨rfl,B3⟩;have HB3:=hid (HB2.out.trans (B3.mono HB2.out.size));clear B3))
     go_ret
     exact ⟨ret_val (int_val e.out.symm),HB.out _ HB3.out⟩
    | true =>
     have e:=hid (pbE_bad HTT.out E2.out HLL.out hx);have HXX:=hid hx;clear hx;go_wp2_with (first | (go_at_call 31;refine HC.out.mono ?_;rintro e w2 ⟨rfl,B2⟩;have HB2:=hid B2;have k2:w2.cell? ⟨w.heap.size,2,none⟩=some (.slice ax data.length cx):=(hX1.out.below' B2).cell 2 rfl;have k3:w2.cell? ⟨w.heap.size,0,none⟩=some (.int .i64 t):=(hX1.out.below' B2).cell 0 rfl;clear B2) | (go_at_call 109;refine (containsL_any (HX.out.below (HB.out _ HB2.out)) _ _ eg_pb1 _ (testL_pb t _ _ k3)).mono ?_;rw [HXX.out];rintro e w3 ⟨rfl,B3⟩;have HB3:=hid (HB2.out.trans (B3.mono HB2.out.size));clear B3))
     go_ret
     exact ⟨ret_val (int_val e.out.symm),HB.out _ HB3.out⟩
   ·have e:=hid (pbE_len (data:=data) HTT.out E2.out (by rw [E1.out];exact hl));go_wp2_with (go_at_call 31;refine HC.out.mono ?_;rintro e w2 ⟨rfl,B2⟩;have HB2:=hid B2;have k2:w2.cell? ⟨w.heap.size,2,none⟩=some (.slice ax data.length cx):=(hX1.out.below' B2).cell 2 rfl;clear B2)
    go_ret
    exact ⟨ret_val (int_val e.out.symm),HB.out _ HB2.out⟩
  ·have e:=hid ((pbE_dims (data:=data) HTT.out (by rw [E2.out];exact hg)).trans E2.out);go_wp2_with (go_at_call 31;refine HC.out.mono ?_;rintro e w2 ⟨rfl,B2⟩;have HB2:=hid B2;have k2:w2.cell? ⟨w.heap.size,2,none⟩=some (.slice ax data.length cx):=(hX1.out.below' B2).cell 2 rfl;clear B2)
   go_ret
   exact ⟨ret_val (int_val e.out.symm),HB.out _ HB2.out⟩
end Go.Proofs.YtijhdmidffenbaaGreatDoor
