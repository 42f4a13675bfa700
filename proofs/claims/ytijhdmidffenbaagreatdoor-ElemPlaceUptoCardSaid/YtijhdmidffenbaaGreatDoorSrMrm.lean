import Derived.Test.YtijhdmidffenbaaGreatDoorSchTgrm
import Derived.BigQuiet
import Derived.Deep.QuietTactic
import Derived.Deep.LoopGhost
import Derived.Test.YtijhdmidffenbaaGreatDoorSchNorm
import Derived.Test.YtijhdmidffenbaaGreatDoorRegrm
import Derived.Test.YtijhdmidffenbaaGreatDoorSchCarm
import Derived.Test.YtijhdmidffenbaaGreatDoorShelfrm
import Derived.Test.YtijhdmidffenbaaGreatDoorSchNrm
import Derived.Test.YtijhdmidffenbaaGreatDoorFloatArm
import Derived.Laws.FloatArith
import Derived.Laws.Externs
import Derived.Laws.BitsAllLaws
import Derived.Laws.BitsLemmas
import Derived.Test.YtijhdmidffenbaaGreatDoorSchBrm
import Derived.Test.YtijhdmidffenbaaGreatDoorSchCorm
open Go.Lib (hid)
set_option linter.unusedVariables false
set_option linter.unusedSimpArgs false
namespace Go.Proofs.YtijhdmidffenbaaGreatDoor
section
open Go.RowKit
theorem below_drewN {B:Nat} {a w:World} (h:Below B a w) (q:Nat):Below B a (w.drewN q):=⟨h.os,h.tape,h.output,h.size,h.block⟩
end
section
open Go.RowKit
def SameTo (xs ys:List Int) (k:Nat):Prop:=∀ j,j < k→xs.getD j 0=ys.getD j 0
theorem same_all {xs ys:List Int} (hl:xs.length=ys.length) (h:SameTo xs ys xs.length):xs=ys:=by
 refine List.ext_getElem hl fun j h1 h2=>?_;have:=h j h1
 simpa [List.getD,List.getElem?_eq_getElem h1,List.getElem?_eq_getElem h2] using this
set_option maxHeartbeats 1000000 in
theorem rsame_rows (b1 o1 c1 b2 o2 c2:Nat) (xs ys:List Int) (hlen:xs.length * 8≤140737488351232) (hl:xs.length=ys.length) (w:World) (hb1:b1 < w.heap.size) (hb2:b2 < w.heap.size) (h1:Hid (Reads w b1 o1 xs)) (h2:Hid (Reads w b2 o2 ys)) :
  Calls Tryz.prog 13 #[.slice (some ⟨b1,o1,none⟩) xs.length c1,.slice (some ⟨b2,o2,none⟩) ys.length c2] w fun e w'=>e=.returned (.bool (decide (xs=ys)))∧Below w.heap.size w w':=by
 rw [←hl];have HL:=hid hl;clear hl;go_enter Tryz.func13,Tryz.ntmps13
 go_wp2
 go_loopw [5] (fun i wr=>∃ k:Nat,k≤xs.length∧i=.int .i64 (k:Int)∧Hid (SameTo xs ys k)∧Hid (Below w.heap.size w wr)) (fun i _=>xs.length - (intOf i).toNat)
 case atStart=>exact ⟨0,Nat.zero_le _,rfl,hid (fun j hj=>by omega),hid (Below.refl _ _)⟩
 case round =>
  obtain ⟨k,hk,rfl,hs,hb⟩:=hrel;by_cases hkl:k < xs.length
  ·have x1:=(hb.out.cell (p:=⟨b1,o1+k,none⟩) hb1).trans (h1.out k hkl);have x2:=(hb.out.cell (p:=⟨b2,o2+k,none⟩) hb2).trans (h2.out k (by have:=HL.out;omega));have hki:(k:Int) < (xs.length:Int):=by omega
   have hnx:Hid (xs.getD k 0=ys.getD k 0→SameTo xs ys (k+1)):=hid fun h j hj=>by
    by_cases e:j=k
    ·subst e;exact h
    ·exact hs.out j (by omega)
   have hno:Hid (xs.getD k 0≠ys.getD k 0→xs≠ys):=hid fun h e=>h (by rw [e]);generalize xs.getD k 0=x at *;generalize ys.getD k 0=y at *;by_cases hxy:x=y
   ·have HN:=hid (hnx.out hxy);subst hxy;go_wp2
    go_quiet (fail)
    go_wp2
    go_roundw
    case rel=>exact ⟨k+1,by omega,by go_num,HN,hid (below_drewN hb.out _)⟩
    case measure=>simp [intOf];omega
   ·have HN:=hid (hno.out hxy);go_wp2
    go_quiet (fail)
    go_wp2
    go_ret
    exact ⟨ret_val (bool_val (by rw [decide_eq_false HN.out])),below_drewN hb.out _⟩
  ·obtain rfl:k=xs.length:=by omega
   have HN:=hid (same_all HL.out hs.out);go_wp2
   go_ret
   exact ⟨ret_val (bool_val (by rw [decide_eq_true HN.out])),hb.out⟩
theorem rsame_lens (a1 a2:Option Addr) (n1 n2 c1 c2:Nat) (hl:(n1:Int)≠(n2:Int)) (w:World) :
  Calls Tryz.prog 13 #[.slice a1 n1 c1,.slice a2 n2 c2] w fun e w'=>e=.returned (.bool false)∧w=w':=by
 have h:((n1:Int) != (n2:Int))=true:=by simpa using hl
 go_enter Tryz.func13,Tryz.ntmps13
 go_wp2
 all_goals first
  | (go_ret;exact ⟨rfl,rfl⟩)
  | (exfalso;simp_all)
theorem rsame_empty (a1 a2:Option Addr) (c1 c2:Nat) (w:World) :
  Calls Tryz.prog 13 #[.slice a1 0 c1,.slice a2 0 c2] w fun e w'=>e=.returned (.bool true)∧w=w':=by
 go_enter Tryz.func13,Tryz.ntmps13
 go_wp2
 go_rounds 1
 go_ret
 exact ⟨rfl,rfl⟩
theorem rsame_any {w:World} {a b:Value} {xs ys:List Int} (h1:IntsIn w a xs) (h2:IntsIn w b ys) :
  Calls Tryz.prog 13 #[a,b] w fun e w'=>e=.returned (.bool (decide (xs=ys)))∧Below w.heap.size w w':=by
 by_cases hl:xs.length=ys.length
 ·cases h1 with
  | empty a0 c0 =>
   have e:ys=[]:=List.eq_nil_of_length_eq_zero (by simpa using hl.symm);subst e;obtain ⟨a3,c3,rfl⟩:=h2.shape;refine (rsame_empty a0 a3 c0 c3 w).mono ?_;rintro e w' ⟨rfl,rfl⟩;exact ⟨rfl,Below.refl _ _⟩
  | row b1 o1 c1 _ n0 hc hb hr hlen hw =>
   cases h2 with
   | empty a0 c0=>exact absurd (List.eq_nil_of_length_eq_zero (by simpa using hl)) n0
   | row b2 o2 c2 _ n0' hc' hb' hr' hlen' hw'=>exact rsame_rows b1 o1 c1 b2 o2 c2 xs ys hlen hl w hb hb' (hid hr) (hid hr')
 ·obtain ⟨a1,c1,rfl⟩:=h1.shape;obtain ⟨a2,c2,rfl⟩:=h2.shape;refine (rsame_lens a1 a2 xs.length ys.length c1 c2 (by omega) w).mono ?_;rintro e w' ⟨rfl,rfl⟩;exact ⟨ret_val (bool_val (decide_eq_false (fun e=>hl (by rw [e]))).symm),Below.refl _ _⟩
set_option maxRecDepth 100000 in
set_option maxHeartbeats 2000000 in
theorem stensor_any (t:Int) (dims data:List Int) {w:World} {v1 x1 v2 x2:Value} (h1:IntsIn w v1 dims) (h2:IntsIn w x1 data) (h3:IntsIn w v2 dims) (h4:IntsIn w x2 data) :
  Calls Tryz.prog 19 #[.agg #[.int .i64 t,v1,x1],.agg #[.int .i64 t,v2,x2]] w fun e w'=>e=.returned (.bool true)∧Below w.heap.size w w':=by
 obtain ⟨a1,c1,rfl⟩:=h1.shape;obtain ⟨a2,c2,rfl⟩:=h2.shape;obtain ⟨a3,c3,rfl⟩:=h3.shape;obtain ⟨a4,c4,rfl⟩:=h4.shape;have hlen:=h2.wf.1;have H1:=hid h1;have H2:=hid h2;have H3:=hid h3;have H4:=hid h4;clear h1 h2 h3 h4;go_enter Tryz.func19,Tryz.ntmps19
 go_wp2_with fail
 generalize hw1:(w.alloc _).alloc _=w1;have HA1:Hid (BoxN w1 w.heap.size #[.int .i64 t,.slice a1 dims.length c1,.slice a2 data.length c2] 46):=hid (by rw [←hw1];exact (BoxN.new w _ _).below' ((Below.refl _ _).alloc (Nat.le_refl _) _));have HE1:Hid (BoxN w1 (w.heap.size+1) #[.int .i64 t,.slice a3 dims.length c3,.slice a4 data.length c4] 46):=hid (by
  have:=BoxN.new (w.alloc (Obj.cells #[.int .i64 t,.slice a1 dims.length c1,.slice a2 data.length c2] 46)) #[.int .i64 t,.slice a3 dims.length c3,.slice a4 data.length c4] 46;rw [World.size_alloc] at this;rw [←hw1];exact this)
 have HB1:Hid (Below w.heap.size w w1):=hid (by rw [←hw1];exact ((Below.refl _ w).alloc (Nat.le_refl _) _).alloc (by simp) _);clear hw1;refine (rsame_any (H1.out.below HB1.out) (H3.out.below HB1.out)).mono ?_;rintro e w2 ⟨rfl,B2⟩;rw [show decide (dims=dims)=true from decide_eq_true rfl];have HA2:=hid (HA1.out.below' B2);have HE2:=hid (HE1.out.below' B2);have HB2:=hid (HB1.out.trans (B2.mono HB1.out.size));clear B2 HA1 HE1 HB1;have e2:w2.cell? ⟨w.heap.size,2,none⟩=some (.slice a2 data.length c2):=HA2.out.cell 2 rfl;have g2:w2.cell? ⟨w.heap.size+1,2,none⟩=some (.slice a4 data.length c4):=HE2.out.cell 2 rfl;go_wp2_with fail
 go_loopw [5] (fun i wr=>∃ k:Nat,k≤data.length∧i=.int .i64 (k:Int)∧Hid (Below w2.heap.size w2 wr)) (fun i _=>data.length - (intOf i).toNat)
 case atStart=>exact ⟨0,Nat.zero_le _,rfl,hid (Below.refl _ _)⟩
 case round =>
  obtain ⟨k,hk,rfl,hB⟩:=hrel;have r2:wr.cell? ⟨w.heap.size,2,none⟩=some (.slice a2 data.length c2):=(HA2.out.below' hB.out).cell 2 rfl;have q2:wr.cell? ⟨w.heap.size+1,2,none⟩=some (.slice a4 data.length c4):=(HE2.out.below' hB.out).cell 2 rfl;clear e2 g2;by_cases hkl:k < data.length
  ·have hki:(k:Int) < (data.length:Int):=by omega
   have hk0:(0:Int)≤(k:Int):=by omega
   have hBr:=HB2.out.trans (hB.out.mono HB2.out.size);obtain ⟨b,o,c,hv,hb,hr,_⟩:=H2.out.rows hkl;obtain ⟨rfl,_,rfl⟩:=Value.slice.inj hv;obtain ⟨b',o',c',hv',hb',hr',_⟩:=H4.out.rows hkl;obtain ⟨rfl,_,rfl⟩:=Value.slice.inj hv';have x1:=(hBr.cell (p:=⟨b,o+k,none⟩) hb).trans (hr k hkl);have x2:=(hBr.cell (p:=⟨b',o'+k,none⟩) hb').trans (hr' k hkl);generalize data.getD k 0=z at x1 x2;clear hv hv' hr hr' hBr;go_wp2
   go_quiet (fail)
   go_wp2
   go_roundw
   case rel=>exact ⟨k+1,by omega,by go_num,hid (below_drewN hB.out _)⟩
   case measure=>simp [intOf];omega
  ·have hki:¬ (k:Int) < (data.length:Int):=by omega
   go_wp2
   go_ret
   exact ⟨rfl,HB2.out.trans (hB.out.mono HB2.out.size)⟩
end
section
open Go.RowKit
end
section
open Go.RowKit
end
section
namespace Fl
open Ieee Go.RowKit
theorem okSn:single.binade≤single.infRung:=by decide
theorem nan_self (a:Nat):(single.order a a != some .eq)=isNaN single a:=by
 cases h:isNaN single a
 ·rw [order_eq okSn h h];simp
 ·rw [order_nan_left okSn h];rfl
theorem nan_refl (a:Nat):(single.order a a=some .eq)=(isNaN single a=false):=by
 have h:=nan_self a;cases g:isNaN single a<;>rw [g] at h<;>simpa using h
theorem and_infN {x:Nat}:(x &&& 2139095040=2139095040)↔x / 8388608 % 256=255:=by
 have e1:(x &&& 2139095040) % 2 ^ 23=0:=by rw [Nat.and_mod_two_pow];simp
 have e2:(x &&& 2139095040) / 2 ^ 23=x / 2 ^ 23 % 256:=by
  rw [Nat.and_div_two_pow];exact Nat.and_two_pow_sub_one_eq_mod _ 8
 have h2:=Nat.div_add_mod (x &&& 2139095040) (2 ^ 23);rw [e1,e2] at h2;constructor
 ·intro h;omega
 ·intro h;rw [show (8388608:Nat)=2 ^ 23 from rfl] at h;rw [h] at h2;omega
theorem nan_bits {x:Nat}:isNaN single x=(decide (x / 8388608 % 256=255)&&decide (x % 8388608≠0)):=by
 unfold isNaN;rw [show single.infRung=2139095040 by decide,show single.signWeight=2147483648 by decide,Bool.eq_iff_iff];simp only [decide_eq_true_eq,Bool.and_eq_true];omega
theorem wraps_i64n (n:Int) (h₀:0≤n) (h₁:n < 2 ^ 63):IntKind.i64.wrap n=n:=by rw [IntKind.wrap_i64];omega
theorem bits_andN {a b:Nat} (ha:a < 2 ^ 63) (hb:b < 2 ^ 63):bits .and .i64 (a:Int) (b:Int)=((a &&& b:Nat):Int) :=
 (bits_nat .i64 63 (by decide) wraps_i64n a b ha hb).1
theorem okW_nan (x:Int):okW x=(decide (0≤x)&&decide (x < 4294967296)&&(!isNaN single (x % 4294967296).toNat || x==2143289344)):=by
 unfold okW;by_cases h:x / 4294967296=0
 ·obtain ⟨n,rfl⟩:=Int.eq_ofNat_of_zero_le (show 0≤x by omega);have hn:n < 4294967296:=by omega
  have e1:bits .and .i64 (n:Int) 2139095040=((n &&& 2139095040:Nat):Int):=bits_andN (b:=2139095040) (by omega) (by decide);have e2:bits .and .i64 (n:Int) 8388607=((n &&& 8388607:Nat):Int):=bits_andN (b:=8388607) (by omega) (by decide);rw [e1,e2,show n &&& 8388607=n % 8388608 from Nat.and_two_pow_sub_one_eq_mod _ 23];have e3:((n:Int) % 4294967296).toNat=n:=by omega
  rw [e3,nan_bits];have h3:=and_infN (x:=n);have h4:(((n &&& 2139095040:Nat):Int)=2139095040)↔n / 8388608 % 256=255:=by rw [←h3];omega
  have h5:(((n % 8388608:Nat):Int)=0)↔n % 8388608=0:=by omega
  have h6:(0:Int)≤(n:Int):=by omega
  have h7:(n:Int) < 4294967296:=by omega
  rw [Bool.eq_iff_iff];simp only [Bool.and_eq_true,Bool.or_eq_true,Bool.not_eq_true',decide_eq_true_eq,Bool.and_eq_false_iff,decide_eq_false_iff_not,h4,h5,h,h6,h7,beq_iff_eq,Bool.not_eq_false',true_and,and_true,ne_eq];constructor
  ·intro g;exact g.imp (fun g=>g.imp id (fun g=>by simpa using g)) id
  ·intro g;exact g.imp (fun g=>g.imp id (fun g=>by simpa using g)) id
 ·have h1:¬ (0≤x∧x < 4294967296):=by omega
  rcases (by omega:¬ 0≤x∨¬ x < 4294967296) with g | g<;>simp [g,h]
theorem fltval {k:FloatKind} {a b:Nat} (h:a=b):Value.float k a=Value.float k b:=by rw [h]
theorem run_from32 (n:Int) (w:World):(callFunc 135 #[.int .u32 n]).run Tryz.prog w=.ok (.value (.float .f32 n.toNat)) w:=by
 rw [run_callFunc_extern (e:=Extern.MathFloatBits.float32frombits) Tryz.func135 (by kernel_rfl) (by kernel_rfl) (by kernel_rfl) (by kernel_rfl)];rfl
attribute [local go_sem] run_from32
theorem rf_one (x:Int) (w:World) :
  Calls Tryz.prog 75 #[.int .i64 x] w fun e w'=>e=.returned (.float .f32 (x % 4294967296).toNat)∧w=w':=by
 go_enter Tryz.func75,Tryz.ntmps75
 go_wp2
 go_ret
 go_light
 exact ⟨ret_val (fltval (by simp)),rfl⟩
attribute [local irreducible] isNaN sv mg okW
set_option maxHeartbeats 400000 in
theorem rchk_any (t x:Int) (w:World) :
  Calls Tryz.prog 38 #[.int .i64 t,.int .i64 x] w fun e w'=>e=.returned (.bool (chk t x))∧w=w':=by
 have HR:=hid (okW_nan x);have HN:=hid fun n=>show (FloatKind.f32.format.order n n=some .eq)=(isNaN single n=false) from nan_refl n;go_enter Tryz.func38,Tryz.ntmps38
 go_wp2_with (go_at_call 75;refine (rf_one _ _).mono ?_;rintro e w' ⟨rfl,rfl⟩)
 all_goals (go_ret;go_light;refine ⟨ret_val (bool_val ?_),rfl⟩)
 all_goals (have hr:=HR.out;have hn:=HN.out;clear HR HN;(try simp only [hn,Bool.beq_eq_decide_eq] at *);unfold chk;grind)
end Fl
end
section
open Go.RowKit
theorem ints_atR {w:World} {v:Value} {zs:List Int} (h:IntsIn w v zs) {k:Nat} (hk:k < zs.length):∃ b off cap,v=.slice (some ⟨b,off,none⟩) zs.length cap∧b < w.heap.size∧w.cell? ⟨b,off+k,none⟩=some (.int .i64 (zs.getD k 0)):=by
 cases h with
 | empty a0 cap=>simp at hk
 | row b off cap _ h0 hc hb hr hlen hw=>exact ⟨b,off,cap,rfl,hb,hr k hk⟩
theorem ints_len {w:World} {v:Value} {zs:List Int} (h:IntsIn w v zs):zs.length * 8≤140737488351232:=by
 cases h with
 | empty a0 cap=>decide
 | row b off cap _ h0 hc hb hr hlen hw=>exact hlen
theorem rtyped_any (t:Int) (w:World):Calls Tryz.prog 15 #[.int .i64 t] w fun e w'=>e=.returned (.bool (chk t 0))∧w=w':=by
 go_enter Tryz.func15,Tryz.ntmps15
 go_wp2_with (go_at_call 38;refine (Fl.rchk_any t 0 w).mono ?_;rintro e w' ⟨rfl,rfl⟩)
 go_ret
 exact ⟨rfl,rfl⟩
attribute [local irreducible] pbE cnt chk
set_option maxRecDepth 100000 in
set_option maxHeartbeats 4000000 in
theorem rpb_any (t:Int) (dims data:List Int) {w:World} {vd vx:Value} (hd:IntsIn w vd dims) (hx:IntsIn w vx data) :
  Calls Tryz.prog 20 #[.agg #[.int .i64 t,vd,vx]] w fun e w'=>e=.returned (.int .i64 (pbE t dims data))∧Below w.heap.size w w':=by
 obtain ⟨ad,cd,rfl⟩:=hd.shape;obtain ⟨ax,cx,rfl⟩:=hx.shape;have hxl:=ints_len hx;have HD:=hid hd;have HX:=hid hx;clear hd hx;go_enter Tryz.func20,Tryz.ntmps20
 go_wp2_with fail
 generalize hw1:w.alloc (Obj.cells #[Value.int IntKind.i64 t,Value.slice ad dims.length cd,Value.slice ax data.length cx] 46)=W1;have hB1:Hid (Below w.heap.size w W1):=hid (by rw [←hw1];exact (Below.refl _ w).alloc (Nat.le_refl _) _);have hX1:Hid (BoxN W1 w.heap.size #[Value.int IntKind.i64 t,Value.slice ad dims.length cd,Value.slice ax data.length cx] 46):=hid (by rw [←hw1];exact BoxN.new w _ _);clear hw1;have k0:W1.cell? ⟨w.heap.size,0,none⟩=some (.int .i64 t):=hX1.out.cell 0 rfl;have k1:W1.cell? ⟨w.heap.size,1,none⟩=some (.slice ad dims.length cd):=hX1.out.cell 1 rfl;have k2:W1.cell? ⟨w.heap.size,2,none⟩=some (.slice ax data.length cx):=hX1.out.cell 2 rfl;have HT:=hid (fun W=>rtyped_any t W);have HC:=hid (rcount_any (HD.out.below hB1.out));refine (HT.out _).mono ?_;rintro e w2 ⟨rfl,rfl⟩;cases ht:chk t 0 with
 | false =>
  have e:=hid (pbE_type (dims:=dims) (data:=data) ht);clear ht;go_wp2_with fail
  go_ret
  exact ⟨ret_val (int_val e.out.symm),hB1.out⟩
 | true =>
  have HTT:=hid ht;clear ht;go_wp2_with fail
  refine HC.out.mono ?_;rintro e w2 ⟨rfl,rfl⟩;generalize hc:cnt dims=c at HC ⊢;obtain ⟨c,ce⟩:=c;have E1:=hid (show (cnt dims).1=c by rw [hc]);have E2:=hid (show (cnt dims).2=ce by rw [hc]);clear hc HC;by_cases hg:ce=0
  ·subst hg;by_cases hl:(data.length:Int)=c
   ·have HLL:=hid (hl.trans E1.out.symm);subst hl;have HS:Hid (∀ W',Below W1.heap.size W1 W'→W'.cell? ⟨w.heap.size,0,none⟩=some (.int .i64 t)∧W'.cell? ⟨w.heap.size,2,none⟩=some (.slice ax data.length cx)):=hid fun W' h=>⟨(hX1.out.below' h).cell 0 rfl,(hX1.out.below' h).cell 2 rfl⟩;go_wp2_with fail
    clear k0 k1 k2;go_loopw [5] (fun i wr=>∃ k:Nat,k≤data.length∧i=.int .i64 (k:Int)∧Hid ((data.take k).any (fun x=>!chk t x)=false)∧Hid (Below W1.heap.size W1 wr)) (fun i _=>data.length - (intOf i).toNat)
    case atStart=>exact ⟨0,Nat.zero_le _,rfl,hid (by simp),hid (Below.refl _ _)⟩
    case round =>
     obtain ⟨k,hk,rfl,hA,hW⟩:=hrel;by_cases hkl:k < data.length
     ·have hki:(k:Int) < (data.length:Int):=by omega
      obtain ⟨b,off,cap,hv,hb,hcell⟩:=ints_atR HX.out hkl;obtain ⟨rfl,hle,rfl⟩:=Value.slice.inj hv;clear hle hv;have HDC:Hid (∀ W',Below W1.heap.size W1 W'→W'.cell? ⟨b,off+k,none⟩=some (.int .i64 (data.getD k 0))):=hid fun W' h=>((hB1.out.trans (h.mono hB1.out.size)).cell (p:=⟨b,off+k,none⟩) hb).trans hcell;have HZ:Hid (data[k]?=some (data.getD k 0)):=hid (by simp [List.getD,List.getElem?_eq_getElem hkl]);clear hcell;generalize data.getD k 0=z at HDC HZ;have HK:=hid (fun W=>Fl.rchk_any t z W);go_wp2_with fail
      refine wp_region_plan 8 [0,1,2,3,4,5,6,7] (fun W'=>Below W1.heap.size W1 W') (by kernel_rfl) (by kernel_rfl) (fun _ d _ _ _ h=>by cases d<;>exact h) hW.out.drew ?_;have B0:Hid (Below W1.heap.size W1 wr.drew):=hid hW.out.drew;generalize wr.drew=wD at B0 ⊢
      repeat
       refine plan_read (v:=?_) rfl rfl (Or.inl ⟨by rfl,?_⟩) ?_;rotate_left
       ·intro w' hSw;obtain ⟨s0,s2⟩:=HS.out w' hSw;have s3:=HDC.out w' hSw;go_simp
        try with_reducible rfl
       try simp only [aPut]
      refine plan_act rfl rfl (fun K' hK=>?_);go_simp
      refine (HK.out _).mono ?_;rintro e w5 ⟨rfl,rfl⟩;refine hK.out _ _ B0.out ?_;clear hK K';refine plan_tail rfl ?_;simp only [aDrp];cases hz:chk t z with
      | false =>
       have e:=hid (pbE_bad HTT.out E2.out HLL.out (List.any_eq_true.2 ⟨z,List.mem_of_getElem? HZ.out,by simp [hz]⟩));clear hz;go_wp2
       go_ret
       exact ⟨ret_val (congrArg (Value.int .i64) e.out).symm,hB1.out.trans (B0.out.mono hB1.out.size)⟩
      | true =>
       have hA':Hid ((data.take (k+1)).any (fun x=>!chk t x)=false):=hid (take_any HZ.out hA.out (by simp [hz]));clear hz;go_wp2
       go_roundw
       case rel=>exact ⟨k+1,by omega,by go_num,hA',B0⟩
       case measure=>simp [intOf];omega
     ·have hki:¬ (k:Int) < (data.length:Int):=by omega
      obtain rfl:k=data.length:=by omega
      have e:=hid (pbE_good HTT.out E2.out HLL.out (by have:=hA.out;rwa [List.take_length] at this));go_wp2
      go_ret
      exact ⟨ret_val (congrArg (Value.int .i64) e.out).symm,hB1.out.trans (hW.out.mono hB1.out.size)⟩
   ·have e:=hid (pbE_len (data:=data) HTT.out E2.out (by rw [E1.out];exact hl));go_wp2_with fail
    go_ret
    exact ⟨ret_val (congrArg (Value.int .i64) e.out).symm,hB1.out⟩
  ·have e:=hid ((pbE_dims (data:=data) HTT.out (by rw [E2.out];exact hg)).trans E2.out);go_wp2_with fail
   go_ret
   exact ⟨ret_val (congrArg (Value.int .i64) e.out).symm,hB1.out⟩
end
end Go.Proofs.YtijhdmidffenbaaGreatDoor
