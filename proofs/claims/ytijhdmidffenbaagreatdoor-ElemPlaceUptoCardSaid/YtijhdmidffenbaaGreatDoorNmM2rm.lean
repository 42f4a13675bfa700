import Derived.Test.YtijhdmidffenbaaGreatDoorNmMrm
open Go.Lib (hid)
set_option linter.unusedVariables false
set_option linter.unusedSimpArgs false
namespace Go.Proofs.YtijhdmidffenbaaGreatDoor.Nm
open Go.RowKit Ieee Fl
theorem compare_scale (x y:Int) {c:Nat} (h:0 < c):compare (x * (c:Int)) (y * (c:Int))=compare x y:=compare_mul x y h
theorem inf_beyond:18446744073709551616 * V1 < mg single single.infRung:=Nat.lt_of_lt_of_le (Nat.mul_lt_mul_of_pos_right (by decide) V1_pos) inf_far
theorem inf_beyondD:18446744073709551616 * U < mg double double.infRung:=Nat.lt_of_lt_of_le (Nat.mul_lt_mul_of_pos_right (by decide) U_pos) dinf_far
theorem wide_compare {v:Nat} (hv:isNaN single v=false) (k:Int) (hk:k.natAbs≤18446744073709551616) :
  compare (sv double (double.write (single.read v))) (k * (U:Int))=compare (sv single v) (k * (V1:Int)):=by
 have hV:=V1_pos;have hU:=U_pos;have hP:=p925_pos;cases hf:fin single v
 ·have hi:=inf_of hv hf;have e:single.read v=.infinity (sgn single v):=read_inf okS hi;have e2:double.write (.infinity (sgn single v))=double.word (sgn single v) double.infRung:=rfl;rw [e,e2,sv_word double.infRung_lt];have b1:=inf_beyond;have b2:=inf_beyondD;have e3:sv single v=if sgn single v then -(mg single single.infRung:Int) else (mg single single.infRung:Int):=by unfold sv;rw [hi]
  rw [e3];have c1:-(18446744073709551616 * (V1:Int))≤k * (V1:Int)∧k * (V1:Int)≤18446744073709551616 * (V1:Int):=by
   rw [←Int.neg_mul];exact ⟨Int.mul_le_mul_of_nonneg_right (by omega) (by omega),Int.mul_le_mul_of_nonneg_right (by omega) (by omega)⟩
  have c2:-(18446744073709551616 * (U:Int))≤k * (U:Int)∧k * (U:Int)≤18446744073709551616 * (U:Int):=by
   rw [←Int.neg_mul];exact ⟨Int.mul_le_mul_of_nonneg_right (by omega) (by omega),Int.mul_le_mul_of_nonneg_right (by omega) (by omega)⟩
  generalize mg single single.infRung=a at *;generalize mg double double.infRung=b at *;generalize k * (V1:Int)=p at *;generalize k * (U:Int)=q at *;cases sgn single v
  ·simp only [Bool.false_eq_true,if_false];rw [Int.compare_eq_gt.2 (by omega),Int.compare_eq_gt.2 (by omega)]
  ·simp only [if_true];rw [Int.compare_eq_lt.2 (by omega),Int.compare_eq_lt.2 (by omega)]
 ·obtain ⟨_,f2,_,_⟩:=wide_eq hf;have eU:(U:Int)=(V1:Int) * (P925:Int):=by rw [←P925_U,Int.natCast_mul]
  rw [f2,eU,←Int.mul_assoc,compare_scale _ _ hP]
theorem wide_conv {v:Nat} (h1:-9223372036854775808 * (V1:Int) < sv single v) (h2:sv single v < 9223372036854775808 * (V1:Int)) :
  floatToIntVal .f64 (double.write (single.read v)) .i64=some ((sv single v).tdiv (V1:Int)):=by
 have hV:=V1_pos;have hP:=p925_pos;have hf:fin single v=true:=by
  have b1:=inf_beyond;exact fin_of_bounds (by omega) (by omega)
 obtain ⟨f1,f2,_,_⟩:=wide_eq hf;have eU:(U:Int)=(V1:Int) * (P925:Int):=by rw [←P925_U,Int.natCast_mul]
 have e:(FloatKind.f64.decode (double.write (single.read v))).toInt .zero=some ((sv single v).tdiv (V1:Int)):=by
  show (double.read (double.write (single.read v))).toInt .zero=_;rw [dtoInt f1,f2,eU,Int.mul_tdiv_mul_of_pos_left _ _ (by omega)]
 unfold floatToIntVal;rw [e];have m1:IntKind.i64.min=-9223372036854775808:=by decide
 have m2:IntKind.i64.max=9223372036854775807:=by decide
 simp only [m1,m2];have h3:(sv single v).natAbs < 9223372036854775808 * V1:=by omega
 have h4:((sv single v).tdiv (V1:Int)).natAbs=(sv single v).natAbs / V1:=by rw [Int.natAbs_tdiv];rfl
 have h5:(sv single v).natAbs / V1 < 9223372036854775808:=(Nat.div_lt_iff_lt_mul hV).2 h3;rw [if_pos (by omega)]
theorem k1:isNaN double (floatOfInt .f64 (-2147483648))=false∧sv double (floatOfInt .f64 (-2147483648))=-2147483648 * (U:Int):=⟨by decide +kernel,of_decide_eq_true (by kernel_rfl)⟩
theorem k2:isNaN double (floatOfInt .f64 2147483647)=false∧sv double (floatOfInt .f64 2147483647)=2147483647 * (U:Int):=⟨by decide +kernel,of_decide_eq_true (by kernel_rfl)⟩
theorem k3:isNaN double (floatOfInt .f64 (-9223372036854775808))=false∧sv double (floatOfInt .f64 (-9223372036854775808))=-9223372036854775808 * (U:Int):=⟨by decide +kernel,of_decide_eq_true (by kernel_rfl)⟩
theorem k4:isNaN double (floatOfInt .f64 9223372036854775807)=false∧sv double (floatOfInt .f64 9223372036854775807)=9223372036854775808 * (U:Int):=⟨by decide +kernel,of_decide_eq_true (by kernel_rfl)⟩
theorem wide_order {v c:Nat} {k:Int} (hv:isNaN single v=false) (hc:isNaN double c=false∧sv double c=k * (U:Int)) (hk:k.natAbs≤18446744073709551616) :
  FloatKind.f64.format.order (double.write (single.read v)) c=some (compare (sv single v) (k * (V1:Int))):=by
 rw [show FloatKind.f64.format=double from rfl,order_eq okD (wide_notNaN hv).1 hc.1,hc.2,wide_compare hv k hk]
def pickO (X Y:Ordering) (lo hi K:Int):Int:=match X with | .gt=>(match Y with | .lt=>K | _=>hi) | _=>lo
attribute [local irreducible] floatOfInt
set_option maxHeartbeats 1000000 in
theorem toWhole_walk (t:Int) (v D:Nat) (K:Int) (X Y Z V:Ordering) (hs:(FloatKind.f64.format.order D D != some .eq)=false)
  (w1:∀ w,wide v w=D) (w2:∀ w,wideW v w=w)
  (h6l:FloatKind.f64.format.order D (floatOfInt .f64 (-2147483648))=some X) (h6h:FloatKind.f64.format.order D (floatOfInt .f64 2147483647)=some Y)
  (h7l:FloatKind.f64.format.order D (floatOfInt .f64 (-9223372036854775808))=some Z) (h7h:FloatKind.f64.format.order D (floatOfInt .f64 9223372036854775807)=some V)
  (hc:(t==6)=true→X=.gt→Y=.lt→floatToIntVal .f64 D .i64=some K) (hd:(t==6)=false→Z=.gt→V=.lt→floatToIntVal .f64 D .i64=some K) (w:World) :
  Calls Tryz.prog 138 #[.int .i64 t,.float .f32 v] w fun e w'=>e=.returned (.int .i64 (if (t==6)=true then pickO X Y (-2147483648) 2147483647 K else pickO Z V (-9223372036854775808) 9223372036854775807 K))∧w=w':=by
 have conv:=fun (h:floatToIntVal .f64 D .i64=some K) w=>run_convert_float_int (P:=Tryz.prog) w 165 2 .f64 .i64 D K (by rw [Tryz.underlying165];rfl) Tryz.underlying2 h;cases ht:(t==6)
 ·have hd':=hd ht;clear hd hc h6l h6h;cases Z<;>cases V
  all_goals
   first
    | have cv:=conv (hd' rfl rfl)
    | skip
   clear conv hd';simp only [pickO,Bool.false_eq_true,if_false];go_enter Tryz.func138,Tryz.ntmps138
   go_wp2
   go_ret
   exact ⟨rfl,rfl⟩
 ·have hc':=hc ht;clear hd hc h7l h7h;cases X<;>cases Y
  all_goals
   first
    | have cv:=conv (hc' rfl rfl)
    | skip
   clear conv hc';simp only [pickO,if_true];go_enter Tryz.func138,Tryz.ntmps138
   go_wp2
   go_ret
   exact ⟨rfl,rfl⟩
set_option maxHeartbeats 1000000 in
theorem toWhole_nan (t:Int) (v:Nat) (hn:isNaN single v=true) (w:World) :
  Calls Tryz.prog 138 #[.int .i64 t,.float .f32 v] w fun e w'=>e=.returned (.int .i64 0)∧w'=wideW v w:=by
 have hs:(FloatKind.f64.format.order (wide v w) (wide v w) != some .eq)=true:=by
  rw [show FloatKind.f64.format=double from rfl,ord_self okD,wide_nan hn]
 clear hn;cases ht:(t==6)
 all_goals
  go_enter Tryz.func138,Tryz.ntmps138
  go_wp2
  go_ret
  exact ⟨rfl,rfl⟩
theorem pick_cut {v:Nat} (hv:isNaN single v=false) (lo hi top:Int) :
  pickO (compare (sv single v) (lo * (V1:Int))) (compare (sv single v) (top * (V1:Int))) lo hi ((sv single v).tdiv (V1:Int))=cutF lo hi top v:=by
 unfold cutF;rw [hv,if_neg (by decide)];generalize sv single v=s;generalize lo * (V1:Int)=p;generalize top * (V1:Int)=q;rcases Int.lt_trichotomy s p with h | h | h
 ·rw [Int.compare_eq_lt.2 h,if_pos (by omega)];rfl
 ·rw [Int.compare_eq_eq.2 h,if_pos (by omega)];rfl
 ·rw [Int.compare_eq_gt.2 h,if_neg (by omega)];rcases Int.lt_trichotomy s q with g | g | g
  ·rw [Int.compare_eq_lt.2 g,if_neg (by omega)];rfl
  ·rw [Int.compare_eq_eq.2 g,if_pos (by omega)];rfl
  ·rw [Int.compare_eq_gt.2 g,if_pos (by omega)];rfl
theorem toWhole_any (t:Int) (v:Nat) (w:World) :
  Calls Tryz.prog 138 #[.int .i64 t,.float .f32 v] w fun e w'=>e=.returned (.int .i64 (toW t v))∧Grw w w':=by
 cases hv:isNaN single v
 ·have hs:(FloatKind.f64.format.order (double.write (single.read v)) (double.write (single.read v)) != some .eq)=false:=by
   rw [show FloatKind.f64.format=double from rfl,ord_self okD,(wide_notNaN hv).1]
  have hV:=V1_pos;refine (toWhole_walk t v _ ((sv single v).tdiv (V1:Int)) _ _ _ _ hs (fun w=>(wide_val w hv).1) (fun w=>(wide_val w hv).2)
   (wide_order hv k1 (by decide)) (wide_order hv k2 (by decide)) (wide_order hv k3 (by decide)) (wide_order hv k4 (by decide)) ?_ ?_ w).mono ?_
  ·intro _ h1 h2;rw [Int.compare_eq_gt] at h1;rw [Int.compare_eq_lt] at h2;exact wide_conv (by omega) (by omega)
  ·intro _ h1 h2;rw [Int.compare_eq_gt] at h1;rw [Int.compare_eq_lt] at h2;exact wide_conv h1 h2
  ·rintro e w' ⟨rfl,rfl⟩;refine ⟨ret_val (int_val ?_),Grw.refl _⟩;rw [pick_cut hv,pick_cut hv];unfold toW;by_cases h6:t=6
   ·rw [if_pos (by simpa using h6),if_pos h6]
   ·rw [if_neg (by simpa using h6),if_neg h6]
 ·refine (toWhole_nan t v hv w).mono ?_;rintro e w' ⟨rfl,rfl⟩;refine ⟨ret_val (int_val ?_),grown_wideW (Grw.refl _) _⟩;unfold toW cutF;rw [hv];simp
theorem foi_lt (x:Int):floatOfInt .f32 x < 4294967296:=by unfold floatOfInt FloatKind.nearest FloatKind.encode;exact single.write_lt _
def cstR (c d:Bool) (z:Int) (a b x f i u:Int):Int × Int :=
 if c=false∨d=false then (0,1)
 else if a=b then (x,0)
 else if b=9∧a=1 then (flg (decide (z≠0)),0)
 else if b=9 then (flg (decide (x≠0)),0)
 else if b=1 then (f,0)
 else if a=1 then (i,0)
 else (u,0)
theorem cst_eq (a b x:Int):cst a b x=cstR (chk a x) (chk b 0) (x % 2147483648) a b x (canon (floatOfInt .f32 x)) (toW b x.toNat) (cutT b x):=rfl
attribute [local irreducible] chk okF isNaN sv mg wholeT cutT flg toW canon
theorem cast_bad (a b x:Int) (h0:-9223372036854775808≤x) (h1:x≤9223372036854775807) (hc:chk a x=false∨(chk a x=true∧chk b 0=false)) (w:World) :
  Calls Tryz.prog 80 #[.int .i64 a,.int .i64 b,.int .i64 x] w fun e w'=>e=.returned (.tuple #[.int .i64 (cst a b x).1,.int .i64 (cst a b x).2])∧Grw w w':=by
 have e:cst a b x=(0,1):=by rw [cst_eq];unfold cstR;rw [if_pos (by rcases hc with h | h;exact Or.inl h;exact Or.inr h.2)]
 rw [e];clear e;rcases hc with hc | ⟨hc,hd⟩
 all_goals
  go_enter Tryz.func80,Tryz.ntmps80
  go_wp2_with (go_at_call 30;refine (check_any _ _ (by first | assumption | decide) (by first | assumption | decide) _).mono ?_;rintro e w' ⟨rfl,rfl⟩)
  go_ret2
  exact ⟨rfl,Grw.refl _⟩
set_option maxHeartbeats 1000000 in
theorem cast_float (a b:Int) (n:Nat) (hn:n < 4294967296) (ha:(a==1)=true) (hc:chk a n=true) (hd:chk b 0=true) (w:World) :
  Calls Tryz.prog 80 #[.int .i64 a,.int .i64 b,.int .i64 (n:Int)] w fun e w'=>e=.returned (.tuple #[.int .i64 (cst a b n).1,.int .i64 (cst a b n).2])∧Grw w w':=by
 rw [cst_eq,hc,hd];have HZ:=hid (bits_andNot_top hn);have hm:((n:Int) % 4294967296).toNat=n:=by omega
 have HW:=hid (toWhole_any b n);rw [Int.toNat_natCast];generalize toW b n=i at *;have HA:=hid (show a=1 by simpa using ha);cases hab:(a==b)<;>cases hb9:(b==9)<;>cases hb1:(b==1)
 all_goals
  go_enter Tryz.func80,Tryz.ntmps80
  go_wp2_with (first | (go_at_call 30;refine (check_any _ _ (by first | exact lo_of | decide) (by first | exact hi_of hn | decide) _).mono ?_;rintro e w' ⟨rfl,rfl⟩) | (go_at_call 136;refine (flag_any _ _).mono ?_;rintro e w' ⟨rfl,rfl⟩) | (go_at_call 137;refine (bitsOf_any _ (foi_lt _) _).mono ?_;rintro e w' ⟨rfl,rfl⟩) | (go_at_call 139;refine (number_any _ _).mono ?_;rintro e w' ⟨rfl,rfl⟩) | (go_at_call 138;refine (HW.out _).mono ?_;rintro e w1 ⟨rfl,hg⟩))
  all_goals go_ret2
  all_goals go_light
  all_goals
   refine ⟨ret2_val (int_val ?_) (int_val ?_),by first | assumption | exact Grw.refl _⟩
   all_goals
    have hz:=HZ.out;have h1:=HA.out;clear HZ HA HW
    try rw [hz]
    unfold cstR
    grind
set_option maxHeartbeats 1000000 in
theorem cast_int (a b x:Int) (h0:-9223372036854775808≤x) (h1:x≤9223372036854775807) (ha:(a==1)=false) (hc:chk a x=true) (hd:chk b 0=true) (w:World) :
  Calls Tryz.prog 80 #[.int .i64 a,.int .i64 b,.int .i64 x] w fun e w'=>e=.returned (.tuple #[.int .i64 (cst a b x).1,.int .i64 (cst a b x).2])∧Grw w w':=by
 rw [cst_eq,hc,hd];generalize toW b x.toNat=i at *;cases hab:(a==b)<;>cases hb9:(b==9)<;>cases hb1:(b==1)
 all_goals
  go_enter Tryz.func80,Tryz.ntmps80
  go_wp2_with (first | (go_at_call 30;refine (check_any _ _ (by first | assumption | decide) (by first | assumption | decide) _).mono ?_;rintro e w' ⟨rfl,rfl⟩) | (go_at_call 136;refine (flag_any _ _).mono ?_;rintro e w' ⟨rfl,rfl⟩) | (go_at_call 137;refine (bitsOf_any _ (foi_lt _) _).mono ?_;rintro e w' ⟨rfl,rfl⟩) | (go_at_call 114;refine (cut_any _ _ _).mono ?_;rintro e w1 ⟨rfl,rfl⟩))
  all_goals go_ret2
  all_goals go_light
  all_goals
   refine ⟨ret2_val (int_val ?_) (int_val ?_),Grw.refl _⟩
   all_goals
    unfold cstR
    grind
theorem cast_any (a b x:Int) (h0:-9223372036854775808≤x) (h1:x≤9223372036854775807) (w:World) :
  Calls Tryz.prog 80 #[.int .i64 a,.int .i64 b,.int .i64 x] w fun e w'=>e=.returned (.tuple #[.int .i64 (cst a b x).1,.int .i64 (cst a b x).2])∧Grw w w':=by
 cases hc:chk a x
 ·exact cast_bad a b x h0 h1 (Or.inl hc) w
 ·cases hd:chk b 0
  ·exact cast_bad a b x h0 h1 (Or.inr ⟨hc,hd⟩) w
  ·cases ha:(a==1)
   ·exact cast_int a b x h0 h1 ha hc hd w
   ·obtain ⟨n,rfl,hn,_⟩:=okF_word (okF_of_chk ha hc);exact cast_float a b n hn ha hc hd w
end Go.Proofs.YtijhdmidffenbaaGreatDoor.Nm
