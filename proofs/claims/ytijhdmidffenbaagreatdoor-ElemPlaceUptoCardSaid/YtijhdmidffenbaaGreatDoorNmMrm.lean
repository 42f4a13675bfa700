import Derived.Test.YtijhdmidffenbaaGreatDoorChecked
import Derived.WalkKit
import Derived.WalkSpells
import Derived.WalkLawsBesides
import Derived.Deep.Light
import Derived.Deep.LoopGhost
import Derived.Outline
import Derived.RowKit3
import Derived.Below
import Derived.Lib.Hide
import Derived.Test.YtijhdmidffenbaaGreatDoorFlMrm
open Go.Lib (hid)
set_option linter.unusedVariables false
set_option linter.unusedSimpArgs false
namespace Go.Proofs.YtijhdmidffenbaaGreatDoor.Nm
open Go.RowKit Ieee Fl
abbrev Grw (w w':World):Prop:=Below w.heap.size w w'
theorem Grw.refl (w:World):Grw w w:=Below.refl _ _
theorem ret_val {a b:Value} (h:a=b):Ending.returned a=Ending.returned b:=by rw [h]
theorem int_val {k:IntKind} {a b:Int} (h:a=b):Value.int k a=Value.int k b:=by rw [h]
theorem bool_val {a b:Bool} (h:a=b):Value.bool a=Value.bool b:=by rw [h]
theorem float_val {k:FloatKind} {a b:Nat} (h:a=b):Value.float k a=Value.float k b:=by rw [h]
theorem run_frombits32 (n:Int) (w:World):(callFunc 135 #[.int .u32 n]).run Tryz.prog w=.ok (.value (.float .f32 n.toNat)) w:=by
 rw [run_callFunc_extern (e:=Extern.MathFloatBits.float32frombits) Tryz.func135 (by kernel_rfl) (by kernel_rfl) (by kernel_rfl) (by kernel_rfl)];rfl
theorem run_bits32 (n:Nat) (w:World):(callFunc 165 #[.float .f32 n]).run Tryz.prog w=.ok (.value (.int .u32 n)) w:=by
 rw [run_callFunc_extern (e:=Extern.MathFloatBits.float32bits) Tryz.func165 (by kernel_rfl) (by kernel_rfl) (by kernel_rfl) (by kernel_rfl)];rfl
theorem run_frombits64 (n:Int) (w:World):(callFunc 173 #[.int .u64 n]).run Tryz.prog w=.ok (.value (.float .f64 n.toNat)) w:=by
 rw [run_callFunc_extern (e:=Extern.MathFloatBits.float64frombits) Tryz.func173 (by kernel_rfl) (by kernel_rfl) (by kernel_rfl) (by kernel_rfl)];rfl
theorem run_sqrt_fn (x:Nat) (w:World):(callFunc 170 #[.float .f64 x]).run Tryz.prog w=.ok (.value (.float .f64 (sqrt64 x w))) (sqrt64W x w):=by
 rw [run_callFunc_extern (e:=Extern.MathSqrt.sqrt) Tryz.func170 (by kernel_rfl) (by kernel_rfl) (by kernel_rfl) (by kernel_rfl),run_sqrt_entry];rfl
theorem run_floor_fn (x:Nat) (w:World):(callFunc 171 #[.float .f64 x]).run Tryz.prog w=.ok (.value (.float .f64 (floor64 floorQ x w))) (floor64W x w):=by
 rw [run_callFunc_extern (e:=Extern.MathFloor.toIntegral "math.archFloor" .down) Tryz.func171 (by kernel_rfl) (by kernel_rfl) (by kernel_rfl) (by kernel_rfl),run_floor_entry];rfl
theorem run_widen_ (b:Nat) (w:World):(convert 110 165 (.float .f32 b)).run Tryz.prog w=.ok (.float .f64 (wide b w)) (wideW b w) :=
 run_widen _ _ b Tryz.underlying110 Tryz.underlying165 w
theorem run_narrow_ (b:Nat) (w:World):(convert 165 110 (.float .f64 b)).run Tryz.prog w=.ok (.float .f32 (narrow b w)) (narrowW b w) :=
 run_narrow _ _ b Tryz.underlying165 Tryz.underlying110 w
theorem unary_neg_float (k:FloatKind) (b:Nat):Op.unary .neg (.float k b)=pure (.float k (Op.negFloat k b)):=rfl
attribute [go_sem] unary_neg_float run_frombits32 run_bits32 run_frombits64 run_sqrt_fn run_floor_fn run_widen_ run_narrow_ run_add run_sub run_mul run_quo
theorem number_any (x:Int) (w:World) :
  Calls Tryz.prog 139 #[.int .i64 x] w fun e w'=>e=.returned (.float .f32 (x % 4294967296).toNat)∧w=w':=by
 go_enter Tryz.func139,Tryz.ntmps139
 go_wp2
 go_ret
 go_light
 exact ⟨ret_val (float_val (by simp)),rfl⟩
theorem bitsOf_any (b:Nat) (hb:b < 4294967296) (w:World) :
  Calls Tryz.prog 137 #[.float .f32 b] w fun e w'=>e=.returned (.int .i64 (canon b))∧w=w':=by
 have hs:=ord_self okS b;have H:=hid hs;clear hs;go_enter Tryz.func137,Tryz.ntmps137
 go_wp2
 ·rename_i h
  go_ret
  refine ⟨ret_val (int_val ?_),rfl⟩;have h2:=H.out;rw [show FloatKind.f32.format=single from rfl,h2] at h;unfold canon;rw [if_pos h]
 ·rename_i h
  go_ret
  refine ⟨ret_val (int_val ?_),rfl⟩;have h2:=H.out;rw [show FloatKind.f32.format=single from rfl,h2] at h;unfold canon;rw [h];simp
theorem whole_any (t:Int) (w:World) :
  Calls Tryz.prog 113 #[.int .i64 t] w fun e w'=>e=.returned (.bool (wholeT t))∧w=w':=by
 go_enter Tryz.func113,Tryz.ntmps113
 go_wp2
 all_goals (go_ret;go_light;refine ⟨ret_val (bool_val ?_),rfl⟩;grind [wholeT])
theorem cut_any (t x:Int) (w:World) :
  Calls Tryz.prog 114 #[.int .i64 t,.int .i64 x] w fun e w'=>e=.returned (.int .i64 (cutT t x))∧w=w':=by
 have hw:wrap64 (wrap32 x)=wrap32 x:=by unfold wrap64 wrap32;omega
 go_enter Tryz.func114,Tryz.ntmps114
 go_wp2
 all_goals (go_ret;go_light;refine ⟨ret_val (int_val ?_),rfl⟩;unfold cutT;simp_all)
theorem flag_any (b:Bool) (w:World) :
  Calls Tryz.prog 136 #[.bool b] w fun e w'=>e=.returned (.int .i64 (flg b))∧w=w':=by
 cases b<;>(go_enter Tryz.func136,Tryz.ntmps136;go_wp2;go_ret;exact ⟨rfl,rfl⟩)
theorem sqrt_any (x:Nat) (w:World) :
  Calls Tryz.prog 149 #[.float .f64 x] w fun e w'=>e=.returned (.float .f64 (sqrt64 x w))∧w'=sqrt64W x w:=by
 go_enter Tryz.func149,Tryz.ntmps149
 go_wp2
 go_ret
 exact ⟨rfl,rfl⟩
theorem floor_any (x:Nat) (w:World) :
  Calls Tryz.prog 150 #[.float .f64 x] w fun e w'=>e=.returned (.float .f64 (floor64 floorQ x w))∧w'=floor64W x w:=by
 go_enter Tryz.func150,Tryz.ntmps150
 go_wp2
 go_ret
 exact ⟨rfl,rfl⟩
end Go.Proofs.YtijhdmidffenbaaGreatDoor.Nm
namespace Go.Proofs.YtijhdmidffenbaaGreatDoor.Nm
open Go.RowKit Ieee Fl
theorem ar_some {op:BinOp} {k:FloatKind} {x y r:Nat} (h:floatBits op k x y=some r):(∀ w,ar op k x y w=r)∧(∀ w,arW op k x y w=w) :=
 ⟨fun w=>by unfold ar;rw [h];rfl,fun w=>by unfold arW;rw [h];rfl⟩
def fidx (v:Value):Nat:=match v with | .float _ b=>((List.range 14).find? fun n=>fi n==b).getD 0 | _=>0
theorem fidx_fi:∀ n,n≤13→fidx (.float .f64 (fi n))=n:=by
 have h:∀ n,n < 14→((List.range 14).find? fun m=>fi m==fi n).getD 0=n:=by decide +kernel
 intro n hn;exact h n (by omega)
theorem fi13:fi 13=4623507967449235456:=by decide +kernel
theorem fi0:fi 0=0:=by decide +kernel
theorem fi_down:∀ n,n < 13→double.sub (fi (n+1)) 4607182418800017408=some (fi n):=by decide +kernel
theorem fi_order1:double.order (fi 1) 4607182418800017408=some .eq:=by decide +kernel
theorem fi_order2:∀ n,n < 12→double.order (fi (n+2)) 4607182418800017408=some .gt:=by decide +kernel
attribute [local irreducible] fi
theorem conv_exK {v:Nat} (H:Head (exY v) (exT1 v) (exT2 v) (exK v) (exM v) (exR v) (exN v)):floatToIntVal .f64 (exK v) .i64=some (exN v):=by
 have hU:=U_pos;have e:(FloatKind.f64.decode (exK v)).toInt .zero=some (exN v):=by
  show (double.read (exK v)).toInt .zero=_;rw [dtoInt H.fink,H.hK,Int.mul_tdiv_cancel _ (by omega)]
 have k1:=H.least;have k2:=H.most;unfold floatToIntVal;rw [e];have h1:IntKind.i64.min=-9223372036854775808:=by decide
 have h2:IntKind.i64.max=9223372036854775807:=by decide
 simp only [h1,h2];rw [if_pos (by omega)]
set_option maxHeartbeats 400000 in
theorem exp_nan (v:Nat) (hn:isNaN single v=true) (w:World) :
  Calls Tryz.prog 151 #[.float .f32 v] w fun e w'=>e=.returned (.float .f32 (expN v))∧w=w':=by
 have hs:(FloatKind.f32.format.order v v != some .eq)=true:=by rw [show FloatKind.f32.format=single from rfl,ord_self okS,hn]
 rw [expN_nan hn];clear hn;go_enter Tryz.func151,Tryz.ntmps151
 go_wp2
 go_ret
 exact ⟨rfl,rfl⟩
set_option maxHeartbeats 400000 in
theorem exp_high (v:Nat) (hn:isNaN single v=false) (h:sv single 1118961664 < sv single v) (w:World) :
  Calls Tryz.prog 151 #[.float .f32 v] w fun e w'=>e=.returned (.float .f32 (expN v))∧w=w':=by
 have hs:(FloatKind.f32.format.order v v != some .eq)=false:=by rw [show FloatKind.f32.format=single from rfl,ord_self okS,hn]
 have hg:(FloatKind.f32.format.order v 1118961664==some .gt)=true:=by rw [show FloatKind.f32.format=single from rfl,ord_gt okS hn (by decide)];simpa using h
 have he:expN v=2139095040:=by unfold expN;rw [hn,if_neg (by decide),if_pos h]
 rw [he];clear he h hn;go_enter Tryz.func151,Tryz.ntmps151
 go_wp2_with (go_at_call 139;refine (number_any _ _).mono ?_;rintro e w' ⟨rfl,rfl⟩)
 go_ret
 exact ⟨rfl,rfl⟩
set_option maxHeartbeats 400000 in
theorem exp_low (v:Nat) (hn:isNaN single v=false) (h1:¬ sv single 1118961664 < sv single v) (h:sv single v < sv single 3268542464) (w:World) :
  Calls Tryz.prog 151 #[.float .f32 v] w fun e w'=>e=.returned (.float .f32 (expN v))∧w=w':=by
 have hs:(FloatKind.f32.format.order v v != some .eq)=false:=by rw [show FloatKind.f32.format=single from rfl,ord_self okS,hn]
 have hg:(FloatKind.f32.format.order v 1118961664==some .gt)=false:=by rw [show FloatKind.f32.format=single from rfl,ord_gt okS hn (by decide)];simpa using h1
 have hl:(FloatKind.f32.format.order v 3268542464==some .lt)=true:=by rw [show FloatKind.f32.format=single from rfl,ord_lt okS hn (by decide)];simpa using h
 have he:expN v=0:=by unfold expN;rw [hn,if_neg (by decide),if_neg h1,if_pos h]
 rw [he];clear he h hn h1;go_enter Tryz.func151,Tryz.ntmps151
 go_wp2
 go_ret
 exact ⟨rfl,rfl⟩
set_option maxHeartbeats 400000 in
theorem exp_mid (v:Nat) (hn:isNaN single v=false) (h1:¬ sv single 1118961664 < sv single v) (h2:¬ sv single v < sv single 3268542464) (w:World) :
  Calls Tryz.prog 151 #[.float .f32 v] w fun e w'=>e=.returned (.float .f32 (expN v))∧w=w':=by
 have hs:(FloatKind.f32.format.order v v != some .eq)=false:=by rw [show FloatKind.f32.format=single from rfl,ord_self okS,hn]
 have hg:(FloatKind.f32.format.order v 1118961664==some .gt)=false:=by rw [show FloatKind.f32.format=single from rfl,ord_gt okS hn (by decide)];simpa using h1
 have hl:(FloatKind.f32.format.order v 3268542464==some .lt)=false:=by rw [show FloatKind.f32.format=single from rfl,ord_lt okS hn (by decide)];simpa using h2
 obtain ⟨hf,_,_,H⟩:=head_ex hn h1 h2;have tl:=tail_ex hn h1 h2;have w1:∀ w,wide v w=exY v:=fun w=>(wide_val w hn).1;have w2:∀ w,wideW v w=w:=fun w=>(wide_val w hn).2;obtain ⟨a1,a1'⟩:=ar_some (op:=.mul) (k:=.f64) (show floatBits .mul .f64 (exY v) 4609176140021203710=some (exT1 v) from H.h1);obtain ⟨a2,a2'⟩:=ar_some (op:=.add) (k:=.f64) (show floatBits .add .f64 (exT1 v) 4602678819172646912=some (exT2 v) from H.h2);have hT2:=nan_of_fin H.fin2;have a3:∀ w,floor64 floorQ (exT2 v) w=exK v:=fun w=>(floor_val w hT2).1;have a3':∀ w,floor64W (exT2 v) w=w:=fun w=>(floor_val w hT2).2;obtain ⟨a4,a4'⟩:=ar_some (op:=.mul) (k:=.f64) (show floatBits .mul .f64 (exK v) 4604418534313441775=some (exM v) from H.h3);obtain ⟨a5,a5'⟩:=ar_some (op:=.sub) (k:=.f64) (show floatBits .sub .f64 (exY v) (exM v)=some (exR v) from H.h4);go_enter Tryz.func151,Tryz.ntmps151
 go_wp2_with (go_at_call 150;refine (floor_any _ _).mono ?_;rintro e w' ⟨rfl,rfl⟩)
 go_loop [6,7] (fun p i=>∃ j n:Nat,Hid (j+n=13)∧p=.float .f64 (exP (exR v) j)∧i=.float .f64 (fi n)) (fun _ i=>fidx i)
 case atStart=>exact ⟨0,13,hid rfl,rfl,by rw [fi13]⟩
 case round =>
  obtain ⟨j,n,hj,rfl,rfl⟩:=hrel;cases n with
  | zero =>
   have ej:j=13:=by have:=hj.out;omega
   subst ej;have ho:FloatKind.f64.format.order (fi 0) 4607182418800017408=some .lt:=by rw [fi0];decide +kernel
   have k1:=tl.k1;have k2:=tl.k2;have hci:=fun w=>run_convert_float_int (P:=Tryz.prog) w 165 3 .f64 .i64 (exK v) (exN v) (by rw [Tryz.underlying165];rfl) Tryz.underlying3 (conv_exK H);have em:((exN v+1023) * 4503599627370496).toNat=(exN v+1023).toNat * 4503599627370496:=by omega
   have hmul:floatBits .mul .f64 (exP (exR v) 13) ((exN v+1023) * 4503599627370496).toNat=some (exC v):=by rw [em];exact tl.mul
   obtain ⟨b1,b1'⟩:=ar_some hmul;clear em hmul;obtain ⟨fc,_,_⟩:=fin_exC tl;have nc:=nan_of_fin fc;have hord:=order_eq (f:=double) okD nc (show isNaN double 5183643170835005440=false by decide);have hend:expN v=if sv double 5183643170835005440≤sv double (exC v) then 2139095040 else single.write (double.read (exC v)):=by
    unfold expN;rw [hn,if_neg (by decide),if_neg (Int.not_lt.2 h1),if_neg (Int.not_lt.2 h2)]
   rcases (by omega:sv double (exC v) < sv double 5183643170835005440∨sv double (exC v)=sv double 5183643170835005440∨sv double 5183643170835005440 < sv double (exC v)) with g | g | g
   ·have ho2:FloatKind.f64.format.order (exC v) 5183643170835005440=some .lt:=by rw [show FloatKind.f64.format=double from rfl,hord,Int.compare_eq_lt.2 g]
    have hbk:=back_exC tl (by omega);have n1:∀ w,narrow (exC v) w=single.write (double.read (exC v)):=fun w=>(narrow_val w hbk).1;have n2:∀ w,narrowW (exC v) w=w:=fun w=>(narrow_val w hbk).2;rw [if_neg (by omega)] at hend;have HE:=hid hend;clear hend hord g hbk fc nc;go_wp2
    go_ret
    exact ⟨ret_val (float_val HE.out.symm),rfl⟩
   ·have ho2:FloatKind.f64.format.order (exC v) 5183643170835005440=some .eq:=by rw [show FloatKind.f64.format=double from rfl,hord,Int.compare_eq_eq.2 g]
    rw [if_pos (by omega)] at hend;have HE:=hid hend;clear hend hord g fc nc;go_wp2_with (go_at_call 139;refine (number_any _ _).mono ?_;rintro e w' ⟨rfl,rfl⟩)
    go_ret
    exact ⟨ret_val (float_val HE.out.symm),rfl⟩
   ·have ho2:FloatKind.f64.format.order (exC v) 5183643170835005440=some .gt:=by rw [show FloatKind.f64.format=double from rfl,hord,Int.compare_eq_gt.2 g]
    rw [if_pos (by omega)] at hend;have HE:=hid hend;clear hend hord g fc nc;go_wp2_with (go_at_call 139;refine (number_any _ _).mono ?_;rintro e w' ⟨rfl,rfl⟩)
    go_ret
    exact ⟨ret_val (float_val HE.out.symm),rfl⟩
  | succ m =>
   obtain ⟨q,d,st⟩:=steps_of H.small j (by have:=hj.out;omega);rw [show 13 - j=m+1 by have:=hj.out;omega] at st;obtain ⟨b1,b1'⟩:=ar_some (op:=.mul) (k:=.f64) (show floatBits .mul .f64 (exP (exR v) j) (exR v)=some q from st.h1);obtain ⟨b2,b2'⟩:=ar_some (op:=.quo) (k:=.f64) (show floatBits .quo .f64 q (fi (m+1))=some d from st.h2);obtain ⟨b3,b3'⟩:=ar_some (op:=.add) (k:=.f64) (show floatBits .add .f64 4607182418800017408 d=some (exP (exR v) (j+1)) from st.h3);obtain ⟨b4,b4'⟩:=ar_some (op:=.sub) (k:=.f64) (show floatBits .sub .f64 (fi (m+1)) 4607182418800017408=some (fi m) from fi_down m (by have:=hj.out;omega));have F1:=hid (fidx_fi (m+1) (by have:=hj.out;omega));have F2:=hid (fidx_fi m (by have:=hj.out;omega));have ho:FloatKind.f64.format.order (fi (m+1)) 4607182418800017408=some .eq∨FloatKind.f64.format.order (fi (m+1)) 4607182418800017408=some .gt:=by
    rcases (match m with | 0=>Or.inl rfl | k+1=>Or.inr ⟨k,rfl⟩:m=0∨∃ k,m=k+1) with h | ⟨k,h⟩
    ·left;rw [h];exact fi_order1
    ·right;rw [h];exact fi_order2 k (by have:=hj.out;omega)
   clear st;rcases ho with ho | ho
   all_goals
    go_wp2
    go_round
    case rel=>exact ⟨j+1,m,hid (by have:=hj.out;omega),rfl,rfl⟩
    case measure =>
     have f1:=F1.out;have f2:=F2.out;simp only [f1,f2];omega
theorem exp_any (v:Nat) (w:World) :
  Calls Tryz.prog 151 #[.float .f32 v] w fun e w'=>e=.returned (.float .f32 (expN v))∧w=w':=by
 cases hn:isNaN single v
 ·by_cases h1:sv single 1118961664 < sv single v
  ·exact exp_high v hn h1 w
  ·by_cases h2:sv single v < sv single 3268542464
   ·exact exp_low v hn h1 h2 w
   ·exact exp_mid v hn h1 h2 w
 ·exact exp_nan v hn w
def sigA (v:Nat) (w:World):Nat:=ar .add .f32 1065353216 (expN (Op.negFloat .f32 v)) w
def sigAW (v:Nat) (w:World):World:=arW .add .f32 1065353216 (expN (Op.negFloat .f32 v)) w
def sigB (v:Nat) (w:World):Nat:=ar .quo .f32 1065353216 (sigA v w) (sigAW v w)
def sigW (v:Nat) (w:World):World:=arW .quo .f32 1065353216 (sigA v w) (sigAW v w)
theorem canon_sig (v:Nat) (w:World):canon (sigB v w)=sigS v:=by
 unfold sigB sigS;rw [canon_ar'];cases h:floatBits .add .f32 1065353216 (expN (Op.negFloat .f32 v)) with
 | none =>
  have h1:isNaN single (sigA v w)=true:=isNaN_ar_none (k:=.f32) h;rw [floatBits_nan (k:=.f32) (Or.inr h1)];rfl
 | some s =>
  have h1:sigA v w=s:=(ar_some h).1 w;rw [h1]
theorem sigmoid_any (v:Nat) (w:World) :
  Calls Tryz.prog 152 #[.float .f32 v] w fun e w'=>e=.returned (.float .f32 (sigB v w))∧w'=sigW v w:=by
 go_enter Tryz.func152,Tryz.ntmps152
 go_wp2_with (go_at_call 151;refine (exp_any _ _).mono ?_;rintro e w' ⟨rfl,rfl⟩)
 go_ret
 exact ⟨rfl,rfl⟩
def tanB (v:Nat):Nat:=if isNaN single v then v else tanT (v % 2147483648)+v / 2147483648 * 2147483648
theorem canon_of {b:Nat} (h:isNaN single b=false):canon b=(b:Int):=by unfold canon;rw [h];rfl
theorem tanh_nan (v:Nat) (hn:isNaN single v=true) (w:World) :
  Calls Tryz.prog 153 #[.float .f32 v] w fun e w'=>e=.returned (.float .f32 (tanB v))∧w=w':=by
 have hs:(FloatKind.f32.format.order v v != some .eq)=true:=by rw [show FloatKind.f32.format=single from rfl,ord_self okS,hn]
 have he:tanB v=v:=by unfold tanB;rw [if_pos hn]
 rw [he];clear he hn;go_enter Tryz.func153,Tryz.ntmps153
 go_wp2
 go_ret
 exact ⟨rfl,rfl⟩
theorem top_num {q:Nat} (h:q < 2147483648):(((q+2147483648:Nat):Int) % 4294967296).toNat=q+2147483648:=by omega
theorem low_num {a:Nat} (h:a < 2147483648):((a:Int) % 4294967296).toNat=a:=by omega
theorem lt_num {q:Nat} (h:q < 2147483648):q < 4294967296:=by omega
set_option maxHeartbeats 400000 in
theorem tanh_walk (v a u up dn q:Nat) (s:Bool) (z:Int) (hv:v < 4294967296)
  (hs:(FloatKind.f32.format.order v v != some .eq)=false) (hc:canon v=(v:Int))
  (hA:bits .andNot .i64 (v:Int) 2147483648=(a:Int)) (hS:bits .and .i64 (v:Int) 2147483648=if s then 2147483648 else 0) (hm:((a:Int) % 4294967296).toNat=a)
  (ho:FloatKind.f32.format.order a 1092616192=some .lt∨FloatKind.f32.format.order a 1092616192=some .eq)
  (h1:floatBits .add .f32 a a=some u) (h2:floatBits .sub .f32 (expN u) 1065353216=some up) (h3:floatBits .add .f32 (expN u) 1065353216=some dn) (h4:floatBits .quo .f32 up dn=some q)
  (qc:canon q=(q:Int)) (ql:q < 4294967296) (qo:bits .or .i64 (q:Int) 2147483648=z) (qm:(z % 4294967296).toNat=q+2147483648) (w:World) :
  Calls Tryz.prog 153 #[.float .f32 v] w fun e w'=>e=.returned (.float .f32 (if s then q+2147483648 else q))∧w=w':=by
 obtain ⟨b1,b1'⟩:=ar_some h1;obtain ⟨b2,b2'⟩:=ar_some h2;obtain ⟨b3,b3'⟩:=ar_some h3;obtain ⟨b4,b4'⟩:=ar_some h4;clear h1 h2 h3 h4;cases s<;>simp only [if_true,if_false,Bool.false_eq_true] at hS ⊢ <;> rcases ho with ho | ho
 all_goals
  go_enter Tryz.func153,Tryz.ntmps153
  go_wp2_with (first | (go_at_call 137;refine (bitsOf_any _ (by assumption) _).mono ?_;rintro e w' ⟨rfl,rfl⟩) | (go_at_call 139;refine (number_any _ _).mono ?_;rintro e w' ⟨rfl,rfl⟩) | (go_at_call 151;refine (exp_any _ _).mono ?_;rintro e w' ⟨rfl,rfl⟩))
  go_ret
  exact ⟨rfl,rfl⟩
set_option maxHeartbeats 400000 in
theorem tanh_walk1 (v a:Nat) (s:Bool) (hv:v < 4294967296)
  (hs:(FloatKind.f32.format.order v v != some .eq)=false) (hc:canon v=(v:Int))
  (hA:bits .andNot .i64 (v:Int) 2147483648=(a:Int)) (hS:bits .and .i64 (v:Int) 2147483648=if s then 2147483648 else 0) (hm:((a:Int) % 4294967296).toNat=a)
  (ho:FloatKind.f32.format.order a 1092616192=some .gt) (w:World) :
  Calls Tryz.prog 153 #[.float .f32 v] w fun e w'=>e=.returned (.float .f32 (if s then 3212836864 else 1065353216))∧w=w':=by
 have c1:canon 1065353216=1065353216:=by decide
 have q1:bits .or .i64 1065353216 2147483648=3212836864:=by decide
 have l1:1065353216 < 4294967296:=by decide
 cases s<;>simp only [if_true,if_false,Bool.false_eq_true] at hS ⊢
 all_goals
  go_enter Tryz.func153,Tryz.ntmps153
  go_wp2_with (first | (go_at_call 137;refine (bitsOf_any _ (by first | assumption | decide) _).mono ?_;rintro e w' ⟨rfl,rfl⟩) | (go_at_call 139;refine (number_any _ _).mono ?_;rintro e w' ⟨rfl,rfl⟩))
  go_ret
  exact ⟨rfl,rfl⟩
attribute [local irreducible] sv mg isNaN
theorem isNaN_low {v:Nat} (hn:isNaN single v=false):isNaN single (v % 2147483648)=false:=by
 rw [isNaN_mod] at hn;exact hn
theorem tanh_any (v:Nat) (hv:v < 4294967296) (w:World) :
  Calls Tryz.prog 153 #[.float .f32 v] w fun e w'=>e=.returned (.float .f32 (tanB v))∧w=w':=by
 cases hn:isNaN single v
 ·have hs:(FloatKind.f32.format.order v v != some .eq)=false:=by rw [show FloatKind.f32.format=single from rfl,ord_self okS,hn]
  have hc:canon v=(v:Int):=canon_of hn;have ha:v % 2147483648 < 2147483648:=Nat.mod_lt _ (by decide);have hA:=bits_andNot_top hv;have hS:=bits_and_top hv;have hT:tanB v=tanT (v % 2147483648)+v / 2147483648 * 2147483648:=by unfold tanB;rw [hn];rfl
  have na:=isNaN_low hn;have hq:v / 2147483648=0∨v / 2147483648=1:=div_top hv;obtain ⟨s,hs1,hs2⟩:∃ s:Bool,(((v / 2147483648 * 2147483648:Nat):Int)=if s then 2147483648 else 0)∧∀ q,q+v / 2147483648 * 2147483648=if s then q+2147483648 else q:=by
   rcases hq with h | h
   ·exact ⟨false,by rw [h];rfl,fun q=>by rw [h];simp⟩
   ·exact ⟨true,by rw [h];rfl,fun q=>by rw [h];simp⟩
  rw [hs1] at hS;rw [hT,hs2];clear hT hs1 hs2 hq;generalize v % 2147483648=a at *;have hord:=order_eq (f:=single) okS na (show isNaN single 1092616192=false from notNaN_ten);by_cases h10:sv single a≤sv single 1092616192
  ·have tn:=tan_of ha h10;have eT:tanT a=tanQ a:=if_pos h10;have ho:FloatKind.f32.format.order a 1092616192=some .lt∨FloatKind.f32.format.order a 1092616192=some .eq:=by
    rcases Int.lt_or_eq_of_le h10 with h | h
    ·left;rw [show FloatKind.f32.format=single from rfl,hord,Int.compare_eq_lt.2 h]
    ·right;rw [show FloatKind.f32.format=single from rfl,hord,Int.compare_eq_eq.2 h]
   rw [eT];exact tanh_walk v a _ _ _ (tanQ a) s _ hv hs hc hA hS (low_num ha) ho tn.h1 tn.h2 tn.h3 tn.h4 (canon_of tn.qn) (lt_num tn.ql) (bits_or_top tn.ql) (top_num tn.ql) w
  ·have eT:tanT a=1065353216:=if_neg h10;have ho:FloatKind.f32.format.order a 1092616192=some .gt:=by
    rw [show FloatKind.f32.format=single from rfl,hord,Int.compare_eq_gt.2 (Int.not_le.1 h10)]
   rw [eT];exact tanh_walk1 v a s hv hs hc hA hS (low_num ha) ho w
 ·exact tanh_nan v hn w
end Go.Proofs.YtijhdmidffenbaaGreatDoor.Nm
namespace Go.Proofs.YtijhdmidffenbaaGreatDoor.Nm
open Go.RowKit Ieee Fl
theorem okF_raw (x:Int):okF x=(decide (x / 4294967296=0)&&(!(decide (bits .and .i64 x 2139095040=2139095040) && !decide (bits .and .i64 x 8388607=0)) || decide (x=2143289344))):=by
 by_cases h:x / 4294967296=0
 ·obtain ⟨n,rfl⟩:=Int.eq_ofNat_of_zero_le (show 0≤x by omega);have hn:n < 4294967296:=by omega
  have e1:bits .and .i64 (n:Int) 2139095040=((n &&& 2139095040:Nat):Int):=bits_and_nat (b:=2139095040) (by omega) (by decide);have e2:bits .and .i64 (n:Int) 8388607=((n &&& 8388607:Nat):Int):=bits_and_nat (b:=8388607) (by omega) (by decide);rw [e1,e2,and_frac];unfold okF isN;rw [Int.toNat_natCast,isNaN_bits];have h3:=and_inf (x:=n);have h4:(((n &&& 2139095040:Nat):Int)=2139095040)↔n / 8388608 % 256=255:=by rw [←h3];omega
  have h5:(((n % 8388608:Nat):Int)=0)↔n % 8388608=0:=by omega
  rw [Bool.eq_iff_iff];simp only [Bool.and_eq_true,Bool.or_eq_true,Bool.not_eq_true',decide_eq_true_eq,Bool.and_eq_false_iff,decide_eq_false_iff_not,h4,h5,h,beq_iff_eq,Bool.not_eq_false',true_and,ne_eq];constructor
  ·rintro ⟨_,g⟩;exact g.imp (fun g=>g.imp id (fun g=>by simpa using g)) id
  ·intro g;refine ⟨⟨by omega,by omega⟩,g.imp (fun g=>g.imp id (fun g=>by simpa using g)) id⟩
 ·have h1:¬ (0≤x∧x < 4294967296):=by omega
  unfold okF;simp [h,h1]
set_option maxHeartbeats 400000 in
theorem check_any (t x:Int) (h0:-9223372036854775808≤x) (h1:x≤9223372036854775807) (w:World) :
  Calls Tryz.prog 30 #[.int .i64 t,.int .i64 x] w fun e w'=>e=.returned (.bool (chk t x))∧w=w':=by
 have hr:=okF_raw x;have HR:=hid hr;clear hr;go_enter Tryz.func30,Tryz.ntmps30
 go_wp2
 all_goals (go_ret;go_light;refine ⟨ret_val (bool_val ?_),rfl⟩)
 all_goals (have hr:=HR.out;clear HR;grind [chk,wrap64,wrap32])
theorem ret2_val {a b c d:Value} (h:a=c) (g:b=d):Ending.returned (.tuple #[a,b])=Ending.returned (.tuple #[c,d]):=by rw [h,g]
theorem grown_orDrew {w w':World} (h:Grw w w') (o:Option Nat):Grw w (orDrew o w'):=by
 unfold orDrew;cases o
 ·exact h.drew
 ·exact h
theorem grown_arW {w w':World} (h:Grw w w') (op:BinOp) (k:FloatKind) (x y:Nat):Grw w (arW op k x y w'):=grown_orDrew h _
theorem grown_wideW {w w':World} (h:Grw w w') (x:Nat):Grw w (wideW x w'):=grown_orDrew h _
theorem grown_sqrtW {w w':World} (h:Grw w w') (x:Nat):Grw w (sqrt64W x w'):=grown_orDrew h _
theorem grown_narrowW {w w':World} (h:Grw w w') (x:Nat):Grw w (narrowW x w'):=by
 unfold narrowW;split
 ·exact h.drew
 ·exact h
theorem grown_floorW {w w':World} (h:Grw w w') (x:Nat):Grw w (floor64W x w'):=by
 unfold floor64W;split
 ·split
  ·exact h
  ·exact h.drew
 ·exact h
theorem grown_sigW {w w':World} (h:Grw w w') (x:Nat):Grw w (sigW x w'):=grown_arW (grown_arW h _ _ _ _) _ _ _ _
theorem sigB_lt (v:Nat) (w:World):sigB v w < 4294967296:=ar_lt _ _ _ _
theorem tanT_lt {a:Nat} (h:a < 2147483648):tanT a < 2147483648:=by
 unfold tanT;split
 ·rename_i h1;exact (tan_of h h1).ql
 ·decide
theorem tanB_lt {v:Nat} (h:v < 4294967296):tanB v < 4294967296:=by
 unfold tanB;split
 ·exact h
 ·have:=tanT_lt (a:=v % 2147483648) (Nat.mod_lt _ (by decide));omega
theorem tanT_notNaN {a:Nat} (h:a < 2147483648):isNaN single (tanT a)=false:=by
 unfold tanT;split
 ·rename_i h1;exact (tan_of h h1).qn
 ·decide
theorem canon_tan (v:Nat):canon (tanB v)=tanhS v:=by
 unfold tanB tanhS;cases hn:isNaN single v
 ·have h1:=tanT_notNaN (a:=v % 2147483648) (Nat.mod_lt _ (by decide));have h2:=tanT_lt (a:=v % 2147483648) (Nat.mod_lt _ (by decide));have h3:(tanT (v % 2147483648)+v / 2147483648 * 2147483648) % 2147483648=tanT (v % 2147483648):=by omega
  have h4:isNaN single (tanT (v % 2147483648)+v / 2147483648 * 2147483648)=false:=by rw [isNaN_mod,h3];exact h1
  simp [canon_of h4]
 ·simp [canon,hn]
theorem okF_word {x:Int} (h:okF x=true):∃ n:Nat,x=(n:Int)∧n < 4294967296∧(isNaN single n=true→n=2143289344):=by
 unfold okF isN at h;simp only [Bool.and_eq_true,decide_eq_true_eq,Bool.or_eq_true,Bool.not_eq_true',beq_iff_eq] at h;obtain ⟨⟨h1,h2⟩,h3⟩:=h;obtain ⟨n,rfl⟩:=Int.eq_ofNat_of_zero_le h1;refine ⟨n,rfl,by omega,fun h4=>?_⟩;rw [Int.toNat_natCast,h4] at h3;rcases h3 with h3 | h3
 ·cases h3
 ·omega
def opt0 (o:Option Int):Int:=o.getD 0
def optS (o:Option Int):Bool:=o.isSome
theorem ord_zero_lt (n:Nat):(FloatKind.f32.format.order n 0==some .lt)=(!isNaN single n&&decide (sv single n < 0)):=by
 cases h:isNaN single n
 ·rw [show FloatKind.f32.format=single from rfl,ord_lt okS h (by decide),show sv single 0=0 from rfl];simp
 ·rw [show FloatKind.f32.format=single from rfl,ord_nan okS (Or.inl h)];rfl
theorem ord_zero_eq (n:Nat):(FloatKind.f32.format.order n 0==some .eq)=(!isNaN single n&&decide (sv single n=0)):=by
 cases h:isNaN single n
 ·rw [show FloatKind.f32.format=single from rfl,ord_eq okS h (by decide),show sv single 0=0 from rfl];simp
 ·rw [show FloatKind.f32.format=single from rfl,ord_nan okS (Or.inl h)];rfl
theorem ord_refl (n:Nat):(FloatKind.f32.format.order n n != some .eq)=isNaN single n:=ord_self okS n
set_option maxHeartbeats 1000000 in
theorem ofFloat_any (op:ByteArray) (n:Nat) (hn:n < 4294967296) (w:World) :
  Calls Tryz.prog 115 #[.string op,.int .i64 (n:Int)] w fun e w'=>e=.returned (.tuple #[.int .i64 (opt0 (unF op.toList n)),.bool (optS (unF op.toList n))])∧Grw w w':=by
 have hm:((n:Int) % 4294967296).toNat=n:=by omega
 have hx:=bits_xor_top hn;have ha:=bits_andNot_top hn;have HX:=hid hx;have HA:=hid ha;clear hx ha;go_enter Tryz.func115,Tryz.ntmps115
 go_wp2_with (first | (go_at_call 139;refine (number_any _ _).mono ?_;rintro e w' ⟨rfl,rfl⟩) | (go_at_call 137;refine (bitsOf_any _ (by first | exact narrow_lt _ _ | exact sigB_lt _ _ | exact tanB_lt (by assumption) | exact expN_lt (by assumption)) _).mono ?_;rintro e w' ⟨rfl,rfl⟩) | (go_at_call 149;refine (sqrt_any _ _).mono ?_;rintro e w' ⟨rfl,rfl⟩) | (go_at_call 150;refine (floor_any _ _).mono ?_;rintro e w' ⟨rfl,rfl⟩) | (go_at_call 151;refine (exp_any _ _).mono ?_;rintro e w' ⟨rfl,rfl⟩) | (go_at_call 152;refine (sigmoid_any _ _).mono ?_;rintro e w' ⟨rfl,rfl⟩) | (go_at_call 153;refine (tanh_any _ (by assumption) _).mono ?_;rintro e w' ⟨rfl,rfl⟩))
 all_goals go_ret2
 all_goals go_light
 all_goals
  have hx:=HX.out;have ha:=HA.out;clear HX HA;generalize op.toList=L at *;simp only [ord_refl,ord_zero_lt,ord_zero_eq] at *;refine ⟨ret2_val (int_val ?_) (bool_val ?_),?_⟩
  ·try simp only [canon_sqrt,canon_floor,canon_sig,canon_tan]
   clear hm
   grind [unF,opt0,isN]
  ·clear hx ha hm
   grind [unF,optS]
  ·repeat (with_reducible first | exact Grw.refl _ | apply grown_narrowW | apply grown_sqrtW | apply grown_floorW | apply grown_wideW | apply grown_sigW)
theorem lo_of {n:Nat}:-9223372036854775808≤(n:Int):=by omega
theorem hi_of {n:Nat} (h:n < 4294967296):(n:Int)≤9223372036854775807:=by omega
theorem not_bool (x:Int) (h:x=0∨x=1):bits .xor .i64 x 1=1 - x:=by rcases h with rfl | rfl<;>decide
attribute [local irreducible] chk okF isN unF optS opt0 isNaN sv mg wholeT cutT
set_option maxHeartbeats 1000000 in
theorem unary_float (op:ByteArray) (t:Int) (ht:(t==1)=true) (h9:(t==9)=false) (hw:wholeT t=false) (n:Nat) (hn:n < 4294967296) (hc:chk t n=true) (w:World) :
  Calls Tryz.prog 63 #[.string op,.int .i64 t,.int .i64 (n:Int)] w fun e w'=>e=.returned (.tuple #[.int .i64 (un op.toList t n).1,.int .i64 (un op.toList t n).2])∧Grw w w':=by
 unfold un;rw [hc,hw];have hof:=ofFloat_any op n hn;generalize unF op.toList n=o at *;have HOF:=hid hof;clear hof;generalize cutT t (wrap64 (-(n:Int)))=y;cases o
 all_goals
  go_enter Tryz.func63,Tryz.ntmps63
  go_wp2_with (first | (go_at_call 30;refine (check_any _ _ lo_of (hi_of hn) _).mono ?_;rintro e w' ⟨rfl,rfl⟩) | (go_at_call 113;refine (whole_any _ _).mono ?_;rintro e w' ⟨rfl,rfl⟩) | (go_at_call 115;refine (HOF.out _).mono ?_;simp only [opt0,optS,Option.getD_some,Option.getD_none,Option.isSome_some,Option.isSome_none];rintro e w1 ⟨rfl,hg⟩))
  all_goals go_ret2
  all_goals go_light
  all_goals
   refine ⟨ret2_val (int_val ?_) (int_val ?_),by first | assumption | exact Grw.refl _⟩
   all_goals
    clear HOF
    grind [unR]
theorem unary_bad (op:ByteArray) (t x:Int) (h0:-9223372036854775808≤x) (h1:x≤9223372036854775807) (hc:chk t x=false) (w:World) :
  Calls Tryz.prog 63 #[.string op,.int .i64 t,.int .i64 x] w fun e w'=>e=.returned (.tuple #[.int .i64 (un op.toList t x).1,.int .i64 (un op.toList t x).2])∧Grw w w':=by
 have e:un op.toList t x=(0,1):=by unfold un;rw [hc];rfl
 rw [e];clear e;go_enter Tryz.func63,Tryz.ntmps63
 go_wp2_with (first | (go_at_call 30;refine (check_any _ _ h0 h1 _).mono ?_;rintro e w' ⟨rfl,rfl⟩))
 go_ret2
 exact ⟨rfl,Grw.refl _⟩
set_option maxHeartbeats 1000000 in
theorem unary_rest (op:ByteArray) (t x:Int) (h0:-9223372036854775808≤x) (h1:x≤9223372036854775807) (ht:(t==1)=false) (hx:(t==9)=true→bits .xor .i64 x 1=1 - x) (hc:chk t x=true) (w:World) :
  Calls Tryz.prog 63 #[.string op,.int .i64 t,.int .i64 x] w fun e w'=>e=.returned (.tuple #[.int .i64 (un op.toList t x).1,.int .i64 (un op.toList t x).2])∧Grw w w':=by
 unfold un;rw [hc];have HX:=hid hx;clear hx;generalize unF op.toList x=o at *;have hct:=cut_any t (wrap64 (-x));generalize hy:cutT t (wrap64 (-x))=y at *;clear hy;have HCT:=hid hct;clear hct;cases hw:wholeT t
 all_goals
  go_enter Tryz.func63,Tryz.ntmps63
  go_wp2_with (first | (go_at_call 30;refine (check_any _ _ h0 h1 _).mono ?_;rintro e w' ⟨rfl,rfl⟩) | (go_at_call 113;refine (whole_any _ _).mono ?_;rintro e w' ⟨rfl,rfl⟩) | (go_at_call 114;refine (HCT.out _).mono ?_;rintro e w' ⟨rfl,rfl⟩))
  all_goals go_ret2
  all_goals go_light
  all_goals
   refine ⟨ret2_val (int_val ?_) (int_val ?_),Grw.refl _⟩
   all_goals
    have hx:=HX.out;clear HX HCT;unfold unR
    grind
theorem okF_of_chk {t x:Int} (ht:(t==1)=true) (h:chk t x=true):okF x=true:=by
 unfold chk at h;rw [if_pos (by simpa using ht)] at h;exact h
theorem bool_of_chk {t x:Int} (ht:(t==9)=true) (h:chk t x=true):x=0∨x=1:=by
 have:t=9:=by simpa using ht
 subst this;unfold chk at h;rw [if_neg (by decide),if_neg (by decide),if_pos rfl] at h
 simpa using h
theorem whole_one {t:Int} (ht:(t==1)=true):wholeT t=false:=by
 have:t=1:=by simpa using ht
 subst this;unfold wholeT;decide
theorem nine_one {t:Int} (ht:(t==1)=true):(t==9)=false:=by
 have:t=1:=by simpa using ht
 subst this
 decide
theorem unary_any (op:ByteArray) (t x:Int) (h0:-9223372036854775808≤x) (h1:x≤9223372036854775807) (w:World) :
  Calls Tryz.prog 63 #[.string op,.int .i64 t,.int .i64 x] w fun e w'=>e=.returned (.tuple #[.int .i64 (un op.toList t x).1,.int .i64 (un op.toList t x).2])∧Grw w w':=by
 cases hc:chk t x
 ·exact unary_bad op t x h0 h1 hc w
 ·cases ht:(t==1)
  ·exact unary_rest op t x h0 h1 ht (fun h9=>not_bool x (bool_of_chk h9 hc)) hc w
  ·obtain ⟨n,rfl,hn,_⟩:=okF_word (okF_of_chk ht hc);exact unary_float op t ht (nine_one ht) (whole_one ht) n hn hc w
end Go.Proofs.YtijhdmidffenbaaGreatDoor.Nm
namespace Go.Proofs.YtijhdmidffenbaaGreatDoor.Nm
open Go.RowKit Ieee Fl
theorem ord_E (n m:Nat):(FloatKind.f32.format.order n m==some .eq)=(!isNaN single n && !isNaN single m&&decide (sv single n=sv single m)):=by
 cases h:isNaN single n
 ·cases g:isNaN single m
  ·rw [show FloatKind.f32.format=single from rfl,ord_eq okS h g];simp
  ·rw [show FloatKind.f32.format=single from rfl,ord_nan okS (Or.inr g)];rfl
 ·rw [show FloatKind.f32.format=single from rfl,ord_nan okS (Or.inl h)];rfl
theorem ord_L (n m:Nat):(FloatKind.f32.format.order n m==some .lt)=(!isNaN single n && !isNaN single m&&decide (sv single n < sv single m)):=by
 cases h:isNaN single n
 ·cases g:isNaN single m
  ·rw [show FloatKind.f32.format=single from rfl,ord_lt okS h g];simp
  ·rw [show FloatKind.f32.format=single from rfl,ord_nan okS (Or.inr g)];rfl
 ·rw [show FloatKind.f32.format=single from rfl,ord_nan okS (Or.inl h)];rfl
theorem ord_G (n m:Nat):(FloatKind.f32.format.order n m==some .gt)=(!isNaN single n && !isNaN single m&&decide (sv single m < sv single n)):=by
 cases h:isNaN single n
 ·cases g:isNaN single m
  ·rw [show FloatKind.f32.format=single from rfl,ord_gt okS h g];simp
  ·rw [show FloatKind.f32.format=single from rfl,ord_nan okS (Or.inr g)];rfl
 ·rw [show FloatKind.f32.format=single from rfl,ord_nan okS (Or.inl h)];rfl
theorem ord_refl_iff (n:Nat):(FloatKind.f32.format.order n n=some .eq)=(isNaN single n=false):=by
 have h:=ord_refl n;cases g:isNaN single n<;>rw [g] at h<;>simpa using h
theorem and_same {n m:Nat} (hn:n < 4294967296) (hm:m < 4294967296) (h:sv single n=sv single m):bits .and .i64 (n:Int) (m:Int)=min (n:Int) (m:Int)∧bits .or .i64 (n:Int) (m:Int)=max (n:Int) (m:Int):=by
 rw [bits_and_nat (by omega) (by omega),bits_or_nat (by omega) (by omega)];rcases same_sv hn hm h with rfl | ⟨h1,h2⟩
 ·rw [Nat.and_self,Nat.or_self];omega
 ·have a1:n=0∨n=2147483648:=by omega
  have a2:m=0∨m=2147483648:=by omega
  rcases a1 with rfl | rfl<;>rcases a2 with rfl | rfl<;>decide
attribute [local irreducible] chk okF optS opt0 isNaN sv mg wholeT cutT
set_option maxHeartbeats 2000000 in
theorem floats_any (op:ByteArray) (n m:Nat) (hn:n < 4294967296) (hm:m < 4294967296) (w:World) :
  Calls Tryz.prog 117 #[.string op,.int .i64 (n:Int),.int .i64 (m:Int)] w fun e w'=>e=.returned (.tuple #[.int .i64 (opt0 (binF op.toList n m)),.bool (optS (binF op.toList n m))])∧Grw w w':=by
 have hm1:((n:Int) % 4294967296).toNat=n:=by omega
 have hm2:((m:Int) % 4294967296).toNat=m:=by omega
 have hs:=and_same hn hm;have HS:=hid hs;clear hs;go_enter Tryz.func117,Tryz.ntmps117
 go_wp2_with (first | (go_at_call 139;refine (number_any _ _).mono ?_;rintro e w' ⟨rfl,rfl⟩) | (go_at_call 137;refine (bitsOf_any _ (ar_lt _ _ _ _) _).mono ?_;rintro e w' ⟨rfl,rfl⟩) | (go_at_call 136;refine (flag_any _ _).mono ?_;rintro e w' ⟨rfl,rfl⟩))
 all_goals go_ret2
 all_goals go_light
 all_goals
  have hs:=HS.out;clear HS hm1 hm2;generalize op.toList=L at *
  try simp only [ord_refl,ord_refl_iff,ord_E,ord_L,ord_G] at *
  refine ⟨ret2_val (int_val ?_) (bool_val ?_),?_⟩
  ·try simp only [canon_ar']
   unfold binF isN opt0;simp only [Int.toNat_natCast]
   grind
  ·unfold binF optS;clear hs
   grind
  ·repeat (with_reducible first | exact Grw.refl _ | apply grown_arW)
theorem quo_in {x y:Int} (h0:-9223372036854775808≤x) (h1:x≤9223372036854775807) (h2:y ≠ -1):wrap64 (x.tdiv y)=x.tdiv y:=by
 have h3:(x.tdiv y).natAbs=x.natAbs / y.natAbs:=Int.natAbs_tdiv _ _;have h4:x.natAbs / y.natAbs≤x.natAbs:=Nat.div_le_self _ _;have h5:x.tdiv y≠9223372036854775808:=by
  intro h;rw [h] at h3;have h6:y.natAbs≠1∨y=1:=by omega
  rcases h6 with h6 | rfl
  ·have h7:x.natAbs / y.natAbs < 9223372036854775808:=by
    rcases (by omega:y.natAbs=0∨2≤y.natAbs) with h8 | h8
    ·rw [h8,Nat.div_zero];decide
    ·have:x.natAbs / y.natAbs≤x.natAbs / 2:=Nat.div_le_div_left h8 (by decide);omega
   have:(9223372036854775808:Int).natAbs=9223372036854775808:=rfl;omega
  ·rw [Int.tdiv_one] at h;omega
 unfold wrap64;omega
attribute [local irreducible] binI flg
set_option maxHeartbeats 2000000 in
theorem wholes_any (op:ByteArray) (t x y:Int) (h0:-9223372036854775808≤x) (h1:x≤9223372036854775807) (w:World) :
  Calls Tryz.prog 116 #[.string op,.int .i64 t,.int .i64 x,.int .i64 y] w fun e w'=>e=.returned (.tuple #[.int .i64 (binI op.toList t x y).1,.int .i64 (binI op.toList t x y).2])∧w=w':=by
 have hq:=quo_in (y:=y) h0 h1;have HQ:=hid hq;clear hq;cases hy:(y==0)
 ·have hy2:¬ y=0:=by simpa using hy
  go_enter Tryz.func116,Tryz.ntmps116
  go_wp2_with (first | (go_at_call 136;refine (flag_any _ _).mono ?_;rintro e w' ⟨rfl,rfl⟩) | (go_at_call 114;refine (cut_any _ _ _).mono ?_;rintro e w' ⟨rfl,rfl⟩))
  all_goals go_ret2
  all_goals go_light
  all_goals
   have hq:=HQ.out;clear HQ;generalize op.toList=L at *;refine ⟨ret2_val (int_val ?_) (int_val ?_),rfl⟩
   all_goals
    unfold binI
    grind
 ·go_enter Tryz.func116,Tryz.ntmps116
  go_wp2_with (first | (go_at_call 136;refine (flag_any _ _).mono ?_;rintro e w' ⟨rfl,rfl⟩) | (go_at_call 114;refine (cut_any _ _ _).mono ?_;rintro e w' ⟨rfl,rfl⟩))
  all_goals go_ret2
  all_goals go_light
  all_goals
   have hq:=HQ.out;clear HQ;generalize op.toList=L at *;refine ⟨ret2_val (int_val ?_) (int_val ?_),rfl⟩
   all_goals
    unfold binI
    grind
theorem binary_bad (op:ByteArray) (t x y:Int) (h0:-9223372036854775808≤x) (h1:x≤9223372036854775807) (g0:-9223372036854775808≤y) (g1:y≤9223372036854775807) (hc:chk t x=false∨(chk t x=true∧chk t y=false)) (w:World) :
  Calls Tryz.prog 64 #[.string op,.int .i64 t,.int .i64 x,.int .i64 y] w fun e w'=>e=.returned (.tuple #[.int .i64 (bin op.toList t x y).1,.int .i64 (bin op.toList t x y).2])∧Grw w w':=by
 have e:bin op.toList t x y=(0,1):=by unfold bin binR;rw [if_pos (by rcases hc with h | h;exact Or.inl h;exact Or.inr h.2)]
 rw [e];clear e;rcases hc with hc | ⟨hc,hd⟩
 all_goals
  go_enter Tryz.func64,Tryz.ntmps64
  go_wp2_with (go_at_call 30;refine (check_any _ _ (by assumption) (by assumption) _).mono ?_;rintro e w' ⟨rfl,rfl⟩)
  go_ret2
  exact ⟨rfl,Grw.refl _⟩
set_option maxHeartbeats 1000000 in
theorem binary_whole (op:ByteArray) (t x y:Int) (h0:-9223372036854775808≤x) (h1:x≤9223372036854775807) (g0:-9223372036854775808≤y) (g1:y≤9223372036854775807) (hc:chk t x=true) (hd:chk t y=true) (hw:wholeT t=true) (w:World) :
  Calls Tryz.prog 64 #[.string op,.int .i64 t,.int .i64 x,.int .i64 y] w fun e w'=>e=.returned (.tuple #[.int .i64 (bin op.toList t x y).1,.int .i64 (bin op.toList t x y).2])∧Grw w w':=by
 have e:bin op.toList t x y=binI op.toList t x y:=by unfold bin binR;rw [if_neg (by rw [hc,hd];decide),if_pos hw]
 rw [e];clear e;go_enter Tryz.func64,Tryz.ntmps64
 go_wp2_with (first | (go_at_call 30;refine (check_any _ _ (by assumption) (by assumption) _).mono ?_;rintro e w' ⟨rfl,rfl⟩) | (go_at_call 113;refine (whole_any _ _).mono ?_;rintro e w' ⟨rfl,rfl⟩) | (go_at_call 116;refine (wholes_any _ _ _ _ h0 h1 _).mono ?_;rintro e w' ⟨rfl,rfl⟩))
 go_ret2
 exact ⟨rfl,Grw.refl _⟩
set_option maxHeartbeats 1000000 in
theorem binary_float (op:ByteArray) (t:Int) (n m:Nat) (hn:n < 4294967296) (hm:m < 4294967296) (ht:(t==1)=true) (hc:chk t n=true) (hd:chk t m=true) (hw:wholeT t=false) (w:World) :
  Calls Tryz.prog 64 #[.string op,.int .i64 t,.int .i64 (n:Int),.int .i64 (m:Int)] w fun e w'=>e=.returned (.tuple #[.int .i64 (bin op.toList t n m).1,.int .i64 (bin op.toList t n m).2])∧Grw w w':=by
 unfold bin;rw [hc,hd,hw];have hof:=floats_any op n m hn hm;generalize binF op.toList n m=o at *;have HOF:=hid hof;clear hof;have HT1:=hid (show t=1 by simpa using ht);generalize binI op.toList t n m=i;cases o
 all_goals
  go_enter Tryz.func64,Tryz.ntmps64
  go_wp2_with (first | (go_at_call 30;refine (check_any _ _ lo_of (hi_of (by assumption)) _).mono ?_;rintro e w' ⟨rfl,rfl⟩) | (go_at_call 113;refine (whole_any _ _).mono ?_;rintro e w' ⟨rfl,rfl⟩) | (go_at_call 117;refine (HOF.out _).mono ?_;simp only [opt0,optS,Option.getD_some,Option.getD_none,Option.isSome_some,Option.isSome_none];rintro e w1 ⟨rfl,hg⟩))
  go_ret2
  go_light
  refine ⟨ret2_val (int_val ?_) (int_val ?_),by assumption⟩
  all_goals
   have ht1:=HT1.out;clear HOF HT1;unfold binR;simp [ht1]
theorem bool_bits {x y:Int} (hx:x=0∨x=1) (hy:y=0∨y=1):bits .and .i64 x y=x * y∧bits .or .i64 x y=max x y∧bits .xor .i64 x y=flg (decide (x≠y))∧bits .xor .i64 (bits .xor .i64 x y) 1=flg (decide (x=y)):=by
 rcases hx with rfl | rfl<;>rcases hy with rfl | rfl<;>(unfold flg;decide)
set_option maxHeartbeats 1000000 in
theorem binary_rest (op:ByteArray) (t x y:Int) (h0:-9223372036854775808≤x) (h1:x≤9223372036854775807) (g0:-9223372036854775808≤y) (g1:y≤9223372036854775807) (ht:(t==1)=false) (hc:chk t x=true) (hd:chk t y=true) (hw:wholeT t=false)
  (hb:bits .and .i64 x y=x * y∧bits .or .i64 x y=max x y∧bits .xor .i64 x y=flg (decide (x≠y))∧bits .xor .i64 (bits .xor .i64 x y) 1=flg (decide (x=y))) (w:World) :
  Calls Tryz.prog 64 #[.string op,.int .i64 t,.int .i64 x,.int .i64 y] w fun e w'=>e=.returned (.tuple #[.int .i64 (bin op.toList t x y).1,.int .i64 (bin op.toList t x y).2])∧Grw w w':=by
 unfold bin;rw [hc,hd,hw];have HB:=hid hb;clear hb;generalize binF op.toList x y=o;generalize binI op.toList t x y=i;go_enter Tryz.func64,Tryz.ntmps64
 go_wp2_with (first | (go_at_call 30;refine (check_any _ _ (by assumption) (by assumption) _).mono ?_;rintro e w' ⟨rfl,rfl⟩) | (go_at_call 113;refine (whole_any _ _).mono ?_;rintro e w' ⟨rfl,rfl⟩))
 all_goals go_ret2
 all_goals go_light
 all_goals
  refine ⟨ret2_val (int_val ?_) (int_val ?_),Grw.refl _⟩
  all_goals
   obtain ⟨b1,b2,b3,b4⟩:=HB.out;clear HB;unfold binR
   grind
theorem chk_cases {t x:Int} (h:chk t x=true) (h1:(t==1)=false) (hw:wholeT t=false):x=0∨x=1:=by
 have e1:¬ t=1:=by simpa using h1
 unfold wholeT at hw;have e2:¬ (t=6∨t=7):=by simpa using hw
 unfold chk at h;rw [if_neg e1,if_neg (by omega)] at h;by_cases e3:t=9
 ·rw [if_pos e3] at h;simpa using h
 ·rw [if_neg e3] at h;simp at h;omega
theorem binary_any (op:ByteArray) (t x y:Int) (h0:-9223372036854775808≤x) (h1:x≤9223372036854775807) (g0:-9223372036854775808≤y) (g1:y≤9223372036854775807) (w:World) :
  Calls Tryz.prog 64 #[.string op,.int .i64 t,.int .i64 x,.int .i64 y] w fun e w'=>e=.returned (.tuple #[.int .i64 (bin op.toList t x y).1,.int .i64 (bin op.toList t x y).2])∧Grw w w':=by
 cases hc:chk t x
 ·exact binary_bad op t x y h0 h1 g0 g1 (Or.inl hc) w
 ·cases hd:chk t y
  ·exact binary_bad op t x y h0 h1 g0 g1 (Or.inr ⟨hc,hd⟩) w
  ·cases hw:wholeT t
   ·cases ht:(t==1)
    ·exact binary_rest op t x y h0 h1 g0 g1 ht hc hd hw (bool_bits (chk_cases hc ht hw) (chk_cases hd ht hw)) w
    ·obtain ⟨n,rfl,hn,_⟩:=okF_word (okF_of_chk ht hc);obtain ⟨m,rfl,hm,_⟩:=okF_word (okF_of_chk ht hd);exact binary_float op t n m hn hm ht hc hd hw w
   ·exact binary_whole op t x y h0 h1 g0 g1 hc hd hw w
end Go.Proofs.YtijhdmidffenbaaGreatDoor.Nm
