import Derived.Test.YtkkeehnldcdccaaGreatDoorChecked
import Derived.WalkKit
import Derived.WalkSpells
import Derived.WalkLawsBesides
import Derived.Deep.Light
import Derived.Deep.LoopGhost
import Derived.Outline
import Derived.RowKit3
import Derived.Below
import Derived.Lib.Hide
import Derived.Test.YtkkeehnldcdccaaGreatDoorNeF1
set_option linter.unusedVariables false
set_option linter.unusedSimpArgs false
set_option maxRecDepth 100000
set_option maxHeartbeats 4000000
namespace Go.Proofs.YtkkeehnldcdccaaGreatDoor
open Go.Lib (hid)
namespace Nm
open Go.RowKit Ieee Fl
abbrev EC(w w':World):Prop:=Below w.heap.size w w'
theorem EC.refl(w:World):EC w w:=Below.refl _ _
theorem Ab{a b:Value}(h:a=b):Ending.returned a=Ending.returned b:=by rw[h]
theorem An{k:IntKind}{a b:Int}(h:a=b):Value.int k a=Value.int k b:=by rw[h]
theorem Ar{a b:Bool}(h:a=b):Value.bool a=Value.bool b:=by rw[h]
theorem S5{k:FloatKind}{a b:Nat}(h:a=b):Value.float k a=Value.float k b:=by rw[h]
theorem KG(n:Int)(w:World):(callFunc 175 #[.int .u32 n]).run Tryz.prog w=.ok (.value (.float .f32 n.toNat)) w:=by
 rw[run_callFunc_extern (e:=Extern.MathFloatBits.float32frombits) Tryz.func175 (by kernel_rfl) (by kernel_rfl) (by kernel_rfl) (by kernel_rfl)];rfl
theorem Qx(n:Nat)(w:World):(callFunc 180 #[.float .f32 n]).run Tryz.prog w=.ok (.value (.int .u32 n)) w:=by
 rw[run_callFunc_extern (e:=Extern.MathFloatBits.float32bits) Tryz.func180 (by kernel_rfl) (by kernel_rfl) (by kernel_rfl) (by kernel_rfl)];rfl
theorem KH(n:Int)(w:World):(callFunc 188 #[.int .u64 n]).run Tryz.prog w=.ok (.value (.float .f64 n.toNat)) w:=by
 rw[run_callFunc_extern (e:=Extern.MathFloatBits.float64frombits) Tryz.func188 (by kernel_rfl) (by kernel_rfl) (by kernel_rfl) (by kernel_rfl)];rfl
theorem OD(x:Nat)(w:World):(callFunc 181 #[.float .f64 x]).run Tryz.prog w=.ok (.value (.float .f64 (IN x w))) (FN x w):=by
 rw[run_callFunc_extern (e:=Extern.MathSqrt.sqrt) Tryz.func181 (by kernel_rfl) (by kernel_rfl) (by kernel_rfl) (by kernel_rfl),KC];rfl
theorem M6(x:Nat)(w:World):(callFunc 182 #[.float .f64 x]).run Tryz.prog w=.ok (.value (.float .f64 (Do IP x w))) (Cy x w):=by
 rw[run_callFunc_extern (e:=Extern.MathFloor.toIntegral "math.archFloor" .down) Tryz.func182 (by kernel_rfl) (by kernel_rfl) (by kernel_rfl) (by kernel_rfl),JC];rfl
theorem Qy(b:Nat)(w:World):(convert 140 158 (.float .f32 b)).run Tryz.prog w=.ok (.float .f64 (M5 b w)) (GT b w):=
 S4 _ _ b Tryz.underlying140 Tryz.underlying158 w
theorem OE(b:Nat)(w:World):(convert 158 140 (.float .f64 b)).run Tryz.prog w=.ok (.float .f32 (Fb b w)) (Dn b w):=
 Qw _ _ b Tryz.underlying158 Tryz.underlying140 w
theorem JG(k:FloatKind)(b:Nat):Op.unary .neg (.float k b)=pure (.float k (Op.negFloat k b)):=rfl
attribute [go_sem] JG KG Qx KH OD M6 Qy OE WN WO WP WQ
theorem Qz(x:Int)(w:World) :
  Calls Tryz.prog 157 #[.int .i64 x] w fun e w'=>e=.returned (.float .f32 (x%4294967296).toNat)∧w=w':=by
 go_enter Tryz.func157,Tryz.ntmps157
 go_wp2
 go_ret
 go_light
 exact⟨Ab (S5 (by simp)),rfl⟩
theorem Hc(b:Nat)(hb:b<4294967296)(w:World) :
  Calls Tryz.prog 158 #[.float .f32 b] w fun e w'=>e=.returned (.int .i64 (OC b))∧w=w':=by
 have hs:=UF bK b;have H:=hid hs;clear hs;go_enter Tryz.func158,Tryz.ntmps158
 go_wp2
 ·rename_i h
  go_ret
  refine⟨Ab (An ?_),rfl⟩;have h2:=H.out;rw[show FloatKind.f32.format=single from rfl,h2]at h;unfold OC;rw[if_pos h]
 ·rename_i h
  go_ret
  refine⟨Ab (An ?_),rfl⟩;have h2:=H.out;rw[show FloatKind.f32.format=single from rfl,h2]at h;unfold OC;rw[h];simp
theorem Md(t:Int)(w:World) :
  Calls Tryz.prog 101 #[.int .i64 t] w fun e w'=>e=.returned (.bool (Dr t))∧w=w':=by
 go_enter Tryz.func101,Tryz.ntmps101
 go_wp2
 all_goals (go_ret;go_light;refine⟨Ab (Ar ?_),rfl⟩;grind [Dr])
theorem JS(t x:Int)(w:World) :
  Calls Tryz.prog 102 #[.int .i64 t,.int .i64 x] w fun e w'=>e=.returned (.int .i64 (JE t x))∧w=w':=by
 have hw:wrap64 (wrap32 x)=wrap32 x:=by unfold wrap64 wrap32;omega
 go_enter Tryz.func102,Tryz.ntmps102
 go_wp2
 all_goals (go_ret;go_light;refine⟨Ab (An ?_),rfl⟩;unfold JE;simp_all)
theorem OF(b:Bool)(w:World) :
  Calls Tryz.prog 162 #[.bool b] w fun e w'=>e=.returned (.int .i64 (Wy b))∧w=w':=by
 cases b<;>(go_enter Tryz.func162,Tryz.ntmps162;go_wp2;go_ret;exact⟨rfl,rfl⟩)
theorem OG(x:Nat)(w:World) :
  Calls Tryz.prog 145 #[.float .f64 x] w fun e w'=>e=.returned (.float .f64 (IN x w))∧w'=FN x w:=by
 go_enter Tryz.func145,Tryz.ntmps145
 go_wp2
 go_ret
 exact⟨rfl,rfl⟩
theorem GH(x:Nat)(w:World) :
  Calls Tryz.prog 146 #[.float .f64 x] w fun e w'=>e=.returned (.float .f64 (Do IP x w))∧w'=Cy x w:=by
 go_enter Tryz.func146,Tryz.ntmps146
 go_wp2
 go_ret
 exact⟨rfl,rfl⟩
end Nm
namespace Nm
open Go.RowKit Ieee Fl
theorem PZ{op:BinOp}{k:FloatKind}{x y r:Nat}(h:floatBits op k x y=some r):(∀w,ar op k x y w=r)∧(∀w,UE op k x y w=w):=
 ⟨fun w=>by unfold ar;rw[h];rfl,fun w=>by unfold UE;rw[h];rfl⟩
def ZU(v:Value):Nat:=match v with | .float _ b=>((List.range 14).find? fun n=>fi n==b).getD 0|_=>0
theorem RP:∀n,n<14→ZU (.float .f64 (fi n))=n:=by
 have h:∀n,n<14→((List.range 14).find? fun m=>fi m==fi n).getD 0=n:=by decide+kernel
 exact fun n hn=>h n hn
theorem cT:fi 13=4623507967449235456:=by decide+kernel
theorem z0:fi 0=0:=by decide+kernel
theorem ZV:∀n,n<13→floatBits .sub .f64 (fi (n+1)) 4607182418800017408=some (fi n):=by decide+kernel
theorem ZW:FloatKind.f64.format.order (fi 1) 4607182418800017408=some .eq:=by decide+kernel
theorem ZX:∀n,n<12→FloatKind.f64.format.order (fi (n+2)) 4607182418800017408=some .gt:=by decide+kernel
def Zr(v r:Nat):Prop:=(v=0∧r=0)∨(v=2147483648∧r=9223372036854775808)
theorem bW{v r:Nat}(h:Zr v r):∀n,n<13→floatBits .quo .f64 r (fi (n+1))=some r:=by
 rcases h with⟨-,rfl⟩| ⟨-,rfl⟩
 all_goals decide+kernel
attribute [local irreducible] fi
theorem KI{v r:Nat}(h:Zr v r)(w:World) :
  Calls Tryz.prog 159 #[.float .f32 v] w fun e w'=>e=.returned (.float .f32 1065353216)∧w=w':=by
 have hs:(FloatKind.f32.format.order v v != some .eq)=false:=by rcases h with⟨rfl,rfl⟩| ⟨rfl,rfl⟩<;>decide+kernel
 have hg:(FloatKind.f32.format.order v 1118961664==some .gt)=false:=by rcases h with⟨rfl,rfl⟩| ⟨rfl,rfl⟩<;>decide+kernel
 have hl:(FloatKind.f32.format.order v 3268542464==some .lt)=false:=by rcases h with⟨rfl,rfl⟩| ⟨rfl,rfl⟩<;>decide+kernel
 have e1:KB v=some r:=by rcases h with⟨rfl,rfl⟩| ⟨rfl,rfl⟩<;>decide+kernel
 have w1:∀w,M5 v w=r:=fun w=>by unfold M5;rw[e1];rfl
 have w2:∀w,GT v w=w:=fun w=>by unfold GT;rw[e1];rfl
 obtain⟨a1,a1'⟩:=PZ (op:=.mul) (k:=.f64) (show floatBits .mul .f64 r 4609176140021203710=some r by rcases h with⟨rfl,rfl⟩| ⟨rfl,rfl⟩<;>decide+kernel);obtain⟨a2,a2'⟩:=PZ (op:=.add) (k:=.f64) (show floatBits .add .f64 r 4602678819172646912=some 4602678819172646912 by rcases h with⟨rfl,rfl⟩| ⟨rfl,rfl⟩<;>decide+kernel);have a3:∀w,Do IP 4602678819172646912 w=0:=fun w=>(IR w (by decide+kernel)).1.trans (by decide+kernel);have a3':∀w,Cy 4602678819172646912 w=w:=fun w=>(IR w (by decide+kernel)).2;obtain⟨a4,a4'⟩:=PZ (op:=.mul) (k:=.f64) (show floatBits .mul .f64 0 4604418534313441775=some 0 by decide+kernel);obtain⟨a5,a5'⟩:=PZ (op:=.sub) (k:=.f64) (show floatBits .sub .f64 r 0=some r by rcases h with⟨rfl,rfl⟩| ⟨rfl,rfl⟩<;>decide+kernel);obtain⟨b1,b1'⟩:=PZ (op:=.mul) (k:=.f64) (show floatBits .mul .f64 4607182418800017408 r=some r by rcases h with⟨rfl,rfl⟩| ⟨rfl,rfl⟩<;>decide+kernel);obtain⟨b3,b3'⟩:=PZ (op:=.add) (k:=.f64) (show floatBits .add .f64 4607182418800017408 r=some 4607182418800017408 by rcases h with⟨rfl,rfl⟩| ⟨rfl,rfl⟩<;>decide+kernel);obtain⟨c1,c1'⟩:=PZ (op:=.mul) (k:=.f64) (show floatBits .mul .f64 4607182418800017408 4607182418800017408=some 4607182418800017408 by decide+kernel);have HQ:=hid (bW h);have hci:=fun w=>run_convert_float_int (P:=Tryz.prog) w 158 3 .f64 .i64 0 0 (by rw[Tryz.underlying158];rfl) Tryz.underlying3 (by decide+kernel);have ho2:FloatKind.f64.format.order 4607182418800017408 5183643170835005440=some .lt:=by decide+kernel
 have n1:∀w,Fb 4607182418800017408 w=1065353216:=fun w=>(Hb w (by unfold WR;decide+kernel)).1.trans (by decide+kernel);have n2:∀w,Dn 4607182418800017408 w=w:=fun w=>(Hb w (by unfold WR;decide+kernel)).2;clear h e1;go_enter Tryz.func159,Tryz.ntmps159
 go_wp2_with (go_at_call 146;refine(GH _ _).mono ?_;rintro e w'⟨rfl,rfl⟩)
 go_loop [6,7] (fun p i=>∃j n:Nat,Hid (j+n=13)∧p=.float .f64 4607182418800017408∧i=.float .f64 (fi n)) (fun _ i=>ZU i)
 case atStart=>exact⟨0,13,hid rfl,rfl,by rw[cT]⟩
 case round=>
  obtain⟨j,n,hj,rfl,rfl⟩:=hrel;cases n with
  | zero=>
   have ho:FloatKind.f64.format.order (fi 0) 4607182418800017408=some .lt:=by rw[z0];decide+kernel
   go_wp2
   go_ret
   exact⟨rfl,rfl⟩
  | succ m=>
   obtain⟨b2,b2'⟩:=PZ (HQ.out m (by have:=hj.out;omega));obtain⟨b4,b4'⟩:=PZ (ZV m (by have:=hj.out;omega));have F1:=hid (RP (m+1) (by have:=hj.out;omega));have F2:=hid (RP m (by have:=hj.out;omega));have ho:FloatKind.f64.format.order (fi (m+1)) 4607182418800017408=some .eq∨FloatKind.f64.format.order (fi (m+1)) 4607182418800017408=some .gt:=by
    rcases(match m with |0=>Or.inl rfl|k+1=>Or.inr ⟨k,rfl⟩:m=0∨∃k,m=k+1)with h| ⟨k,h⟩
    ·left;rw[h];exact ZW
    ·right;rw[h];exact ZX k (by have:=hj.out;omega)
   rcases ho with ho|ho
   all_goals
    go_wp2
    go_round
    case rel=>exact⟨j+1,m,hid (by have:=hj.out;omega),rfl,rfl⟩
    case measure=>
     have f1:=F1.out;have f2:=F2.out;simp only[f1,f2];omega
theorem cJ:Zr 0 0:=Or.inl ⟨rfl,rfl⟩
theorem cU:Zr 2147483648 9223372036854775808:=Or.inr ⟨rfl,rfl⟩
theorem M7(w:World):Calls Tryz.prog 160 #[.float .f32 0] w fun e w'=>e=.returned (.float .f32 1056964608)∧w=w':=by
 have e0:Op.negFloat .f32 0=2147483648:=by decide+kernel
 obtain⟨a1,a1'⟩:=PZ (op:=.add) (k:=.f32) (show floatBits .add .f32 1065353216 1065353216=some 1073741824 by decide+kernel);obtain⟨a2,a2'⟩:=PZ (op:=.quo) (k:=.f32) (show floatBits .quo .f32 1065353216 1073741824=some 1056964608 by decide+kernel);go_enter Tryz.func160,Tryz.ntmps160
 go_wp2_with (go_at_call 159;refine(KI cU _).mono ?_;rintro e w'⟨rfl,rfl⟩)
 go_ret
 exact⟨rfl,rfl⟩
theorem S6(w:World):Calls Tryz.prog 158 #[.float .f32 0] w fun e w'=>e=.returned (.int .i64 0)∧w=w':=by
 have h:=Hc 0 (by decide) w
 rwa [show OC 0=0 by decide+kernel]at h
theorem KJ(w:World):Calls Tryz.prog 157 #[.int .i64 0] w fun e w'=>e=.returned (.float .f32 0)∧w=w':=Qz 0 w
theorem S7(w:World):Calls Tryz.prog 161 #[.float .f32 0] w fun e w'=>e=.returned (.float .f32 0)∧w=w':=by
 have hs:(FloatKind.f32.format.order 0 0 != some .eq)=false:=by decide+kernel
 have ho:FloatKind.f32.format.order 0 1092616192=some .lt:=by decide+kernel
 have h1:bits .andNot .i64 0 2147483648=0:=by decide+kernel
 have h2:bits .and .i64 0 2147483648=0:=by decide+kernel
 obtain⟨a0,a0'⟩:=PZ (op:=.add) (k:=.f32) (show floatBits .add .f32 0 0=some 0 by decide+kernel);obtain⟨a1,a1'⟩:=PZ (op:=.sub) (k:=.f32) (show floatBits .sub .f32 1065353216 1065353216=some 0 by decide+kernel);obtain⟨a2,a2'⟩:=PZ (op:=.add) (k:=.f32) (show floatBits .add .f32 1065353216 1065353216=some 1073741824 by decide+kernel);obtain⟨a3,a3'⟩:=PZ (op:=.quo) (k:=.f32) (show floatBits .quo .f32 0 1073741824=some 0 by decide+kernel);go_enter Tryz.func161,Tryz.ntmps161
 go_wp2_with (first|(go_at_call 158;refine(S6 _).mono ?_;rintro e w'⟨rfl,rfl⟩)|(go_at_call 157;refine(KJ _).mono ?_;rintro e w'⟨rfl,rfl⟩)|(go_at_call 159;refine(KI cJ _).mono ?_;rintro e w'⟨rfl,rfl⟩))
 go_ret
 exact⟨rfl,rfl⟩
theorem GI(w:World):M5 0 w=0∧GT 0 w=w:=by
 have e:KB 0=some 0:=by decide+kernel
 constructor
 ·unfold M5;rw[e];rfl
 ·unfold GT;rw[e];rfl
theorem S9(w:World):Calls Tryz.prog 145 #[.float .f64 0] w fun e w'=>e=.returned (.float .f64 0)∧w=w':=by
 have e:double.sqrt 0=some 0:=by decide+kernel
 refine(OG 0 w).mono ?_;rintro a w'⟨h1,h2⟩;unfold IN at h1;unfold FN at h2;rw[e]at h1 h2;exact⟨h1,h2.symm⟩
theorem QA(w:World):Calls Tryz.prog 146 #[.float .f64 0] w fun e w'=>e=.returned (.float .f64 0)∧w=w':=by
 obtain⟨h1,h2⟩:=IR (x:=0) w (by decide+kernel);refine(GH 0 w).mono ?_;rintro a w'⟨h3,h4⟩;rw[h1]at h3;rw[h2]at h4;exact⟨h3.trans (congrArg Ending.returned (congrArg (Value.float .f64) (by decide+kernel))),h4.symm⟩
theorem Jh(w:World):Fb 0 w=0∧Dn 0 w=w:=by
 obtain⟨h1,h2⟩:=Hb (x:=0) w (by unfold WR;decide+kernel);exact⟨h1.trans (by decide+kernel),h2⟩
theorem Ei{a b c d:Value}(h:a=c)(g:b=d):Ending.returned (.tuple #[a,b])=Ending.returned (.tuple #[c,d]):=by rw[h,g]
theorem M8(op:ByteArray)(w:World) :
  Calls Tryz.prog 103 #[.string op,.int .i64 0] w fun e w'=>∃y,e=.returned (.tuple #[.int .i64 y,.bool (Hv op.toList 0).isSome])∧EC w w':=by
 have hs:(FloatKind.f32.format.order 0 0 != some .eq)=false:=by decide+kernel
 have hl:(FloatKind.f32.format.order 0 0==some .lt)=false:=by decide+kernel
 have hq:(FloatKind.f32.format.order 0 0==some .eq)=true:=by decide+kernel
 have w1:=fun w=>(GI w).1;have w2:=fun w=>(GI w).2;have n1:=fun w=>(Jh w).1;have n2:=fun w=>(Jh w).2;go_enter Tryz.func103,Tryz.ntmps103
 go_wp2_with (first|(go_at_call 157;refine(KJ _).mono ?_;rintro e w'⟨rfl,rfl⟩)|(go_at_call 158;refine(Hc _ (by decide) _).mono ?_;rintro e w'⟨rfl,rfl⟩)|(go_at_call 145;refine(S9 _).mono ?_;rintro e w'⟨rfl,rfl⟩)|(go_at_call 146;refine(QA _).mono ?_;rintro e w'⟨rfl,rfl⟩)|(go_at_call 159;refine(KI cJ _).mono ?_;rintro e w'⟨rfl,rfl⟩)|(go_at_call 160;refine(M7 _).mono ?_;rintro e w'⟨rfl,rfl⟩)|(go_at_call 161;refine(S7 _).mono ?_;rintro e w'⟨rfl,rfl⟩))
 all_goals go_ret2
 all_goals go_light
 all_goals
  refine⟨_,Ei rfl (Ar ?_),EC.refl _⟩;generalize op.toList=L at*
  grind [Hv]
theorem KK(t:Int)(w:World):Calls Tryz.prog 17 #[.int .i64 t,.int .i64 0] w fun e w'=>e=.returned (.bool (Cz t 0))∧w=w':=by
 have h1:bits .and .i64 0 2139095040=0:=by decide
 have h2:bits .and .i64 0 8388607=0:=by decide
 go_enter Tryz.func17,Tryz.ntmps17
 go_wp2
 all_goals (go_ret;go_light;refine⟨Ab (Ar ?_),rfl⟩)
 all_goals (have h3:ZT 0=true:=by decide+kernel)
 all_goals (unfold Cz;grind)
attribute [local irreducible] Cz ZT PY Hv Bk sv mg Dr JE
theorem Hd(op:ByteArray)(t:Int)(w:World) :
  Calls Tryz.prog 42 #[.string op,.int .i64 t,.int .i64 0] w fun e w'=>∃y,e=.returned (.tuple #[.int .i64 y,.int .i64 (un op.toList t 0).2])∧EC w w':=by
 have HOF:=hid (M8 op);obtain⟨o,ho⟩:∃o,Hv op.toList 0=o:=⟨_,rfl⟩;unfold un;rw[ho]at HOF⊢;clear ho;obtain⟨c,hc⟩:∃c,Cz t 0=c:=⟨_,rfl⟩;obtain⟨h,hh⟩:∃h,Dr t=h:=⟨_,rfl⟩;have HC:=hid (fun w=>KK t w);have HW:=hid (fun w=>Md t w);rw[hc]at HC⊢;rw[hh]at HW⊢;clear hc hh;generalize JE t (wrap64 (-0))=y0;cases c<;>cases h<;>cases o
 all_goals
  go_enter Tryz.func42,Tryz.ntmps42
  go_wp2_with (first|(go_at_call 17;refine(HC.out _).mono ?_;rintro e w'⟨rfl,rfl⟩)|(go_at_call 101;refine(HW.out _).mono ?_;rintro e w'⟨rfl,rfl⟩)|(go_at_call 102;refine(JS _ _ _).mono ?_;rintro e w'⟨rfl,rfl⟩)|(go_at_call 103;refine(HOF.out _).mono ?_;simp only[Option.isSome_some,Option.isSome_none];rintro e w1⟨y1,rfl,hg1⟩))
  all_goals go_ret2
  all_goals go_light
  all_goals
   refine⟨_,Ei rfl (An ?_),by first|assumption|exact EC.refl _⟩;clear HOF HC HW;unfold bV
   grind
end Nm
namespace Nm
open Go.RowKit Ieee Fl
theorem JH{w w':World}(h:EC w w')(op:BinOp)(k:FloatKind)(x y:Nat):EC w (UE op k x y w'):=by
 unfold UE D7;cases floatBits op k x y
 ·exact h.drew
 ·exact h
theorem OH(op:ByteArray)(w:World) :
  Calls Tryz.prog 105 #[.string op,.int .i64 0,.int .i64 0] w fun e w'=>∃y,e=.returned (.tuple #[.int .i64 y,.bool (Lx op.toList 0 0).isSome])∧EC w w':=by
 have hs:(FloatKind.f32.format.order 0 0 != some .eq)=false:=by decide+kernel
 have hl:(FloatKind.f32.format.order 0 0==some .lt)=false:=by decide+kernel
 have hg:(FloatKind.f32.format.order 0 0==some .gt)=false:=by decide+kernel
 have hq:(FloatKind.f32.format.order 0 0==some .eq)=true:=by decide+kernel
 go_enter Tryz.func105,Tryz.ntmps105
 go_wp2_with (first|(go_at_call 157;refine(KJ _).mono ?_;rintro e w'⟨rfl,rfl⟩)|(go_at_call 158;refine(Hc _ (ZP _ _ _ _) _).mono ?_;rintro e w'⟨rfl,rfl⟩)|(go_at_call 162;refine(OF _ _).mono ?_;rintro e w'⟨rfl,rfl⟩))
 all_goals go_ret2
 all_goals go_light
 all_goals
  generalize op.toList=L at*;refine⟨_,Ei rfl (Ar ?_),?_⟩
  ·unfold Lx
   grind
  ·repeat(with_reducible first|exact EC.refl _|apply JH)
attribute [local irreducible] JF Wy
theorem OI(op:ByteArray)(t:Int)(w:World) :
  Calls Tryz.prog 104 #[.string op,.int .i64 t,.int .i64 0,.int .i64 0] w fun e w'=>∃y,e=.returned (.tuple #[.int .i64 y,.int .i64 (JF op.toList t 0 0).2])∧w=w':=by
 go_enter Tryz.func104,Tryz.ntmps104
 go_wp2_with (first|(go_at_call 162;refine(OF _ _).mono ?_;rintro e w'⟨rfl,rfl⟩)|(go_at_call 102;refine(JS _ _ _).mono ?_;rintro e w'⟨rfl,rfl⟩))
 all_goals go_ret2
 all_goals go_light
 all_goals
  generalize op.toList=L at*;refine⟨_,Ei rfl (An ?_),rfl⟩;unfold JF
  grind
attribute [local irreducible] Cz ZT PY Lx Bk sv mg Dr JE
theorem Ji(op:ByteArray)(t:Int)(w:World) :
  Calls Tryz.prog 43 #[.string op,.int .i64 t,.int .i64 0,.int .i64 0] w fun e w'=>∃y,e=.returned (.tuple #[.int .i64 y,.int .i64 (Eh op.toList t 0 0).2])∧EC w w':=by
 have HOF:=hid (OH op);have HOW:=hid (fun w=>OI op t w);obtain⟨o,ho⟩:∃o,Lx op.toList 0 0=o:=⟨_,rfl⟩;obtain⟨i,hi⟩:∃i,JF op.toList t 0 0=i:=⟨_,rfl⟩;unfold Eh;rw[ho]at HOF⊢;rw[hi]at HOW⊢;clear ho hi;obtain⟨c,hc⟩:∃c,Cz t 0=c:=⟨_,rfl⟩;obtain⟨h,hh⟩:∃h,Dr t=h:=⟨_,rfl⟩;have HC:=hid (fun w=>KK t w);have HW:=hid (fun w=>Md t w);rw[hc]at HC⊢;rw[hh]at HW⊢;clear hc hh;cases c<;>cases h<;>cases o
 all_goals
  go_enter Tryz.func43,Tryz.ntmps43
  go_wp2_with (first|(go_at_call 17;refine(HC.out _).mono ?_;rintro e w'⟨rfl,rfl⟩)|(go_at_call 101;refine(HW.out _).mono ?_;rintro e w'⟨rfl,rfl⟩)|(go_at_call 104;refine(HOW.out _).mono ?_;rintro e w'⟨y1,rfl,rfl⟩)|(go_at_call 105;refine(HOF.out _).mono ?_;simp only[Option.isSome_some,Option.isSome_none];rintro e w1⟨y1,rfl,hg1⟩))
  all_goals go_ret2
  all_goals go_light
  all_goals
   refine⟨_,Ei rfl (An ?_),by first|assumption|exact EC.refl _⟩;clear HOF HC HW HOW;unfold WS
   grind
end Nm
end Go.Proofs.YtkkeehnldcdccaaGreatDoor
