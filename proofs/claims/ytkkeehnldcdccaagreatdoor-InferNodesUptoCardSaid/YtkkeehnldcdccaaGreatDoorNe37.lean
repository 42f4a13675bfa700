import Derived.Test.YtkkeehnldcdccaaGreatDoorNe36
set_option linter.unusedVariables false
set_option linter.unusedSimpArgs false
set_option maxRecDepth 100000
set_option maxHeartbeats 4000000
namespace Go.Proofs.YtkkeehnldcdccaaGreatDoor
open Go.Lib (hid)
open Go.RowKit
namespace Nm
open Go.RowKit Ieee Fl
theorem Z1{b:Nat}{r:Int}(h:(FloatKind.f32.format.order b b != some .eq)=false)(hr:(b:Int)=r)(hb:b<4294967296)(w:World) :
  Calls Tryz.prog 144 #[.float .f32 b] w fun e w'=>e=.returned (.int .i64 r)∧w=w':=by
 subst hr;go_enter Tryz.func144,Tryz.ntmps144
 go_wp2
 go_ret
 exact⟨rfl,rfl⟩
theorem St(t:Int)(w:World):Calls Tryz.prog 77 #[.int .i64 t] w fun e w'=>e=.returned (.bool (Dr t))∧w=w':=by
 go_enter Tryz.func77,Tryz.ntmps77
 go_wp2
 all_goals (go_ret;go_light;refine⟨Ab (Ar ?_),rfl⟩;grind [Dr])
theorem VX(t x:Int)(w:World):Calls Tryz.prog 78 #[.int .i64 t,.int .i64 x] w fun e w'=>(∃y,e=.returned (.int .i64 y))∧w=w':=by
 go_enter Tryz.func78,Tryz.ntmps78
 go_wp2
 all_goals (go_ret;exact⟨⟨_,rfl⟩,rfl⟩)
theorem NH(b:Bool)(w:World):Calls Tryz.prog 130 #[.bool b] w fun e w'=>(∃y,e=.returned (.int .i64 y))∧w=w':=by
 cases b<;>(go_enter Tryz.func130,Tryz.ntmps130;go_wp2;go_ret;exact⟨⟨_,rfl⟩,rfl⟩)
theorem Z2{n m r:Nat}{a b:Int}(ha:(a%4294967296).toNat=n)(hb:(b%4294967296).toNat=m)(h:floatBits .add .f32 n m=some r)(hs:(FloatKind.f32.format.order r r != some .eq)=false)(hr:r<4294967296)(w:World) :
  Calls Tryz.prog 149 #[.int .i64 a,.int .i64 b] w fun e w'=>e=.returned (.int .i64 (r:Int))∧w=w':=by
 obtain⟨a1,a1'⟩:=PZ h;go_enter Tryz.func149,Tryz.ntmps149
 go_wp2_with (first|(go_at_call 127;refine(Hm _ _).mono ?_;rintro e w'⟨rfl,rfl⟩)|(go_at_call 144;refine(Z1 hs rfl hr _).mono ?_;rintro e w'⟨rfl,rfl⟩))
 go_ret
 exact⟨rfl,rfl⟩
theorem cK{w w':World}(h:EC w w')(o:Option Nat):EC w (D7 o w'):=by
 unfold D7;cases o
 ·exact h.drew
 ·exact h
theorem EC.tr{a b c:World}(h:EC a b)(g:EC b c):EC a c:=Below.trans h (Below.mono g (Below.size h))
theorem X8{w w':World}(h:EC w w')(x:Nat):EC w (GT x w'):=cK h _
theorem Z3{w w':World}(h:EC w w')(x:Nat):EC w (FN x w'):=cK h _
theorem Su{w w':World}(h:EC w w')(x:Nat):EC w (Dn x w'):=by
 unfold Dn;split
 ·exact h.drew
 ·exact h
theorem VY{w w':World}(h:EC w w')(x:Nat):EC w (Cy x w'):=by
 unfold Cy;split
 ·split
  ·exact h
  ·exact h.drew
 ·exact h
theorem MF(b:Nat)(w:World):Calls Tryz.prog 144 #[.float .f32 b] w fun e w'=>(∃y,e=.returned (.int .i64 y))∧w=w':=by
 go_enter Tryz.func144,Tryz.ntmps144
 go_wp2
 all_goals (go_ret;exact⟨⟨_,rfl⟩,rfl⟩)
theorem VZ(a b:Int)(w:World):Calls Tryz.prog 149 #[.int .i64 a,.int .i64 b] w fun e w'=>(∃y,e=.returned (.int .i64 y))∧EC w w':=by
 go_enter Tryz.func149,Tryz.ntmps149
 go_wp2_with (first|(go_at_call 127;refine(Hm _ _).mono ?_;rintro e w'⟨rfl,rfl⟩)|(go_at_call 144;refine(MF _ _).mono ?_;rintro e w'⟨⟨y,rfl⟩,rfl⟩))
 go_ret
 exact⟨⟨_,rfl⟩,by repeat(with_reducible first|exact EC.refl _|apply JH)⟩
theorem X9(a b:Int)(w:World):Calls Tryz.prog 176 #[.int .i64 a,.int .i64 b] w fun e w'=>(∃y,e=.returned (.int .i64 y))∧EC w w':=by
 go_enter Tryz.func176,Tryz.ntmps176
 go_wp2_with (first|(go_at_call 127;refine(Hm _ _).mono ?_;rintro e w'⟨rfl,rfl⟩)|(go_at_call 144;refine(MF _ _).mono ?_;rintro e w'⟨⟨y,rfl⟩,rfl⟩))
 go_ret
 exact⟨⟨_,rfl⟩,by repeat(with_reducible first|exact EC.refl _|apply JH)⟩
theorem V0(a b:Int)(w:World):Calls Tryz.prog 148 #[.int .i64 a,.int .i64 b] w fun e w'=>(∃y,e=.returned (.int .i64 y))∧EC w w':=by
 go_enter Tryz.func148,Tryz.ntmps148
 go_wp2_with (first|(go_at_call 127;refine(Hm _ _).mono ?_;rintro e w'⟨rfl,rfl⟩)|(go_at_call 144;refine(MF _ _).mono ?_;rintro e w'⟨⟨y,rfl⟩,rfl⟩))
 go_ret
 exact⟨⟨_,rfl⟩,by repeat(with_reducible first|exact EC.refl _|apply JH)⟩
theorem Ya(x:Int)(w:World):Calls Tryz.prog 147 #[.int .i64 x] w fun e w'=>(∃y,e=.returned (.int .i64 y))∧EC w w':=by
 go_enter Tryz.func147,Tryz.ntmps147
 go_wp2_with (first|(go_at_call 127;refine(Hm _ _).mono ?_;rintro e w'⟨rfl,rfl⟩)|(go_at_call 146;refine(GH _ _).mono ?_;rintro e w'⟨rfl,rfl⟩))
 all_goals try(go_ret;exact⟨⟨_,rfl⟩,by repeat(with_reducible first|exact EC.refl _|apply JH)⟩)
 generalize Do IP _ _=K0;go_loopw [7,8] (fun p i wr=>∃(q k:Nat),p=.float .f64 q∧i=.int .i64 (k:Int)∧k≤13∧Hid (EC w wr)) (fun _ i _=>(intOf i).toNat)
 case atStart=>exact⟨_,13,rfl,rfl,by omega,hid (by repeat(with_reducible first|exact EC.refl _|apply JH|apply X8|apply VY))⟩
 case round=>
  obtain⟨q,k,rfl,rfl,hk,hG⟩:=hrel;cases k with
  | succ k=>
   go_wp2_with fail
   go_roundw
   case rel=>exact⟨_,k,rfl,by go_num,by omega,hid (by have:=hG.out;repeat(with_reducible first|assumption|apply JH))⟩
   case measure=>simp[intOf]
  | zero=>
   go_wp2_with fail
   go_loopw [7,10] (fun p i wq=>∃(q k:Nat),p=.float .f64 q∧i=.int .i64 (k:Int)∧k≤200∧Hid (EC w wq)) (fun _ i _=>200-(intOf i).toNat)
   case atStart=>exact⟨_,0,rfl,rfl,by omega,hG⟩
   case round=>
    obtain⟨q,k,rfl,rfl,hk,hG⟩:=hrel;obtain⟨b,hb⟩:∃b,(FloatKind.f64.format.order (floatOfInt .f64 (k:Int)) K0==some .lt)=b:=⟨_,rfl⟩;by_cases c:((k:Int)<200)∧b=true
    ·obtain⟨c1,rfl⟩:=c;go_wp2_with fail
     go_roundw
     case rel=>exact⟨_,k+1,rfl,by go_num,by omega,hid (by have:=hG.out;repeat(with_reducible first|assumption|apply JH))⟩
     case measure=>simp[intOf];omega
    have c:¬(k:Int)<200∨((k:Int)<200∧b=false):=by
     cases b<;>simp_all<;>omega
    rcases c with c| ⟨c,rfl⟩
    all_goals
     go_wp2_with fail
     go_loopw [7,11] (fun p i wq=>∃(q k:Nat),p=.float .f64 q∧i=.int .i64 (k:Int)∧k≤200∧Hid (EC w wq)) (fun _ i _=>200-(intOf i).toNat)
     case atStart=>exact⟨_,0,rfl,rfl,by omega,hG⟩
     case round=>
      obtain⟨q,k,rfl,rfl,hk,hG⟩:=hrel;obtain⟨b,hb⟩:∃b,(FloatKind.f64.format.order (floatOfInt .f64 (k:Int)) (Op.negFloat .f64 K0)==some .lt)=b:=⟨_,rfl⟩;by_cases c:((k:Int)<200)∧b=true
      ·obtain⟨c1,rfl⟩:=c;go_wp2_with fail
       go_roundw
       case rel=>exact⟨_,k+1,rfl,by go_num,by omega,hid (by have:=hG.out;repeat(with_reducible first|assumption|apply JH))⟩
       case measure=>simp[intOf];omega
      have c:¬(k:Int)<200∨((k:Int)<200∧b=false):=by
       cases b<;>simp_all<;>omega
      rcases c with c| ⟨c,rfl⟩
      all_goals
       go_wp2_with (go_at_call 144;refine(MF _ _).mono ?_;rintro e w'⟨⟨y,rfl⟩,rfl⟩)
       all_goals (go_ret;exact⟨⟨_,rfl⟩,by have:=hG.out;repeat(with_reducible first|assumption|apply JH|apply Su)⟩)
theorem TR{t:Int}(h:Dr t=true):¬t=1:=by
 unfold Dr at h;simp at h;omega
theorem aZ(x:Int)(n:Nat)(h:(x%4294967296).toNat=n)(w:World):Calls Tryz.prog 127 #[.int .i64 x] w fun e w'=>e=.returned (.float .f32 n)∧w=w':=by
 subst h;exact Hm x w
theorem Yy(w:World):Calls Tryz.prog 150 #[.int .i64 0] w fun e w'=>(∃y,e=.returned (.int .i64 y))∧EC w w':=by
 have ho:FloatKind.f32.format.order 0 1092616192=some .lt:=by decide+kernel
 have h0:floatBits .add .f32 0 0=some 0:=by decide+kernel
 have hs:(FloatKind.f32.format.order 0 0 != some .eq)=false:=by decide+kernel
 go_enter Tryz.func150,Tryz.ntmps150
 go_wp2_with (first|(go_at_call 127;refine(aZ 0 0 rfl _).mono ?_;rintro e w'⟨rfl,rfl⟩)|(go_at_call 147;refine(Ya _ _).mono ?_;rintro e w'⟨⟨y1,rfl⟩,G1⟩)|(go_at_call 148;refine(V0 _ _ _).mono ?_;rintro e w'⟨⟨y4,rfl⟩,G4⟩)|(go_at_call 176;refine(X9 _ _ _).mono ?_;rintro e w'⟨⟨y2,rfl⟩,G2⟩)|(go_at_call 149;first|(refine(Z2 (n:=0) (m:=0) (r:=0) rfl rfl h0 hs (by decide) _).mono ?_;rintro e w'⟨rfl,rfl⟩)|(refine(VZ _ _ _).mono ?_;rintro e w'⟨⟨y3,rfl⟩,G3⟩)))
 go_ret
 exact⟨⟨_,rfl⟩,G1.tr (G2.tr (G3.tr G4))⟩
theorem Z4(w:World):Calls Tryz.prog 79 #[.string ⟨#[78,101,103]⟩,.int .i64 0] w fun e w'=>(∃y,e=.returned (.tuple #[.int .i64 y,.bool true]))∧w=w':=by
 go_enter Tryz.func79,Tryz.ntmps79
 go_wp2_with (go_at_call 127;refine(aZ 0 0 rfl _).mono ?_;rintro e w'⟨rfl,rfl⟩)
 go_ret2
 exact⟨⟨_,rfl⟩,rfl⟩
theorem V1(op:ByteArray)(w:World) :
  Calls Tryz.prog 79 #[.string op,.int .i64 0] w fun e w'=>∃y,e=.returned (.tuple #[.int .i64 y,.bool (Fl.Hv op.toList 0).isSome])∧EC w w':=by
 have hl:(FloatKind.f32.format.order 0 0==some .gt)=false:=by decide+kernel
 have w1:=fun w=>(GI w).1;have w2:=fun w=>(GI w).2;go_enter Tryz.func79,Tryz.ntmps79
 go_wp2_with (first|(go_at_call 127;refine(aZ 0 0 rfl _).mono ?_;rintro e w'⟨rfl,rfl⟩)|(go_at_call 144;refine(MF _ _).mono ?_;rintro e w'⟨⟨y1,rfl⟩,rfl⟩)|(go_at_call 145;refine(OG _ _).mono ?_;rintro e w'⟨rfl,rfl⟩)|(go_at_call 146;refine(GH _ _).mono ?_;rintro e w'⟨rfl,rfl⟩)|(go_at_call 147;refine(Ya _ _).mono ?_;rintro e w'⟨⟨y2,rfl⟩,G2⟩)|(go_at_call 79;refine(Z4 _).mono ?_;rintro e w'⟨⟨y3,rfl⟩,rfl⟩)|(go_at_call 150;refine(Yy _).mono ?_;rintro e w'⟨⟨y4,rfl⟩,G4⟩)|(go_at_call 148;refine(V0 _ _ _).mono ?_;rintro e w'⟨⟨y5,rfl⟩,G5⟩)|(go_at_call 149;refine(VZ _ _ _).mono ?_;rintro e w'⟨⟨y6,rfl⟩,G6⟩))
 all_goals go_ret2
 all_goals go_light
 all_goals
  refine⟨_,Ei rfl (Ar ?_),?_⟩
  ·generalize op.toList=L at*
   grind [Fl.Hv]
  ·first
   | exact G2.tr (G6.tr G5)
   | assumption
   | (repeat(with_reducible first|exact EC.refl _|apply JH|apply Su|apply Z3|apply VY|apply X8))
attribute [local irreducible] Fl.Cz ZT PY Fl.Hv Bk sv mg Dr JE
theorem Sv(op:ByteArray)(t:Int)(w:World) :
  Calls Tryz.prog 30 #[.string op,.int .i64 t,.int .i64 0] w fun e w'=>∃y,e=.returned (.tuple #[.int .i64 y,.int .i64 (un op.toList t 0).2])∧EC w w':=by
 have HOF:=hid (V1 op);obtain⟨o,ho⟩:∃o,Fl.Hv op.toList 0=o:=⟨_,rfl⟩;unfold un;rw[ho]at HOF⊢;clear ho;obtain⟨c,hc⟩:∃c,Fl.Cz t 0=c:=⟨_,rfl⟩;obtain⟨h,hh⟩:∃h,Dr t=h:=⟨_,rfl⟩;have HC:=hid (fun w=>Gt t 0 w);have HW:=hid (fun w=>St t w);rw[Ir,hc]at HC;rw[hc];rw[hh]at HW⊢;clear hc hh;generalize JE t (wrap64 (-0))=y0;cases c<;>cases h<;>cases o
 all_goals
  go_enter Tryz.func30,Tryz.ntmps30
  go_wp2_with (first|(go_at_call 60;refine(HC.out _).mono ?_;rintro e w'⟨rfl,rfl⟩)|(go_at_call 77;refine(HW.out _).mono ?_;rintro e w'⟨rfl,rfl⟩)|(go_at_call 78;refine(VX _ _ _).mono ?_;rintro e w'⟨⟨y2,rfl⟩,rfl⟩)|(go_at_call 79;refine(HOF.out _).mono ?_;simp only[Option.isSome_some,Option.isSome_none];rintro e w1⟨y1,rfl,hg1⟩))
  all_goals go_ret2
  all_goals go_light
  all_goals
   refine⟨_,Ei rfl (An ?_),by first|assumption|exact EC.refl _⟩;clear HOF HC HW;unfold bV
   grind
theorem V2(op:ByteArray)(w:World) :
  Calls Tryz.prog 128 #[.string op,.int .i64 0,.int .i64 0] w fun e w'=>∃y,e=.returned (.tuple #[.int .i64 y,.bool (Fl.Lx op.toList 0 0).isSome])∧EC w w':=by
 have hl:(FloatKind.f32.format.order 0 0==some .lt)=false:=by decide+kernel
 have hg:(FloatKind.f32.format.order 0 0==some .gt)=false:=by decide+kernel
 have hq:(FloatKind.f32.format.order 0 0==some .eq)=true:=by decide+kernel
 go_enter Tryz.func128,Tryz.ntmps128
 go_wp2_with (first|(go_at_call 127;refine(aZ 0 0 rfl _).mono ?_;rintro e w'⟨rfl,rfl⟩)|(go_at_call 144;refine(MF _ _).mono ?_;rintro e w'⟨⟨y1,rfl⟩,rfl⟩)|(go_at_call 130;refine(NH _ _).mono ?_;rintro e w'⟨⟨y2,rfl⟩,rfl⟩)|(go_at_call 149;refine(VZ _ _ _).mono ?_;rintro e w'⟨⟨y3,rfl⟩,G3⟩)|(go_at_call 176;refine(X9 _ _ _).mono ?_;rintro e w'⟨⟨y4,rfl⟩,G4⟩)|(go_at_call 148;refine(V0 _ _ _).mono ?_;rintro e w'⟨⟨y5,rfl⟩,G5⟩))
 all_goals go_ret2
 all_goals go_light
 all_goals
  refine⟨_,Ei rfl (Ar ?_),?_⟩
  ·generalize op.toList=L at*
   grind [Fl.Lx]
  ·first
   | assumption
   | (repeat(with_reducible first|exact EC.refl _|apply JH))
def WB(op:List UInt8):Bool:=decide (op=[65,100,100]∨op=[83,117,98]∨op=[77,117,108]∨op=[68,105,118]∨op=[77,97,120]∨op=[77,105,110]∨op=[69,113,117,97,108]∨op=[76,101,115,115]∨op=[71,114,101,97,116,101,114])
theorem TS{op:List UInt8}(t:Int)(h:WB op=false):Fl.JF op t 0 0=(0,1):=by
 unfold WB at h;unfold Fl.JF
 grind
def Rc(op:List UInt8)(t:Int):Int:=if WB op=true then(Fl.JF op t 0 0).2 else 0
theorem V3{a b c d f g:Value}(h:a=d)(i:b=f)(j:c=g):Ending.returned (.tuple #[a,b,c])=Ending.returned (.tuple #[d,f,g]):=by rw[h,i,j]
theorem Yz(op:ByteArray)(t:Int)(w:World) :
  Calls Tryz.prog 129 #[.string op,.int .i64 t,.int .i64 0,.int .i64 0] w fun e w'=>∃y,e=.returned (.tuple #[.int .i64 y,.int .i64 (Rc op.toList t),.bool (WB op.toList)])∧w=w':=by
 go_enter Tryz.func129,Tryz.ntmps129
 go_wp2_with (first|(go_at_call 78;refine(VX _ _ _).mono ?_;rintro e w'⟨⟨y1,rfl⟩,rfl⟩)|(go_at_call 130;refine(NH _ _).mono ?_;rintro e w'⟨⟨y2,rfl⟩,rfl⟩))
 all_goals go_ret3
 all_goals go_light
 all_goals
  generalize op.toList=L at*;refine⟨_,V3 rfl (An ?_) (Ar ?_),rfl⟩
  all_goals
   first
   | (unfold Rc WB Fl.JF;grind)
   | (unfold Rc WB;grind)
   | (unfold WB;grind)
attribute [local irreducible] Fl.Lx Fl.JF WB Rc
theorem V4(op:ByteArray)(t:Int)(w:World) :
  Calls Tryz.prog 63 #[.string op,.int .i64 t,.int .i64 0,.int .i64 0] w fun e w'=>∃y,e=.returned (.tuple #[.int .i64 y,.int .i64 (Eh op.toList t 0 0).2])∧EC w w':=by
 have HOF:=hid (V2 op);have HOW:=hid (fun w=>Yz op t w);have HN:=hid (TS (op:=op.toList) t);have HE:Hid (Rc op.toList t=if WB op.toList=true then(Fl.JF op.toList t 0 0).2 else 0):=hid (by unfold Rc;rfl);obtain⟨o,ho⟩:∃o,Fl.Lx op.toList 0 0=o:=⟨_,rfl⟩;obtain⟨i,hi⟩:∃i,Fl.JF op.toList t 0 0=i:=⟨_,rfl⟩;obtain⟨k,hk⟩:∃k,WB op.toList=k:=⟨_,rfl⟩;obtain⟨z,hz⟩:∃z,Rc op.toList t=z:=⟨_,rfl⟩;unfold Eh;rw[ho]at HOF⊢;rw[hz,hi,hk]at HE;rw[hk,hi]at HN;rw[hz,hk]at HOW;rw[hi];clear ho hi hk hz;obtain⟨c,hc⟩:∃c,Fl.Cz t 0=c:=⟨_,rfl⟩;obtain⟨h,hh⟩:∃h,Dr t=h:=⟨_,rfl⟩;have HC:=hid (fun w=>Gt t 0 w);have HW:=hid (fun w=>St t w);rw[Ir,hc]at HC;rw[hc];have HT:=hid (TR (t:=t));rw[hh]at HW HT⊢;clear hc hh;cases c<;>cases h<;>cases o<;>cases k
 all_goals
  go_enter Tryz.func63,Tryz.ntmps63
  go_wp2_with (first|(go_at_call 60;refine(HC.out _).mono ?_;rintro e w'⟨rfl,rfl⟩)|(go_at_call 77;refine(HW.out _).mono ?_;rintro e w'⟨rfl,rfl⟩)|(go_at_call 130;refine(NH _ _).mono ?_;rintro e w'⟨⟨y2,rfl⟩,rfl⟩)|(go_at_call 129;refine(HOW.out _).mono ?_;rintro e w'⟨y1,rfl,rfl⟩)|(go_at_call 128;refine(HOF.out _).mono ?_;simp only[Option.isSome_some,Option.isSome_none];rintro e w1⟨y1,rfl,hg1⟩))
  all_goals go_ret2
  all_goals go_light
  all_goals
   refine⟨_,Ei rfl (An ?_),by first|assumption|exact EC.refl _⟩;have he:=HE.out;have hn:=HN.out;have ht:=HT.out;clear HOF HC HW HOW HE HN HT;unfold WS
   grind
end Nm
def EJ:List ByteArray:=[⟨#[65,100,100]⟩,⟨#[83,117,98]⟩,⟨#[77,117,108]⟩,⟨#[68,105,118]⟩,⟨#[77,97,120]⟩,⟨#[77,105,110]⟩,⟨#[65,110,100]⟩,⟨#[79,114]⟩,⟨#[88,111,114]⟩,⟨#[69,113,117,97,108]⟩,⟨#[76,101,115,115]⟩,⟨#[71,114,101,97,116,101,114]⟩]
theorem TT{ss:List ByteArray}{x s:ByteArray}{k:Nat}(h:Cu (ss.take k) x=false)(hs:ss[k]?=some s)(g:¬s=x):Cu (ss.take (k+1)) x=false:=by
 unfold Cu at*;rw[List.take_add_one,List.any_append,h,hs]
 simpa using g
theorem Re(b off cap:Nat)(ss:List ByteArray)(hlen:ss.length*16≤140737488351232)(x:ByteArray)(w:World)(hr:Hid (MM w b off ss)) :
  Calls Tryz.prog 56 #[.string x,.slice (some ⟨b,off,none⟩) ss.length cap] w fun e w'=>e=.returned (.bool (Cu ss x))∧w=w':=by
 go_enter Tryz.func56,Tryz.ntmps56
 go_wp2
 go_loop [5] (fun i=>∃k:Nat,k≤ss.length∧i=.int .i64 (k:Int)∧Hid (Cu (ss.take k) x=false)) (fun i=>ss.length-(intOf i).toNat)
 case atStart=>exact⟨0,Nat.zero_le _,rfl,hid (by simp[Cu])⟩
 case round=>
  obtain⟨k,hk,rfl,hT⟩:=hrel;by_cases hkl:k<ss.length
  ·have hki:(k:Int)<(ss.length:Int):=by omega
   obtain⟨s,hs⟩:∃s,ss[k]?=some s:=⟨_,List.getElem?_eq_getElem hkl⟩;have c0:=hr.out k s hs;have HSs:=hid hs;clear hs;by_cases hx:s.toList=x.toList
   ·have hb:(s.toList==x.toList)=true:=by simpa using hx
    have e:Hid (Cu ss x=true):=hid (Kg.2 (by rw[←AP hx];exact List.mem_of_getElem? HSs.out));go_wp2
    go_ret
    exact⟨Ab (Ar e.out.symm),rfl⟩
   ·have hb:(s.toList==x.toList)=false:=by simpa using hx
    have e:=hid (TT hT.out HSs.out (IC hx));go_wp2
    go_round
    case rel=>exact⟨k+1,by omega,by go_num,e⟩
    case measure=>simp[intOf];omega
  ·have hki:¬(k:Int)<(ss.length:Int):=by omega
   obtain rfl:k=ss.length:=by omega
   have e:Hid (Cu ss x=false):=hid (by have:=hT.out;rwa [List.take_length]at this);go_wp2
   go_ret
   exact⟨Ab (Ar e.out.symm),rfl⟩
theorem NI(a0:Option Addr)(cap:Nat)(x:ByteArray)(w:World) :
  Calls Tryz.prog 56 #[.string x,.slice a0 0 cap] w fun e w'=>e=.returned (.bool false)∧w=w':=by
 go_enter Tryz.func56,Tryz.ntmps56
 go_wp2
 go_rounds 1
 go_ret
 exact⟨rfl,rfl⟩
theorem Hn{w:World}{v:Value}{ss:List ByteArray}(h:Bi w v ss)(x:ByteArray) :
  Calls Tryz.prog 56 #[.string x,v] w fun e w'=>e=.returned (.bool (Cu ss x))∧w=w':=by
 cases h with
 | empty a0 cap=>exact NI a0 cap x w
 | row b off cap _ h0 hc hb hr hlen=>exact Re b off cap ss hlen x w (hid hr)
theorem PC(w:World)(ss:List ByteArray)(cs:Array Value)(hcs:cs=(ss.map Value.string).toArray)(n:Nat)(hn:ss.length=n)(h0:ss≠[])(hl:n≤1000):Bi (w.alloc (.cells cs 9)) (.slice (some ⟨w.heap.size,0,none⟩) n n) ss:=by
 subst hn;refine .row w.heap.size 0 ss.length ss h0 (Nat.le_refl _) (by simp) (fun j s hj=>?_) (by omega);rw[World.cell?,World.alloc_heap_new];simp[hcs,hj]
theorem AO(op:ByteArray)(w:World):Calls Tryz.prog 61 #[.string op] w fun e w'=>e=.returned (.bool (Cq op))∧Below w.heap.size w w':=by
 go_enter Tryz.func61,Tryz.ntmps61
 go_wp2_with fail
 refine(Hn (PC w Es _ rfl 10 rfl (by decide) (by decide)) op).mono ?_;rintro e w'⟨rfl,rfl⟩;go_wp2
 go_ret
 exact⟨rfl,(Below.refl _ _).alloc (Nat.le_refl _) _⟩
theorem AW(op:ByteArray)(w:World):Calls Tryz.prog 62 #[.string op] w fun e w'=>e=.returned (.bool (Cu EJ op))∧Below w.heap.size w w':=by
 go_enter Tryz.func62,Tryz.ntmps62
 go_wp2_with fail
 refine(Hn (PC w EJ _ rfl 12 rfl (by decide) (by decide)) op).mono ?_;rintro e w'⟨rfl,rfl⟩;go_wp2
 go_ret
 exact⟨rfl,(Below.refl _ _).alloc (Nat.le_refl _) _⟩
theorem AS(nm:ByteArray)(kd:Int)(w:World):Calls Tryz.prog 125 #[.string nm,.int .i64 kd] w fun e w'=>e=.returned (.agg #[.string nm,.int .i64 kd,.bool false])∧Below w.heap.size w w':=by
 go_enter Tryz.func125,Tryz.ntmps125
 go_wp2
 refine bodyPost_ret (v:=.agg #[.string nm,.int .i64 kd,.bool false]) (by simp[results,Tryz.f125,go_sem]) rfl ⟨rfl,?_⟩;exact(Below.refl _ _).alloc (Nat.le_refl _) _
theorem Cf(nm:ByteArray)(kd:Int)(w:World):Calls Tryz.prog 126 #[.string nm,.int .i64 kd] w fun e w'=>e=.returned (.agg #[.string nm,.int .i64 kd,.bool true])∧Below w.heap.size w w':=by
 go_enter Tryz.func126,Tryz.ntmps126
 go_wp2
 refine bodyPost_ret (v:=.agg #[.string nm,.int .i64 kd,.bool true]) (by simp[results,Tryz.f126,go_sem]) rfl ⟨rfl,?_⟩;exact(Below.refl _ _).alloc (Nat.le_refl _) _
theorem V5{w0 w:World}{v:Value}{n:Nd}(h:Ba w0 v n)(hB0:Below w0.heap.size w0 w)(nm:ByteArray)(kd:Int) :
  Calls Tryz.prog 66 #[v,.string nm,.int .i64 kd] w fun e w'=>Below w.heap.size w w'∧∃va,e=.returned (.tuple #[va,.bool (Az n.attrs nm kd).isSome])∧F7 w0 va ((Az n.attrs nm kd).getD At.zero):=by
 obtain⟨vin,vat,rfl,hn⟩:=h;obtain⟨a1,c1,rfl⟩:=hn.is.form;obtain⟨a2,c2,rfl⟩:=hn.ia.form;have hal:=hn.ia.len;have HN:=hid hn;have HB0:=hid hB0;clear hn hB0;unfold Nd.val;go_enter Tryz.func66,Tryz.ntmps66
 go_wp2_with fail
 generalize hw1:(w.alloc _).alloc _=W1;have hB1:Hid (Below w.heap.size w W1):=hid (by rw[←hw1];exact((Below.refl _ w).alloc (Nat.le_refl _) _).alloc (by simp) _);have hX:Hid (Ac W1 w.heap.size #[Value.string n.op,Value.string n.name,Value.slice a1 n.ins.length c1,Value.string n.out,Value.slice a2 n.attrs.length c2] 25):=hid (by rw[←hw1];exact(Ac.new w _ _).below' ((Below.refl _ _).alloc (Nat.le_refl _) _));have hR:Hid (Ac W1 (w.heap.size+1) #[Value.string ⟨#[]⟩,Value.int .i64 0,Value.int .i64 0,Value.int .i64 0,Value.string ⟨#[]⟩,Value.int .i64 0,Value.slice none 0 0,Value.slice none 0 0,Value.slice none 0 0] 43):=hid (by rw[←hw1];simpa using Ac.new (w.alloc (Obj.cells #[Value.string n.op,Value.string n.name,Value.slice a1 n.ins.length c1,Value.string n.out,Value.slice a2 n.attrs.length c2] 25)) #[Value.string ⟨#[]⟩,Value.int .i64 0,Value.int .i64 0,Value.int .i64 0,Value.string ⟨#[]⟩,Value.int .i64 0,Value.slice none 0 0,Value.slice none 0 0,Value.slice none 0 0] 43);clear hw1;have k4:W1.cell? ⟨w.heap.size,4,none⟩=some (.slice a2 n.attrs.length c2):=hX.out.cell 4 rfl;obtain⟨r0,r1,r2,r3,r4,r5,r6,r7,r8⟩:=hR.out.nine;obtain⟨f0,f1,f2,f3,f4,f5,f6,f7,f8⟩:=hR.out.thaw9;go_loop [8] (fun i=>∃k:Nat,k≤n.attrs.length∧i=.int .i64 (k:Int)∧Hid ((n.attrs.take k).any (Lp nm kd)=false)) (fun i=>n.attrs.length-(intOf i).toNat)
 case atStart=>exact⟨0,Nat.zero_le _,rfl,hid (by simp)⟩
 case round=>
  obtain⟨k,hk,rfl,hT⟩:=hrel;by_cases hkl:k<n.attrs.length
  ·have hki:(k:Int)<(n.attrs.length:Int):=by omega
   obtain⟨a,ha⟩:∃a,n.attrs[k]?=some a:=⟨_,List.getElem?_eq_getElem hkl⟩;obtain⟨b,off,cap,hv,hb,hrd⟩:=HN.out.ia.rows k a ha;obtain⟨rfl,_,rfl⟩:=Value.slice.inj hv;obtain⟨vd,vx,vi,hc9,hn9⟩:=hrd k a ha;obtain⟨c0,c1,c2,c3,c4,c5,c6,c7,c8⟩:=hc9.below hb (HB0.out.trans (hB1.out.mono HB0.out.size));obtain⟨ad,cd,rfl⟩:=hn9.id.shape;obtain⟨ax,cx,rfl⟩:=hn9.ix.shape;obtain⟨ai,ci,rfl⟩:=hn9.ii.shape;have HN9:=hid hn9;have HA:=hid ha;clear hv hrd hc9 hn9 ha;by_cases hnm:a.name.toList=nm.toList
   ·by_cases hkd:a.kind=kd
    ·have hf:Hid (Az n.attrs nm kd=some a):=hid (RJ hT.out HA.out (Ur hnm hkd));have hkb:(a.kind==kd)=true:=by simpa using hkd
     have hnb:(a.name.toList==nm.toList)=true:=by simpa using hnm
     clear hkd;go_wp2
     have hp:=hR.out.put (.string a.name) (.int .i64 a.kind) (.int .i64 a.f) (.int .i64 a.i) (.string a.s) (.int .i64 a.typ) (.slice ad a.dims.length cd) (.slice ax a.data.length cx) (.slice ai a.ints.length ci);have hq:Below w.heap.size w (EZ W1 (w.heap.size+1) (.string a.name) (.int .i64 a.kind) (.int .i64 a.f) (.int .i64 a.i) (.string a.s) (.int .i64 a.typ) (.slice ad a.dims.length cd) (.slice ax a.data.length cx) (.slice ai a.ints.length ci)):=Ck hB1.out (by omega);have hn9:=HN9.out;clear c0 c1 c2 c3 c4 c5 c6 c7 c8;obtain⟨c0,c1,c2,c3,c4,c5,c6,c7,c8⟩:=hp.nine;unfold EZ at c0 c1 c2 c3 c4 c5 c6 c7 c8 hq;refine bodyPost_ret (v:=.tuple #[.agg #[.string a.name,.int .i64 a.kind,.int .i64 a.f,.int .i64 a.i,.string a.s,.int .i64 a.typ,.slice ad a.dims.length cd,.slice ax a.data.length cx,.slice ai a.ints.length ci],.bool true]) (by simp[results,Tryz.f66,go_sem,c0,c1,c2,c3,c4,c5,c6,c7,c8]) rfl ?_;rw[hf.out];exact⟨hq,_,rfl,_,_,_,rfl,hn9⟩
    ·have hkb:(a.kind==kd)=false:=by simpa using hkd
     have hnb:(a.name.toList==nm.toList)=true:=by simpa using hnm
     have hT':Hid ((n.attrs.take (k+1)).any (Lp nm kd)=false):=hid (CY HA.out hT.out (Ic hkd));go_wp2
     go_round
     case rel=>exact⟨k+1,by omega,by go_num,hT'⟩
     case measure=>simp[intOf];omega
   ·have hnb:(a.name.toList==nm.toList)=false:=by simpa using hnm
    have hT':Hid ((n.attrs.take (k+1)).any (Lp nm kd)=false):=hid (CY HA.out hT.out (Ie hnm));go_wp2
    go_round
    case rel=>exact⟨k+1,by omega,by go_num,hT'⟩
    case measure=>simp[intOf];omega
  ·have hki:¬(k:Int)<(n.attrs.length:Int):=by omega
   obtain rfl:k=n.attrs.length:=by omega
   have hf:Hid (Az n.attrs nm kd=none):=hid (Ol (by have:=hT.out;rwa [List.take_length]at this));go_wp2
   have hp:=hR.out.put (.string ⟨#[]⟩) (.int .i64 0) (.int .i64 0) (.int .i64 0) (.string ⟨#[]⟩) (.int .i64 0) (.slice none 0 0) (.slice none 0 0) (.slice none 0 0);have hq:Below w.heap.size w (EZ W1 (w.heap.size+1) (.string ⟨#[]⟩) (.int .i64 0) (.int .i64 0) (.int .i64 0) (.string ⟨#[]⟩) (.int .i64 0) (.slice none 0 0) (.slice none 0 0) (.slice none 0 0)):=Ck hB1.out (by omega);obtain⟨c0,c1,c2,c3,c4,c5,c6,c7,c8⟩:=hp.nine;unfold EZ at c0 c1 c2 c3 c4 c5 c6 c7 c8 hq;refine bodyPost_ret (v:=.tuple #[.agg #[.string ⟨#[]⟩,.int .i64 0,.int .i64 0,.int .i64 0,.string ⟨#[]⟩,.int .i64 0,.slice none 0 0,.slice none 0 0,.slice none 0 0],.bool false]) (by simp[results,Tryz.f66,go_sem,c0,c1,c2,c3,c4,c5,c6,c7,c8]) rfl ?_;rw[hf.out];exact⟨hq,_,rfl,F7.zero _⟩
end Go.Proofs.YtkkeehnldcdccaaGreatDoor
