import Derived.Test.YtijhdmidffenbaaGreatDoorFlMrm
set_option linter.unusedVariables false
set_option linter.unusedSimpArgs false
namespace Go.Proofs.YtijhdmidffenbaaGreatDoor
section
namespace Fl
open Ieee Go.RowKit
theorem okF_nat {n:Nat} (h:n < 4294967296) (hn:isNaN single n=false):okF (n:Int)=true:=by
 unfold okF isN;rw [Int.toNat_natCast,hn];simp;omega
theorem okF_NaN:okF 2143289344=true:=by decide
theorem okF_canon {b:Nat} (h:b < 4294967296):okF (canon b)=true:=by
 unfold canon;cases hb:isNaN single b
 ·exact okF_nat h hb
 ·exact okF_NaN
theorem okF_cnO (op:BinOp) (x y:Nat):okF (cnO (floatBits op .f32 x y))=true:=by
 cases h:floatBits op .f32 x y with
 | none=>exact okF_NaN
 | some r=>exact okF_nat (floatBits_notNaN (k:=.f32) h).2 (floatBits_notNaN (k:=.f32) h).1
theorem okF_write {d:Datum} (h:d.isNaN=false):okF (single.write d:Int)=true :=
 okF_nat (isNaN_write (f:=single) h).2 (isNaN_write (f:=single) h).1
theorem okF_sqrtS (v:Nat):okF (sqrtS v)=true:=by
 unfold sqrtS;cases hv:isNaN single v
 ·rw [if_neg (by decide)];cases h:double.sqrt (double.write (single.read v)) with
  | none=>exact okF_NaN
  | some r=>exact okF_write (read_notNaN okD (map_write_notNaN (f:=double) (root_notNaN _ _) h).1)
 ·exact okF_NaN
theorem integral_notNaN {d:Datum} (h:d.isNaN=false) (way:Toward):(d.integral way).isNaN=false:=by
 cases d with
 | number s m p=>rfl
 | infinity s=>rfl
 | nan s t=>cases h
theorem okF_floorS (v:Nat):okF (floorS v)=true:=by
 unfold floorS;cases hv:isNaN single v
 ·rw [if_neg (by decide)];refine okF_write (read_notNaN okD (isNaN_write (f:=double) (integral_notNaN ?_ _)).1);exact read_notNaN okD (wide_notNaN hv).1
 ·exact okF_NaN
theorem okF_sigS (v:Nat):okF (sigS v)=true:=by
 unfold sigS;split
 ·exact okF_NaN
 ·exact okF_cnO _ _ _
theorem tanT_ok {a:Nat} (h:a < 2147483648):tanT a < 2147483648∧isNaN single (tanT a)=false:=by
 unfold tanT;split
 ·rename_i h1;exact ⟨(tan_of h h1).ql,(tan_of h h1).qn⟩
 ·exact ⟨by decide,by decide⟩
theorem okF_tanhS {v:Nat} (hv:v < 4294967296):okF (tanhS v)=true:=by
 unfold tanhS;cases hn:isNaN single v
 ·rw [if_neg (by decide)];obtain ⟨h1,h2⟩:=tanT_ok (a:=v % 2147483648) (Nat.mod_lt _ (by decide));refine okF_nat (by omega) ?_;rw [isNaN_mod,show (tanT (v % 2147483648)+v / 2147483648 * 2147483648) % 2147483648=tanT (v % 2147483648) by omega];exact h2
 ·exact okF_NaN
theorem okF_inv {x:Int} (h:okF x=true):∃ n:Nat,x=(n:Int)∧n < 4294967296∧(isNaN single n=true→n=2143289344):=by
 unfold okF isN at h;simp only [Bool.and_eq_true,decide_eq_true_eq,Bool.or_eq_true,Bool.not_eq_true',beq_iff_eq] at h;obtain ⟨⟨h1,h2⟩,h3⟩:=h;obtain ⟨n,rfl⟩:=Int.eq_ofNat_of_zero_le h1;refine ⟨n,rfl,by omega,fun h4=>?_⟩;rw [Int.toNat_natCast,h4] at h3;rcases h3 with h3 | h3
 ·cases h3
 ·omega
theorem NaN_word {n:Nat} (h:isNaN single n=true→n=2143289344):okF (n:Int)=true↔n < 4294967296:=by
 constructor
 ·intro g;obtain ⟨m,e,hm,_⟩:=okF_inv g;omega
 ·intro g;cases hn:isNaN single n
  ·exact okF_nat g hn
  ·rw [h hn];exact okF_NaN
theorem isNaN_turn {n:Nat} (_h:n < 4294967296):isNaN single ((n+2147483648) % 4294967296)=isNaN single n:=by
 have e:((n+2147483648) % 4294967296) % 2147483648=n % 2147483648:=by omega
 rw [isNaN_mod,e,←isNaN_mod]
theorem unF_ok {op:List UInt8} {n:Nat} (hn:n < 4294967296) (hc:isNaN single n=true→n=2143289344) {y:Int} (h:unF op n=some y):okF y=true:=by
 unfold unF isN at h;rw [Int.toNat_natCast] at h;have hok:okF (n:Int)=true:=(NaN_word hc).2 hn
 repeat' split at h
 all_goals simp only [Option.some.injEq,reduceCtorEq] at h
 all_goals try subst h
 ·exact hok
 ·rename_i hx
  have e:(((n:Int)+2147483648) % 4294967296)=(((n+2147483648) % 4294967296:Nat):Int):=by omega
  rw [e];refine okF_nat (by omega) ?_;rw [isNaN_turn hn];simpa using hx
 ·have e:((n:Int) % 2147483648)=((n % 2147483648:Nat):Int):=by omega
  rw [e];cases hN:isNaN single n
  ·exact okF_nat (by omega) (by rw [←isNaN_mod];exact hN)
  ·rw [hc hN];decide
 ·exact hok
 ·exact hok
 ·decide
 ·exact okF_sqrtS n
 ·exact okF_floorS n
 ·exact okF_canon (expN_lt hn)
 ·exact okF_sigS n
 ·exact okF_tanhS hn
theorem okF_flg (b:Bool):flg b=0∨flg b=1:=by cases b<;>simp [flg]
def outT (op:List UInt8) (t:Int):Int:=if op=[69,113,117,97,108]∨op=[76,101,115,115]∨op=[71,114,101,97,116,101,114] then 9 else t
theorem chk_one (x:Int):chk 1 x=okF x:=rfl
theorem chk_bool (x:Int):chk 9 x=decide (x=0∨x=1):=rfl
theorem chk_i32 (x:Int):chk 6 x=decide (-2147483648≤x∧x≤2147483647):=rfl
theorem wholeT_cases {t:Int} (h:wholeT t=true):t=6∨t=7:=by simpa [wholeT] using h
theorem chk_cut {t x:Int} (h:wholeT t=true):chk t (cutT t x)=true:=by
 rcases wholeT_cases h with rfl | rfl
 ·rw [chk_i32];unfold cutT wrap32;simp;omega
 ·rfl
theorem chk_cases' {t x:Int} (h:chk t x=true):t=1∨t=6∨t=7∨(t=9∧(x=0∨x=1)):=by
 unfold chk at h;by_cases h1:t=1
 ·exact Or.inl h1
 ·rw [if_neg h1] at h;by_cases h2:t=6
  ·exact Or.inr (Or.inl h2)
  ·rw [if_neg h2] at h;by_cases h3:t=9
   ·rw [if_pos h3] at h;exact Or.inr (Or.inr (Or.inr ⟨h3,by simpa using h⟩))
   ·rw [if_neg h3] at h;exact Or.inr (Or.inr (Or.inl (by simpa using h)))
theorem binF_ok {op:List UInt8} {n m:Nat} (hn:n < 4294967296) (hm:m < 4294967296) (cn:isNaN single n=true→n=2143289344) (cm:isNaN single m=true→m=2143289344) {y:Int} (h:binF op n m=some y):chk (outT op 1) y=true:=by
 have on:okF (n:Int)=true:=(NaN_word cn).2 hn;have om:okF (m:Int)=true:=(NaN_word cm).2 hm;have fl:∀ b,chk 9 (flg b)=true:=fun b=>by rw [chk_bool];simpa using okF_flg b
 unfold binF at h;by_cases eAdd:op=[65,100,100]
 ·rw [if_pos eAdd] at h;simp only [Option.some.injEq] at h;subst h;subst eAdd;exact okF_cnO _ _ _
 rw [if_neg eAdd] at h;by_cases eSub:op=[83,117,98]
 ·rw [if_pos eSub] at h;simp only [Option.some.injEq] at h;subst h;subst eSub;exact okF_cnO _ _ _
 rw [if_neg eSub] at h;by_cases eMul:op=[77,117,108]
 ·rw [if_pos eMul] at h;simp only [Option.some.injEq] at h;subst h;subst eMul;exact okF_cnO _ _ _
 rw [if_neg eMul] at h;by_cases eDiv:op=[68,105,118]
 ·rw [if_pos eDiv] at h;simp only [Option.some.injEq] at h;subst h;subst eDiv;exact okF_cnO _ _ _
 rw [if_neg eDiv] at h;by_cases eEqual:op=[69,113,117,97,108]
 ·rw [if_pos eEqual] at h;simp only [Option.some.injEq] at h;subst h;subst eEqual;exact fl _
 rw [if_neg eEqual] at h;by_cases eLess:op=[76,101,115,115]
 ·rw [if_pos eLess] at h;simp only [Option.some.injEq] at h;subst h;subst eLess;exact fl _
 rw [if_neg eLess] at h;by_cases eGreater:op=[71,114,101,97,116,101,114]
 ·rw [if_pos eGreater] at h;simp only [Option.some.injEq] at h;subst h;subst eGreater;exact fl _
 rw [if_neg eGreater] at h;by_cases eMax:op=[77,97,120]
 ·rw [if_pos eMax] at h;simp only [Option.some.injEq] at h;subst h;subst eMax;show okF _=true;split
  ·exact okF_NaN
  ·split
   ·rcases (by omega:min (n:Int) (m:Int)=n∨min (n:Int) (m:Int)=m) with g | g<;>rw [g]
    ·exact on
    ·exact om
   ·split
    ·exact on
    ·exact om
 rw [if_neg eMax] at h;by_cases eMin:op=[77,105,110]
 ·rw [if_pos eMin] at h;simp only [Option.some.injEq] at h;subst h;subst eMin;show okF _=true;split
  ·exact okF_NaN
  ·split
   ·rcases (by omega:max (n:Int) (m:Int)=n∨max (n:Int) (m:Int)=m) with g | g<;>rw [g]
    ·exact on
    ·exact om
   ·split
    ·exact on
    ·exact om
 rw [if_neg eMin] at h;cases h
theorem chk_tdiv {t x y:Int} (hw:wholeT t=true) (hx:chk t x=true) (h1:y ≠ -1):chk t (x.tdiv y)=true:=by
 rcases wholeT_cases hw with rfl | rfl
 ·rw [chk_i32] at hx ⊢;simp only [decide_eq_true_eq] at hx ⊢;have h3:(x.tdiv y).natAbs=x.natAbs / y.natAbs:=Int.natAbs_tdiv _ _;have h4:x.natAbs / y.natAbs≤x.natAbs:=Nat.div_le_self _ _;have h5:x.tdiv y≠2147483648:=by
   intro h;rw [h] at h3;rcases (by omega:y.natAbs≠1∨y=1) with h6 | rfl
   ·have h7:x.natAbs / y.natAbs < 2147483648:=by
     rcases (by omega:y.natAbs=0∨2≤y.natAbs) with h8 | h8
     ·rw [h8,Nat.div_zero];decide
     ·have:x.natAbs / y.natAbs≤x.natAbs / 2:=Nat.div_le_div_left h8 (by decide);omega
    have:(2147483648:Int).natAbs=2147483648:=rfl;omega
   ·rw [Int.tdiv_one] at h;omega
  omega
 ·rfl
theorem binI_ok {op:List UInt8} {t x y:Int} (hw:wholeT t=true) (hx:chk t x=true) (hy:chk t y=true) (h:(binI op t x y).2=0):chk (outT op t) (binI op t x y).1=true:=by
 have fl:∀ b,chk 9 (flg b)=true:=fun b=>by rw [chk_bool];simpa using okF_flg b
 unfold binI at h ⊢;by_cases eAdd:op=[65,100,100]
 ·rw [if_pos eAdd];subst eAdd;exact chk_cut hw
 rw [if_neg eAdd] at h ⊢;by_cases eSub:op=[83,117,98]
 ·rw [if_pos eSub];subst eSub;exact chk_cut hw
 rw [if_neg eSub] at h ⊢;by_cases eMul:op=[77,117,108]
 ·rw [if_pos eMul];subst eMul;exact chk_cut hw
 rw [if_neg eMul] at h ⊢;by_cases eDiv:op=[68,105,118]
 ·rw [if_pos eDiv] at h ⊢;subst eDiv;by_cases h0:y=0
  ·rw [if_pos h0] at h;cases h
  ·rw [if_neg h0] at h ⊢;by_cases h1:y=-1
   ·rw [if_pos h1];exact chk_cut hw
   ·rw [if_neg h1];exact chk_tdiv hw hx h1
 rw [if_neg eDiv] at h ⊢;by_cases eMax:op=[77,97,120]
 ·rw [if_pos eMax];subst eMax;show chk t _=true;rcases (by omega:max x y=x∨max x y=y) with g | g<;>rw [g]
  ·exact hx
  ·exact hy
 rw [if_neg eMax] at h ⊢;by_cases eMin:op=[77,105,110]
 ·rw [if_pos eMin];subst eMin;show chk t _=true;rcases (by omega:min x y=x∨min x y=y) with g | g<;>rw [g]
  ·exact hx
  ·exact hy
 rw [if_neg eMin] at h ⊢;by_cases eEqual:op=[69,113,117,97,108]
 ·rw [if_pos eEqual];subst eEqual;exact fl _
 rw [if_neg eEqual] at h ⊢;by_cases eLess:op=[76,101,115,115]
 ·rw [if_pos eLess];subst eLess;exact fl _
 rw [if_neg eLess] at h ⊢;by_cases eGreater:op=[71,114,101,97,116,101,114]
 ·rw [if_pos eGreater];subst eGreater;exact fl _
 rw [if_neg eGreater] at h ⊢;cases h
theorem bin_stays (op:List UInt8) (t x y:Int) (h:(bin op t x y).2=0):chk (outT op t) (bin op t x y).1=true:=by
 have fl:∀ b,chk 9 (flg b)=true:=fun b=>by rw [chk_bool];simpa using okF_flg b
 unfold bin binR at h ⊢;by_cases hc:chk t x=false∨chk t y=false
 ·rw [if_pos hc] at h;cases h
 rw [if_neg hc] at h ⊢;have hx:chk t x=true:=by cases g:chk t x;exact absurd (Or.inl g) hc;rfl
 have hy:chk t y=true:=by cases g:chk t y;exact absurd (Or.inr g) hc;rfl
 by_cases hw:wholeT t=true
 ·rw [if_pos hw] at h ⊢;exact binI_ok hw hx hy h
 rw [if_neg hw] at h ⊢;by_cases h1:t=1
 ·rw [if_pos h1] at h ⊢;subst h1;rw [chk_one] at hx hy;obtain ⟨n,rfl,hn,cn⟩:=okF_inv hx;obtain ⟨m,rfl,hm,cm⟩:=okF_inv hy;cases hb:binF op n m with
  | none=>rw [hb] at h;cases h
  | some z=>exact binF_ok hn hm cn cm hb
 rw [if_neg h1] at h ⊢;have t9:t=9∧(x=0∨x=1):=by
  rcases chk_cases' hx with g | g | g | g
  ·exact absurd g h1
  ·exact absurd (by unfold wholeT;simp [g]) hw
  ·exact absurd (by unfold wholeT;simp [g]) hw
  ·exact g
 have t9y:y=0∨y=1:=by
  rcases chk_cases' hy with g | g | g | g
  ·exact absurd g h1
  ·exact absurd (by unfold wholeT;simp [g]) hw
  ·exact absurd (by unfold wholeT;simp [g]) hw
  ·exact g.2
 obtain ⟨rfl,t9x⟩:=t9;have ho:outT op 9=9:=by unfold outT;split<;>rfl
 rw [ho];by_cases e1:op=[65,110,100]
 ·rw [if_pos e1];rw [chk_bool];rcases t9x with rfl | rfl<;>rcases t9y with rfl | rfl<;>decide
 rw [if_neg e1] at h ⊢;by_cases e2:op=[79,114]
 ·rw [if_pos e2];rw [chk_bool];rcases t9x with rfl | rfl<;>rcases t9y with rfl | rfl<;>decide
 rw [if_neg e2] at h ⊢;by_cases e3:op=[88,111,114]
 ·rw [if_pos e3];exact fl _
 rw [if_neg e3] at h ⊢;by_cases e4:op=[69,113,117,97,108]
 ·rw [if_pos e4];exact fl _
 rw [if_neg e4] at h;cases h
end Fl
end
section
namespace Fl
open Ieee Go.RowKit
attribute [local irreducible] sv isNaN mg
end Fl
end
section
namespace Fl
open Ieee Go.RowKit
theorem okF_range {x:Int} (h:okF x=true):-9223372036854775808≤x∧x≤9223372036854775807:=by
 obtain ⟨n,rfl,hn,_⟩:=okF_inv h;omega
theorem un_range (op:List UInt8) (t x:Int) (h0:-9223372036854775808≤x) (h1:x≤9223372036854775807):-9223372036854775808≤(un op t x).1∧(un op t x).1≤9223372036854775807:=by
 have hz:-9223372036854775808≤cutT t (wrap64 (-x))∧cutT t (wrap64 (-x))≤9223372036854775807:=by
  unfold cutT wrap32 wrap64;split<;>omega
 unfold un unR;by_cases hc:chk t x=false
 ·rw [if_pos hc];decide
 rw [if_neg hc];have hx:chk t x=true:=by cases g:chk t x;exact absurd g hc;rfl
 by_cases e1:op=[73,100,101,110,116,105,116,121]
 ·rw [if_pos e1];exact ⟨h0,h1⟩
 rw [if_neg e1];by_cases e2:op=[78,111,116]∧t=9
 ·rw [if_pos e2];obtain ⟨_,rfl⟩:=e2;rw [chk_bool] at hx;simp at hx ⊢;omega
 rw [if_neg e2];by_cases e3:op=[78,101,103]∧wholeT t=true
 ·rw [if_pos e3];exact hz
 rw [if_neg e3];by_cases e4:op=[65,98,115]∧wholeT t=true
 ·rw [if_pos e4];by_cases h5:x < 0
  ·rw [if_pos h5];exact hz
  ·rw [if_neg h5];exact ⟨h0,h1⟩
 rw [if_neg e4];by_cases e5:t=1
 ·rw [if_pos e5];subst e5;rw [chk_one] at hx;obtain ⟨n,rfl,hn,hN⟩:=okF_inv hx;cases hu:unF op n with
  | none=>decide
  | some y=>exact okF_range (unF_ok hn hN hu)
 ·rw [if_neg e5];decide
end Fl
end
section
namespace Fl
open Ieee Go.RowKit
theorem tdiv_range {x y:Int} (h0:-9223372036854775808≤x) (h1:x≤9223372036854775807) (hy:y ≠ -1):-9223372036854775808≤x.tdiv y∧x.tdiv y≤9223372036854775807:=by
 have h3:(x.tdiv y).natAbs=x.natAbs / y.natAbs:=Int.natAbs_tdiv _ _;have h4:x.natAbs / y.natAbs≤x.natAbs:=Nat.div_le_self _ _;have h5:x.tdiv y≠9223372036854775808:=by
  intro h;rw [h] at h3;rcases (by omega:y.natAbs≠1∨y=1) with h6 | rfl
  ·have h7:x.natAbs / y.natAbs < 9223372036854775808:=by
    rcases (by omega:y.natAbs=0∨2≤y.natAbs) with h8 | h8
    ·rw [h8,Nat.div_zero];decide
    ·have:x.natAbs / y.natAbs≤x.natAbs / 2:=Nat.div_le_div_left h8 (by decide);omega
   have:(9223372036854775808:Int).natAbs=9223372036854775808:=rfl;omega
  ·rw [Int.tdiv_one] at h;omega
 omega
theorem binI_range {op:List UInt8} {t x y:Int} (x0:-9223372036854775808≤x) (x1:x≤9223372036854775807) (y0:-9223372036854775808≤y) (y1:y≤9223372036854775807) :
  -9223372036854775808≤(binI op t x y).1∧(binI op t x y).1≤9223372036854775807:=by
 have hz:∀ z,-9223372036854775808≤cutT t (wrap64 z)∧cutT t (wrap64 z)≤9223372036854775807:=by
  intro z;unfold cutT wrap32 wrap64;split<;>omega
 have fl:∀ b,-9223372036854775808≤flg b∧flg b≤9223372036854775807:=by intro b;cases b<;>decide
 unfold binI;by_cases e1:op=[65,100,100]
 ·rw [if_pos e1];exact hz _
 rw [if_neg e1];by_cases e2:op=[83,117,98]
 ·rw [if_pos e2];exact hz _
 rw [if_neg e2];by_cases e3:op=[77,117,108]
 ·rw [if_pos e3];exact hz _
 rw [if_neg e3];by_cases e4:op=[68,105,118]
 ·rw [if_pos e4];by_cases h5:y=0
  ·rw [if_pos h5];decide
  rw [if_neg h5];by_cases h6:y=-1
  ·rw [if_pos h6];exact hz _
  rw [if_neg h6];exact tdiv_range x0 x1 h6
 rw [if_neg e4];by_cases e5:op=[77,97,120]
 ·rw [if_pos e5];show _≤max x y∧max x y≤_;omega
 rw [if_neg e5];by_cases e6:op=[77,105,110]
 ·rw [if_pos e6];show _≤min x y∧min x y≤_;omega
 rw [if_neg e6];by_cases e7:op=[69,113,117,97,108]
 ·rw [if_pos e7];exact fl _
 rw [if_neg e7];by_cases e8:op=[76,101,115,115]
 ·rw [if_pos e8];exact fl _
 rw [if_neg e8];by_cases e9:op=[71,114,101,97,116,101,114]
 ·rw [if_pos e9];exact fl _
 rw [if_neg e9];decide
theorem chk_range {t x:Int} (ht:t≠7) (h:chk t x=true):-9223372036854775808≤x∧x≤9223372036854775807:=by
 by_cases h1:t=1
 ·subst h1;exact okF_range h
 by_cases h2:t=6
 ·subst h2;rw [chk_i32] at h;simp only [decide_eq_true_eq] at h;omega
 by_cases h3:t=9
 ·subst h3;rw [chk_bool] at h;simp only [decide_eq_true_eq] at h;omega
 unfold chk at h;rw [if_neg h1,if_neg h2,if_neg h3] at h;simp only [decide_eq_true_eq] at h;exact absurd h ht
theorem bin_range {op:List UInt8} {t x y:Int} (x0:-9223372036854775808≤x) (x1:x≤9223372036854775807) (y0:-9223372036854775808≤y) (y1:y≤9223372036854775807)
  (h:(bin op t x y).2=0):-9223372036854775808≤(bin op t x y).1∧(bin op t x y).1≤9223372036854775807:=by
 have hs:=bin_stays op t x y h;by_cases ht:outT op t=7
 ·have e7:t=7:=by
   unfold outT at ht;split at ht
   ·exact absurd ht (by decide)
   ·exact ht
  unfold bin binR;by_cases hc:chk t x=false∨chk t y=false
  ·rw [if_pos hc];decide
  rw [if_neg hc,if_pos (by rw [e7];rfl)];exact binI_range x0 x1 y0 y1
 ·exact chk_range ht hs
theorem bin_rangeA {op:List UInt8} {t x y:Int} (x0:-9223372036854775808≤x) (x1:x≤9223372036854775807) (y0:-9223372036854775808≤y) (y1:y≤9223372036854775807) :
  -9223372036854775808≤(bin op t x y).1∧(bin op t x y).1≤9223372036854775807:=by
 by_cases h:(bin op t x y).2=0
 ·exact bin_range x0 x1 y0 y1 h
 ·unfold bin binR at h ⊢;by_cases hc:chk t x=false∨chk t y=false
  ·rw [if_pos hc];decide
  rw [if_neg hc] at h ⊢;by_cases hw:wholeT t=true
  ·rw [if_pos hw];exact binI_range x0 x1 y0 y1
  rw [if_neg hw] at h ⊢;by_cases h1:t=1
  ·rw [if_pos h1] at h ⊢;cases hb:binF op x y with
   | none=>decide
   | some z=>rw [hb] at h;exact absurd rfl h
  rw [if_neg h1] at h ⊢;by_cases a1:op=[65,110,100]
  ·rw [if_pos a1] at h;exact absurd rfl h
  rw [if_neg a1] at h ⊢;by_cases a2:op=[79,114]
  ·rw [if_pos a2] at h;exact absurd rfl h
  rw [if_neg a2] at h ⊢;by_cases a3:op=[88,111,114]
  ·rw [if_pos a3] at h;exact absurd rfl h
  rw [if_neg a3] at h ⊢;by_cases a4:op=[69,113,117,97,108]
  ·rw [if_pos a4] at h;exact absurd rfl h
  rw [if_neg a4];decide
end Fl
end
section
namespace Fl
open Ieee
end Fl
end
end Go.Proofs.YtijhdmidffenbaaGreatDoor
