import Derived.Test.YtijhdmidffenbaaGreatDoorFloatArm
import Derived.WalkKit
import Derived.WalkLawsBesides
import Derived.Laws.FloatArith
import Derived.Laws.Externs
import Derived.KernelRfl
set_option linter.unusedVariables false
set_option linter.unusedSimpArgs false
namespace Go.Proofs.YtijhdmidffenbaaGreatDoor
section
namespace Fl
open Ieee
theorem signWeight_pos (f:Format):0 < f.signWeight:=Nat.two_pow_pos _
theorem rung_word {f:Format} {neg:Bool} {r:Nat} (h:r < f.signWeight):rung f (f.word neg r)=r:=by
 unfold rung Format.word;cases neg
 ·simp [Nat.mod_eq_of_lt h]
 ·simp [Nat.add_mod_left,Nat.mod_eq_of_lt h]
theorem sgn_word {f:Format} {neg:Bool} {r:Nat} (h:r < f.signWeight):sgn f (f.word neg r)=neg:=by
 unfold sgn Format.word;cases neg
 ·simp [Nat.div_eq_of_lt h]
 ·have:(f.signWeight+r) / f.signWeight=1:=by
   rw [Nat.add_div_left _ (signWeight_pos f),Nat.div_eq_of_lt h]
  simp [this]
theorem sv_word {f:Format} {neg:Bool} {r:Nat} (h:r < f.signWeight):sv f (f.word neg r)=if neg then -(mg f r:Int) else (mg f r:Int):=by
 unfold sv;rw [rung_word h,sgn_word h]
theorem rnd_lt (f:Format) (mag:Nat) (place:Int):rnd f mag place < f.signWeight :=
 Nat.lt_of_le_of_lt (rnd_le_inf f mag place) f.infRung_lt
structure Rounds (f:Format) (w:Nat) (X:Int) (D:Nat):Prop where
 nan:isNaN f w=false
 lt:w < 2 ^ f.width
 up:∀ c,isNaN f c=false→X≤sv f c * (D:Int)→sv f w≤sv f c
 down:∀ c,isNaN f c=false→sv f c * (D:Int)≤X→sv f c≤sv f w
theorem Rounds.scale {f:Format} {w:Nat} {X Y:Int} {D E:Nat} (h:Rounds f w X D) (hD:0 < D) (hE:0 < E) (e:X * (E:Int)=Y * (D:Int)):Rounds f w Y E:=by
 have hD':(0:Int) < D:=by omega
 have hE':(0:Int) < E:=by omega
 refine ⟨h.nan,h.lt,fun c hc h1=>h.up c hc ?_,fun c hc h1=>h.down c hc ?_⟩
 ·have h2:Y * (D:Int)≤sv f c * (E:Int) * (D:Int):=Int.mul_le_mul_of_nonneg_right h1 (by omega);rw [←e,Int.mul_right_comm] at h2;exact Int.le_of_mul_le_mul_right h2 hE'
 ·have h2:sv f c * (E:Int) * (D:Int)≤Y * (D:Int):=Int.mul_le_mul_of_nonneg_right h1 (by omega);rw [←e,Int.mul_right_comm] at h2;exact Int.le_of_mul_le_mul_right h2 hE'
theorem Rounds.exact {f:Format} {w c:Nat} {X:Int} {D:Nat} (h:Rounds f w X D) (hc:isNaN f c=false) (e:X=sv f c * (D:Int)):sv f w=sv f c :=
 Int.le_antisymm (h.up c hc (Int.le_of_eq e)) (h.down c hc (Int.le_of_eq e.symm))
theorem isNaN_word {f:Format} {neg:Bool} {r:Nat} (h:r≤f.infRung):isNaN f (f.word neg r)=false:=by
 have:=rung_word (f:=f) (neg:=neg) (r:=r) (Nat.lt_of_le_of_lt h f.infRung_lt);unfold isNaN;unfold rung at this;rw [this];simp;omega
theorem le_inf_of {f:Format} {c:Nat} (h:isNaN f c=false):rung f c≤f.infRung:=by
 simp only [isNaN,decide_eq_false_iff_not,Nat.not_lt] at h;exact h
theorem rounds_nearest (f:Format) (neg:Bool) (mag:Nat) (place:Int) :
  Rounds f (f.nearest neg mag place) (if neg then -((mag * 2 ^ (place - f.leastPlace).toNat:Nat):Int) else ((mag * 2 ^ (place - f.leastPlace).toNat:Nat):Int)) (2 ^ (f.leastPlace - place).toNat):=by
 rw [nearest_eq];have hr:=rnd_lt f mag place;refine ⟨isNaN_word (rnd_le_inf f mag place),f.word_lt _ hr,?_,?_⟩
 ·intro c hc h;rw [sv_word hr];have hci:=le_inf_of hc;generalize hV:mag * 2 ^ (place - f.leastPlace).toNat=V at *;generalize hD:2 ^ (f.leastPlace - place).toNat=D at *;have hDp:0 < D:=by rw [←hD];exact Nat.two_pow_pos _
  unfold sv at h ⊢;cases neg<;>cases hs:sgn f c<;>simp only [hs,if_true,if_false,Bool.false_eq_true] at h ⊢
  ·have h1:V≤mg f (rung f c) * D:=by exact_mod_cast h
   have:=mg_le (f:=f) (rnd_le (f:=f) (mag:=mag) (place:=place) (c:=rung f c) (by rw [hV,hD];exact h1));omega
  ·have h1:(0:Int)≤(mg f (rung f c):Int) * (D:Int):=Int.mul_nonneg (by omega) (by omega);rw [Int.neg_mul] at h;have h2:V=0:=by omega
   have h3:(mg f (rung f c):Int) * (D:Int)=0:=by omega
   have h4:mg f (rung f c)=0:=by
    rcases Int.mul_eq_zero.1 h3 with h5 | h5<;>omega
   have h6:=rnd_le (f:=f) (mag:=mag) (place:=place) (c:=0) (by rw [hV,h2];omega);have h7:rnd f mag place=0:=by omega
   rw [h7,mg_zero,h4];simp
  ·omega
  ·have h1:mg f (rung f c) * D≤V:=by
    rw [Int.neg_mul] at h;have:(mg f (rung f c):Int) * (D:Int)≤V:=by omega
    exact_mod_cast this
   have:=mg_le (f:=f) (le_rnd (f:=f) (mag:=mag) (place:=place) (c:=rung f c) hci (by rw [hV,hD];exact h1));omega
 ·intro c hc h;rw [sv_word hr];have hci:=le_inf_of hc;generalize hV:mag * 2 ^ (place - f.leastPlace).toNat=V at *;generalize hD:2 ^ (f.leastPlace - place).toNat=D at *;have hDp:0 < D:=by rw [←hD];exact Nat.two_pow_pos _
  unfold sv at h ⊢;cases neg<;>cases hs:sgn f c<;>simp only [hs,if_true,if_false,Bool.false_eq_true] at h ⊢
  ·have h1:mg f (rung f c) * D≤V:=by exact_mod_cast h
   have:=mg_le (f:=f) (le_rnd (f:=f) (mag:=mag) (place:=place) (c:=rung f c) hci (by rw [hV,hD];exact h1));omega
  ·omega
  ·have h1:(0:Int)≤(mg f (rung f c):Int) * (D:Int):=Int.mul_nonneg (by omega) (by omega);have h2:V=0:=by omega
   have h3:(mg f (rung f c):Int) * (D:Int)=0:=by omega
   have h4:mg f (rung f c)=0:=by
    rcases Int.mul_eq_zero.1 h3 with h5 | h5<;>omega
   have h6:=rnd_le (f:=f) (mag:=mag) (place:=place) (c:=0) (by rw [hV,h2];omega);have h7:rnd f mag place=0:=by omega
   rw [h7,mg_zero,h4];simp
  ·have h1:V≤mg f (rung f c) * D:=by
    rw [Int.neg_mul] at h;have:(V:Int)≤(mg f (rung f c):Int) * (D:Int):=by omega
    exact_mod_cast this
   have:=mg_le (f:=f) (rnd_le (f:=f) (mag:=mag) (place:=place) (c:=rung f c) (by rw [hV,hD];exact h1));omega
def fin (f:Format) (w:Nat):Bool:=decide (rung f w < f.infRung)
theorem fin_lt {f:Format} {w:Nat} (h:fin f w=true):rung f w < f.infRung:=by simpa [fin] using h
theorem nan_of_fin {f:Format} {w:Nat} (h:fin f w=true):isNaN f w=false:=by
 have:=fin_lt h;unfold rung at this;simp [isNaN];omega
theorem natAbs_if (t:Int):(if decide (t < 0)=true then -(t.natAbs:Int) else (t.natAbs:Int))=t:=by
 by_cases h:t < 0
 ·rw [if_pos (by simpa using h)];omega
 ·rw [if_neg (by simpa using h)];omega
theorem add_fin {f:Format} {a b:Nat} (ha:fin f a=true) (hb:fin f b=true) :
  ∃ r,f.add a b=some r∧Rounds f r (sv f a+sv f b) 1∧sgn f r=(if sv f a+sv f b=0 then sgn f a&&sgn f b else decide (sv f a+sv f b < 0)):=by
 obtain ⟨m,p,e1,h1,g1⟩:=read_fin (fin_lt ha);obtain ⟨n,q,e2,h2,g2⟩:=read_fin (fin_lt hb);have k1:=signed_sv (f:=f) (w:=a) (b:=min p q) (by omega) (by omega) g1;have k2:=signed_sv (f:=f) (w:=b) (b:=min p q) (by omega) (by omega) g2;refine ⟨_,by unfold Format.add;rw [e1,e2];rfl,?_,?_⟩
 ·simp only [Format.write];generalize signed (sgn f a) m (p - min p q).toNat=x at *;generalize signed (sgn f b) n (q - min p q).toNat=y at *;have hr:=rounds_nearest f (if x+y=0 then sgn f a&&sgn f b else decide (x+y < 0)) (x+y).natAbs (min p q);have hz:(f.leastPlace - min p q).toNat=0:=by omega
  rw [hz] at hr;refine hr.scale (by decide) (by decide) ?_;rw [←k1,←k2,←Int.add_mul];generalize 2 ^ (min p q - f.leastPlace).toNat=c at *;by_cases h0:x+y=0
  ·rw [h0];simp
  ·rw [if_neg h0];have:=natAbs_if (x+y);by_cases hs:x+y < 0
   ·rw [if_pos (by simpa using hs)] at this ⊢;have e:((x+y).natAbs:Int)=-(x+y):=by omega
    simp only [Int.natCast_mul,e];simp [Int.neg_mul]
   ·rw [if_neg (by simpa using hs)] at this ⊢;simp only [Int.natCast_mul,this]
 ·simp only [Format.write];rw [nearest_eq,sgn_word (rnd_lt _ _ _)];rw [←k1,←k2,←Int.add_mul];generalize signed (sgn f a) m (p - min p q).toNat=x at *;generalize signed (sgn f b) n (q - min p q).toNat=y at *;have hc:(0:Int) < ((2 ^ (min p q - f.leastPlace).toNat:Nat):Int):=by
   have:=Nat.two_pow_pos (min p q - f.leastPlace).toNat;omega
  generalize ((2 ^ (min p q - f.leastPlace).toNat:Nat):Int)=c at *;by_cases h0:x+y=0
  ·rw [h0];simp
  ·have h3:¬ (x+y) * c=0:=by
    intro h;rcases Int.mul_eq_zero.1 h with h5 | h5<;>omega
   rw [if_neg h0,if_neg h3]
   congr 1
   refine propext ⟨fun h=>Int.mul_neg_of_neg_of_pos h hc,fun h=>?_⟩;rcases (by omega:x+y < 0∨0≤x+y) with h5 | h5
   ·exact h5
   ·have:=Int.mul_nonneg h5 (by omega:(0:Int)≤c);omega
theorem mul_fin {f:Format} (hL:f.leastPlace≤0) {a b:Nat} (ha:fin f a=true) (hb:fin f b=true) :
  ∃ r,f.mul a b=some r∧Rounds f r (sv f a * sv f b) (2 ^ (-f.leastPlace).toNat)∧sgn f r=(sgn f a ^^ sgn f b):=by
 obtain ⟨m,p,e1,h1,g1⟩:=read_fin (fin_lt ha);obtain ⟨n,q,e2,h2,g2⟩:=read_fin (fin_lt hb);refine ⟨_,by unfold Format.mul;rw [e1,e2];rfl,?_,?_⟩
 ·simp only [Format.write];refine (rounds_nearest f (sgn f a ^^ sgn f b) (m * n) (p+q)).scale (Nat.two_pow_pos _) (Nat.two_pow_pos _) ?_;have key:m * n * 2 ^ (p+q - f.leastPlace).toNat * 2 ^ (-f.leastPlace).toNat=mg f (rung f a) * mg f (rung f b) * 2 ^ (f.leastPlace - (p+q)).toNat:=by
   rw [←g1,←g2];have e:2 ^ (p+q - f.leastPlace).toNat * 2 ^ (-f.leastPlace).toNat=2 ^ (p - f.leastPlace).toNat * 2 ^ (q - f.leastPlace).toNat * 2 ^ (f.leastPlace - (p+q)).toNat:=by
    rw [←Nat.pow_add,←Nat.pow_add,←Nat.pow_add];congr 1;omega
   calc m * n * 2 ^ (p+q - f.leastPlace).toNat * 2 ^ (-f.leastPlace).toNat=m * n * (2 ^ (p+q - f.leastPlace).toNat * 2 ^ (-f.leastPlace).toNat):=by ac_rfl
    _=_:=by rw [e];ac_rfl
  generalize m * n * 2 ^ (p+q - f.leastPlace).toNat=V at *;generalize 2 ^ (-f.leastPlace).toNat=l at *;generalize 2 ^ (f.leastPlace - (p+q)).toNat=d at *;have key':(V:Int) * (l:Int)=(mg f (rung f a):Int) * (mg f (rung f b):Int) * (d:Int):=by exact_mod_cast key
  unfold sv;cases sgn f a<;>cases sgn f b<;>simp [Int.neg_mul,Int.mul_neg,key']
 ·simp only [Format.write];rw [nearest_eq,sgn_word (rnd_lt _ _ _)]
theorem div_fin {f:Format} (hL:f.leastPlace≤0) {a b:Nat} (ha:fin f a=true) (hb:fin f b=true) (hb0:sv f b≠0) :
  ∃ r,f.div a b=some r∧isNaN f r=false∧r < 2 ^ f.width∧sgn f r=(sgn f a ^^ sgn f b) ∧
   ∀ c,mg f (rung f a) * 2 ^ (-f.leastPlace).toNat * (2 ^ (f.fractionBits+2)+1)≤mg f c * mg f (rung f b) * 2 ^ (f.fractionBits+2)→rung f r≤c:=by
 obtain ⟨m,p,e1,h1,g1⟩:=read_fin (fin_lt ha);obtain ⟨n,q,e2,h2,g2⟩:=read_fin (fin_lt hb);have hn:n≠0:=by
  intro h;subst h;apply hb0;unfold sv;rw [←g2];simp
 refine ⟨_,by unfold Format.div;rw [e1,e2];simp only [Datum.quotient];rw [if_neg hn];rfl,?_⟩;simp only [Format.write,Nat.shiftLeft_eq];rw [nearest_eq];have hr:=rnd_lt f;refine ⟨isNaN_word (rnd_le_inf _ _ _),f.word_lt _ (hr _ _),sgn_word (hr _ _),?_⟩;intro c hc;rw [rung_word (hr _ _)];refine rnd_le ?_;by_cases hm:m=0
 ·subst hm;simp
 have a1:2 ^ m.log2≤m:=Nat.log2_self_le hm;have a2:n < 2 ^ (n.log2+1):=Nat.lt_log2_self;generalize hmore:f.fractionBits+2+n.log2 - m.log2=more;have hdm:=Nat.div_add_mod (m * 2 ^ more) n;have hml:=Nat.mod_lt (m * 2 ^ more) (Nat.pos_of_ne_zero hn);have hst:(m * 2 ^ more % n != 0).toNat≤1:=Bool.toNat_le _;generalize hQ:2 * (m * 2 ^ more / n)+(m * 2 ^ more % n != 0).toNat=Q;have hQn:Q * n≤2 * (m * 2 ^ more)+n:=by
  rw [←hQ,Nat.add_mul];have b1:(m * 2 ^ more % n != 0).toNat * n≤1 * n:=Nat.mul_le_mul_right _ hst;have b2:2 * (m * 2 ^ more / n) * n=2 * (n * (m * 2 ^ more / n)):=by ac_rfl
  omega
 have hsm:n * 2 ^ (f.fractionBits+2)≤m * 2 ^ (more+1):=by
  have c1:n * 2 ^ (f.fractionBits+2)≤2 ^ (n.log2+1) * 2 ^ (f.fractionBits+2):=Nat.mul_le_mul_right _ (Nat.le_of_lt a2);have c2:2 ^ m.log2 * 2 ^ (more+1)≤m * 2 ^ (more+1):=Nat.mul_le_mul_right _ a1;have c3:2 ^ (n.log2+1) * 2 ^ (f.fractionBits+2)≤2 ^ m.log2 * 2 ^ (more+1):=by
   rw [←Nat.pow_add,←Nat.pow_add];exact Nat.pow_le_pow_right (by decide) (by omega)
  omega
 have hpp:2 ^ (more+1)=2 * 2 ^ more:=by rw [Nat.pow_succ];omega
 have hmain:Q * n * 2 ^ (f.fractionBits+2)≤m * 2 ^ (more+1) * (2 ^ (f.fractionBits+2)+1):=by
  calc Q * n * 2 ^ (f.fractionBits+2)≤(2 * (m * 2 ^ more)+n) * 2 ^ (f.fractionBits+2):=Nat.mul_le_mul_right _ hQn
   _=m * 2 ^ (more+1) * 2 ^ (f.fractionBits+2)+n * 2 ^ (f.fractionBits+2):=by
     rw [Nat.add_mul,hpp];congr 1;ac_rfl
   _≤m * 2 ^ (more+1) * 2 ^ (f.fractionBits+2)+m * 2 ^ (more+1):=Nat.add_le_add_left hsm _
   _=m * 2 ^ (more+1) * (2 ^ (f.fractionBits+2)+1):=by rw [Nat.mul_add,Nat.mul_one]
 rw [←g1,←g2] at hc;generalize hu:(p - f.leastPlace).toNat=u at *;generalize hv:(q - f.leastPlace).toNat=v at *;generalize hl:(-f.leastPlace).toNat=l at *;generalize hx:(p - q - more - 1 - f.leastPlace).toNat=x;generalize hy:(f.leastPlace - (p - q - more - 1)).toNat=y;have hpow:2 ^ x * 2 ^ (v+more+1)=2 ^ y * 2 ^ (u+l):=by
  rw [←Nat.pow_add,←Nat.pow_add];congr 1;omega
 have hT:0 < 2 ^ (f.fractionBits+2):=Nat.two_pow_pos _;generalize 2 ^ (f.fractionBits+2)=T at *;have step:Q * 2 ^ (u+l)≤mg f c * 2 ^ (v+more+1):=by
  have hnT:0 < n * T:=Nat.mul_pos (Nat.pos_of_ne_zero hn) hT;refine Nat.le_of_mul_le_mul_right ?_ hnT
  calc Q * 2 ^ (u+l) * (n * T)=Q * n * T * 2 ^ (u+l):=by ac_rfl
   _≤m * 2 ^ (more+1) * (T+1) * 2 ^ (u+l):=Nat.mul_le_mul_right _ hmain
   _=m * 2 ^ u * 2 ^ l * (T+1) * 2 ^ (more+1):=by rw [Nat.pow_add 2 u l];ac_rfl
   _≤mg f c * (n * 2 ^ v) * T * 2 ^ (more+1):=Nat.mul_le_mul_right _ hc
   _=mg f c * 2 ^ (v+more+1) * (n * T):=by rw [Nat.add_assoc,Nat.pow_add 2 v (more+1)];ac_rfl
 refine Nat.le_of_mul_le_mul_right ?_ (Nat.two_pow_pos (v+more+1))
 calc Q * 2 ^ x * 2 ^ (v+more+1)=Q * (2 ^ y * 2 ^ (u+l)):=by rw [Nat.mul_assoc,hpow]
  _=Q * 2 ^ (u+l) * 2 ^ y:=by ac_rfl
  _≤mg f c * 2 ^ (v+more+1) * 2 ^ y:=Nat.mul_le_mul_right _ step
  _=mg f c * 2 ^ y * 2 ^ (v+more+1):=by ac_rfl
end Fl
end
section
namespace Fl
open Ieee
theorem okS:single.binade≤single.infRung:=by decide
theorem okD:double.binade≤double.infRung:=by decide
theorem okK (k:FloatKind):k.format.binade≤k.format.infRung:=by cases k<;>decide
def nanBy (w:World) (q:Question):Nat:=q.cut (w.tape w.drawn q)
theorem nan32 (t:Nat):2139095040 < (t % 2 * 2 ^ 31+0x7f800000+1+t / 2 % (2 ^ 23 - 1)) % 2147483648:=by
 have h1:t % 2=0∨t % 2=1:=by omega
 have h2:=Nat.mod_lt (t / 2) (show 2 ^ 23 - 1 > 0 by decide);generalize t / 2 % (2 ^ 23 - 1)=u at *;rcases h1 with h | h<;>rw [h]<;>omega
theorem nan64 (t:Nat):9218868437227405312 < (t % 2 * 2 ^ 63+0x7ff0000000000000+1+t / 2 % (2 ^ 52 - 1)) % 9223372036854775808:=by
 have h1:t % 2=0∨t % 2=1:=by omega
 have h2:=Nat.mod_lt (t / 2) (show 2 ^ 52 - 1 > 0 by decide);generalize t / 2 % (2 ^ 52 - 1)=u at *;rcases h1 with h | h<;>rw [h]<;>omega
theorem nanBy_bits (w:World) (k:FloatKind) (x y:Nat):isNaN k.format (nanBy w (.nanBits k x y))=true:=by
 cases k
 ·have h:(nanBy w (.nanBits .f32 x y))=(w.tape w.drawn (.nanBits .f32 x y) % 2) * 2 ^ 31+0x7f800000+1+(w.tape w.drawn (.nanBits .f32 x y) / 2) % (2 ^ 23 - 1):=rfl;rw [h];have e1:single.infRung=2139095040:=by decide
  have e2:single.signWeight=2147483648:=by decide
  simp only [isNaN,FloatKind.format,e1,e2,decide_eq_true_eq];exact nan32 _
 ·have h:(nanBy w (.nanBits .f64 x y))=(w.tape w.drawn (.nanBits .f64 x y) % 2) * 2 ^ 63+0x7ff0000000000000+1+(w.tape w.drawn (.nanBits .f64 x y) / 2) % (2 ^ 52 - 1):=rfl;rw [h];have e1:double.infRung=9218868437227405312:=by decide
  have e2:double.signWeight=9223372036854775808:=by decide
  simp only [isNaN,FloatKind.format,e1,e2,decide_eq_true_eq];exact nan64 _
theorem nanBy_conv (w:World) (k:FloatKind) (x:Nat):isNaN k.format (nanBy w (.nanConv k x))=true:=by
 cases k
 ·have h:(nanBy w (.nanConv .f32 x))=(w.tape w.drawn (.nanConv .f32 x) % 2) * 2 ^ 31+0x7f800000+1+(w.tape w.drawn (.nanConv .f32 x) / 2) % (2 ^ 23 - 1):=rfl;rw [h];have e1:single.infRung=2139095040:=by decide
  have e2:single.signWeight=2147483648:=by decide
  simp only [isNaN,FloatKind.format,e1,e2,decide_eq_true_eq];exact nan32 _
 ·have h:(nanBy w (.nanConv .f64 x))=(w.tape w.drawn (.nanConv .f64 x) % 2) * 2 ^ 63+0x7ff0000000000000+1+(w.tape w.drawn (.nanConv .f64 x) / 2) % (2 ^ 52 - 1):=rfl;rw [h];have e1:double.infRung=9218868437227405312:=by decide
  have e2:double.signWeight=9223372036854775808:=by decide
  simp only [isNaN,FloatKind.format,e1,e2,decide_eq_true_eq];exact nan64 _
def orNan (o:Option Nat) (w:World) (q:Question):Nat:=match o with | some r=>r | none=>nanBy w q
def orDrew (o:Option Nat) (w:World):World:=match o with | some _=>w | none=>w.drew
def ar (op:BinOp) (k:FloatKind) (x y:Nat) (w:World):Nat:=orNan (floatBits op k x y) w (.nanBits k x y)
def arW (op:BinOp) (k:FloatKind) (x y:Nat) (w:World):World:=orDrew (floatBits op k x y) w
theorem run_choose {P:Program} {α:Type} (q:Question) (f:Nat→α) (w:World) (h:q.forced=false) :
  ((choose q >>= fun n=>pure (f n):Sem α)).run P w=.ok (f (nanBy w q)) w.drew:=by
 show Sem.run P (.choose q fun n=>.pure (f n)) w=_;simp only [Sem.run,h]
 rfl
theorem run_arith {P:Program} (op:BinOp) (hop:op=.add∨op=.sub∨op=.mul∨op=.quo) (t:TypeId) (k:FloatKind) (x y:Nat) (w:World) :
  (binOp op t (.float k x) (.float k y)).run P w=.ok (.float k (ar op k x y w)) (arW op k x y w):=by
 cases h:floatBits op k x y with
 | some r =>
  rw [run_float_arith w op t k x y r h];simp [ar,arW,orNan,orDrew,h]
 | none =>
  have e:binOp op t (.float k x) (.float k y)=Op.floatArith op k x y:=by rcases hop with rfl | rfl | rfl | rfl<;>simp [binOp]
  rw [e];have e2:Op.floatArith op k x y=(choose (.nanBits k x y) >>= fun n=>pure (.float k n):Sem Value):=by
   rcases hop with rfl | rfl | rfl | rfl<;>simp only [floatBits] at h<;>simp [Op.floatArith,h]
  rw [e2,run_choose (.nanBits k x y) (fun n=>Value.float k n) w rfl];simp [ar,arW,orNan,orDrew,h]
theorem run_add {P:Program} (t:TypeId) (k:FloatKind) (x y:Nat) (w:World):(binOp .add t (.float k x) (.float k y)).run P w=.ok (.float k (ar .add k x y w)) (arW .add k x y w):=run_arith _ (by simp) t k x y w
theorem run_sub {P:Program} (t:TypeId) (k:FloatKind) (x y:Nat) (w:World):(binOp .sub t (.float k x) (.float k y)).run P w=.ok (.float k (ar .sub k x y w)) (arW .sub k x y w):=run_arith _ (by simp) t k x y w
theorem run_mul {P:Program} (t:TypeId) (k:FloatKind) (x y:Nat) (w:World):(binOp .mul t (.float k x) (.float k y)).run P w=.ok (.float k (ar .mul k x y w)) (arW .mul k x y w):=run_arith _ (by simp) t k x y w
theorem run_quo {P:Program} (t:TypeId) (k:FloatKind) (x y:Nat) (w:World):(binOp .quo t (.float k x) (.float k y)).run P w=.ok (.float k (ar .quo k x y w)) (arW .quo k x y w):=run_arith _ (by simp) t k x y w
def widen (x:Nat):Option Nat:=if isNaN single x then none else some (double.write (single.read x))
def wide (x:Nat) (w:World):Nat:=orNan (widen x) w (.nanConv .f64 x)
def wideW (x:Nat) (w:World):World:=orDrew (widen x) w
def narrow (x:Nat) (w:World):Nat :=
 if isNaN double x then nanBy w (.nanConv .f32 x)
 else if fin double x&&(single.read (single.write (double.read x))).isInfinity then nanBy w (.floatToFloat x)
 else single.write (double.read x)
def narrowW (x:Nat) (w:World):World :=
 if isNaN double x || (fin double x&&(single.read (single.write (double.read x))).isInfinity) then w.drew else w
theorem wide_finite {x:Nat} (h:fin single x=true):(double.read (double.write (single.read x))).isInfinity=false:=by
 obtain ⟨m,p,e,hp,hg⟩:=read_fin (fin_lt h);rw [e];simp only [Format.write,nearest_eq];have hle:rnd double m p < double.infRung:=by
  have hmg:mg single (rung single x) < mg single single.infRung:=mg_lt (fin_lt h);have hq:rnd double m p≤double.infRung - 1:=by
   refine rnd_le ?_;have hL:double.leastPlace=-1074:=by decide
   have hS:single.leastPlace=-149:=by decide
   rw [hL];rw [hS] at hp hg;have e1:(-1074 - p).toNat=0:=by omega
   have e2:(p - -1074).toNat=(p - -149).toNat+925:=by omega
   rw [e1,e2,Nat.pow_add,←Nat.mul_assoc,hg];have:mg single single.infRung * 2 ^ 925≤mg double (double.infRung - 1) * 2 ^ 0:=by decide +kernel
   exact Nat.le_trans (Nat.mul_le_mul_right _ (Nat.le_of_lt hmg)) this
  have:0 < double.infRung:=by decide
  omega
 have hw:=rung_word (f:=double) (neg:=sgn single x) (r:=rnd double m p) (rnd_lt _ _ _);obtain ⟨m',p',e',_,_⟩:=read_fin (f:=double) (w:=double.word (sgn single x) (rnd double m p)) (by rw [hw];exact hle);rw [e'];rfl
theorem run_widen {P:Program} (src dst:TypeId) (b:Nat) (hs:P.underlying src=some (.float .f32)) (hd:P.underlying dst=some (.float .f64)) (w:World) :
  (convert src dst (.float .f32 b)).run P w=.ok (.float .f64 (wide b w)) (wideW b w):=by
 have key:(convert src dst (.float .f32 b)).run P w=(Conv.floatToFloat .f32 b .f64).run P w:=by
  simp [convert,run_underlying hs,run_underlying hd]
 rw [key];unfold Conv.floatToFloat
 rw [if_neg (by decide)];by_cases hn:isNaN single b=true
 ·have e:FloatKind.f32.decode b=.nan (sgn single b) (rung single b - single.infRung):=read_nan okS hn;rw [e];simp only;rw [run_choose (.nanConv .f64 b) (fun n=>Value.float .f64 n) w rfl];simp [wide,wideW,orNan,orDrew,widen,hn]
 ·simp only [Bool.not_eq_true] at hn;have ev:widen b=some (double.write (single.read b)):=by unfold widen;rw [hn];rfl
  have e1:wide b w=double.write (single.read b):=by simp [wide,orNan,ev]
  have e2:wideW b w=w:=by simp [wideW,orDrew,ev]
  rw [e1,e2];by_cases hf:fin single b=true
  ·obtain ⟨m,p,e,_,_⟩:=read_fin (fin_lt hf);have hfi:=wide_finite hf;have e':FloatKind.f32.decode b=.number (sgn single b) m p:=e;rw [e'] ;rw [e] at hfi ⊢;simp only;have:(FloatKind.f64.decode (FloatKind.f64.encode (.number (sgn single b) m p))).isInfinity=false:=hfi;rw [this]
   rfl
  ·have hinf:rung single b=single.infRung:=by
    have h1:=le_inf_of hn;have h2:¬ rung single b < single.infRung:=by simpa [fin] using hf
    omega
   have e:single.read b=.infinity (sgn single b):=read_inf okS hinf;have e':FloatKind.f32.decode b=.infinity (sgn single b):=e;rw [e',e]
   rfl
theorem run_narrow {P:Program} (src dst:TypeId) (b:Nat) (hs:P.underlying src=some (.float .f64)) (hd:P.underlying dst=some (.float .f32)) (w:World) :
  (convert src dst (.float .f64 b)).run P w=.ok (.float .f32 (narrow b w)) (narrowW b w):=by
 have key:(convert src dst (.float .f64 b)).run P w=(Conv.floatToFloat .f64 b .f32).run P w:=by
  simp [convert,run_underlying hs,run_underlying hd]
 rw [key];unfold Conv.floatToFloat
 rw [if_neg (by decide)];by_cases hn:isNaN double b=true
 ·have e:FloatKind.f64.decode b=.nan (sgn double b) (rung double b - double.infRung):=read_nan okD hn;rw [e];simp only;rw [run_choose (.nanConv .f32 b) (fun n=>Value.float .f32 n) w rfl];simp [narrow,narrowW,hn]
 ·simp only [Bool.not_eq_true] at hn;by_cases hf:fin double b=true
  ·obtain ⟨m,p,e,_,_⟩:=read_fin (fin_lt hf);have e':FloatKind.f64.decode b=.number (sgn double b) m p:=e;rw [e'];simp only;by_cases hi:(single.read (single.write (.number (sgn double b) m p))).isInfinity=true
   ·have:(FloatKind.f32.decode (FloatKind.f32.encode (.number (sgn double b) m p))).isInfinity=true:=hi;rw [this];simp only [if_true];rw [run_choose (.floatToFloat b) (fun n=>Value.float .f32 n) w rfl];simp [narrow,narrowW,hn,hf,e,hi]
   ·simp only [Bool.not_eq_true] at hi;have:(FloatKind.f32.decode (FloatKind.f32.encode (.number (sgn double b) m p))).isInfinity=false:=hi;rw [this];simp [narrow,narrowW,hn,e,hi,FloatKind.encode,FloatKind.format]
  ·have hinf:rung double b=double.infRung:=by
    have h1:=le_inf_of hn;have h2:¬ rung double b < double.infRung:=by simpa [fin] using hf
    omega
   have e:double.read b=.infinity (sgn double b):=read_inf okD hinf;have e':FloatKind.f64.decode b=.infinity (sgn double b):=e;rw [e'];simp only [Bool.not_eq_true] at hf;simp [narrow,narrowW,hn,hf,e,FloatKind.encode,FloatKind.format]
def sqrt64 (x:Nat) (w:World):Nat:=orNan (double.sqrt x) w (.nanBits .f64 x x)
def sqrt64W (x:Nat) (w:World):World:=orDrew (double.sqrt x) w
theorem run_sqrt_entry {P:Program} (x:Nat) (w:World):(Extern.MathSqrt.sqrt #[.float .f64 x]).run P w=.ok (.float .f64 (sqrt64 x w)) (sqrt64W x w):=by
 change Sem.run P (match FloatKind.f64.format.sqrt x with | some r=>pure (.float .f64 r) | none=>(choose (.nanBits .f64 x x) >>= fun n=>pure (Value.float .f64 n))) w=_
 have e:FloatKind.f64.format.sqrt x=double.sqrt x:=rfl;rw [e];cases h:double.sqrt x with
 | some r=>simp [sqrt64,sqrt64W,orNan,orDrew,h]
 | none =>
  simp only;rw [run_choose (.nanBits .f64 x x) (fun n=>Value.float .f64 n) w rfl];simp [sqrt64,sqrt64W,orNan,orDrew,h]
def floor64 (q:Question) (x:Nat) (w:World):Nat :=
 match double.read x with
 | .nan s t=>if double.quiet t=t then x else (if nanBy w q==1 then x else double.write (.nan s (double.quiet t)))
 | d=>double.write (d.integral .down)
def floor64W (x:Nat) (w:World):World :=
 match double.read x with
 | .nan _ t=>if double.quiet t=t then w else w.drew
 | _=>w
theorem run_floor_any:∃ q:Question,∀ (P:Program) (x:Nat) (w:World),(Extern.MathFloor.toIntegral "math.archFloor" .down #[.float .f64 x]).run P w=.ok (.float .f64 (floor64 q x w)) (floor64W x w):=by
 refine ⟨?q,fun P x w=>?_⟩;rotate_left
 ·change Sem.run P (match FloatKind.f64.decode x with
   | .nan s t=>if FloatKind.f64.format.quiet t=t then pure (.float .f64 x) else
    (choose ?q >>= fun kept=>pure (Value.float .f64 (if kept==1 then x else FloatKind.f64.encode (.nan s (FloatKind.f64.format.quiet t)))))
   | d=>pure (.float .f64 (FloatKind.f64.encode (d.integral .down)))) w=_
  have e:FloatKind.f64.decode x=double.read x:=rfl;rw [e];cases h:double.read x with
  | nan s t =>
   simp only;have e2:FloatKind.f64.format.quiet t=double.quiet t:=rfl;rw [e2];by_cases hq:double.quiet t=t
   ·rw [if_pos hq];simp [floor64,floor64W,h,hq]
   ·rw [if_neg hq];rw [run_choose _ (fun kept=>Value.float .f64 (if kept==1 then x else FloatKind.f64.encode (.nan s (double.quiet t)))) w rfl];simp [floor64,floor64W,h,hq];rfl
  | number s m p=>simp [floor64,floor64W,h];rfl
  | infinity s=>simp [floor64,floor64W,h];rfl
noncomputable def floorQ:Question:=Classical.choose run_floor_any
theorem run_floor_entry {P:Program} (x:Nat) (w:World):(Extern.MathFloor.toIntegral "math.archFloor" .down #[.float .f64 x]).run P w=.ok (.float .f64 (floor64 floorQ x w)) (floor64W x w) :=
 Classical.choose_spec run_floor_any P x w
end Fl
end
section
namespace Fl
open Ieee
theorem read_fin' {f:Format} {w:Nat} (h:rung f w < f.infRung) :
  ∃ m p,f.read w=.number (sgn f w) m p∧f.leastPlace≤p∧m * 2 ^ (p - f.leastPlace).toNat=mg f (rung f w)∧m < 2 * f.binade:=by
 have hB:=binade_pos f;unfold Format.read;simp only [rung] at h ⊢;by_cases h1:w % f.signWeight < f.binade
 ·rw [if_pos h1];refine ⟨_,_,rfl,Int.le_refl _,?_,by omega⟩;rw [mg_low h1];simp
 ·rw [if_neg h1,if_pos h];refine ⟨_,_,rfl,by omega,?_,?_⟩
  ·rw [mg_high (by omega)]
   congr 2
   omega
  ·have:=Nat.mod_lt (w % f.signWeight) hB;omega
theorem sum_near {f:Format} {s t:Bool} {m n:Nat} {p q X Y:Int} (h1:f.leastPlace≤p) (h2:f.leastPlace≤q)
  (k1:signed s m (p - min p q).toNat * ((2 ^ (min p q - f.leastPlace).toNat:Nat):Int)=X)
  (k2:signed t n (q - min p q).toNat * ((2 ^ (min p q - f.leastPlace).toNat:Nat):Int)=Y) :
  ∃ r,((Datum.number s m p).sum (Datum.number t n q)).map f.write=some r∧Rounds f r (X+Y) 1∧sgn f r=(if X+Y=0 then s&&t else decide (X+Y < 0)):=by
 refine ⟨_,rfl,?_,?_⟩
 ·simp only [Format.write];generalize signed s m (p - min p q).toNat=x at *;generalize signed t n (q - min p q).toNat=y at *;have hr:=rounds_nearest f (if x+y=0 then s&&t else decide (x+y < 0)) (x+y).natAbs (min p q);have hz:(f.leastPlace - min p q).toNat=0:=by omega
  rw [hz] at hr;refine hr.scale (by decide) (by decide) ?_;rw [←k1,←k2,←Int.add_mul];generalize 2 ^ (min p q - f.leastPlace).toNat=c at *;by_cases h0:x+y=0
  ·rw [h0];simp
  ·rw [if_neg h0];have:=natAbs_if (x+y);by_cases hs:x+y < 0
   ·rw [if_pos (by simpa using hs)] at this ⊢;have e:((x+y).natAbs:Int)=-(x+y):=by omega
    simp only [Int.natCast_mul,e];simp [Int.neg_mul]
   ·rw [if_neg (by simpa using hs)] at this ⊢;simp only [Int.natCast_mul,this]
 ·simp only [Format.write];rw [nearest_eq,sgn_word (rnd_lt _ _ _)];rw [←k1,←k2,←Int.add_mul];generalize signed s m (p - min p q).toNat=x at *;generalize signed t n (q - min p q).toNat=y at *;have hc:(0:Int) < ((2 ^ (min p q - f.leastPlace).toNat:Nat):Int):=by
   have:=Nat.two_pow_pos (min p q - f.leastPlace).toNat;omega
  generalize ((2 ^ (min p q - f.leastPlace).toNat:Nat):Int)=c at *;by_cases h0:x+y=0
  ·rw [h0];simp
  ·have h3:¬ (x+y) * c=0:=by
    intro h;rcases Int.mul_eq_zero.1 h with h5 | h5<;>omega
   rw [if_neg h0,if_neg h3]
   congr 1
   refine propext ⟨fun h=>Int.mul_neg_of_neg_of_pos h hc,fun h=>?_⟩;rcases (by omega:x+y < 0∨0≤x+y) with h5 | h5
   ·exact h5
   ·have:=Int.mul_nonneg h5 (by omega:(0:Int)≤c);omega
theorem sub_fin {f:Format} {a b:Nat} (ha:fin f a=true) (hb:fin f b=true) :
  ∃ r,f.sub a b=some r∧Rounds f r (sv f a - sv f b) 1∧sgn f r=(if sv f a - sv f b=0 then sgn f a && !sgn f b else decide (sv f a - sv f b < 0)):=by
 obtain ⟨m,p,e1,h1,g1⟩:=read_fin (fin_lt ha);obtain ⟨n,q,e2,h2,g2⟩:=read_fin (fin_lt hb);have k1:=signed_sv (f:=f) (w:=a) (b:=min p q) (by omega) (by omega) g1;have k2:=signed_sv (f:=f) (w:=b) (b:=min p q) (by omega) (by omega) g2;have hneg:signed (!sgn f b) n (q - min p q).toNat=- signed (sgn f b) n (q - min p q).toNat:=by
  rw [signed_eq,signed_eq];cases sgn f b<;>simp
 have k3:signed (!sgn f b) n (q - min p q).toNat * ((2 ^ (min p q - f.leastPlace).toNat:Nat):Int)=-(sv f b):=by
  rw [hneg,Int.neg_mul,k2]
 obtain ⟨r,hr⟩:=sum_near h1 h2 k1 k3;refine ⟨r,?_⟩;unfold Format.sub;rw [e1,e2];exact hr
theorem word_of {f:Format} {w:Nat} (h:w < 2 ^ f.width):w=f.word (sgn f w) (rung f w):=by
 have two:2 ^ f.width=2 * f.signWeight:=by
  unfold Format.width Format.signWeight;rw [Nat.add_assoc,Nat.add_comm 1,Nat.pow_succ,Nat.mul_comm]
 have hd:=Nat.div_add_mod w f.signWeight;have hp:=signWeight_pos f;have hq:w / f.signWeight < 2:=Nat.div_lt_of_lt_mul (by omega);unfold Format.word sgn rung;have hq2:w / f.signWeight=0∨w / f.signWeight=1:=by generalize w / f.signWeight=d at hq;omega
 rcases hq2 with h1 | h1
 ·rw [h1] at hd ⊢;simp at hd ⊢;exact hd.symm
 ·rw [h1] at hd ⊢;simp at hd ⊢;exact hd.symm
theorem mg_eq_zero {f:Format} {c:Nat} (h:mg f c=0):c=0:=mg_inj (f:=f) (by rw [h,mg_zero])
theorem word_ext {f:Format} {a b:Nat} (ha:a < 2 ^ f.width) (hb:b < 2 ^ f.width) (hs:sgn f a=sgn f b) (hv:sv f a=sv f b):a=b:=by
 have:mg f (rung f a)=mg f (rung f b):=by
  unfold sv at hv;rw [hs] at hv;by_cases hh:sgn f b=true
  ·rw [if_pos hh,if_pos hh] at hv;omega
  ·rw [if_neg hh,if_neg hh] at hv;omega
 rw [word_of ha,word_of hb,hs,mg_inj this]
theorem sv_natAbs (f:Format) (w:Nat):(sv f w).natAbs=mg f (rung f w):=by
 unfold sv;split<;>omega
theorem sgn_of_neg {f:Format} {w:Nat} (h:sv f w < 0):sgn f w=true:=by
 unfold sv at h;cases hs:sgn f w
 ·rw [hs] at h;simp at h;omega
 ·rfl
theorem sgn_of_pos {f:Format} {w:Nat} (h:0 < sv f w):sgn f w=false:=by
 unfold sv at h;cases hs:sgn f w
 ·rfl
 ·rw [hs] at h;simp at h;omega
theorem fin_of_abs {f:Format} {w:Nat} (h:(sv f w).natAbs < mg f f.infRung):fin f w=true:=by
 rw [sv_natAbs,mg_lt_iff] at h;simpa [fin] using h
theorem fin_of_bounds {f:Format} {w:Nat} (h1:-(mg f f.infRung:Int) < sv f w) (h2:sv f w < (mg f f.infRung:Int)):fin f w=true :=
 fin_of_abs (by omega)
theorem exists_word {f:Format} (X:Int) (e:Nat) (hX:X.natAbs < 2 * f.binade) (hi:X.natAbs * 2 ^ e≤mg f f.infRung):∃ c,isNaN f c=false∧sv f c=X * ((2 ^ e:Nat):Int):=by
 obtain ⟨c,hc⟩:=mg_exact (f:=f) X.natAbs e hX;have hle:c≤f.infRung:=by
  rcases Nat.lt_or_ge f.infRung c with h | h
  ·have:=mg_lt (f:=f) h;omega
  ·exact h
 refine ⟨f.word (decide (X < 0)) c,isNaN_word hle,?_⟩;rw [sv_word (Nat.lt_of_le_of_lt hle f.infRung_lt),hc];by_cases hs:X < 0
 ·have:((X.natAbs:Nat):Int)=-X:=by omega
  simp only [hs,decide_true,if_true,Int.natCast_mul,this];simp [Int.neg_mul]
 ·have:((X.natAbs:Nat):Int)=X:=by omega
  simp only [hs,decide_false,Bool.false_eq_true,if_false,Int.natCast_mul,this]
theorem Rounds.le {f:Format} {w:Nat} {X:Int} {D:Nat} (h:Rounds f w X D) (Y:Int) (e:Nat) (hY:Y.natAbs < 2 * f.binade) (hi:Y.natAbs * 2 ^ e≤mg f f.infRung)
  (hx:X≤Y * ((2 ^ e:Nat):Int) * (D:Int)):sv f w≤Y * ((2 ^ e:Nat):Int):=by
 obtain ⟨c,h1,h2⟩:=exists_word Y e hY hi;have:=h.up c h1 (by rw [h2];exact hx);rw [h2] at this;exact this
theorem Rounds.ge {f:Format} {w:Nat} {X:Int} {D:Nat} (h:Rounds f w X D) (Y:Int) (e:Nat) (hY:Y.natAbs < 2 * f.binade) (hi:Y.natAbs * 2 ^ e≤mg f f.infRung)
  (hx:Y * ((2 ^ e:Nat):Int) * (D:Int)≤X):Y * ((2 ^ e:Nat):Int)≤sv f w:=by
 obtain ⟨c,h1,h2⟩:=exists_word Y e hY hi;have:=h.down c h1 (by rw [h2];exact hx);rw [h2] at this;exact this
theorem sv_whole {f:Format} (hL:f.leastPlace≤0) (neg:Bool) (m:Nat) (hm:m < 2 * f.binade) (hi:m * 2 ^ (-f.leastPlace).toNat < mg f f.infRung) :
  sv f (f.nearest neg m 0)=(if neg then -(m:Int) else (m:Int)) * ((2 ^ (-f.leastPlace).toNat:Nat):Int)∧fin f (f.nearest neg m 0)=true∧sgn f (f.nearest neg m 0)=neg:=by
 obtain ⟨c,hc⟩:=mg_exact (f:=f) m (-f.leastPlace).toNat hm;have hle:c < f.infRung:=by rw [←mg_lt_iff (f:=f),hc];exact hi
 have hr:rnd f m 0=c:=by
  refine rnd_eq (Nat.le_of_lt hle) ?_;have e1:(0 - f.leastPlace).toNat=(-f.leastPlace).toNat:=by omega
  have e2:(f.leastPlace - 0).toNat=0:=by omega
  rw [e1,e2,hc];simp
 have hlt:c < f.signWeight:=Nat.lt_trans hle f.infRung_lt;rw [nearest_eq,hr,sv_word hlt,sgn_word hlt,hc];refine ⟨?_,?_,rfl⟩
 ·cases neg<;>simp [Int.neg_mul]
 ·simp [fin,rung_word hlt,hle]
theorem dL:double.leastPlace=-1074:=by decide
theorem sL:single.leastPlace=-149:=by decide
def pw (n:Nat):Nat:=2 ^ n
theorem pw_eq (n:Nat):2 ^ n=pw n:=rfl
theorem pw_add (a b:Nat):2 ^ (a+b)=2 ^ a * pw b:=Nat.pow_add 2 a b
theorem pw_pos (n:Nat):0 < pw n:=Nat.two_pow_pos n
def P925:Nat:=pw 925
theorem p925 (a:Nat):2 ^ (a+925)=2 ^ a * P925:=pw_add a 925
theorem p925_pos:0 < P925:=pw_pos 925
theorem wide_eq {v:Nat} (h:fin single v=true) :
  fin double (double.write (single.read v))=true∧sv double (double.write (single.read v))=sv single v * (P925:Int)∧sgn double (double.write (single.read v))=sgn single v∧double.write (single.read v) < 2 ^ double.width:=by
 obtain ⟨m,p,e,hp,hg,hm⟩:=read_fin' (fin_lt h);rw [e];simp only [Format.write];have hp':-149≤p:=by rw [sL] at hp;exact hp
 obtain ⟨c,hc⟩:=mg_exact (f:=double) m (p+1074).toNat (Nat.lt_of_lt_of_le hm (by decide));have hval:m * 2 ^ (p+1074).toNat=mg single (rung single v) * P925:=by
  rw [sL] at hg;have e1:(p+1074).toNat=(p - -149).toNat+925:=by omega
  rw [e1,p925,←Nat.mul_assoc,hg]
 have hle:c < double.infRung:=by
  rw [←mg_lt_iff (f:=double),hc,hval];have h1:mg single (rung single v) * P925 < mg single single.infRung * P925:=Nat.mul_lt_mul_of_pos_right (mg_lt (fin_lt h)) p925_pos;have h2:mg single single.infRung * P925≤mg double double.infRung:=Nat.le_of_ble_eq_true (by kernel_rfl);exact Nat.lt_of_lt_of_le h1 h2
 have hr:rnd double m p=c:=by
  refine rnd_eq (Nat.le_of_lt hle) ?_;have e1:(p - double.leastPlace).toNat=(p+1074).toNat:=by rw [dL];omega
  have e2:(double.leastPlace - p).toNat=0:=by rw [dL];omega
  rw [e1,e2,hc];simp
 have hlt:c < double.signWeight:=Nat.lt_trans hle double.infRung_lt;rw [nearest_eq,hr,sv_word hlt,sgn_word hlt,hc,hval];refine ⟨by simp [fin,rung_word hlt,hle],?_,rfl,double.word_lt _ hlt⟩;unfold sv;cases sgn single v<;>simp [Int.neg_mul]
theorem cut_le_half {neg:Bool} {n drop N:Nat} (h:2 * n < (2 * N+1) * 2 ^ drop):Toward.even.cut neg n drop≤N:=by
 by_cases h0:n≤N * 2 ^ drop
 ·exact cut_le h0
 have hlog:n < 2 ^ (n.log2+1):=Nat.lt_log2_self;have hN:(2 * N+1) * 2 ^ drop=2 * (N * 2 ^ drop)+2 ^ drop:=by rw [Nat.add_mul,Nat.mul_assoc];simp
 unfold Toward.cut;simp only [Nat.shiftLeft_eq,Nat.one_mul];by_cases hd:drop≤n.log2+2
 ·rw [Nat.min_eq_left hd];have hp:0 < 2 ^ drop:=Nat.two_pow_pos _;generalize 2 ^ drop=g at *;have hdm:=Nat.div_add_mod n g;have hm:=Nat.mod_lt n hp;have he:n / g=N:=by
   refine Nat.div_eq_of_lt_le ?_ ?_
   ·omega
   ·rw [Nat.succ_mul];omega
  rw [he] at hdm ⊢;have hc:g * N=N * g:=Nat.mul_comm _ _;have h1:(decide (g < 2 * (n % g)) || (g==2 * (n % g)&&N % 2==1))=false:=by
   have h2:¬ g < 2 * (n % g):=by omega
   have h3:(g==2 * (n % g))=false:=by simp;omega
   simp [h2,h3]
  rw [h1];simp
 ·have hmin:min drop (n.log2+2)=n.log2+2:=Nat.min_eq_right (by omega);rw [hmin];have h2:2 ^ (n.log2+2)=2 * 2 ^ (n.log2+1):=by rw [Nat.pow_succ];omega
  have hlt:n < 2 ^ (n.log2+2):=by omega
  rw [Nat.div_eq_of_lt hlt,Nat.mod_eq_of_lt hlt];have h0:(decide (2 ^ (n.log2+2) < 2 * n) || (2 ^ (n.log2+2)==2 * n&&0 % 2==1))=false:=by
   simp;omega
  rw [h0];simp
end Fl
end
section
namespace Fl
open Ieee
theorem toNat_ne (r:Nat):((r != 0):Bool).toNat=if r=0 then 0 else 1:=by
 by_cases h:r=0<;>simp [h]
theorem cut_down (neg:Bool) (n drop:Nat) :
  (if neg then -((Toward.down.cut neg n drop:Nat):Int) else ((Toward.down.cut neg n drop:Nat):Int))=(if neg then -(n:Int) else (n:Int)) / ((2 ^ drop:Nat):Int):=by
 have hlog:n < 2 ^ (n.log2+1):=Nat.lt_log2_self;unfold Toward.cut;simp only [Nat.shiftLeft_eq,Nat.one_mul];by_cases hd:drop≤n.log2+2
 ·rw [Nat.min_eq_left hd];have hp:0 < 2 ^ drop:=Nat.two_pow_pos _;generalize 2 ^ drop=g at *;have hdm:=Nat.div_add_mod n g;have hm:=Nat.mod_lt n hp;cases neg
  ·simp
  ·simp only [if_true,Bool.true_and];rw [toNat_ne]
   symm
   rw [Int.ediv_eq_iff_of_pos (by omega)];have e:((n:Int))=(g:Int) * ((n / g:Nat):Int)+((n % g:Nat):Int):=by exact_mod_cast hdm.symm
   generalize n / g=q at *;generalize n % g=r at *;have e2:((q:Int) * (g:Int))=(g:Int) * q:=Int.mul_comm _ _;by_cases h0:r=0
   ·rw [if_pos h0];simp only [Nat.add_zero];constructor
    ·rw [Int.neg_mul];omega
    ·rw [Int.neg_mul];omega
   ·rw [if_neg h0];have e3:(((q+1:Nat):Int)) * (g:Int)=(q:Int) * g+g:=by rw [Int.natCast_add,Int.add_mul];simp
    constructor
    ·rw [Int.neg_mul,e3];omega
    ·rw [Int.neg_mul,e3];omega
 ·have hmin:min drop (n.log2+2)=n.log2+2:=Nat.min_eq_right (by omega);rw [hmin];have h2:2 ^ (n.log2+2)=2 * 2 ^ (n.log2+1):=by rw [Nat.pow_succ];omega
  have hlt:n < 2 ^ (n.log2+2):=by omega
  have hle:2 ^ (n.log2+2)≤2 ^ drop:=Nat.pow_le_pow_right (by decide) (by omega);rw [Nat.div_eq_of_lt hlt,Nat.mod_eq_of_lt hlt];generalize 2 ^ drop=g at *;cases neg
  ·simp only [Bool.false_eq_true,if_false,Bool.false_and,Nat.zero_add];rw [←Int.natCast_ediv,Nat.div_eq_of_lt (Nat.lt_of_lt_of_le hlt hle)];rfl
  ·simp only [if_true,Bool.true_and,Nat.zero_add];rw [toNat_ne]
   symm
   rw [Int.ediv_eq_iff_of_pos (by omega)];by_cases h0:n=0
   ·rw [if_pos h0];subst h0;simp;omega
   ·rw [if_neg h0];constructor<;>simp<;>omega
theorem cut_zero (neg:Bool) (n drop:Nat):Toward.zero.cut neg n drop=n / 2 ^ drop:=by
 have hlog:n < 2 ^ (n.log2+1):=Nat.lt_log2_self;unfold Toward.cut;simp only [Nat.shiftLeft_eq,Nat.one_mul];by_cases hd:drop≤n.log2+2
 ·rw [Nat.min_eq_left hd];simp
 ·have hmin:min drop (n.log2+2)=n.log2+2:=Nat.min_eq_right (by omega);rw [hmin];have h2:2 ^ (n.log2+2)=2 * 2 ^ (n.log2+1):=by rw [Nat.pow_succ];omega
  have hlt:n < 2 ^ (n.log2+2):=by omega
  have hle:2 ^ (n.log2+2)≤2 ^ drop:=Nat.pow_le_pow_right (by decide) (by omega);rw [Nat.div_eq_of_lt hlt,Nat.div_eq_of_lt (Nat.lt_of_lt_of_le hlt hle)];simp
theorem integral_down {f:Format} (hL:f.leastPlace≤0) {w:Nat} (h:fin f w=true) :
  ∃ M:Nat,(f.read w).integral .down=.number (sgn f w) M 0∧(if sgn f w then -(M:Int) else (M:Int))=sv f w / ((2 ^ (-f.leastPlace).toNat:Nat):Int):=by
 obtain ⟨m,p,e,hp,hg⟩:=read_fin (fin_lt h);rw [e];refine ⟨_,rfl,?_⟩;rw [cut_down];unfold sv;rw [←hg,Nat.shiftLeft_eq];generalize hl:(-f.leastPlace).toNat=l;have hc:(0:Int) < ((2 ^ (l - (-p).toNat):Nat):Int):=by
  have:=Nat.two_pow_pos (l - (-p).toNat);omega
 have e1:(p - f.leastPlace).toNat=p.toNat+(l - (-p).toNat):=by omega
 have e2:(l:Nat)=(-p).toNat+(l - (-p).toNat):=by omega
 rw [e1];have e3:2 ^ l=2 ^ (-p).toNat * 2 ^ (l - (-p).toNat):=by rw [←Nat.pow_add,←e2]
 rw [e3,Nat.pow_add,←Nat.mul_assoc];generalize 2 ^ (l - (-p).toNat)=c at *;generalize m * 2 ^ p.toNat=n at *;generalize 2 ^ (-p).toNat=d at *;rw [Int.natCast_mul d c];cases sgn f w
 ·simp only [Bool.false_eq_true,if_false];rw [Int.natCast_mul,Int.mul_ediv_mul_of_pos_left _ _ hc]
 ·simp only [if_true];rw [Int.natCast_mul,←Int.neg_mul,Int.mul_ediv_mul_of_pos_left _ _ hc]
theorem toInt_zero {f:Format} (hL:f.leastPlace≤0) {w:Nat} (h:fin f w=true) :
  (f.read w).toInt .zero=some ((sv f w).tdiv ((2 ^ (-f.leastPlace).toNat:Nat):Int)):=by
 obtain ⟨m,p,e,hp,hg⟩:=read_fin (fin_lt h);rw [e];simp only [Datum.toInt,Datum.integral,cut_zero,signed_eq,Nat.pow_zero,Nat.mul_one]
 congr 1
 unfold sv;rw [←hg,Nat.shiftLeft_eq];generalize hl:(-f.leastPlace).toNat=l;have hc:0 < 2 ^ (l - (-p).toNat):=Nat.two_pow_pos _;have e1:(p - f.leastPlace).toNat=p.toNat+(l - (-p).toNat):=by omega
 have e2:(l:Nat)=(-p).toNat+(l - (-p).toNat):=by omega
 rw [e1];have e3:2 ^ l=2 ^ (-p).toNat * 2 ^ (l - (-p).toNat):=by rw [←Nat.pow_add,←e2]
 rw [e3,Nat.pow_add,←Nat.mul_assoc];generalize 2 ^ (l - (-p).toNat)=c at *;generalize m * 2 ^ p.toNat=n at *;generalize 2 ^ (-p).toNat=d at *;have key:n * c / (d * c)=n / d:=Nat.mul_div_mul_right _ _ hc;cases sgn f w
 ·simp only [Bool.false_eq_true,if_false];rw [←Int.ofNat_tdiv,key]
 ·simp only [if_true];rw [Int.neg_tdiv,←Int.ofNat_tdiv,key]
theorem pw_mul (a b c:Nat) (h:c=a+b):pw c=pw a * pw b:=by subst h;exact Nat.pow_add 2 a b
def U:Nat:=pw 1074
theorem U_pos:0 < U:=pw_pos 1074
theorem dU:2 ^ (-double.leastPlace).toNat=U:=by
 have e:(-double.leastPlace).toNat=1074:=by decide
 rw [e];exact pw_eq 1074
theorem dL0:double.leastPlace≤0:=by decide
theorem sL0:single.leastPlace≤0:=by decide
def V1:Nat:=pw 149
theorem V1_pos:0 < V1:=pw_pos 149
theorem U_V1:U=V1 * P925:=by
 unfold U V1 P925;exact pw_mul 149 925 1074 (by decide)
theorem dmul {a b:Nat} (ha:fin double a=true) (hb:fin double b=true) :
  ∃ r,double.mul a b=some r∧Rounds double r (sv double a * sv double b) U∧sgn double r=(sgn double a ^^ sgn double b):=by
 have:=mul_fin dL0 ha hb;rw [dU] at this;exact this
theorem ddiv {a b:Nat} (ha:fin double a=true) (hb:fin double b=true) (hb0:sv double b≠0) :
  ∃ r,double.div a b=some r∧isNaN double r=false∧r < 2 ^ double.width∧sgn double r=(sgn double a ^^ sgn double b) ∧
   ∀ c,mg double (rung double a) * U * (2 ^ 54+1)≤mg double c * mg double (rung double b) * 2 ^ 54→rung double r≤c:=by
 have:=div_fin dL0 ha hb hb0;rw [dU] at this;exact this
theorem dfloor {w:Nat} (h:fin double w=true) :
  ∃ M:Nat,(double.read w).integral .down=.number (sgn double w) M 0∧(if sgn double w then -(M:Int) else (M:Int))=sv double w / (U:Int):=by
 have:=integral_down dL0 h;rw [dU] at this;exact this
theorem dtoInt {w:Nat} (h:fin double w=true):(double.read w).toInt .zero=some ((sv double w).tdiv (U:Int)):=by
 have:=toInt_zero dL0 h;rw [dU] at this;exact this
theorem dinf_big:2 * double.binade * U≤mg double double.infRung:=Nat.le_of_ble_eq_true (by kernel_rfl)
theorem dwhole (neg:Bool) (m:Nat) (hm:m < 2 * double.binade) :
  sv double (double.nearest neg m 0)=(if neg then -(m:Int) else (m:Int)) * (U:Int)∧fin double (double.nearest neg m 0)=true∧sgn double (double.nearest neg m 0)=neg:=by
 have hi:m * U < mg double double.infRung:=Nat.lt_of_lt_of_le (Nat.mul_lt_mul_of_pos_right hm U_pos) dinf_big;have:=sv_whole dL0 neg m hm (by rw [dU];exact hi);rw [dU] at this;exact this
theorem sinf_big:2 * single.binade * V1≤mg single single.infRung:=Nat.le_of_ble_eq_true (by kernel_rfl)
end Fl
end
section
namespace Fl
open Ieee
def T:Nat:=pw 1021
theorem T_pos:0 < T:=pw_pos 1021
theorem U_T:(U:Int)=9007199254740992 * (T:Int):=by
 have:U=pw 53 * T:=by unfold U T;exact pw_mul 53 1021 1074 (by decide)
 rw [this,Int.natCast_mul];rfl
theorem pw1034:(pw 1034:Int)=8192 * (T:Int):=by
 have:pw 1034=pw 13 * T:=by unfold T;exact pw_mul 13 1021 1034 (by decide)
 rw [this,Int.natCast_mul];rfl
theorem pw1066:(pw 1066:Int)=35184372088832 * (T:Int):=by
 have:pw 1066=pw 45 * T:=by unfold T;exact pw_mul 45 1021 1066 (by decide)
 rw [this,Int.natCast_mul];rfl
theorem pw1069:(pw 1069:Int)=281474976710656 * (T:Int):=by
 have:pw 1069=pw 48 * T:=by unfold T;exact pw_mul 48 1021 1069 (by decide)
 rw [this,Int.natCast_mul];rfl
theorem pw1071:(pw 1071:Int)=1125899906842624 * (T:Int):=by
 have:pw 1071=pw 50 * T:=by unfold T;exact pw_mul 50 1021 1071 (by decide)
 rw [this,Int.natCast_mul];rfl
theorem pw1073:(pw 1073:Int)=4503599627370496 * (T:Int):=by
 have:pw 1073=pw 52 * T:=by unfold T;exact pw_mul 52 1021 1073 (by decide)
 rw [this,Int.natCast_mul];rfl
theorem pwU:(pw 1074:Int)=(U:Int):=by unfold U;rfl
theorem pw_le {a b:Nat} (h:a≤b):pw a≤pw b:=Nat.pow_le_pow_right (by decide) h
theorem mulK (K a b T:Int):K * a * (b * T)=a * b * (K * T):=by ac_rfl
theorem mulL (K a T:Int):K * (a * T)=a * (K * T):=Int.mul_left_comm _ _ _
attribute [local irreducible] pw
theorem dinf_pw:2 * double.binade * pw 1074≤mg double double.infRung:=by
 have:=dinf_big;unfold U at this;exact this
theorem bound_pw {e:Nat} (he:e≤1074) {Y:Int} (hY:Y.natAbs < 9007199254740992):Y.natAbs * 2 ^ e≤mg double double.infRung:=by
 rw [pw_eq e];have h1:Y.natAbs * pw e≤9007199254740992 * pw 1074:=Nat.mul_le_mul (Nat.le_of_lt hY) (pw_le he);have h2:9007199254740992=2 * double.binade:=by decide
 rw [h2] at h1;exact Nat.le_trans h1 dinf_pw
theorem Rounds.leP {w:Nat} {X:Int} {D:Nat} (h:Rounds double w X D) (Y:Int) (e:Nat) (he:e≤1074) (hY:Y.natAbs < 9007199254740992)
  (hx:X≤Y * (pw e:Int) * (D:Int)):sv double w≤Y * (pw e:Int):=by
 have:=h.le Y e hY (bound_pw he hY) (by rw [pw_eq e];exact hx);rw [pw_eq e] at this;exact this
theorem Rounds.geP {w:Nat} {X:Int} {D:Nat} (h:Rounds double w X D) (Y:Int) (e:Nat) (he:e≤1074) (hY:Y.natAbs < 9007199254740992)
  (hx:Y * (pw e:Int) * (D:Int)≤X):Y * (pw e:Int)≤sv double w:=by
 have:=h.ge Y e hY (bound_pw he hY) (by rw [pw_eq e];exact hx);rw [pw_eq e] at this;exact this
theorem Rounds.absP {w:Nat} {X:Int} {D:Nat} (h:Rounds double w X D) (Z:Nat) (e:Nat) (he:e≤1074) (hZ:Z < 9007199254740992)
  (hx:X.natAbs≤Z * pw e * D):(sv double w).natAbs≤Z * pw e:=by
 have h1:=h.leP (Z:Int) e he (by omega) (by
  have:((X.natAbs:Nat):Int)≤((Z * pw e * D:Nat):Int):=by exact_mod_cast hx
  simp only [Int.natCast_mul] at this;omega)
 have h2:=h.geP (-(Z:Int)) e he (by omega) (by
  have:((X.natAbs:Nat):Int)≤((Z * pw e * D:Nat):Int):=by exact_mod_cast hx
  simp only [Int.natCast_mul] at this;rw [Int.neg_mul,Int.neg_mul];omega)
 rw [Int.neg_mul] at h2;have h3:((Z * pw e:Nat):Int)=(Z:Int) * (pw e:Int):=Int.natCast_mul _ _;omega
theorem fin_of_T {w:Nat} (h:(sv double w).natAbs≤200 * U):fin double w=true:=by
 refine fin_of_abs (Nat.lt_of_le_of_lt h ?_);exact Nat.lt_of_lt_of_le (Nat.mul_lt_mul_of_pos_right (by decide) U_pos) dinf_big
def cLog:Nat:=4609176140021203710
def cHalf:Nat:=4602678819172646912
def cLn:Nat:=4604418534313441775
def one64:Nat:=4607182418800017408
theorem sv_cLog:sv double cLog=12994641697113596 * (T:Int):=of_decide_eq_true (by kernel_rfl)
theorem sv_cHalf:sv double cHalf=4503599627370496 * (T:Int):=of_decide_eq_true (by kernel_rfl)
theorem sv_one:sv double one64=(U:Int):=of_decide_eq_true (by kernel_rfl)
theorem fin_cLog:fin double cLog=true:=by decide
theorem fin_cHalf:fin double cHalf=true:=by decide
theorem fin_cLn:fin double cLn=true:=by decide
theorem fin_one:fin double one64=true:=by decide
def sg (s:Bool) (M:Nat):Int:=if s then -(M:Int) else (M:Int)
def chkM (s:Bool) (M:Nat):Bool :=
 match double.mul (double.nearest s M 0) cLn with
 | some m=>fin double m&&decide ((2 * sg s M+1) * (4503599627370496 * (T:Int)) * (U:Int)≤(sv double m+3377699720527872 * (T:Int)) * (12994641697113596 * (T:Int)))
   && decide ((sv double m - 3377699720527872 * (T:Int)) * (12994641697113596 * (T:Int))≤(sg s M * 1099511627776 - 549755813888 - 1) * (8192 * (T:Int)) * (U:Int))
 | none=>false
theorem chkM_true:(List.range 153).all (chkM true)=true:=by kernel_rfl
theorem chkM_false:(List.range 131).all (chkM false)=true:=by kernel_rfl
theorem chkM_of {s:Bool} {M:Nat} (h1:-152≤sg s M) (h2:sg s M≤130):chkM s M=true:=by
 cases s
 ·have:M < 131:=by simp [sg] at h2;omega
  exact List.all_eq_true.1 chkM_false M (List.mem_range.2 this)
 ·have:M < 153:=by simp [sg] at h1;omega
  exact List.all_eq_true.1 chkM_true M (List.mem_range.2 this)
structure Head (y t1 t2 k m r:Nat) (K:Int):Prop where
 h1:double.mul y cLog=some t1
 h2:double.add t1 cHalf=some t2
 fin2:fin double t2=true
 hk:k=double.write ((double.read t2).integral .down)
 hK:sv double k=K * (U:Int)
 fink:fin double k=true
 least:-152≤K
 most:K≤130
 h3:double.mul k cLn=some m
 h4:double.sub y m=some r
 small:(sv double r).natAbs≤3 * pw 1071
 wid:r < 2 ^ double.width
 pos:0≤sv double y→0≤K∧(K=0→0≤sv double r)
 ten:sv double y≤20 * (U:Int)→K≤29
theorem head_of {y:Nat} (hf:fin double y=true) (hy1:-105 * (U:Int)≤sv double y) (hy2:sv double y≤89 * (U:Int)):∃ t1 t2 k m r K,Head y t1 t2 k m r K:=by
 have hT:(0:Int) < (T:Int):=by have:=T_pos;omega
 have hU:=U_T;have hUp:(0:Int) < (U:Int):=by have:=U_pos;omega
 obtain ⟨t1,e1,r1,_⟩:=dmul hf fin_cLog;rw [sv_cLog] at r1;have a1:sv double t1≤129 * (pw 1074:Int):=by
  refine r1.leP 129 1074 (by decide) (by decide) ?_;have c1:sv double y * (12994641697113596 * (T:Int))≤89 * (U:Int) * (12994641697113596 * (T:Int)):=Int.mul_le_mul_of_nonneg_right hy2 (by omega);refine Int.le_trans c1 ?_;rw [pwU];have c2:89 * (U:Int) * (12994641697113596 * (T:Int))=(U:Int) * (1156523111043110044 * (T:Int)):=by
   rw [Int.mul_comm 89,Int.mul_assoc,show 89 * (12994641697113596 * (T:Int))=1156523111043110044 * (T:Int) by omega]
  have c3:129 * (U:Int) * (U:Int)=(U:Int) * (129 * (U:Int)):=Int.mul_comm _ _;rw [c2,c3];exact Int.mul_le_mul_of_nonneg_left (by omega) (by omega)
 have a2:-152 * (pw 1074:Int)≤sv double t1:=by
  refine r1.geP (-152) 1074 (by decide) (by decide) ?_;have c1:-105 * (U:Int) * (12994641697113596 * (T:Int))≤sv double y * (12994641697113596 * (T:Int)):=Int.mul_le_mul_of_nonneg_right hy1 (by omega);refine Int.le_trans ?_ c1;rw [pwU];have c2:-105 * (U:Int) * (12994641697113596 * (T:Int))=(U:Int) * (-1364437378196927580 * (T:Int)):=by
   rw [Int.mul_comm (-105),Int.mul_assoc,show -105 * (12994641697113596 * (T:Int))=-1364437378196927580 * (T:Int) by omega]
  have c3:-152 * (U:Int) * (U:Int)=(U:Int) * (-152 * (U:Int)):=Int.mul_comm _ _;rw [c2,c3];exact Int.mul_le_mul_of_nonneg_left (by omega) (by omega)
 rw [pwU] at a1 a2;have f1:fin double t1=true:=fin_of_T (by omega);obtain ⟨t2,e2,r2,_⟩:=add_fin f1 fin_cHalf;rw [sv_cHalf] at r2;have b1:sv double t2≤130 * (pw 1074:Int):=r2.leP 130 1074 (by decide) (by decide) (by rw [pwU];omega);have b2:-152 * (pw 1074:Int)≤sv double t2:=r2.geP (-152) 1074 (by decide) (by decide) (by rw [pwU];omega);rw [pwU] at b1 b2;have f2:fin double t2=true:=fin_of_T (by omega);obtain ⟨M,eM,hM⟩:=dfloor f2;generalize hK:sv double t2 / (U:Int)=K at *;have k1:K * (U:Int)≤sv double t2:=by rw [←hK];exact Int.ediv_mul_le _ (by omega)
 have k2:sv double t2 < (K+1) * (U:Int):=by rw [←hK];exact Int.lt_ediv_add_one_mul_self _ hUp
 have K1:-152≤K:=by
  rcases (by omega:K < -152 ∨ -152≤K) with h | h
  ·have:(K+1) * (U:Int) ≤ -152 * (U:Int):=Int.mul_le_mul_of_nonneg_right (by omega) (by omega);omega
  ·exact h
 have K2:K≤130:=by
  rcases (by omega:131≤K∨K≤130) with h | h
  ·have:131 * (U:Int)≤K * (U:Int):=Int.mul_le_mul_of_nonneg_right h (by omega);omega
  ·exact h
 have hMl:M < 9007199254740992:=by
  by_cases hs:sgn double t2=true
  ·rw [if_pos hs] at hM;omega
  ·rw [if_neg hs] at hM;omega
 obtain ⟨w1,w2,w3⟩:=dwhole (sgn double t2) M hMl;rw [hM] at w1;have hsg:sg (sgn double t2) M=K:=hM;have hchk:=chkM_of (s:=sgn double t2) (M:=M) (by rw [hsg];exact K1) (by rw [hsg];exact K2);unfold chkM at hchk;generalize hkw:double.nearest (sgn double t2) M 0=k at *;have p5:sv double t1+4503599627370496 * (T:Int) < (K+1) * (U:Int):=by
  rcases (by omega:(K+1) * (U:Int)≤sv double t1+4503599627370496 * (T:Int)∨sv double t1+4503599627370496 * (T:Int) < (K+1) * (U:Int)) with h | h
  ·have:=r2.geP (K+1) 1074 (by decide) (by omega) (by rw [pwU];omega);rw [pwU] at this;omega
  ·exact h
 have q5:K * (U:Int) - 8192 * (T:Int) < sv double t1+4503599627370496 * (T:Int):=by
  rcases (by omega:sv double t1+4503599627370496 * (T:Int)≤K * (U:Int) - 8192 * (T:Int)∨K * (U:Int) - 8192 * (T:Int) < sv double t1+4503599627370496 * (T:Int)) with h | h
  ·have e:(K * 1099511627776 - 1) * (pw 1034:Int)=K * (U:Int) - 8192 * (T:Int):=by
    rw [pw1034,hU,Int.sub_mul,mulK,mulL K 9007199254740992];omega
   have:=r2.leP (K * 1099511627776 - 1) 1034 (by decide) (by omega) (by rw [e];omega);rw [e] at this;omega
  ·exact h
 have eKU:K * (U:Int)=9007199254740992 * (K * (T:Int)):=by rw [hU,mulL]
 have eKU1:(K+1) * (U:Int)=9007199254740992 * (K * (T:Int))+9007199254740992 * (T:Int):=by rw [Int.add_mul,eKU,Int.one_mul,hU]
 have p6:sv double y * (12994641697113596 * (T:Int)) < (2 * K+1) * (4503599627370496 * (T:Int)) * (U:Int):=by
  rcases (by omega:(2 * K+1) * (4503599627370496 * (T:Int)) * (U:Int)≤sv double y * (12994641697113596 * (T:Int))∨sv double y * (12994641697113596 * (T:Int)) < (2 * K+1) * (4503599627370496 * (T:Int)) * (U:Int)) with h | h
  ·have:=r1.geP (2 * K+1) 1073 (by decide) (by omega) (by rw [pw1073];exact h);rw [pw1073,Int.add_mul,Int.mul_comm 2 K,mulK] at this;omega
  ·exact h
 have q6:(K * 1099511627776 - 549755813888 - 1) * (8192 * (T:Int)) * (U:Int) < sv double y * (12994641697113596 * (T:Int)):=by
  rcases (by omega:sv double y * (12994641697113596 * (T:Int))≤(K * 1099511627776 - 549755813888 - 1) * (8192 * (T:Int)) * (U:Int)∨(K * 1099511627776 - 549755813888 - 1) * (8192 * (T:Int)) * (U:Int) < sv double y * (12994641697113596 * (T:Int))) with h | h
  ·have:=r1.leP (K * 1099511627776 - 549755813888 - 1) 1034 (by decide) (by omega) (by rw [pw1034];exact h);rw [pw1034,Int.sub_mul,Int.sub_mul,mulK] at this;omega
  ·exact h
 have hC:(0:Int) < 12994641697113596 * (T:Int):=by omega
 cases e3:double.mul k cLn with
 | none=>rw [e3] at hchk;cases hchk
 | some m =>
  rw [e3] at hchk;simp only [Bool.and_eq_true,decide_eq_true_eq,hsg] at hchk;obtain ⟨⟨fm,c1⟩,c2⟩:=hchk;have d1:sv double y < sv double m+3377699720527872 * (T:Int):=Int.lt_of_mul_lt_mul_right (Int.lt_of_lt_of_le p6 c1) (by omega);have d2:sv double m - 3377699720527872 * (T:Int) < sv double y:=Int.lt_of_mul_lt_mul_right (Int.lt_of_le_of_lt c2 q6) (by omega);obtain ⟨r,e4,r4,_⟩:=sub_fin hf fm;have hsmall:(sv double r).natAbs≤3 * pw 1071:=by
   refine r4.absP 3 1071 (by decide) (by decide) ?_;have:=pw1071;omega
  refine ⟨t1,t2,k,m,r,K,e1,e2,f2,?_,w1,w2,K1,K2,e3,e4,hsmall,r4.lt,?_,?_⟩
  ·rw [eM];exact hkw.symm
  ·intro h0;have t1p:0≤sv double t1:=by
    have:=r1.geP 0 1074 (by decide) (by decide) (by
     have:=Int.mul_nonneg h0 (Int.le_of_lt hC);simp;exact this)
    simpa using this
   have t2p:0≤sv double t2:=by
    have:=r2.geP 0 1074 (by decide) (by decide) (by simp;omega)
    simpa using this
   refine ⟨?_,?_⟩
   ·rw [←hK];exact Int.ediv_nonneg t2p (by omega)
   ·intro hK0;obtain ⟨m',em',rm',_⟩:=dmul w2 fin_cLn;rw [e3] at em';cases em'
    have z:sv double m=0:=by
     rw [w1,hK0] at rm';have z1:=rm'.leP 0 1074 (by decide) (by decide) (by simp);have z2:=rm'.geP 0 1074 (by decide) (by decide) (by simp);simp at z1 z2;omega
    rw [z] at r4;have:=r4.geP 0 1074 (by decide) (by decide) (by simp;omega)
    simpa using this
  ·intro h20;rcases (by omega:K≤29∨30≤K) with h | h
   ·exact h
   ·exfalso;have g1:(30 * 1099511627776 - 549755813888 - 1) * (8192 * (T:Int))≤(K * 1099511627776 - 549755813888 - 1) * (8192 * (T:Int)):=Int.mul_le_mul_of_nonneg_right (by omega) (by omega);have g2:=Int.mul_le_mul_of_nonneg_right g1 (Int.le_of_lt hUp);have g3:sv double y * (12994641697113596 * (T:Int))≤20 * (U:Int) * (12994641697113596 * (T:Int)):=Int.mul_le_mul_of_nonneg_right h20 (by omega);have g4:20 * (U:Int) * (12994641697113596 * (T:Int))=(259892833942271920 * (T:Int)) * (U:Int):=by
     rw [Int.mul_comm 20,Int.mul_assoc,Int.mul_comm (U:Int),show 20 * (12994641697113596 * (T:Int))=259892833942271920 * (T:Int) by omega]
    have g5:259892833942271920 * (T:Int) * (U:Int)≤(30 * 1099511627776 - 549755813888 - 1) * (8192 * (T:Int)) * (U:Int):=Int.mul_le_mul_of_nonneg_right (by omega) (by omega);omega
end Fl
end
section
namespace Fl
open Ieee
theorem mg_exactP (m e:Nat) (h:m < 2 * double.binade):∃ c,mg double c=m * pw e:=mg_exact m e h
theorem pw52:pw 52=4503599627370496:=by decide
attribute [local irreducible] pw U T P925 V1
theorem infD:double.infRung=9218868437227405312:=by decide
theorem swD:double.signWeight=9223372036854775808:=by decide
theorem binD:double.binade=4503599627370496:=by decide
theorem small_word {w:Nat} (h:w < 9223372036854775808):rung double w=w∧sgn double w=false∧sv double w=(mg double w:Int):=by
 have h1:rung double w=w:=by unfold rung;rw [swD];exact Nat.mod_eq_of_lt h
 have h2:sgn double w=false:=by unfold sgn;rw [swD,Nat.div_eq_of_lt h];rfl
 refine ⟨h1,h2,?_⟩;unfold sv;rw [h1,h2];rfl
def fi (n:Nat):Nat:=double.nearest false n 0
theorem sv_fi {n:Nat} (h:n < 9007199254740992):sv double (fi n)=(n:Int) * (U:Int)∧fin double (fi n)=true∧sgn double (fi n)=false:=dwhole false n h
structure Step (p r n q d p':Nat):Prop where
 h1:double.mul p r=some q
 h2:double.div q (fi n)=some d
 h3:double.add one64 d=some p'
theorem mg_of_rung {w:Nat}:mg double (rung double w)=(sv double w).natAbs:=(sv_natAbs double w).symm
theorem step_of {p r n:Nat} (hp:fin double p=true) (hpb:(sv double p).natAbs≤41 * pw 1069) (hr:(sv double r).natAbs≤3 * pw 1071) (hn:1≤n) (hn2:n≤13) :
  ∃ q d p',Step p r n q d p'∧fin double p'=true∧p' < 2 ^ double.width ∧
   (2≤n→23 * (pw 1069:Int)≤sv double p'∧sv double p'≤41 * (pw 1069:Int))∧(pw 1073:Int)≤sv double p'∧sv double p'≤3 * (pw 1073:Int) ∧
   (0≤sv double p→0≤sv double r→(U:Int)≤sv double p'):=by
 have hT:=T_pos;have e69:=pw1069;have e71:=pw1071;have e73:=pw1073;have e66:=pw1066;have eU:=U_T;have fr:fin double r=true:=fin_of_T (by omega);obtain ⟨q,e1,r1,s1⟩:=dmul hp fr;have hq:(sv double q).natAbs≤123 * pw 1066:=by
  refine r1.absP 123 1066 (by decide) (by decide) ?_;rw [Int.natAbs_mul];have h1:(sv double p).natAbs * (sv double r).natAbs≤(11540474045136896 * T) * (3377699720527872 * T):=Nat.mul_le_mul (by omega) (by omega);refine Nat.le_trans h1 ?_;have h2:123 * pw 1066=4327677766926336 * T:=by omega
  have h3:U=9007199254740992 * T:=by omega
  rw [h2,h3];have h4:11540474045136896 * T * (3377699720527872 * T)=(11540474045136896 * 3377699720527872) * (T * T):=by ac_rfl
  have h5:4327677766926336 * T * (9007199254740992 * T)=(4327677766926336 * 9007199254740992) * (T * T):=by ac_rfl
  rw [h4,h5];exact Nat.mul_le_mul_right _ (by decide)
 have fq:fin double q=true:=fin_of_T (by omega);obtain ⟨w1,w2,w3⟩:=sv_fi (n:=n) (by omega);have hUp:=U_pos;have hnU:(0:Int) < (n:Int) * (U:Int):=Int.mul_pos (by omega) (by omega);obtain ⟨d,e2,nd,ld,sd,bd⟩:=ddiv fq w2 (by rw [w1];omega);have hmgn:mg double (rung double (fi n))=n * U:=by
  rw [mg_of_rung,w1,Int.natAbs_mul];simp
 rw [hmgn,mg_of_rung] at bd;have key:∀ (z c:Nat),mg double c=z * pw 1066→123 * (2 ^ 54+1)≤z * n * 2 ^ 54→rung double d≤c:=by
  intro z c hc hz;refine bd c ?_;rw [hc]
  calc (sv double q).natAbs * U * (2 ^ 54+1)≤123 * pw 1066 * U * (2 ^ 54+1):=Nat.mul_le_mul_right _ (Nat.mul_le_mul_right _ hq)
   _=123 * (2 ^ 54+1) * (pw 1066 * U):=by ac_rfl
   _≤z * n * 2 ^ 54 * (pw 1066 * U):=Nat.mul_le_mul_right _ hz
   _=z * pw 1066 * (n * U) * 2 ^ 54:=by ac_rfl
 have hd1:(sv double d).natAbs≤128 * pw 1066:=by
  obtain ⟨c,hc⟩:=mg_exactP 128 1066 (by decide);have:=key 128 c hc (by
   have:128 * 1 * 2 ^ 54≤128 * n * 2 ^ 54:=Nat.mul_le_mul_right _ (Nat.mul_le_mul_left _ hn);omega)
  have:=mg_le (f:=double) this;rw [hc,mg_of_rung] at this;exact this
 have hd2:2≤n→(sv double d).natAbs≤72 * pw 1066:=by
  intro h2;obtain ⟨c,hc⟩:=mg_exactP 72 1066 (by decide);have:=key 72 c hc (by
   have:72 * 2 * 2 ^ 54≤72 * n * 2 ^ 54:=Nat.mul_le_mul_right _ (Nat.mul_le_mul_left _ h2);omega)
  have:=mg_le (f:=double) this;rw [hc,mg_of_rung] at this;exact this
 have fd:fin double d=true:=fin_of_T (by omega);obtain ⟨p',e3,r3,_⟩:=add_fin fin_one fd;rw [sv_one] at r3;have b1:(1:Int) * (pw 1073:Int)≤sv double p':=r3.geP 1 1073 (by decide) (by decide) (by omega);have b2:sv double p'≤3 * (pw 1073:Int):=r3.leP 3 1073 (by decide) (by decide) (by omega);refine ⟨q,d,p',⟨e1,e2,e3⟩,fin_of_T (by omega),r3.lt,?_,by omega,b2,?_⟩
 ·intro h2;have hd:=hd2 h2;exact ⟨r3.geP 23 1069 (by decide) (by decide) (by omega),r3.leP 41 1069 (by decide) (by decide) (by omega)⟩
 ·intro hp0 hr0;have q0:0≤sv double q:=by
   have:=r1.geP 0 1074 (by decide) (by decide) (by have:=Int.mul_nonneg hp0 hr0;simpa using this)
   simpa using this
  have d0:0≤sv double d:=by
   rcases (by omega:sv double d < 0∨0≤sv double d) with h | h
   ·exfalso;have s2:=sgn_of_neg h;rw [s2,w3] at sd;have s3:sgn double q=true:=by simpa using sd.symm
    have z:sv double q=0:=by
     have:sv double q≤0:=by unfold sv;rw [s3];simp
     omega
    have:=bd 0 (by rw [z];simp);have:=mg_le (f:=double) this;rw [mg_zero,mg_of_rung] at this;omega
   ·exact h
  have:=r3.geP 1 1074 (by decide) (by decide) (by rw [pwU];omega);rw [pwU] at this;omega
def exP (r:Nat):Nat→Nat
 | 0=>one64
 | j+1=>((double.add one64 (((double.div (((double.mul (exP r j) r).getD 0)) (fi (13 - j))).getD 0))).getD 0)
theorem exP_step {r j q d p':Nat} (h:Step (exP r j) r (13 - j) q d p'):exP r (j+1)=p':=by
 simp only [exP,h.h1,h.h2,h.h3,Option.getD_some]
structure Sum (r j:Nat):Prop where
 fin:fin double (exP r j)=true
 lt:exP r j < 2 ^ double.width
 ge:23 * (pw 1069:Int)≤sv double (exP r j)
 le:sv double (exP r j)≤41 * (pw 1069:Int)
 one:0≤sv double r→(U:Int)≤sv double (exP r j)
theorem sum_of {r:Nat} (hr:(sv double r).natAbs≤3 * pw 1071):∀ j,j≤12→Sum r j:=by
 have e69:=pw1069;have eU:=U_T;have hT:=T_pos;intro j
 induction j with
 | zero =>
  intro _;exact ⟨fin_one,by show one64 < _;decide,by show _≤sv double one64;rw [sv_one];omega,by show sv double one64≤_;rw [sv_one];omega,fun _=>by show _≤sv double one64;rw [sv_one];omega⟩
 | succ j ih =>
  intro hj;obtain ⟨s1,s2,s3,s4,s5⟩:=ih (by omega);obtain ⟨q,d,p',hs,f,l,b,_,_,o⟩:=step_of (n:=13 - j) s1 (by omega) hr (by omega) (by omega);have e:=exP_step hs;obtain ⟨b1,b2⟩:=b (by omega);exact ⟨by rw [e];exact f,by rw [e];exact l,by rw [e];exact b1,by rw [e];exact b2,fun h0=>by rw [e];exact o (by omega) h0⟩
theorem steps_of {r:Nat} (hr:(sv double r).natAbs≤3 * pw 1071) (j:Nat) (hj:j < 13):∃ q d,Step (exP r j) r (13 - j) q d (exP r (j+1)):=by
 have e69:=pw1069;have hT:=T_pos;obtain ⟨s1,s2,s3,s4,s5⟩:=sum_of hr j (by omega);obtain ⟨q,d,p',hs,_⟩:=step_of (n:=13 - j) s1 (by omega) hr (by omega) (by omega);have e:=exP_step hs;rw [←e] at hs;exact ⟨q,d,hs⟩
theorem mg_half:mg double 4602678819172646912=pw 1073:=by kernel_rfl
theorem mg_more:mg double 4609434218613702656=3 * pw 1073:=by kernel_rfl
theorem mg_one64:mg double one64=U:=by kernel_rfl
structure Whole (r:Nat):Prop where
 ge:4602678819172646912≤exP r 13
 le:exP r 13≤4609434218613702656
 one:0≤sv double r→4607182418800017408≤exP r 13
theorem whole_of {r:Nat} (hr:(sv double r).natAbs≤3 * pw 1071):Whole r:=by
 have e69:=pw1069;have e73:=pw1073;have eU:=U_T;have hT:=T_pos;obtain ⟨s1,s2,s3,s4,s5⟩:=sum_of hr 12 (by omega);obtain ⟨q,d,p',hs,f,l,_,b1,b2,o⟩:=step_of (n:=1) s1 (by omega) hr (by omega) (by omega);have e:exP r 13=p':=exP_step (j:=12) hs;have hsg:sgn double p'=false:=sgn_of_pos (by omega);have hw:=word_of l;rw [hsg] at hw;have hw2:p'=rung double p':=hw;have hsv:sv double p'=(mg double p':Int):=by
  unfold sv;rw [hsg,←hw2];rfl
 refine ⟨?_,?_,?_⟩<;>rw [e]
 ·rcases Nat.lt_or_ge p' 4602678819172646912 with h | h
  ·have:=mg_lt (f:=double) h;rw [mg_half] at this;omega
  ·exact h
 ·rcases Nat.lt_or_ge 4609434218613702656 p' with h | h
  ·have:=mg_lt (f:=double) h;rw [mg_more] at this;omega
  ·exact h
 ·intro h0;have:=o (by omega) h0;rcases Nat.lt_or_ge p' 4607182418800017408 with h | h
  ·have:=mg_lt (f:=double) h;rw [show mg double 4607182418800017408=U from mg_one64] at this;omega
  ·exact h
theorem mg_shift {c:Nat} (k:Nat) (h:4503599627370496≤c):mg double (c+k * 4503599627370496)=mg double c * pw k:=by
 have h1:(c+k * 4503599627370496) / 4503599627370496=c / 4503599627370496+k:=by omega
 have h2:(c+k * 4503599627370496) % 4503599627370496=c % 4503599627370496:=by omega
 rw [mg_high (by rw [binD];omega),mg_high (r:=c) (by rw [binD];omega),binD,h1,h2];have h3:c / 4503599627370496+k - 1=(c / 4503599627370496 - 1)+k:=by omega
 rw [h3,pw_add];exact (Nat.mul_assoc _ _ _).symm
theorem mul_word {w z c:Nat} (hw:w < 9218868437227405312) (hz:z < 9218868437227405312) (hc:c < 9218868437227405312) (h:mg double w * mg double z=mg double c * U):double.mul w z=some c:=by
 obtain ⟨w1,w2,w3⟩:=small_word (w:=w) (by omega);obtain ⟨z1,z2,z3⟩:=small_word (w:=z) (by omega);obtain ⟨c1,c2,c3⟩:=small_word (w:=c) (by omega);have fw:fin double w=true:=by simp only [fin,w1,infD,decide_eq_true_eq];exact hw
 have fz:fin double z=true:=by simp only [fin,z1,infD,decide_eq_true_eq];exact hz
 have fc:fin double c=true:=by simp only [fin,c1,infD,decide_eq_true_eq];exact hc
 obtain ⟨r,e,hr,hs⟩:=dmul fw fz;rw [w3,z3] at hr;have hv:sv double r=sv double c:=hr.exact (nan_of_fin fc) (by rw [c3];exact_mod_cast h);rw [w2,z2] at hs;have hwd:2 ^ double.width=18446744073709551616:=by decide
 have:r=c:=word_ext hr.lt (by rw [hwd];omega) (by rw [hs,c2];rfl) hv;rw [e,this]
theorem mg_pow2 {e:Nat} (h:1≤e):mg double (e * 4503599627370496)=pw (52+(e - 1)):=by
 have h1:e * 4503599627370496 / 4503599627370496=e:=by omega
 have h2:e * 4503599627370496 % 4503599627370496=0:=by omega
 rw [mg_high (by rw [binD];omega),binD,h1,h2];rw [Nat.add_zero,←pw52,pw_eq (e - 1)];exact (pw_mul 52 (e - 1) _ rfl).symm
theorem mul_places {p:Nat} {K:Int} (hp1:4602678819172646912≤p) (hp2:p≤4609434218613702656) (h1:-152≤K) (h2:K≤130) :
  double.mul p ((K+1023).toNat * 4503599627370496)=some ((p:Int)+K * 4503599627370496).toNat:=by
 refine mul_word (by omega) (by omega) (by omega) ?_;rw [mg_pow2 (by omega)];rcases (by omega:0≤K∨K < 0) with h | h
 ·obtain ⟨k,rfl⟩:=Int.eq_ofNat_of_zero_le h;have e:((p:Int)+(k:Int) * 4503599627370496).toNat=p+k * 4503599627370496:=by omega
  rw [e,mg_shift k (by omega),Nat.mul_assoc]
  congr 1
  refine Eq.trans ?_ (Nat.mul_comm _ _);unfold U;refine pw_mul 1074 k _ (by omega)
 ·have e:p=((p:Int)+K * 4503599627370496).toNat+(-K).toNat * 4503599627370496:=by omega
  have hm:=mg_shift (c:=((p:Int)+K * 4503599627370496).toNat) (-K).toNat (by omega);rw [←e] at hm;rw [hm,Nat.mul_assoc]
  congr 1
  unfold U;refine (pw_mul (-K).toNat (52+((K+1023).toNat - 1)) 1074 (by omega)).symm
end Fl
end
section
namespace Fl
open Ieee
attribute [local irreducible] pw U T P925 V1
theorem infS:single.infRung=2139095040:=by decide
theorem swS:single.signWeight=2147483648:=by decide
theorem binS:single.binade=8388608:=by decide
theorem near_le_half {f:Format} {mag:Nat} {place:Int} {c:Nat} (hm:mag≠0)
    (h:2 * (mag * 2 ^ (place - f.leastPlace).toNat) < (mg f c+mg f (c+1)) * 2 ^ (f.leastPlace - place).toNat):rnd f mag place≤c:=by
  have hB:=binade_pos f;by_cases hle:mag * 2 ^ (place - f.leastPlace).toNat≤mg f c * 2 ^ (f.leastPlace - place).toNat
  · exact rnd_le hle
  have h1:2 ^ mag.log2≤mag:=Nat.log2_self_le hm;have h2:mag < 2 ^ (mag.log2+1):=Nat.lt_log2_self;unfold rnd;rw [if_neg hm];generalize mag.log2=lg at *
  let last:=max (place+lg - f.fractionBits) f.leastPlace
  have hlast:last=max (place+lg - f.fractionBits) f.leastPlace:=rfl;show min ((last - f.leastPlace).toNat * f.binade+Toward.even.cut false (mag <<< (place - last).toNat) (last - place).toNat) f.infRung≤c;generalize hE:(last - f.leastPlace).toNat=E;generalize hu:(place - last).toNat=u;generalize hd:(last - place).toNat=dn;generalize ha:(place - f.leastPlace).toNat=a at *;generalize hq:(f.leastPlace - place).toNat=d at *;have hbin:f.binade=2 ^ f.fractionBits:=rfl;generalize hfb:f.fractionBits=fb at *;have hpw:2 ^ u * (2 ^ E * 2 ^ d)=2 ^ dn * 2 ^ a:=by
    rw [←Nat.pow_add,←Nat.pow_add,←Nat.pow_add]
    congr 1
    omega
  have hpE:0 < 2 ^ E * 2 ^ d:=Nat.mul_pos (Nat.two_pow_pos _) (Nat.two_pow_pos _);have hlt:mag * 2 ^ a < 2 * f.binade * (2 ^ E * 2 ^ d):=by
    rw [hbin];have h3:mag * 2 ^ a < 2 ^ (lg+1) * 2 ^ a:=Nat.mul_lt_mul_of_pos_right h2 (Nat.two_pow_pos _);refine Nat.lt_of_lt_of_le h3 ?_;rw [show 2 * 2 ^ fb * (2 ^ E * 2 ^ d)=2 ^ (fb+1+(E+d)) from by
      rw [Nat.pow_add,Nat.pow_add 2 E d,Nat.pow_succ];ac_rfl,←Nat.pow_add]
    exact Nat.pow_le_pow_right (by decide) (by omega)
  have hge:E=0∨f.binade * (2 ^ E * 2 ^ d)≤mag * 2 ^ a:=by
    by_cases h0:E=0
    · exact Or.inl h0
    · right
      rw [hbin];have h3:2 ^ lg * 2 ^ a≤mag * 2 ^ a:=Nat.mul_le_mul_right _ h1;refine Nat.le_trans ?_ h3;rw [←Nat.pow_add,←Nat.pow_add,←Nat.pow_add];exact Nat.pow_le_pow_right (by decide) (by omega)
  have half:∀ N,2 * (mag * 2 ^ a) < (2 * N+1) * (2 ^ E * 2 ^ d)→Toward.even.cut false (mag <<< u) dn≤N:=by
    intro N hN;refine cut_le_half ?_;rw [Nat.shiftLeft_eq];refine Nat.lt_of_mul_lt_mul_right (a:=2 ^ E * 2 ^ d) ?_
    calc 2 * (mag * 2 ^ u) * (2 ^ E * 2 ^ d)=2 ^ dn * (2 * (mag * 2 ^ a)):=by
          rw [show 2 * (mag * 2 ^ u) * (2 ^ E * 2 ^ d)=2 * mag * (2 ^ u * (2 ^ E * 2 ^ d)) by ac_rfl,hpw];ac_rfl
      _ < 2 ^ dn * ((2 * N+1) * (2 ^ E * 2 ^ d)):=Nat.mul_lt_mul_of_pos_left hN (Nat.two_pow_pos _)
      _=(2 * N+1) * 2 ^ dn * (2 ^ E * 2 ^ d):=by ac_rfl
  have hk2:Toward.even.cut false (mag <<< u) dn≤2 * f.binade:=half _ (by
    have:(2 * (2 * f.binade)+1) * (2 ^ E * 2 ^ d)=2 * (2 * f.binade * (2 ^ E * 2 ^ d))+2 ^ E * 2 ^ d:=by rw [Nat.add_mul,Nat.mul_assoc];simp
    omega)
  refine Nat.le_trans (Nat.min_le_left _ _) ?_;have hDp:0 < 2 ^ d:=Nat.two_pow_pos _;by_cases hlow:c < f.binade
  · have hc1:mg f (c+1)=c+1:=by
      by_cases h9:c+1 < f.binade
      · exact mg_low h9
      · have h8:c+1=f.binade:=by omega
        rw [mg_high (by omega),h8,Nat.div_self hB,Nat.mod_self];simp
    rw [mg_low hlow,hc1] at h;rcases hge with h0 | h0
    · subst h0
      have:=half c (by rw [Nat.pow_zero,Nat.one_mul];rw [show c+(c+1)=2 * c+1 by omega] at h;exact h);omega
    · exfalso
      have h3:f.binade * 2 ^ d≤f.binade * (2 ^ E * 2 ^ d):=Nat.mul_le_mul_left _ (Nat.le_mul_of_pos_left _ (Nat.two_pow_pos _));have h4:(c+(c+1)) * 2 ^ d≤2 * (f.binade * 2 ^ d):=by
        rw [←Nat.mul_assoc];exact Nat.mul_le_mul_right _ (by omega)
      omega
  · have hcb:f.binade≤c:=by omega
    have hdm:=Nat.div_add_mod c f.binade;have hmod:=Nat.mod_lt c hB;have hq1:1≤c / f.binade:=(Nat.le_div_iff_mul_le hB).2 (by omega);have hc1:mg f (c+1)=(f.binade+c % f.binade+1) * 2 ^ (c / f.binade - 1):=by
      by_cases h9:c % f.binade+1 < f.binade
      · have e1:(c+1) / f.binade=c / f.binade:=by
          refine Nat.div_eq_of_lt_le ?_ ?_
          · rw [Nat.mul_comm];omega
          · rw [Nat.succ_mul,Nat.mul_comm (c / f.binade)];omega
        have e2:(c+1) % f.binade=c % f.binade+1:=by
          have:=Nat.div_add_mod (c+1) f.binade;rw [e1] at this;omega
        rw [mg_high (by omega),e1,e2];rfl
      · have h8:c+1=f.binade * (c / f.binade+1):=by rw [Nat.mul_add];omega
        have e1:(c+1) / f.binade=c / f.binade+1:=by rw [h8];exact Nat.mul_div_cancel_left _ hB
        have e2:(c+1) % f.binade=0:=by rw [h8];exact Nat.mul_mod_right _ _
        rw [mg_high (by omega),e1,e2,show c / f.binade+1 - 1=(c / f.binade - 1)+1 by omega,Nat.pow_succ,show f.binade+c % f.binade+1=2 * f.binade by omega];simp;ac_rfl
    rw [mg_high hcb,hc1] at h;generalize c / f.binade=q at *;generalize c % f.binade=t at *;rcases Nat.lt_trichotomy E (q - 1) with hlt' | heq | hgt
    · have:(E+2) * f.binade≤q * f.binade:=Nat.mul_le_mul_right _ (by omega)
      have e1:(E+2) * f.binade=E * f.binade+2 * f.binade:=Nat.add_mul _ _ _;have e2:q * f.binade=f.binade * q:=Nat.mul_comm _ _;omega
    · subst heq
      have:=half (f.binade+t) (by
        refine Nat.lt_of_lt_of_eq h ?_;rw [←Nat.add_mul,Nat.mul_assoc];congr 1;omega)
      have e1:f.binade * q=(q - 1) * f.binade+f.binade:=by
        rw [Nat.mul_comm,←Nat.succ_mul];congr 1;omega
      omega
    · rcases hge with h0 | h0
      · omega
      · exfalso
        have h3:2 ^ (q - 1+1)≤2 ^ E:=Nat.pow_le_pow_right (by decide) (by omega);have h4:f.binade * (2 ^ (q - 1+1) * 2 ^ d)≤f.binade * (2 ^ E * 2 ^ d):=Nat.mul_le_mul_left _ (Nat.mul_le_mul_right _ h3);have h5:((f.binade+t) * 2 ^ (q - 1)+(f.binade+t+1) * 2 ^ (q - 1)) * 2 ^ d≤2 * (f.binade * (2 ^ (q - 1+1) * 2 ^ d)):=by
          rw [←Nat.add_mul,Nat.pow_succ]
          calc (f.binade+t+(f.binade+t+1)) * 2 ^ (q - 1) * 2 ^ d≤4 * f.binade * 2 ^ (q - 1) * 2 ^ d:=Nat.mul_le_mul_right _ (Nat.mul_le_mul_right _ (by omega))
            _=2 * (f.binade * (2 ^ (q - 1) * 2 * 2 ^ d)):=by
                rw [show 4=2 * 2 from rfl];ac_rfl
        omega
theorem isNaN_write {f:Format} {d:Datum} (h:d.isNaN=false):isNaN f (f.write d)=false∧f.write d < 2 ^ f.width:=by
 refine ⟨?_,f.write_lt d⟩;cases d with
 | number s m p=>simp only [Format.write,nearest_eq];exact isNaN_word (rnd_le_inf _ _ _)
 | infinity s=>exact isNaN_word (Nat.le_refl _)
 | nan s t=>cases h
theorem read_notNaN {f:Format} (hf:f.binade≤f.infRung) {w:Nat} (h:isNaN f w=false):(f.read w).isNaN=false:=by
 rcases Nat.lt_or_eq_of_le (le_inf_of h) with h1 | h1
 ·obtain ⟨m,p,e,_,_⟩:=read_fin h1;rw [e];rfl
 ·rw [read_inf hf h1];rfl
theorem inf_of {f:Format} {w:Nat} (hn:isNaN f w=false) (hf:fin f w=false):rung f w=f.infRung:=by
 have h1:=le_inf_of hn;have h2:¬ rung f w < f.infRung:=by simpa [fin] using hf
 omega
def canon (b:Nat):Int:=if isNaN single b then 2143289344 else (b:Int)
def cnO (o:Option Nat):Int:=match o with | some r=>(r:Int) | none=>2143289344
theorem canon_ar (op:BinOp) (x y:Nat) (w:World) (h:∀ r,floatBits op .f32 x y=some r→isNaN single r=false):canon (ar op .f32 x y w)=cnO (floatBits op .f32 x y):=by
 unfold ar;cases e:floatBits op .f32 x y with
 | some r=>simp [orNan,canon,h r e,cnO]
 | none =>
  have:=nanBy_bits w .f32 x y;have h2:isNaN single (nanBy w (.nanBits .f32 x y))=true:=this;simp [orNan,canon,h2,cnO]
theorem map_write_notNaN {f:Format} {o:Option Datum} (h:∀ d,o=some d→d.isNaN=false) {r:Nat} (e:o.map f.write=some r):isNaN f r=false∧r < 2 ^ f.width:=by
 cases o with
 | none=>cases e
 | some d=>simp only [Option.map_some,Option.some.injEq] at e;subst e;exact isNaN_write (h d rfl)
theorem sum_notNaN (a b:Datum):∀ d,a.sum b=some d→d.isNaN=false:=by
 intro d h;cases a<;>cases b<;>simp only [Datum.sum,reduceCtorEq] at h
 all_goals first
  | (cases h;rfl)
  | (split at h<;>cases h;rfl)
theorem product_notNaN (a b:Datum):∀ d,a.product b=some d→d.isNaN=false:=by
 intro d h;cases a<;>cases b<;>simp only [Datum.product,reduceCtorEq] at h
 all_goals first
  | (cases h;rfl)
  | (split at h<;>cases h;rfl)
theorem quotient_notNaN (n:Nat) (a b:Datum):∀ d,a.quotient n b=some d→d.isNaN=false:=by
  intro d h;cases a<;>cases b<;>simp only [Datum.quotient,reduceCtorEq] at h
  all_goals first
    | (cases h;rfl)
    | (split at h
       · split at h<;>cases h;rfl
       · cases h;rfl)
theorem root_notNaN (n:Nat) (a:Datum):∀ d,a.root n=some d→d.isNaN=false:=by
 intro d h;cases a<;>simp only [Datum.root,reduceCtorEq] at h
 ·split at h
  ·cases h;rfl
  ·split at h<;>cases h;rfl
 ·split at h<;>cases h;rfl
theorem floatBits_notNaN {op:BinOp} {k:FloatKind} {x y r:Nat} (h:floatBits op k x y=some r):isNaN k.format r=false∧r < 2 ^ k.format.width:=by
 unfold floatBits at h;split at h
 ·exact map_write_notNaN (sum_notNaN _ _) h
 ·exact map_write_notNaN (sum_notNaN _ _) h
 ·exact map_write_notNaN (product_notNaN _ _) h
 ·exact map_write_notNaN (quotient_notNaN _ _ _) h
 ·cases h
theorem canon_ar' (op:BinOp) (x y:Nat) (w:World):canon (ar op .f32 x y w)=cnO (floatBits op .f32 x y) :=
 canon_ar op x y w fun _ h=>(floatBits_notNaN h).1
theorem ar_lt (op:BinOp) (x y:Nat) (w:World):ar op .f32 x y w < 4294967296:=by
 unfold ar;cases e:floatBits op .f32 x y with
 | some r=>exact (floatBits_notNaN (k:=.f32) e).2
 | none =>
  show nanBy w (.nanBits .f32 x y) < _;have h:(nanBy w (.nanBits .f32 x y))=(w.tape w.drawn (.nanBits .f32 x y) % 2) * 2 ^ 31+0x7f800000+1+(w.tape w.drawn (.nanBits .f32 x y) / 2) % (2 ^ 23 - 1):=rfl;rw [h];generalize w.tape w.drawn (.nanBits .f32 x y)=t;have h1:t % 2=0∨t % 2=1:=by omega
  have h2:=Nat.mod_lt (t / 2) (show 2 ^ 23 - 1 > 0 by decide);generalize t / 2 % (2 ^ 23 - 1)=u at *;rcases h1 with h | h<;>rw [h]<;>omega
theorem floatBits_nan {op:BinOp} {k:FloatKind} {x y:Nat} (h:isNaN k.format x=true∨isNaN k.format y=true):floatBits op k x y=none:=by
 have hf:=okK k;unfold floatBits;rcases h with h | h
 ·split<;>try rfl
  all_goals simp only [Format.add,Format.sub,Format.mul,Format.div,read_nan hf h]
  all_goals (cases k.format.read y<;>rfl)
 ·split<;>try rfl
  all_goals simp only [Format.add,Format.sub,Format.mul,Format.div,read_nan hf h]
  all_goals (cases k.format.read x<;>rfl)
theorem isNaN_ar_none {op:BinOp} {k:FloatKind} {x y:Nat} {w:World} (h:floatBits op k x y=none):isNaN k.format (ar op k x y w)=true:=by
 unfold ar;rw [h];exact nanBy_bits w k x y
theorem ord_nan {f:Format} (hf:f.binade≤f.infRung) {a b:Nat} (h:isNaN f a=true∨isNaN f b=true):f.order a b=none:=by
 rcases h with h | h
 ·exact order_nan_left hf h
 ·exact order_nan_right hf h
theorem ord_lt {f:Format} (hf:f.binade≤f.infRung) {a b:Nat} (ha:isNaN f a=false) (hb:isNaN f b=false):(f.order a b==some .lt)=decide (sv f a < sv f b):=by
 rw [order_eq hf ha hb];rcases Int.lt_trichotomy (sv f a) (sv f b) with h | h | h
 ·rw [Int.compare_eq_lt.2 h];simp [h]
 ·rw [h];simp
 ·rw [Int.compare_eq_gt.2 h];simp;omega
theorem ord_gt {f:Format} (hf:f.binade≤f.infRung) {a b:Nat} (ha:isNaN f a=false) (hb:isNaN f b=false):(f.order a b==some .gt)=decide (sv f b < sv f a):=by
 rw [order_eq hf ha hb];rcases Int.lt_trichotomy (sv f a) (sv f b) with h | h | h
 ·rw [Int.compare_eq_lt.2 h];simp;omega
 ·rw [h];simp
 ·rw [Int.compare_eq_gt.2 h];simp [h]
theorem ord_eq {f:Format} (hf:f.binade≤f.infRung) {a b:Nat} (ha:isNaN f a=false) (hb:isNaN f b=false):(f.order a b==some .eq)=decide (sv f a=sv f b):=by
 rw [order_eq hf ha hb];rcases Int.lt_trichotomy (sv f a) (sv f b) with h | h | h
 ·rw [Int.compare_eq_lt.2 h];simp;omega
 ·rw [h];simp
 ·rw [Int.compare_eq_gt.2 h];simp;omega
theorem ord_self {f:Format} (hf:f.binade≤f.infRung) (a:Nat):(f.order a a != some .eq)=isNaN f a:=by
 cases h:isNaN f a
 ·rw [order_eq hf h h];simp
 ·rw [order_nan_left hf h];rfl
end Fl
end
section
namespace Fl
open Ieee
def maxD:Nat:=(2 ^ 24 - 1) * pw 1178
theorem mg_maxS:mg single 2139095039 * P925=maxD:=by kernel_rfl
theorem mg_maxS1:(mg single 2139095039+mg single 2139095040) * P925=(2 ^ 25 - 1) * pw 1178:=by kernel_rfl
theorem mg_infS:mg single 2139095040 * P925=2 ^ 24 * pw 1178:=by kernel_rfl
theorem mg_max_pw:maxD≤mg double 5183643170566569984:=Nat.le_of_ble_eq_true (by kernel_rfl)
theorem mg_max_pw':mg double 5183643170566569984≤maxD:=Nat.le_of_ble_eq_true (by kernel_rfl)
theorem mg_huge:2 * mg double 5183643170835005440=(2 ^ 25 - 1) * pw 1178:=by kernel_rfl
theorem P925_U:V1 * P925=U:=U_V1.symm
theorem pw24:2 ^ 24=pw 24:=rfl
theorem lt_of_pw {a b:Nat} (h:pw a < pw b):a < b:=(Nat.pow_lt_pow_iff_right (by decide)).1 h
theorem v149 (a:Nat):2 ^ (a+149)=2 ^ a * V1:=pw_add a 149
attribute [local irreducible] pw U T P925 V1 maxD
theorem wide_nan {x:Nat} {w:World} (h:isNaN single x=true):isNaN double (wide x w)=true:=by
 unfold wide widen;rw [h];exact nanBy_conv w .f64 x
theorem wide_val {x:Nat} (w:World) (h:isNaN single x=false):wide x w=double.write (single.read x)∧wideW x w=w:=by
 unfold wide wideW widen;rw [h];exact ⟨rfl,rfl⟩
theorem wide_notNaN {x:Nat} (h:isNaN single x=false):isNaN double (double.write (single.read x))=false∧double.write (single.read x) < 2 ^ double.width :=
 isNaN_write (read_notNaN okS h)
theorem narrow_units {c m:Nat} {p:Int} (hp:double.leastPlace≤p) (hg:m * 2 ^ (p - double.leastPlace).toNat=mg double (rung double c)) :
  m * 2 ^ (p - single.leastPlace).toNat * P925=mg double (rung double c) * 2 ^ (single.leastPlace - p).toNat:=by
 rw [dL] at hp hg;rw [sL,←hg];have e:2 ^ (p - -149).toNat * P925=2 ^ (p - -1074).toNat * 2 ^ (-149 - p).toNat:=by
  rw [←p925,←Nat.pow_add];congr 1;omega
 calc m * 2 ^ (p - -149).toNat * P925=m * (2 ^ (p - -149).toNat * P925):=Nat.mul_assoc _ _ _
  _=_:=by rw [e];ac_rfl
theorem narrow_below {c:Nat} (hf:fin double c=true) (h:2 * mg double (rung double c) < (2 ^ 25 - 1) * pw 1178):(single.read (single.write (double.read c))).isInfinity=false:=by
 obtain ⟨m,p,e,hp,hg⟩:=read_fin (fin_lt hf);rw [e];simp only [Format.write,nearest_eq];have hu:=narrow_units hp hg;have hr:rnd single m p≤2139095039:=by
  by_cases hm:m=0
  ·unfold rnd;rw [if_pos hm];omega
  ·refine near_le_half hm ?_;refine Nat.lt_of_mul_lt_mul_right (a:=P925) ?_;rw [Nat.mul_assoc,hu,Nat.mul_right_comm,mg_maxS1,←Nat.mul_assoc];exact Nat.mul_lt_mul_of_pos_right h (Nat.two_pow_pos _)
 have hw:=rung_word (f:=single) (neg:=sgn double c) (r:=rnd single m p) (rnd_lt _ _ _);obtain ⟨m',p',e',_,_⟩:=read_fin (f:=single) (w:=single.word (sgn double c) (rnd single m p)) (by rw [hw,infS];omega);rw [e'];rfl
theorem narrow_nan {x:Nat} {w:World} (h:isNaN double x=true):isNaN single (narrow x w)=true:=by
 unfold narrow;rw [if_pos h];exact nanBy_conv w .f32 x
def Back (x:Nat):Prop:=isNaN double x=false∧(fin double x=true→(single.read (single.write (double.read x))).isInfinity=false)
theorem narrow_val {x:Nat} (w:World) (h:Back x):narrow x w=single.write (double.read x)∧narrowW x w=w:=by
 obtain ⟨h1,h2⟩:=h;unfold narrow narrowW;rw [h1];cases hf:fin double x
 ·simp
 ·rw [h2 hf];simp
theorem back_of_fin {x:Nat} (hf:fin double x=true) (h:2 * mg double (rung double x) < (2 ^ 25 - 1) * pw 1178):Back x :=
 ⟨nan_of_fin hf,fun _=>narrow_below hf h⟩
theorem back_of_inf {x:Nat} (hn:isNaN double x=false) (h:fin double x=false):Back x:=⟨hn,fun h'=>by rw [h] at h';cases h'⟩
theorem canon_narrow {x:Nat} (w:World) (h:Back x):canon (narrow x w)=(single.write (double.read x):Int):=by
 rw [(narrow_val w h).1];unfold canon;rw [(isNaN_write (f:=single) (read_notNaN okD h.1)).1];rfl
theorem nanBy_conv_lt (w:World) (x:Nat):nanBy w (.nanConv .f32 x) < 4294967296:=by
 have h:(nanBy w (.nanConv .f32 x))=(w.tape w.drawn (.nanConv .f32 x) % 2) * 2 ^ 31+0x7f800000+1+(w.tape w.drawn (.nanConv .f32 x) / 2) % (2 ^ 23 - 1):=rfl;rw [h];generalize w.tape w.drawn (.nanConv .f32 x)=t;have h1:t % 2=0∨t % 2=1:=by omega
 have h2:=Nat.mod_lt (t / 2) (show 2 ^ 23 - 1 > 0 by decide);generalize t / 2 % (2 ^ 23 - 1)=u at *;rcases h1 with h | h<;>rw [h]<;>omega
theorem narrow_lt (x:Nat) (w:World):narrow x w < 4294967296:=by
 unfold narrow;split
 ·exact nanBy_conv_lt w x
 ·split
  ·show (w.tape w.drawn (.floatToFloat x)) % 2 ^ 32 < _;have:=Nat.mod_lt (w.tape w.drawn (.floatToFloat x)) (show 2 ^ 32 > 0 by decide);omega
  ·exact single.write_lt _
theorem rootFrom_lt (n:Nat):∀ todo root,Datum.rootFrom n todo root < root+2 ^ todo:=by
 intro todo
 induction todo with
 | zero=>intro root;simp [Datum.rootFrom]
 | succ k ih =>
  intro root;simp only [Datum.rootFrom,Nat.shiftLeft_eq,Nat.one_mul];have hp:2 ^ (k+1)=2 ^ k+2 ^ k:=by rw [Nat.pow_succ];omega
  have hpp:=Nat.two_pow_pos k;split
  ·have:=ih (root+2 ^ k);omega
  ·have:=ih root;omega
theorem sqrt_back {v r:Nat} (hv:isNaN single v=false) (h:double.sqrt (double.write (single.read v))=some r):Back r:=by
 have hn:isNaN double r=false:=(map_write_notNaN (f:=double) (root_notNaN _ _) h).1;cases hf:fin single v
 ·-- an infinity
  have hi:=inf_of hv hf;have e:single.read v=.infinity (sgn single v):=read_inf okS hi;have e2:double.read (double.write (single.read v))=.infinity (sgn single v):=by
   rw [e];have h1:double.write (.infinity (sgn single v))=double.word (sgn single v) double.infRung:=rfl;have h2:sgn double (double.word (sgn single v) double.infRung)=sgn single v:=sgn_word double.infRung_lt;rw [h1,read_inf okD (rung_word double.infRung_lt),h2]
  unfold Format.sqrt at h;rw [e2] at h;cases hs:sgn single v
  ·rw [hs] at h;simp only [Datum.root,Bool.false_eq_true,if_false,Option.map_some,Option.some.injEq] at h;subst h;refine back_of_inf hn ?_;have:rung double (double.write (.infinity false))=double.infRung:=rung_word double.infRung_lt;simp [fin,this]
  ·rw [hs] at h;simp [Datum.root] at h
 ·obtain ⟨f1,f2,f3,f4⟩:=wide_eq hf;obtain ⟨m,p,e,hp,hg,hm⟩:=read_fin' (fin_lt f1);unfold Format.sqrt at h;rw [e] at h;simp only [Datum.root] at h;by_cases h0:m=0
  ·rw [if_pos h0] at h;simp only [Option.map_some,Option.some.injEq] at h;subst h;subst h0;have hr:double.write (.number (sgn double (double.write (single.read v))) 0 p)=double.word (sgn double (double.write (single.read v))) 0:=by
    simp only [Format.write,nearest_eq];unfold rnd;rw [if_pos rfl]
   rw [hr];have hz:rung double (double.word (sgn double (double.write (single.read v))) 0)=0:=rung_word (signWeight_pos _);refine back_of_fin (by simp [fin,hz,infD]) ?_;rw [hz,mg_zero];exact Nat.mul_pos (by decide) (pw_pos _)
  ·rw [if_neg h0] at h;cases hs:sgn double (double.write (single.read v))
   ·rw [hs] at h;simp only [Bool.false_eq_true,if_false,Option.map_some,Option.some.injEq,Nat.shiftLeft_eq] at h;have hlog:m < 2 ^ (m.log2+1):=Nat.lt_log2_self;have hfb:double.fractionBits=52:=rfl;rw [hfb] at h;generalize hmore:2 * (52+2) - m.log2+((p - (2 * (52+2) - m.log2:Nat)) % 2).toNat=more at h;generalize hn':m * 2 ^ more=n at h;have hw:=rootFrom_lt n (n.log2 / 2+1) 0;rw [Nat.zero_add] at hw;generalize hwh:Datum.rootFrom n (n.log2 / 2+1) 0=whole at h hw;generalize hQ:2 * whole+(whole * whole != n).toNat=Q at h;have hQl:Q < 2 ^ (n.log2 / 2+2):=by
     have:=Bool.toNat_le (whole * whole != n);rw [show n.log2 / 2+2=(n.log2 / 2+1)+1 from rfl,Nat.pow_succ];omega
    have hn0:n≠0:=by
     rw [←hn'];exact Nat.mul_ne_zero h0 (Nat.ne_of_gt (Nat.two_pow_pos _))
    have hnl:n.log2 < m.log2+1+more:=by
     rw [Nat.log2_lt hn0,←hn',Nat.pow_add];exact Nat.mul_lt_mul_of_pos_right hlog (Nat.two_pow_pos _)
    have hbig:m.log2+(p+1074).toNat < 1202:=by
     have h1:2 ^ m.log2≤m:=Nat.log2_self_le h0;have h2:pw (m.log2+(p+1074).toNat) < pw 1202:=by
      have h3:pw (m.log2+(p+1074).toNat)≤m * 2 ^ (p+1074).toNat:=by rw [←pw_eq,Nat.pow_add];exact Nat.mul_le_mul_right _ h1
      have h4:m * 2 ^ (p+1074).toNat=mg double (rung double (double.write (single.read v))):=by
       rw [←hg,dL,Int.sub_neg]
      have h5:mg double (rung double (double.write (single.read v)))=mg single (rung single v) * P925:=by
       rw [←sv_natAbs,f2,Int.natAbs_mul,sv_natAbs];simp
      have h6:mg single (rung single v) * P925 < mg single 2139095040 * P925:=Nat.mul_lt_mul_of_pos_right (mg_lt (by have:=fin_lt hf;rw [infS] at this;exact this)) p925_pos;rw [mg_infS] at h6;have h7:2 ^ 24 * pw 1178=pw 1202:=by rw [pw24];exact (pw_mul 24 1178 1202 (by decide)).symm
      rw [h7] at h6;omega
     exact lt_of_pw h2
    have hle:rnd double Q ((p - more) / 2 - 1)≤4899916394579099648:=by
     refine rnd_le ?_;have hmg:mg double 4899916394579099648=pw 1139:=by
      have:=mg_pow2 (e:=1088) (by decide);exact this
     rw [hmg,dL];have h1:Q * 2 ^ ((p - more) / 2 - 1 - -1074).toNat≤2 ^ (n.log2 / 2+2) * 2 ^ ((p - more) / 2 - 1 - -1074).toNat:=Nat.mul_le_mul_right _ (Nat.le_of_lt hQl);refine Nat.le_trans h1 ?_;rw [←Nat.pow_add];have h2:pw 1139 * 2 ^ (-1074 - ((p - more) / 2 - 1)).toNat=pw (1139+(-1074 - ((p - more) / 2 - 1)).toNat):=by
      rw [pw_eq (-1074 - ((p - more) / 2 - 1)).toNat];exact (pw_mul 1139 _ _ rfl).symm
     rw [h2,pw_eq (n.log2 / 2+2+((p - more) / 2 - 1 - -1074).toNat)];refine pw_le ?_;rw [dL] at hp;omega
    have hr:r=double.word false (rnd double Q ((p - more) / 2 - 1)):=by
     rw [←h];simp only [Format.write,nearest_eq]
    have hrr:rung double r=rnd double Q ((p - more) / 2 - 1):=by rw [hr];exact rung_word (rnd_lt _ _ _)
    refine back_of_fin (by simp [fin,hrr,infD];omega) ?_;rw [hrr];have h3:=mg_le (f:=double) hle;have hmg:mg double 4899916394579099648=pw 1139:=by
     have:=mg_pow2 (e:=1088) (by decide);exact this
    rw [hmg] at h3;have h4:pw 1139≤pw 1178:=pw_le (by decide);have:=pw_pos 1178;omega
   ·rw [hs] at h;simp at h
def sqrtS (v:Nat):Int :=
 if isNaN single v then 2143289344 else
 match double.sqrt (double.write (single.read v)) with
 | none=>2143289344
 | some r=>(single.write (double.read r):Int)
theorem sqrt_nan {x:Nat} (h:isNaN double x=true):double.sqrt x=none:=by
 unfold Format.sqrt;rw [read_nan okD h];rfl
theorem canon_sqrt (v:Nat) (w1 w2 w3:World):canon (narrow (sqrt64 (wide v w1) w2) w3)=sqrtS v:=by
 unfold sqrtS;cases hv:isNaN single v
 ·rw [(wide_val w1 hv).1];cases h:double.sqrt (double.write (single.read v)) with
  | none =>
   have h1:isNaN double (sqrt64 (double.write (single.read v)) w2)=true:=by unfold sqrt64;rw [h];exact nanBy_bits w2 .f64 _ _
   simp [canon,narrow_nan h1]
  | some r =>
   have h1:sqrt64 (double.write (single.read v)) w2=r:=by unfold sqrt64;rw [h];rfl
   rw [h1,canon_narrow w3 (sqrt_back hv h)];simp
 ·have h1:isNaN double (sqrt64 (wide v w1) w2)=true:=by unfold sqrt64;rw [sqrt_nan (wide_nan hv)];exact nanBy_bits w2 .f64 _ _
  simp [canon,narrow_nan h1]
theorem floor_nan {x:Nat} (w:World) (h:isNaN double x=true):isNaN double (floor64 floorQ x w)=true:=by
 unfold floor64;rw [read_nan okD h];simp only;split
 ·exact h
 ·split
  ·exact h
  ·simp only [isNaN,decide_eq_true_eq] at h;have hlt:rung double x < double.signWeight:=Nat.mod_lt _ (signWeight_pos _);have hadd:=double.infRung_add_binade;generalize ht:rung double x - double.infRung=t;have htl:t < 4503599627370496:=by rw [binD] at hadd;omega
   have hq1:double.quiet t < 2 ^ 52:=Nat.or_lt_two_pow htl (by decide);have hq2:2 ^ 51≤double.quiet t:=Nat.right_le_or;simp only [Format.write];have hm:double.quiet t % double.binade=double.quiet t:=Nat.mod_eq_of_lt (by rw [binD];exact hq1);rw [hm];have hr:rung double (double.word (sgn double x) (double.infRung+double.quiet t))=double.infRung+double.quiet t:=rung_word (by rw [←hadd,binD];omega);unfold rung at hr;simp only [isNaN,hr,decide_eq_true_eq];omega
theorem floor_val {x:Nat} (w:World) (h:isNaN double x=false):floor64 floorQ x w=double.write ((double.read x).integral .down)∧floor64W x w=w:=by
 have h1:=read_notNaN okD h;unfold floor64 floor64W;cases e:double.read x with
 | nan s t=>rw [e] at h1;cases h1
 | number s m p=>exact ⟨rfl,rfl⟩
 | infinity s=>exact ⟨rfl,rfl⟩
def floorS (v:Nat):Int :=
 if isNaN single v then 2143289344 else (single.write (double.read (double.write ((double.read (double.write (single.read v))).integral .down))):Int)
theorem floor_wide {v:Nat} (hf:fin single v=true) :
  ∃ k,double.write ((double.read (double.write (single.read v))).integral .down)=k∧k < 2 ^ double.width∧fin double k=true∧sgn double k=sgn single v ∧
   sv double k=(sv single v / (V1:Int)) * (U:Int)∧2 * mg double (rung double k) < (2 ^ 25 - 1) * pw 1178:=by
 obtain ⟨f1,f2,f3,f4⟩:=wide_eq hf;obtain ⟨M,eM,hM⟩:=dfloor f1;rw [f3] at eM hM;have hV:=V1_pos;have hP:=p925_pos;have hU:=U_pos;have eU:(U:Int)=(V1:Int) * (P925:Int):=by rw [←P925_U,Int.natCast_mul]
 have hdiv:sv double (double.write (single.read v)) / (U:Int)=sv single v / (V1:Int):=by
  rw [f2,eU];exact Int.mul_ediv_mul_of_pos_left _ _ (by omega)
 rw [hdiv] at hM;rw [eM];simp only [Format.write];refine ⟨_,rfl,double.nearest_lt _ _ _,?_⟩;have hsg:sgn double (double.nearest (sgn single v) M 0)=sgn single v:=by rw [nearest_eq];exact sgn_word (rnd_lt _ _ _)
 have hR:=rounds_nearest double (sgn single v) M 0;have hz:(double.leastPlace - 0).toNat=0:=by decide
 have hz2:2 ^ ((0:Int) - double.leastPlace).toNat=U:=by rw [←dU];congr 1
 rw [hz,hz2] at hR;have hX:(if sgn single v then -((M * U:Nat):Int) else ((M * U:Nat):Int))=(sv single v / (V1:Int)) * (U:Int):=by
  rw [←hM];cases sgn single v<;>simp [Int.neg_mul]
 rw [hX] at hR;have hb:=sv_natAbs single v;have hmx:mg single (rung single v)≤mg single 2139095039:=mg_le (by have:=fin_lt hf;rw [infS] at this;omega);obtain ⟨a,ha⟩:∃ a,mg single 2139095039=a * V1:=⟨mg single 2139095039 / V1,by
  have:mg single 2139095039 % V1=0:=by kernel_rfl
  exact (Nat.div_mul_cancel (Nat.dvd_of_mod_eq_zero this)).symm⟩
 have hlo:-(a:Int)≤sv single v / (V1:Int):=by
  rw [Int.le_ediv_iff_mul_le (by omega),Int.neg_mul];have:((mg single 2139095039:Nat):Int)=(a:Int) * (V1:Int):=by rw [ha,Int.natCast_mul]
  omega
 have hhi:sv single v / (V1:Int)≤(a:Int):=by
  have h1:sv single v / (V1:Int) < (a:Int)+1:=by
   rw [Int.ediv_lt_iff_lt_mul (by omega),Int.add_mul];have:((mg single 2139095039:Nat):Int)=(a:Int) * (V1:Int):=by rw [ha,Int.natCast_mul]
   omega
  omega
 have haU:(a:Int) * (U:Int)=((maxD:Nat):Int):=by
  rw [eU,←Int.mul_assoc,←Int.natCast_mul,←ha,←Int.natCast_mul,mg_maxS]
 have hmaxw:sv double 5183643170566569984=((maxD:Nat):Int):=by
  rw [(small_word (by decide)).2.2,Nat.le_antisymm mg_max_pw' mg_max_pw]
 have hmaxn:sv double 14407015207421345792=-((maxD:Nat):Int):=by
  have e1:rung double 14407015207421345792=5183643170566569984:=by decide
  have e2:sgn double 14407015207421345792=true:=by decide
  unfold sv;rw [e1,e2,Nat.le_antisymm mg_max_pw' mg_max_pw];rfl
 have b1:=hR.up 5183643170566569984 (by decide) (by
  rw [hmaxw,←haU];simp;exact Int.mul_le_mul_of_nonneg_right hhi (by omega))
 have b2:=hR.down 14407015207421345792 (by decide) (by
  rw [hmaxn,←haU];simp;rw [←Int.neg_mul];exact Int.mul_le_mul_of_nonneg_right hlo (by omega))
 rw [hmaxw] at b1;rw [hmaxn] at b2;have habs:=sv_natAbs double (double.nearest (sgn single v) M 0);have hm2:maxD=(2 ^ 24 - 1) * pw 1178:=by unfold maxD;rfl
 have hp:=pw_pos 1178;have hfin:fin double (double.nearest (sgn single v) M 0)=true:=by
  refine fin_of_abs (Nat.lt_of_le_of_lt (m:=maxD) (by omega) ?_);refine Nat.lt_of_le_of_lt mg_max_pw (mg_lt (by decide))
 refine ⟨hfin,hsg,?_,by omega⟩;by_cases hfew:M < 9007199254740992
 ·obtain ⟨w1,_,_⟩:=dwhole (sgn single v) M (by rw [binD];exact hfew);rw [w1,hM]
 ·-- then the single is whole already
  have hwhole:(V1:Int) ∣ sv single v:=by
   have h8:8388608 * 150≤rung single v:=by
    rcases Nat.lt_or_ge (rung single v) (8388608 * 174) with h9 | h9
    ·exfalso;have h10:=mg_lt (f:=single) h9;have h11:mg single (8388608 * 174)=16777216 * 8388608 * V1:=by kernel_rfl
     have h12:(M:Int)≤16777216 * 8388608:=by
      have hlo2:-(16777216 * 8388608:Int)≤sv single v / (V1:Int):=by
       rw [Int.le_ediv_iff_mul_le (by omega)];omega
      have hhi2:sv single v / (V1:Int) < 16777216 * 8388608:=by
       rw [Int.ediv_lt_iff_lt_mul (by omega)];omega
      cases hs:sgn single v<;>rw [hs] at hM<;>simp at hM<;>omega
     omega
    ·omega
   have h9:V1 ∣ mg single (rung single v):=by
    rw [mg_high (by rw [binS];omega),binS];have h10:2 ^ (rung single v / 8388608 - 1)=2 ^ (rung single v / 8388608 - 150) * V1:=by
     rw [show rung single v / 8388608 - 1=(rung single v / 8388608 - 150)+149 by omega];exact v149 _
    rw [h10,←Nat.mul_assoc];exact Nat.dvd_mul_left _ _
   unfold sv;have h11:(V1:Int) ∣ (mg single (rung single v):Int):=Int.natCast_dvd_natCast.2 h9;cases sgn single v
   ·exact h11
   ·exact Int.dvd_neg.2 h11
  have hex:(sv single v / (V1:Int)) * (U:Int)=sv double (double.write (single.read v)):=by
   rw [eU,←Int.mul_assoc,Int.ediv_mul_cancel hwhole,f2]
  have:=hR.exact (nan_of_fin f1) (by rw [hex];simp);rw [this,←hex]
theorem canon_floor (v:Nat) (w1 w2 w3:World):canon (narrow (floor64 floorQ (wide v w1) w2) w3)=floorS v:=by
 unfold floorS;cases hv:isNaN single v
 ·rw [(wide_val w1 hv).1,(floor_val w2 (wide_notNaN hv).1).1];have hb:Back (double.write ((double.read (double.write (single.read v))).integral .down)):=by
   cases hf:fin single v
   ·have hi:=inf_of hv hf;have e:single.read v=.infinity (sgn single v):=read_inf okS hi;have e2:double.read (double.write (single.read v))=.infinity (sgn single v):=by
     rw [e];have h1:double.write (.infinity (sgn single v))=double.word (sgn single v) double.infRung:=rfl;have h2:sgn double (double.word (sgn single v) double.infRung)=sgn single v:=sgn_word double.infRung_lt;rw [h1,read_inf okD (rung_word double.infRung_lt),h2]
    rw [e2];have h3:double.write ((Datum.infinity (sgn single v)).integral .down)=double.word (sgn single v) double.infRung:=rfl;rw [h3];have h4:rung double (double.word (sgn single v) double.infRung)=double.infRung:=rung_word double.infRung_lt;exact back_of_inf (isNaN_word (Nat.le_refl _)) (by simp [fin,h4])
   ·obtain ⟨k,e,_,hk,_,_,hb⟩:=floor_wide hf;rw [e];exact back_of_fin hk hb
  rw [canon_narrow w3 hb];simp
 ·have h1:=floor_nan w2 (wide_nan (w:=w1) hv);simp [canon,narrow_nan h1]
end Fl
end
section
namespace Fl
open Ieee
theorem sv_one32:sv single 1065353216=(V1:Int):=of_decide_eq_true (by kernel_rfl)
theorem sv_ten32:sv single 1092616192=10 * (V1:Int):=of_decide_eq_true (by kernel_rfl)
theorem sv_89:sv single 1118961664=89 * (V1:Int):=of_decide_eq_true (by kernel_rfl)
theorem sv_105:sv single 3268542464=-105 * (V1:Int):=of_decide_eq_true (by kernel_rfl)
theorem bigS {Y:Int} {e:Nat} (he:e≤149) (hY:Y.natAbs < 16777216):Y.natAbs * 2 ^ e≤mg single single.infRung:=by
 have h1:Y.natAbs * 2 ^ e≤16777216 * pw 149:=Nat.mul_le_mul (Nat.le_of_lt hY) (pw_le he);exact Nat.le_trans h1 sinf_big
theorem pw149:pw 149=V1:=rfl
theorem inf_far:36893488147419103232 * V1≤mg single single.infRung:=Nat.le_of_ble_eq_true (by kernel_rfl)
theorem dinf_far:36893488147419103232 * U≤mg double double.infRung:=Nat.le_of_ble_eq_true (by kernel_rfl)
attribute [local irreducible] pw U T P925 V1 maxD
def exY (v:Nat):Nat:=double.write (single.read v)
def exT1 (v:Nat):Nat:=(double.mul (exY v) cLog).getD 0
def exT2 (v:Nat):Nat:=(double.add (exT1 v) cHalf).getD 0
def exK (v:Nat):Nat:=double.write ((double.read (exT2 v)).integral .down)
def exM (v:Nat):Nat:=(double.mul (exK v) cLn).getD 0
def exR (v:Nat):Nat:=(double.sub (exY v) (exM v)).getD 0
def exN (v:Nat):Int:=((double.read (exK v)).toInt .zero).getD 0
def exC (v:Nat):Nat:=((exP (exR v) 13:Int)+exN v * 4503599627370496).toNat
def expN (v:Nat):Nat :=
 if isNaN single v then v
 else if sv single 1118961664 < sv single v then 2139095040
 else if sv single v < sv single 3268542464 then 0
 else if sv double 5183643170835005440≤sv double (exC v) then 2139095040
 else single.write (double.read (exC v))
theorem head_ex {v:Nat} (_hn:isNaN single v=false) (h1:¬ sv single 1118961664 < sv single v) (h2:¬ sv single v < sv single 3268542464) :
  fin single v=true∧sv double (exY v)=sv single v * (P925:Int)∧fin double (exY v)=true∧Head (exY v) (exT1 v) (exT2 v) (exK v) (exM v) (exR v) (exN v):=by
 rw [sv_89] at h1;rw [sv_105] at h2;have hV:=V1_pos;have hP:=p925_pos;have hf:fin single v=true:=by
  refine fin_of_abs ?_;have h3:200 * V1 < 2 * single.binade * V1:=Nat.mul_lt_mul_of_pos_right (by decide) hV;have h4:=sinf_big;omega
 obtain ⟨f1,f2,f3,f4⟩:=wide_eq hf;have eU:(U:Int)=(V1:Int) * (P925:Int):=by rw [←P925_U,Int.natCast_mul]
 have y1:-105 * (U:Int)≤sv double (exY v):=by
  show _≤sv double (double.write (single.read v));rw [f2,eU,←Int.mul_assoc];exact Int.mul_le_mul_of_nonneg_right (by omega) (by omega)
 have y2:sv double (exY v)≤89 * (U:Int):=by
  show sv double (double.write (single.read v))≤_;rw [f2,eU,←Int.mul_assoc];exact Int.mul_le_mul_of_nonneg_right (by omega) (by omega)
 obtain ⟨t1,t2,k,m,r,K,H⟩:=head_of (y:=exY v) f1 y1 y2;refine ⟨hf,f2,f1,?_⟩;have e1:exT1 v=t1:=by unfold exT1;rw [H.h1];rfl
 have e2:exT2 v=t2:=by unfold exT2;rw [e1,H.h2];rfl
 have e3:exK v=k:=by unfold exK;rw [e2];exact H.hk.symm
 have e4:exM v=m:=by unfold exM;rw [e3,H.h3];rfl
 have e5:exR v=r:=by unfold exR;rw [e4,H.h4];rfl
 have e6:exN v=K:=by
  unfold exN;have hU:=U_pos;rw [e3,dtoInt H.fink,H.hK,Int.mul_tdiv_cancel _ (by omega)]
  rfl
 rw [e1,e2,e3,e4,e5,e6];exact H
structure Tail (v:Nat):Prop where
 p1:4602678819172646912≤exP (exR v) 13
 p2:exP (exR v) 13≤4609434218613702656
 k1:-152≤exN v
 k2:exN v≤130
 cut:∀ w:Nat,w=exC v→((exP (exR v) 13:Int)+exN v * 4503599627370496).toNat=w
 mul:double.mul (exP (exR v) 13) ((exN v+1023).toNat * 4503599627370496)=some (exC v)
 c1:3900000000000000000≤exC v
 c2:exC v≤5200000000000000000
theorem tail_ex {v:Nat} (hn:isNaN single v=false) (h1:¬ sv single 1118961664 < sv single v) (h2:¬ sv single v < sv single 3268542464):Tail v:=by
 obtain ⟨_,_,_,H⟩:=head_ex hn h1 h2;have W:=whole_of H.small;have p1:=W.ge;have p2:=W.le;have k1:=H.least;have k2:=H.most;refine ⟨p1,p2,k1,k2,fun w hw=>hw.symm,mul_places p1 p2 k1 k2,?_,?_⟩
 ·unfold exC;omega
 ·unfold exC;omega
theorem fin_exC {v:Nat} (t:Tail v):fin double (exC v)=true∧rung double (exC v)=exC v∧sv double (exC v)=(mg double (exC v):Int):=by
 have h:=t.c2;obtain ⟨a,b,c⟩:=small_word (w:=exC v) (by omega);exact ⟨by simp only [fin,a,infD,decide_eq_true_eq];omega,a,c⟩
theorem back_exC {v:Nat} (t:Tail v) (h:¬ sv double 5183643170835005440≤sv double (exC v)):Back (exC v):=by
 obtain ⟨a,b,c⟩:=fin_exC t;refine back_of_fin a ?_;rw [b,←mg_huge];rw [c,(small_word (by decide)).2.2] at h;omega
theorem narrow_rounds {c:Nat} (h:fin double c=true):Rounds single (single.write (double.read c)) (sv double c) P925∧sgn single (single.write (double.read c))=sgn double c:=by
 obtain ⟨m,p,e,hp,hg⟩:=read_fin (fin_lt h);have hu:=narrow_units hp hg;rw [e];simp only [Format.write];refine ⟨(rounds_nearest single (sgn double c) m p).scale (Nat.two_pow_pos _) p925_pos ?_,by rw [nearest_eq];exact sgn_word (rnd_lt _ _ _)⟩;generalize m * 2 ^ (p - single.leastPlace).toNat=a at *;generalize 2 ^ (single.leastPlace - p).toNat=d at *;have hu':(a:Int) * (P925:Int)=(mg double (rung double c):Int) * (d:Int):=by exact_mod_cast hu
 unfold sv;cases sgn double c<;>simp [Int.neg_mul,hu']
theorem expN_lt {v:Nat} (hv:v < 4294967296):expN v < 4294967296:=by
 unfold expN;split
 ·exact hv
 ·split
  ·decide
  ·split
   ·decide
   ·split
    ·decide
    ·exact single.write_lt _
theorem expN_nan {v:Nat} (hn:isNaN single v=true):expN v=v:=by unfold expN;rw [if_pos hn]
theorem expN_one {u:Nat} (hn:isNaN single u=false) (h0:0≤sv single u) (h20:sv single u≤20 * (V1:Int)) :
  fin single (expN u)=true∧(V1:Int)≤sv single (expN u)∧sgn single (expN u)=false∧sv single (expN u)≤sv single 1333788672:=by
 have hV:=V1_pos;have hP:=p925_pos;have eU:(U:Int)=(V1:Int) * (P925:Int):=by rw [←P925_U,Int.natCast_mul]
 have g1:¬ sv single 1118961664 < sv single u:=by rw [sv_89];omega
 have g2:¬ sv single u < sv single 3268542464:=by rw [sv_105];omega
 obtain ⟨hf,hy,hfy,H⟩:=head_ex hn g1 g2;have t:=tail_ex hn g1 g2;have W:=whole_of H.small;have hy0:0≤sv double (exY u):=by rw [hy];exact Int.mul_nonneg h0 (by omega)
 obtain ⟨K0,Kr⟩:=H.pos hy0;have K29:=H.ten (by rw [hy,eU,←Int.mul_assoc];exact Int.mul_le_mul_of_nonneg_right h20 (by omega));have p1:=t.p1;have p2:=t.p2;have c1:4607182418800017408≤exC u:=by
  unfold exC;rcases (by omega:exN u=0∨1≤exN u) with h | h
  ·have:=W.one (Kr h);rw [h];omega
  ·omega
 have c2:exC u≤4609434218613702656+29 * 4503599627370496:=by unfold exC;omega
 obtain ⟨a,b,c⟩:=fin_exC t;have g3:¬ sv double 5183643170835005440≤sv double (exC u):=by
  rw [c,(small_word (by decide)).2.2];have:=mg_lt (f:=double) (show exC u < 5183643170835005440 by omega);omega
 have e:expN u=single.write (double.read (exC u)):=by
  unfold expN;rw [hn,if_neg (by decide),if_neg g1,if_neg g2,if_neg g3]
 have hR:=(narrow_rounds a).1;have hs:=(narrow_rounds a).2;rw [←e] at hR hs;have low:(U:Int)≤sv double (exC u):=by
  rw [c,←mg_one64];have:=mg_le (f:=double) c1
  exact_mod_cast this
 have hlow:(1:Int) * (pw 149:Int)≤sv single (expN u):=by
  have h5:=hR.ge 1 149 (by decide) (bigS (by decide) (by decide)) (by rw [pw_eq,pw149,Int.one_mul,←eU];exact low);rw [pw_eq] at h5;exact h5
 rw [pw149] at hlow;have hhigh:sv single (expN u)≤sv single 1333788672:=by
  refine hR.up 1333788672 (by decide) ?_;have h6:sv single 1333788672 * (P925:Int)=((mg double 4751297606875873280:Nat):Int):=of_decide_eq_true (by kernel_rfl);rw [h6,c];have:=mg_le (f:=double) (show exC u≤4751297606875873280 by omega)
  exact_mod_cast this
 refine ⟨fin_of_bounds (by have:=hV;have h7:=sinf_big;have:0≤mg single single.infRung:=Nat.zero_le _;omega) ?_,by omega,?_,hhigh⟩
 ·refine Int.lt_of_le_of_lt hhigh ?_;exact of_decide_eq_true (by kernel_rfl)
 ·rw [hs];exact (small_word (by omega)).2.1
def sigS (v:Nat):Int :=
 match floatBits .add .f32 1065353216 (expN (Op.negFloat .f32 v)) with
 | none=>2143289344
 | some s=>cnO (floatBits .quo .f32 1065353216 s)
def tanE (a:Nat):Nat:=expN ((single.add a a).getD 0)
def tanU (a:Nat):Nat:=(single.sub (tanE a) 1065353216).getD 0
def tanD (a:Nat):Nat:=(single.add (tanE a) 1065353216).getD 0
def tanQ (a:Nat):Nat:=(single.div (tanU a) (tanD a)).getD 0
def tanT (a:Nat):Nat:=if sv single a≤sv single 1092616192 then tanQ a else 1065353216
def tanhS (v:Nat):Int:=if isNaN single v then 2143289344 else ((tanT (v % 2147483648)+v / 2147483648 * 2147483648:Nat):Int)
structure Tan (a:Nat):Prop where
 h1:single.add a a=some ((single.add a a).getD 0)
 nan:isNaN single ((single.add a a).getD 0)=false
 lt:(single.add a a).getD 0 < 4294967296
 h2:single.sub (tanE a) 1065353216=some (tanU a)
 h3:single.add (tanE a) 1065353216=some (tanD a)
 h4:single.div (tanU a) (tanD a)=some (tanQ a)
 qn:isNaN single (tanQ a)=false
 ql:tanQ a < 2147483648
theorem some_getD {o:Option Nat} {r:Nat} (h:o=some r):o=some (o.getD 0):=by rw [h];rfl
theorem lt_of_sgn {w:Nat} (h:w < 2 ^ single.width) (hs:sgn single w=false):w < 2147483648:=by
 have:=word_of h;rw [hs] at this;have h2:w=rung single w:=this;have h3:rung single w < single.signWeight:=Nat.mod_lt _ (signWeight_pos _);rw [swS] at h3;omega
theorem tan_of {a:Nat} (ha:a < 2147483648) (h:sv single a≤sv single 1092616192):Tan a:=by
 have hV:=V1_pos;rw [sv_ten32] at h;have hr:rung single a=a:=by unfold rung;rw [swS];exact Nat.mod_eq_of_lt ha
 have hs:sgn single a=false:=by unfold sgn;rw [swS,Nat.div_eq_of_lt ha];rfl
 have h0:0≤sv single a:=by unfold sv;rw [hs];simp
 have hinf:=sinf_big;rw [binS] at hinf;have hf:fin single a=true:=fin_of_bounds (by omega) (by omega);obtain ⟨u,e1,r1,_⟩:=add_fin hf hf;have u1:0≤sv single u:=by
  have:=r1.ge 0 149 (by decide) (bigS (by decide) (by decide)) (by simp;omega)
  simpa using this
 have u2:sv single u≤20 * (V1:Int):=by
  have:=r1.le 20 149 (by decide) (bigS (by decide) (by decide)) (by rw [pw_eq,pw149];omega);rw [pw_eq,pw149] at this;exact this
 have eu:(single.add a a).getD 0=u:=by rw [e1];rfl
 obtain ⟨x1,x2,x3,hhigh⟩:=expN_one r1.nan u1 u2;have ee:tanE a=expN u:=by unfold tanE;rw [eu]
 have fo:fin single 1065353216=true:=by decide
 have so:sgn single 1065353216=false:=by decide
 obtain ⟨up,e2,r2,s2⟩:=sub_fin x1 fo;obtain ⟨dn,e3,r3,s3⟩:=add_fin x1 fo;rw [sv_one32] at r2 s2 r3 s3;have sup:sgn single up=false:=by
  rw [s2];by_cases hz:sv single (expN u) - (V1:Int)=0
  ·rw [if_pos hz,x3];rfl
  ·rw [if_neg hz];simp;omega
 have sdn:sgn single dn=false:=by
  rw [s3,if_neg (by omega)];simp;omega
 have d1:(1:Int) * (V1:Int)≤sv single dn:=by
  have:=r3.ge 1 149 (by decide) (bigS (by decide) (by decide)) (by rw [pw_eq,pw149];omega);rw [pw_eq,pw149] at this;exact this
 have eup:tanU a=up:=by unfold tanU;rw [ee,e2];rfl
 have edn:tanD a=dn:=by unfold tanD;rw [ee,e3];rfl
 have b31:sv single 1333788672=4294967296 * (V1:Int):=of_decide_eq_true (by kernel_rfl);have b32:sv single 1342177280=8589934592 * (V1:Int):=of_decide_eq_true (by kernel_rfl);have up2:sv single up≤sv single 1342177280:=r2.up _ (by decide) (by rw [b32];omega);have dn2:sv single dn≤sv single 1342177280:=r3.up _ (by decide) (by rw [b32];omega);have up1:0≤sv single up:=by unfold sv;rw [sup];simp
 have big:sv single 1342177280 < (mg single single.infRung:Int):=of_decide_eq_true (by kernel_rfl);have fup:fin single up=true:=fin_of_bounds (by omega) (by omega);have fdn:fin single dn=true:=fin_of_bounds (by omega) (by omega);obtain ⟨q,e4,n4,l4,s4,_⟩:=div_fin sL0 fup fdn (by omega);have eq:tanQ a=q:=by unfold tanQ;rw [eup,edn,e4];rfl
 rw [sup,sdn] at s4;exact ⟨some_getD e1,by rw [eu];exact r1.nan,by rw [eu];exact r1.lt,by rw [ee,eup];exact e2,by rw [ee,edn];exact e3,by rw [eup,edn,eq];exact e4,by rw [eq];exact n4,by rw [eq];exact lt_of_sgn l4 s4⟩
end Fl
end
section
namespace Fl
open Ieee Go.RowKit
def isN (x:Int):Bool:=isNaN single x.toNat
def okF (x:Int):Bool:=decide (0≤x∧x < 4294967296)&&(!isN x || x==2143289344)
def chk (t x:Int):Bool :=
 if t=1 then okF x else if t=6 then decide (-2147483648≤x∧x≤2147483647) else if t=9 then decide (x=0∨x=1) else decide (t=7)
def wholeT (t:Int):Bool:=decide (t=6∨t=7)
def cutT (t x:Int):Int:=if t=6 then wrap32 x else x
def unF (op:List UInt8) (x:Int):Option Int :=
 if op=[78,101,103] then some (if isN x then x else (x+2147483648) % 4294967296)
 else if op=[65,98,115] then some (x % 2147483648)
 else if op=[82,101,108,117] then some (if isN x then x else if 0 < sv single x.toNat then x else 0)
 else if op=[83,113,114,116] then some (sqrtS x.toNat)
 else if op=[70,108,111,111,114] then some (floorS x.toNat)
 else if op=[69,120,112] then some (canon (expN x.toNat))
 else if op=[83,105,103,109,111,105,100] then some (sigS x.toNat)
 else if op=[84,97,110,104] then some (tanhS x.toNat)
 else none
def unR (c wh:Bool) (o:Option Int) (op:List UInt8) (t x y:Int):Int × Int :=
 if c=false then (0,1)
 else if op=[73,100,101,110,116,105,116,121] then (x,0)
 else if op=[78,111,116]∧t=9 then (1 - x,0)
 else if op=[78,101,103]∧wh=true then (y,0)
 else if op=[65,98,115]∧wh=true then (if x < 0 then y else x,0)
 else if t=1 then (match o with | some y=>(y,0) | none=>(0,1))
 else (0,1)
def un (op:List UInt8) (t x:Int):Int × Int:=unR (chk t x) (wholeT t) (unF op x) op t x (cutT t (wrap64 (-x)))
def flg (b:Bool):Int:=if b then 1 else 0
def binF (op:List UInt8) (x y:Int):Option Int :=
 if op=[65,100,100] then some (cnO (floatBits .add .f32 x.toNat y.toNat))
 else if op=[83,117,98] then some (cnO (floatBits .sub .f32 x.toNat y.toNat))
 else if op=[77,117,108] then some (cnO (floatBits .mul .f32 x.toNat y.toNat))
 else if op=[68,105,118] then some (cnO (floatBits .quo .f32 x.toNat y.toNat))
 else if op=[69,113,117,97,108] then some (flg (!isN x && !isN y&&decide (sv single x.toNat=sv single y.toNat)))
 else if op=[76,101,115,115] then some (flg (!isN x && !isN y&&decide (sv single x.toNat < sv single y.toNat)))
 else if op=[71,114,101,97,116,101,114] then some (flg (!isN x && !isN y&&decide (sv single y.toNat < sv single x.toNat)))
 else if op=[77,97,120] then some (if isN x || isN y then 2143289344 else if sv single x.toNat=sv single y.toNat then min x y else if sv single y.toNat < sv single x.toNat then x else y)
 else if op=[77,105,110] then some (if isN x || isN y then 2143289344 else if sv single x.toNat=sv single y.toNat then max x y else if sv single x.toNat < sv single y.toNat then x else y)
 else none
def binI (op:List UInt8) (t x y:Int):Int × Int :=
 if op=[65,100,100] then (cutT t (wrap64 (x+y)),0)
 else if op=[83,117,98] then (cutT t (wrap64 (x - y)),0)
 else if op=[77,117,108] then (cutT t (wrap64 (x * y)),0)
 else if op=[68,105,118] then (if y=0 then (0,7) else if y=-1 then (cutT t (wrap64 (-x)),0) else (x.tdiv y,0))
 else if op=[77,97,120] then (max x y,0)
 else if op=[77,105,110] then (min x y,0)
 else if op=[69,113,117,97,108] then (flg (decide (x=y)),0)
 else if op=[76,101,115,115] then (flg (decide (x < y)),0)
 else if op=[71,114,101,97,116,101,114] then (flg (decide (y < x)),0)
 else (0,1)
def binR (c d wh:Bool) (o:Option Int) (i:Int × Int) (op:List UInt8) (t x y:Int):Int × Int :=
 if c=false∨d=false then (0,1)
 else if wh=true then i
 else if t=1 then (match o with | some z=>(z,0) | none=>(0,1))
 else if op=[65,110,100] then (x * y,0)
 else if op=[79,114] then (max x y,0)
 else if op=[88,111,114] then (flg (decide (x≠y)),0)
 else if op=[69,113,117,97,108] then (flg (decide (x=y)),0)
 else (0,1)
def bin (op:List UInt8) (t x y:Int):Int × Int:=binR (chk t x) (chk t y) (wholeT t) (binF op x y) (binI op t x y) op t x y
def cutF (lo hi top:Int) (v:Nat):Int :=
 if isNaN single v then 0 else if sv single v≤lo * (V1:Int) then lo else if top * (V1:Int)≤sv single v then hi else (sv single v).tdiv (V1:Int)
def toW (t:Int) (v:Nat):Int:=if t=6 then cutF (-2147483648) 2147483647 2147483647 v else cutF (-9223372036854775808) 9223372036854775807 9223372036854775808 v
def cst (a b x:Int):Int × Int :=
 if chk a x=false∨chk b 0=false then (0,1)
 else if a=b then (x,0)
 else if b=9∧a=1 then (flg (decide (x % 2147483648≠0)),0)
 else if b=9 then (flg (decide (x≠0)),0)
 else if b=1 then (canon (floatOfInt .f32 x),0)
 else if a=1 then (toW b x.toNat,0)
 else (cutT b x,0)
theorem xor_top {x:Nat} (_h:x < 4294967296):x ^^^ 2147483648=(x+2147483648) % 4294967296:=by
 have e1:(x ^^^ 2147483648) % 2 ^ 31=x % 2 ^ 31:=by rw [Nat.xor_mod_two_pow];simp
 have e2:(x ^^^ 2147483648) / 2 ^ 31=(x / 2 ^ 31) ^^^ 1:=by rw [Nat.xor_div_two_pow]
 have h1:x / 2 ^ 31=0∨x / 2 ^ 31=1:=by omega
 have h2:=Nat.div_add_mod (x ^^^ 2147483648) (2 ^ 31);rw [e1,e2] at h2;rcases h1 with h1 | h1<;>rw [h1] at h2<;>simp at h2<;>omega
theorem and_inf {x:Nat}:(x &&& 2139095040=2139095040)↔x / 8388608 % 256=255:=by
 have e1:(x &&& 2139095040) % 2 ^ 23=0:=by rw [Nat.and_mod_two_pow];simp
 have e2:(x &&& 2139095040) / 2 ^ 23=x / 2 ^ 23 % 256:=by
  rw [Nat.and_div_two_pow];exact Nat.and_two_pow_sub_one_eq_mod _ 8
 have h2:=Nat.div_add_mod (x &&& 2139095040) (2 ^ 23);rw [e1,e2] at h2;constructor
 ·intro h;omega
 ·intro h;rw [show (8388608:Nat)=2 ^ 23 from rfl] at h;rw [h] at h2;omega
theorem and_frac {x:Nat}:x &&& 8388607=x % 8388608:=Nat.and_two_pow_sub_one_eq_mod _ 23
theorem isNaN_bits {x:Nat}:isNaN single x=(decide (x / 8388608 % 256=255)&&decide (x % 8388608≠0)):=by
 unfold isNaN;rw [infS,swS,Bool.eq_iff_iff];simp only [decide_eq_true_eq,Bool.and_eq_true];omega
theorem bits_xor_nat {a b:Nat} (ha:a < 2 ^ 63) (hb:b < 2 ^ 63):bits .xor .i64 (a:Int) (b:Int)=((a ^^^ b:Nat):Int):=by
 have hx:a ^^^ b < 2 ^ 63:=Nat.xor_lt_two_pow ha hb;have eb:2 ^ IntKind.i64.bits=18446744073709551616:=by decide
 simp only [bits,BitVec.ofInt_natCast,BitVec.toNat_xor,BitVec.toNat_ofNat,eb];rw [Nat.mod_eq_of_lt (by omega:a < 18446744073709551616),Nat.mod_eq_of_lt (by omega:b < 18446744073709551616)];generalize a ^^^ b=c at *;rw [IntKind.wrap_i64];omega
theorem wraps_i64 (n:Int) (h₀:0≤n) (h₁:n < 2 ^ 63):IntKind.i64.wrap n=n:=by rw [IntKind.wrap_i64];omega
theorem bits_and_nat {a b:Nat} (ha:a < 2 ^ 63) (hb:b < 2 ^ 63):bits .and .i64 (a:Int) (b:Int)=((a &&& b:Nat):Int) :=
 (bits_nat .i64 63 (by decide) wraps_i64 a b ha hb).1
theorem bits_or_nat {a b:Nat} (ha:a < 2 ^ 63) (hb:b < 2 ^ 63):bits .or .i64 (a:Int) (b:Int)=((a ||| b:Nat):Int) :=
 (bits_nat .i64 63 (by decide) wraps_i64 a b ha hb).2
theorem bits_andNot_top {x:Nat} (h:x < 4294967296):bits .andNot .i64 (x:Int) 2147483648=((x % 2147483648:Nat):Int):=by
 have hb:(2147483648:Int)=((2147483648:Nat):Int):=rfl;rw [hb];have eb:2 ^ IntKind.i64.bits=18446744073709551616:=by decide
 simp only [bits,BitVec.ofInt_natCast,BitVec.toNat_and,BitVec.toNat_not,BitVec.toNat_ofNat,eb];rw [Nat.mod_eq_of_lt (by omega:x < 18446744073709551616)];have e1:(x &&& (18446744073709551616 - 1 - 2147483648 % 18446744073709551616)) % 2 ^ 31=x % 2 ^ 31:=by
  rw [Nat.and_mod_two_pow,show (18446744073709551616 - 1 - 2147483648 % 18446744073709551616) % 2 ^ 31=2 ^ 31 - 1 by decide,Nat.and_two_pow_sub_one_eq_mod,Nat.mod_mod]
 have e2:(x &&& (18446744073709551616 - 1 - 2147483648 % 18446744073709551616)) / 2 ^ 31=0:=by
  rw [Nat.and_div_two_pow,show (18446744073709551616 - 1 - 2147483648 % 18446744073709551616) / 2 ^ 31=8589934590 by decide];have h1:x / 2 ^ 31=0∨x / 2 ^ 31=1:=by omega
  rcases h1 with h1 | h1<;>rw [h1]<;>decide
 have h2:=Nat.div_add_mod (x &&& (18446744073709551616 - 1 - 2147483648 % 18446744073709551616)) (2 ^ 31);rw [e1,e2] at h2;have h3:(x &&& (18446744073709551616 - 1 - 2147483648 % 18446744073709551616))=x % 2147483648:=by omega
 rw [h3,IntKind.wrap_i64];omega
theorem bits_xor_top {x:Nat} (h:x < 4294967296):bits .xor .i64 (x:Int) 2147483648=(((x+2147483648) % 4294967296:Nat):Int):=by
 rw [←xor_top h];exact bits_xor_nat (b:=2147483648) (by omega) (by decide)
theorem and_top {x:Nat} (h:x < 4294967296):x &&& 2147483648=x / 2147483648 * 2147483648:=by
 have e1:(x &&& 2147483648) % 2 ^ 31=0:=by rw [Nat.and_mod_two_pow];simp
 have e2:(x &&& 2147483648) / 2 ^ 31=(x / 2 ^ 31) &&& 1:=by rw [Nat.and_div_two_pow]
 have h1:x / 2 ^ 31=0∨x / 2 ^ 31=1:=by omega
 have h2:=Nat.div_add_mod (x &&& 2147483648) (2 ^ 31);rw [e1,e2] at h2;rcases h1 with h1 | h1<;>rw [h1] at h2<;>simp at h2<;>omega
theorem bits_and_top {x:Nat} (h:x < 4294967296):bits .and .i64 (x:Int) 2147483648=((x / 2147483648 * 2147483648:Nat):Int):=by
 rw [←and_top h];exact bits_and_nat (b:=2147483648) (by omega) (by decide)
theorem or_top {x:Nat} (h:x < 2147483648):x ||| 2147483648=x+2147483648:=by
 have:=Nat.two_pow_add_eq_or_of_lt (i:=31) h 1;rw [Nat.or_comm];simp at this;omega
theorem bits_or_top {x:Nat} (h:x < 2147483648):bits .or .i64 (x:Int) 2147483648=((x+2147483648:Nat):Int):=by
 rw [←or_top h];exact bits_or_nat (b:=2147483648) (by omega) (by decide)
theorem isNaN_mod (v:Nat):isNaN single v=isNaN single (v % 2147483648):=by
 unfold isNaN;rw [swS,Nat.mod_mod]
theorem notNaN_ten:isNaN single 1092616192=false:=by decide
theorem div_top {v:Nat} (h:v < 4294967296):v / 2147483648=0∨v / 2147483648=1:=by omega
theorem sgn32 {a:Nat} (h:a < 4294967296):sgn single a=decide (2147483648≤a):=by
 unfold sgn;rw [swS];have:a / 2147483648=0∨a / 2147483648=1:=by omega
 rcases this with h1 | h1
 ·rw [h1];simp;omega
 ·rw [h1];simp;omega
theorem rung32 (a:Nat):rung single a=a % 2147483648:=by unfold rung;rw [swS]
theorem sv32 {a:Nat} (h:a < 4294967296):sv single a=if 2147483648≤a then -(mg single (a % 2147483648):Int) else (mg single (a % 2147483648):Int):=by
 unfold sv;rw [sgn32 h,rung32];by_cases h1:2147483648≤a<;>simp [h1]
theorem same_sv {a b:Nat} (ha:a < 4294967296) (hb:b < 4294967296) (h:sv single a=sv single b):a=b∨(a % 2147483648=0∧b % 2147483648=0):=by
 rw [sv32 ha,sv32 hb] at h;by_cases h0:a % 2147483648=0
 ·right;refine ⟨h0,?_⟩;rw [h0,mg_zero] at h;apply mg_eq_zero (f:=single);split at h<;>split at h<;>omega
 ·left;have hp:0 < mg single (a % 2147483648):=by
   have:=mg_lt (f:=single) (show 0 < a % 2147483648 by omega);rw [mg_zero] at this;exact this
  by_cases h1:2147483648≤a<;>by_cases h2:2147483648≤b<;>simp only [h1,h2,if_true,if_false] at h
  ·have:=mg_inj (f:=single) (a:=a % 2147483648) (b:=b % 2147483648) (by omega);omega
  ·omega
  ·omega
  ·have:=mg_inj (f:=single) (a:=a % 2147483648) (b:=b % 2147483648) (by omega);omega
end Fl
end
end Go.Proofs.YtijhdmidffenbaaGreatDoor
