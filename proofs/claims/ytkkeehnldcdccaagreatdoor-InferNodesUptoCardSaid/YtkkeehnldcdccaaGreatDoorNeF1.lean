import Ieee.Arith
import Derived.Laws.FloatBits
import Derived.WalkKit
import Derived.WalkLawsBesides
import Derived.Laws.FloatArith
import Derived.Laws.Externs
import Derived.KernelRfl
set_option linter.unusedVariables false
set_option linter.unusedSimpArgs false
set_option maxRecDepth 100000
set_option maxHeartbeats 4000000
namespace Go.Proofs.YtkkeehnldcdccaaGreatDoor
section
namespace Fl
open Ieee
def mg(f:Format)(r:Nat):Nat:=
 if r<f.binade then r else(f.binade+r%f.binade)*2^(r/f.binade-1)
theorem FM(f:Format):0<f.binade:=Nat.two_pow_pos _
theorem IJ{f:Format}{r:Nat}(h:r<f.binade):mg f r=r:=by
 unfold mg;rw[if_pos h]
theorem GF{f:Format}{r:Nat}(h:f.binade≤r):mg f r=(f.binade+r%f.binade)*2^(r/f.binade-1):=by
 unfold mg;rw[if_neg (by omega)]
theorem Yh{neg:Bool}{n drop N:Nat}(h:n≤N*2^drop):Toward.even.cut neg n drop≤N:=by
 have hlog:n<2^(n.log2+1):=Nat.lt_log2_self;unfold Toward.cut;simp only[Nat.shiftLeft_eq,Nat.one_mul];by_cases hd:drop≤n.log2+2
 ·rw[Nat.min_eq_left hd];have hp:0<2^drop:=Nat.two_pow_pos _;generalize 2^drop=g at*;have hdm:=Nat.div_add_mod n g;have hm:=Nat.mod_lt n hp;have hle:n/g≤N:=Nat.div_le_of_le_mul (by rw[Nat.mul_comm];exact h);by_cases he:n/g=N
  ·have hz:n%g=0:=by
    rw[he]at hdm;have:g*N=N*g:=Nat.mul_comm _ _;omega
   have h0:(decide (g<2*(n%g))||(g==2*(n%g)&&n/g%2==1))=false:=by
    rw[hz];simp;omega
   rw[h0];simp;omega
  ·have:=Bool.toNat_le (decide (g<2*(n%g))||(g==2*(n%g)&&n/g%2==1));omega
 ·have hmin:min drop (n.log2+2)=n.log2+2:=Nat.min_eq_right (by omega);rw[hmin];have h2:2^(n.log2+2)=2*2^(n.log2+1):=by rw[Nat.pow_succ];omega
  have hlt:n<2^(n.log2+2):=by omega
  rw[Nat.div_eq_of_lt hlt,Nat.mod_eq_of_lt hlt];have h0:(decide (2^(n.log2+2)<2*n)||(2^(n.log2+2)==2*n&&0%2==1))=false:=by
   simp;omega
  rw[h0];simp
theorem Yi{neg:Bool}{n drop N:Nat}(h:N*2^drop≤n):N≤Toward.even.cut neg n drop:=by
 have hlog:n<2^(n.log2+1):=Nat.lt_log2_self;unfold Toward.cut;simp only[Nat.shiftLeft_eq,Nat.one_mul];by_cases hd:drop≤n.log2+2
 ·rw[Nat.min_eq_left hd];have hp:0<2^drop:=Nat.two_pow_pos _;have:=(Nat.le_div_iff_mul_le hp (x:=N) (y:=n)).2 h;omega
 ·have h1:2^(n.log2+1)≤2^drop:=Nat.pow_le_pow_right (by decide) (by omega);have:N=0:=by
   rcases Nat.eq_zero_or_pos N with h0|h0
   ·exact h0
   ·have:1*2^drop≤N*2^drop:=Nat.mul_le_mul_right _ h0;omega
  rw[this];exact Nat.zero_le _
def SZ(f:Format)(mag:Nat)(place:Int):Nat:=
 if mag=0 then 0 else
 let last:=max (place+mag.log2-f.fractionBits) f.leastPlace
 let kept:=Toward.even.cut false (mag<<<(place-last).toNat) (last-place).toNat
 min ((last-f.leastPlace).toNat *f.binade+kept) f.infRung
theorem Kw(f:Format)(neg:Bool)(mag:Nat)(place:Int):f.nearest neg mag place=f.word neg (SZ f mag place):=by
 unfold Format.nearest SZ;by_cases h:mag=0
 ·rw[if_pos h,if_pos h]
 ·rw[if_neg h,if_neg h];rfl
structure ZL(B E K V D:Nat):Prop where
 up:∀N,V≤N*(2^E*D)→K≤N
 down:∀N,N*(2^E*D)≤V→N≤K
 lt:V<2*B*(2^E*D)
 ge:E=0∨B*(2^E*D)≤V
theorem RN(f:Format){mag:Nat}(place:Int)(hm:mag≠0) :
    ∃E K,SZ f mag place=min (E*f.binade+K) f.infRung∧
      ZL f.binade E K (mag*2^(place-f.leastPlace).toNat) (2^(f.leastPlace-place).toNat):=by
  have h1:2^mag.log2≤mag:=Nat.log2_self_le hm;have h2:mag<2^(mag.log2+1):=Nat.lt_log2_self;generalize hlg:mag.log2=lg at*
  let last:=max (place+lg-f.fractionBits) f.leastPlace
  have hlast:last=max (place+lg-f.fractionBits) f.leastPlace:=rfl;refine⟨(last-f.leastPlace).toNat,Toward.even.cut false (mag<<<(place-last).toNat) (last-place).toNat,?_,?_⟩
  · unfold SZ;rw[if_neg hm,hlg]
  · generalize hE:(last-f.leastPlace).toNat=E
    generalize hu:(place-last).toNat=u;generalize hd:(last-place).toNat=dn;generalize ha:(place-f.leastPlace).toNat=a;generalize hq:(f.leastPlace-place).toNat=d;have hbin:f.binade=2^f.fractionBits:=rfl;generalize hfb:f.fractionBits=fb at*;have hpw:2^u*(2^E*2^d)=2^dn*2^a:=by
      rw[←Nat.pow_add,←Nat.pow_add,←Nat.pow_add]
      congr 1
      omega
    have hpd:0<2^dn:=Nat.two_pow_pos _;have hpE:0<2^E*2^d:=Nat.mul_pos (Nat.two_pow_pos _) (Nat.two_pow_pos _);refine⟨?_,?_,?_,?_⟩
    · intro N h
      refine Yh ?_;rw[Nat.shiftLeft_eq];refine Nat.le_of_mul_le_mul_right ?_ hpE
      calc mag*2^u*(2^E*2^d)=2^dn*(mag*2^a):=by
            rw[Nat.mul_assoc,hpw];ac_rfl
        _≤2^dn*(N*(2^E*2^d)):=Nat.mul_le_mul_left _ h
        _=N*2^dn*(2^E*2^d):=by ac_rfl
    · intro N h
      refine Yi ?_;rw[Nat.shiftLeft_eq];refine Nat.le_of_mul_le_mul_right ?_ hpE
      calc N*2^dn*(2^E*2^d)=2^dn*(N*(2^E*2^d)):=by ac_rfl
        _≤2^dn*(mag*2^a):=Nat.mul_le_mul_left _ h
        _=mag*2^u*(2^E*2^d):=by
            rw[Nat.mul_assoc,hpw];ac_rfl
    · rw[hbin]
      have h3:mag*2^a<2^(lg+1)*2^a:=Nat.mul_lt_mul_of_pos_right h2 (Nat.two_pow_pos _);refine Nat.lt_of_lt_of_le h3 ?_;rw[show 2*2^fb*(2^E*2^d)=2^(fb+1+(E+d))from by
        rw[Nat.pow_add,Nat.pow_add 2 E d,Nat.pow_succ];ac_rfl,←Nat.pow_add]
      exact Nat.pow_le_pow_right (by decide) (by omega)
    · by_cases h0:E=0
      · exact Or.inl h0
      · right
        rw[hbin];have h3:2^lg*2^a≤mag*2^a:=Nat.mul_le_mul_right _ h1;refine Nat.le_trans ?_ h3;rw[←Nat.pow_add,←Nat.pow_add,←Nat.pow_add];exact Nat.pow_le_pow_right (by decide) (by omega)
theorem WL{f:Format}{E K V D c:Nat}(hD:0<D)(h:ZL f.binade E K V D)(hc:V≤mg f c*D):E*f.binade+K≤c:=by
 have hB:=FM f;obtain⟨up,down,lt,ge⟩:=h;have hk2:K≤2*f.binade:=up _ (Nat.le_of_lt lt);by_cases hlow:c<f.binade
 ·rw[IJ hlow]at hc;rcases ge with h0|h0
  ·subst h0;have:=up c (by simpa using hc);omega
  ·have h1:f.binade*(2^E*D)≤c*D:=Nat.le_trans h0 hc;have h2:f.binade*D≤f.binade*(2^E*D):=by
    refine Nat.mul_le_mul_left _ ?_;exact Nat.le_mul_of_pos_left _ (Nat.two_pow_pos _)
   have:=Nat.le_of_mul_le_mul_right (Nat.le_trans h2 h1) hD;omega
 ·have hge:f.binade≤c:=by omega
  rw[GF hge]at hc;have hdm:=Nat.div_add_mod c f.binade;have hmod:=Nat.mod_lt c hB;have hq1:1≤c/f.binade:=(Nat.le_div_iff_mul_le hB).2 (by omega);generalize hq:c/f.binade=q at*;generalize ht:c%f.binade=t at*;rcases Nat.lt_trichotomy E (q-1)with hlt|heq|hgt
  ·have:(E+2)*f.binade≤q*f.binade:=Nat.mul_le_mul_right _ (by omega);have e1:(E+2)*f.binade=E*f.binade+2*f.binade:=Nat.add_mul _ _ _;have e2:q*f.binade=f.binade*q:=Nat.mul_comm _ _;omega
  ·subst heq;have:=up (f.binade+t) (by rw[←Nat.mul_assoc];exact hc);have e1:f.binade*q=(q-1)*f.binade+f.binade:=by
    rw[Nat.mul_comm,←Nat.succ_mul];congr 1;omega
   omega
  ·rcases ge with h0|h0
   ·omega
   ·exfalso;have h1:f.binade*(2^E*D)≤(f.binade+t)*2^(q-1)*D:=Nat.le_trans h0 hc;have h2:f.binade*2^E≤(f.binade+t)*2^(q-1):=by
     refine Nat.le_of_mul_le_mul_right ?_ hD;rw[Nat.mul_assoc];exact h1
    have h3:2^(q-1+1)≤2^E:=Nat.pow_le_pow_right (by decide) (by omega);have h4:f.binade*2^(q-1+1)≤f.binade*2^E:=Nat.mul_le_mul_left _ h3;have h5:(f.binade+t)*2^(q-1)<2*f.binade*2^(q-1):=Nat.mul_lt_mul_of_pos_right (by omega) (Nat.two_pow_pos _);have h6:f.binade*2^(q-1+1)=2*f.binade*2^(q-1):=by rw[Nat.pow_succ];ac_rfl
    omega
theorem Yj{f:Format}{mag:Nat}{place:Int}{c:Nat}
  (h:mag*2^(place-f.leastPlace).toNat≤mg f c*2^(f.leastPlace-place).toNat):SZ f mag place≤c:=by
 by_cases hm:mag=0
 ·unfold SZ;rw[if_pos hm];omega
 ·obtain⟨E,K,he,hn⟩:=RN f place hm;rw[he];have:=WL (Nat.two_pow_pos _) hn h;omega
theorem Kx(f:Format)(mag:Nat)(place:Int):SZ f mag place≤f.infRung:=by
 by_cases hm:mag=0
 ·unfold SZ;rw[if_pos hm];omega
 ·obtain⟨E,K,he,hn⟩:=RN f place hm;rw[he];exact Nat.min_le_right _ _
theorem RO{f:Format}{a b:Nat}(h:a<b):mg f a<mg f b:=by
 have hB:=FM f;by_cases hb:b<f.binade
 ·rw[IJ hb,IJ (by omega)];exact h
 ·rw[GF (r:=b) (by omega)];have hq1:1≤b/f.binade:=(Nat.le_div_iff_mul_le hB).2 (by omega);have hdb:=Nat.div_add_mod b f.binade;by_cases ha:a<f.binade
  ·rw[IJ ha];have:(f.binade+b%f.binade)*1≤(f.binade+b%f.binade)*2^(b/f.binade-1):=Nat.mul_le_mul_left _ (Nat.two_pow_pos _);omega
  ·rw[GF (r:=a) (by omega)];have hda:=Nat.div_add_mod a f.binade;have hma:=Nat.mod_lt a hB;have hmb:=Nat.mod_lt b hB;have hqa:1≤a/f.binade:=(Nat.le_div_iff_mul_le hB).2 (by omega);generalize a/f.binade=p at*;generalize b/f.binade=q at*;generalize a%f.binade=s at*;generalize b%f.binade=t at*;rcases Nat.lt_trichotomy p q with hlt|heq|hgt
   ·have h1:(f.binade+s)*2^(p-1)<2*f.binade*2^(p-1):=Nat.mul_lt_mul_of_pos_right (by omega) (Nat.two_pow_pos _);have h2:2*f.binade*2^(p-1)=f.binade*2^(p-1+1):=by rw[Nat.pow_succ];ac_rfl
    have h3:2^(p-1+1)≤2^(q-1):=Nat.pow_le_pow_right (by decide) (by omega);have h4:f.binade*2^(p-1+1)≤(f.binade+t)*2^(q-1):=Nat.mul_le_mul (by omega) h3;omega
   ·subst heq;refine Nat.mul_lt_mul_of_pos_right (by omega) (Nat.two_pow_pos _)
   ·exfalso;have:f.binade*(q+1)≤f.binade*p:=Nat.mul_le_mul_left _ (by omega);rw[Nat.mul_add]at this;omega
theorem UB{f:Format}(m e:Nat)(h:m<2*f.binade):∃c,mg f c=m*2^e:=by
 have hB:=FM f
 induction e generalizing m with
 | zero=>
  refine⟨m,?_⟩;by_cases hlow:m<f.binade
  ·rw[IJ hlow];simp
  ·have h1:m/f.binade=1:=by
    refine Nat.div_eq_of_lt_le ?_ ?_<;>omega
   rw[GF (by omega),h1];have:=Nat.div_add_mod m f.binade;rw[h1]at this;simp;omega
 | succ e ih=>
  by_cases hlow:m<f.binade
  ·obtain⟨c,hc⟩:=ih (2*m) (by omega);exact⟨c,by rw[hc,Nat.pow_succ];ac_rfl⟩
  ·refine⟨(e+1+1)*f.binade+(m-f.binade),?_⟩;have ht:m-f.binade<f.binade:=by omega
   have hbig:f.binade≤(e+1+1)*f.binade+(m-f.binade):=by
    have:=Nat.mul_le_mul_right f.binade (show 1≤e+1+1 by omega);omega
   have hdiv:((e+1+1)*f.binade+(m-f.binade))/f.binade=e+1+1:=by
    rw[Nat.mul_comm,Nat.mul_add_div hB,Nat.div_eq_of_lt ht]
   have hmod:((e+1+1)*f.binade+(m-f.binade))%f.binade=m-f.binade:=by
    rw[Nat.mul_comm,Nat.mul_add_mod,Nat.mod_eq_of_lt ht]
   rw[GF hbig,hdiv,hmod];rw[show f.binade+(m-f.binade)=m by omega]
   rfl
def DI(f:Format)(w:Nat):Nat:=w%f.signWeight
def Hu(f:Format)(w:Nat):Bool:=w/f.signWeight%2==1
def Bk(f:Format)(w:Nat):Bool:=decide (f.infRung<w%f.signWeight)
def sv(f:Format)(w:Nat):Int:=if Hu f w then-(mg f (DI f w):Int)else(mg f (DI f w):Int)
theorem DE{f:Format}{w:Nat}(h:DI f w<f.infRung) :
  ∃m p,f.read w=.number (Hu f w) m p∧f.leastPlace≤p∧m*2^(p-f.leastPlace).toNat=mg f (DI f w):=by
 unfold Format.read;simp only[DI]at h⊢;by_cases h1:w%f.signWeight<f.binade
 ·rw[if_pos h1];refine⟨_,_,rfl,Int.le_refl _,?_⟩;rw[IJ h1];simp
 ·rw[if_neg h1,if_pos h];refine⟨_,_,rfl,by omega,?_⟩;rw[GF (by omega)]
  congr 2
  omega
theorem EB{f:Format}(hf:f.binade≤f.infRung){w:Nat}(h:DI f w=f.infRung):f.read w=.infinity (Hu f w):=by
 unfold Format.read;simp only[DI]at h⊢;rw[h,if_neg (by omega),if_neg (by omega),if_pos rfl]
 rfl
theorem Ky{f:Format}(hf:f.binade≤f.infRung){w:Nat}(h:Bk f w=true):f.read w=.nan (Hu f w) (DI f w-f.infRung):=by
 unfold Format.read;simp only[Bk,decide_eq_true_eq]at h;rw[if_neg (by omega),if_neg (by omega),if_neg (by omega)]
 rfl
theorem S3(s:Bool)(m k:Nat):signed s m k=if s then-((m*2^k:Nat):Int)else((m*2^k:Nat):Int):=by
 unfold signed;simp only[Nat.shiftLeft_eq]
theorem Mb{f:Format}{w m:Nat}{p b:Int}(hL:f.leastPlace≤b)(hb:b≤p)(h:m*2^(p-f.leastPlace).toNat=mg f (DI f w)) :
  signed (Hu f w) m (p-b).toNat *((2^(b-f.leastPlace).toNat:Nat):Int)=sv f w:=by
 have e:(p-f.leastPlace).toNat=(p-b).toNat+(b-f.leastPlace).toNat:=by omega
 rw[e,Nat.pow_add,←Nat.mul_assoc]at h;rw[S3];unfold sv;rw[←h];cases Hu f w<;>simp[Int.neg_mul]
theorem Ox(x y:Int){c:Nat}(h:0<c):compare (x*(c:Int)) (y*(c:Int))=compare x y:=by
 have hc:(0:Int)<c:=by omega
 rcases Int.lt_trichotomy x y with h1|h1|h1
 ·have h2:x*(c:Int)<y*(c:Int):=Int.mul_lt_mul_of_pos_right h1 hc;rw[Int.compare_eq_lt.2 h1,Int.compare_eq_lt.2 h2]
 ·rw[h1];simp
 ·have h2:y*(c:Int)<x*(c:Int):=Int.mul_lt_mul_of_pos_right h1 hc;rw[Int.compare_eq_gt.2 h1,Int.compare_eq_gt.2 h2]
theorem Mc{f:Format}{w:Nat}(h:DI f w<f.infRung):-(mg f f.infRung:Int)<sv f w∧sv f w<(mg f f.infRung:Int):=by
 have:=RO (f:=f) h;unfold sv;split<;>constructor<;>omega
theorem Oy{f:Format}(hf:f.binade≤f.infRung){a b:Nat}(ha:Bk f a=false)(hb:Bk f b=false) :
  f.order a b=some (compare (sv f a) (sv f b)):=by
 have hB:=FM f;have hpos:0<mg f f.infRung:=by
  have:=RO (f:=f) (show 0<f.infRung by omega);omega
 simp only[Bk,decide_eq_false_iff_not,Nat.not_lt]at ha hb;unfold Format.order;rcases Nat.lt_or_eq_of_le ha with ha|ha<;>rcases Nat.lt_or_eq_of_le hb with hb|hb
 ·obtain⟨m,p,e1,h1,g1⟩:=DE (f:=f) (w:=a) ha;obtain⟨n,q,e2,h2,g2⟩:=DE (f:=f) (w:=b) hb;rw[e1,e2];simp only[Datum.order]
  congr 1
  have k1:=Mb (f:=f) (w:=a) (b:=min p q) (by omega) (by omega) g1;have k2:=Mb (f:=f) (w:=b) (b:=min p q) (by omega) (by omega) g2;rw[←k1,←k2,Ox _ _ (Nat.two_pow_pos _)]
 ·obtain⟨m,p,e1,h1,g1⟩:=DE (f:=f) (w:=a) ha;rw[e1,EB hf hb];simp only[Datum.order]
  congr 1
  have:=Mc ha;have e:sv f b=if Hu f b then-(mg f f.infRung:Int)else(mg f f.infRung:Int):=by unfold sv;rw[show DI f b=f.infRung from hb]
  rw[e];cases Hu f b
  ·exact(Int.compare_eq_lt.2 (by simp;omega)).symm
  ·exact(Int.compare_eq_gt.2 (by simp;omega)).symm
 ·obtain⟨m,p,e1,h1,g1⟩:=DE (f:=f) (w:=b) hb;rw[e1,EB hf ha];simp only[Datum.order]
  congr 1
  have:=Mc hb;have e:sv f a=if Hu f a then-(mg f f.infRung:Int)else(mg f f.infRung:Int):=by unfold sv;rw[show DI f a=f.infRung from ha]
  rw[e];cases Hu f a
  ·exact(Int.compare_eq_gt.2 (by simp;omega)).symm
  ·exact(Int.compare_eq_lt.2 (by simp;omega)).symm
 ·rw[EB hf ha,EB hf hb];simp only[Datum.order]
  congr 1
  have ea:sv f a=if Hu f a then-(mg f f.infRung:Int)else(mg f f.infRung:Int):=by unfold sv;rw[show DI f a=f.infRung from ha]
  have eb:sv f b=if Hu f b then-(mg f f.infRung:Int)else(mg f f.infRung:Int):=by unfold sv;rw[show DI f b=f.infRung from hb]
  rw[ea,eb];cases Hu f a<;>cases Hu f b
  ·simp
  ·exact(Int.compare_eq_gt.2 (by simp;omega)).symm
  ·exact(Int.compare_eq_lt.2 (by simp;omega)).symm
  ·simp
theorem Gi{f:Format}(hf:f.binade≤f.infRung){a b:Nat}(ha:Bk f a=true):f.order a b=none:=by
 unfold Format.order;rw[Ky hf ha];cases f.read b<;>rfl
end Fl
end
section
namespace Fl
open Ieee
theorem Kz(f:Format):0<f.signWeight:=Nat.two_pow_pos _
theorem IK{f:Format}{neg:Bool}{r:Nat}(h:r<f.signWeight):DI f (f.word neg r)=r:=by
 unfold DI Format.word;cases neg
 ·simp[Nat.mod_eq_of_lt h]
 ·simp[Nat.add_mod_left,Nat.mod_eq_of_lt h]
theorem UC{f:Format}{neg:Bool}{r:Nat}(h:r<f.signWeight):Hu f (f.word neg r)=neg:=by
 unfold Hu Format.word;cases neg
 ·simp[Nat.div_eq_of_lt h]
 ·have:(f.signWeight+r)/f.signWeight=1:=by
   rw[Nat.add_div_left _ (Kz f),Nat.div_eq_of_lt h]
  simp[this]
theorem WM{f:Format}{neg:Bool}{r:Nat}(h:r<f.signWeight):sv f (f.word neg r)=if neg then-(mg f r:Int)else(mg f r:Int):=by
 unfold sv;rw[IK h,UC h]
theorem Yk(f:Format)(mag:Nat)(place:Int):SZ f mag place<f.signWeight:=
 Nat.lt_of_le_of_lt (Kx f mag place) f.infRung_lt
structure IL(f:Format)(w:Nat)(X:Int)(D:Nat):Prop where
 nan:Bk f w=false
 lt:w<2^f.width
 up:∀c,Bk f c=false→X≤sv f c*(D:Int)→sv f w≤sv f c
 down:∀c,Bk f c=false→sv f c*(D:Int)≤X→sv f c≤sv f w
theorem IL.exact{f:Format}{w c:Nat}{X:Int}{D:Nat}(h:IL f w X D)(hc:Bk f c=false)(e:X=sv f c*(D:Int)):sv f w=sv f c:=
 Int.le_antisymm (h.up c hc (Int.le_of_eq e)) (h.down c hc (Int.le_of_eq e.symm))
theorem Ha{f:Format}{neg:Bool}{r:Nat}(h:r≤f.infRung):Bk f (f.word neg r)=false:=by
 have:=IK (f:=f) (neg:=neg) (r:=r) (Nat.lt_of_le_of_lt h f.infRung_lt);unfold Bk;unfold DI at this;rw[this];simp;omega
theorem IM{f:Format}{c:Nat}(h:Bk f c=false):DI f c≤f.infRung:=by
 simp only[Bk,decide_eq_false_iff_not,Nat.not_lt]at h;exact h
def UD(f:Format)(w:Nat):Bool:=decide (DI f w<f.infRung)
theorem M4{f:Format}{w:Nat}(h:UD f w=true):DI f w<f.infRung:=by simpa[UD]using h
end Fl
end
section
namespace Fl
open Ieee
theorem bK:single.binade≤single.infRung:=by decide
theorem bL:double.binade≤double.infRung:=by decide
def KA(w:World)(q:Question):Nat:=q.cut (w.tape w.drawn q)
def Ik(o:Option Nat)(w:World)(q:Question):Nat:=match o with |some r=>r|none=>KA w q
def D7(o:Option Nat)(w:World):World:=match o with |some _=>w|none=>w.drew
def ar(op:BinOp)(k:FloatKind)(x y:Nat)(w:World):Nat:=Ik (floatBits op k x y) w (.nanBits k x y)
def UE(op:BinOp)(k:FloatKind)(x y:Nat)(w:World):World:=D7 (floatBits op k x y) w
theorem DJ{P:Program}{α:Type}(q:Question)(f:Nat→α)(w:World)(h:q.forced=false) :
  ((choose q>>= fun n=>pure (f n):Sem α)).run P w=.ok (f (KA w q)) w.drew:=by
 show Sem.run P (.choose q fun n=>.pure (f n)) w=_;simp only[Sem.run,h]
 rfl
theorem GG{P:Program}(op:BinOp)(hop:op=.add∨op=.sub∨op=.mul∨op=.quo)(t:TypeId)(k:FloatKind)(x y:Nat)(w:World) :
  (binOp op t (.float k x) (.float k y)).run P w=.ok (.float k (ar op k x y w)) (UE op k x y w):=by
 cases h:floatBits op k x y with
 | some r=>
  rw[run_float_arith w op t k x y r h];simp[ar,UE,Ik,D7,h]
 | none=>
  have e:binOp op t (.float k x) (.float k y)=Op.floatArith op k x y:=by rcases hop with rfl|rfl|rfl|rfl<;>simp[binOp]
  rw[e];have e2:Op.floatArith op k x y=(choose (.nanBits k x y)>>= fun n=>pure (.float k n):Sem Value):=by
   rcases hop with rfl|rfl|rfl|rfl<;>simp only[floatBits]at h<;>simp[Op.floatArith,h]
  rw[e2,DJ (.nanBits k x y) (fun n=>Value.float k n) w rfl];simp[ar,UE,Ik,D7,h]
theorem WN{P:Program}(t:TypeId)(k:FloatKind)(x y:Nat)(w:World):(binOp .add t (.float k x) (.float k y)).run P w=.ok (.float k (ar .add k x y w)) (UE .add k x y w):=GG _ (by simp) t k x y w
theorem WO{P:Program}(t:TypeId)(k:FloatKind)(x y:Nat)(w:World):(binOp .sub t (.float k x) (.float k y)).run P w=.ok (.float k (ar .sub k x y w)) (UE .sub k x y w):=GG _ (by simp) t k x y w
theorem WP{P:Program}(t:TypeId)(k:FloatKind)(x y:Nat)(w:World):(binOp .mul t (.float k x) (.float k y)).run P w=.ok (.float k (ar .mul k x y w)) (UE .mul k x y w):=GG _ (by simp) t k x y w
theorem WQ{P:Program}(t:TypeId)(k:FloatKind)(x y:Nat)(w:World):(binOp .quo t (.float k x) (.float k y)).run P w=.ok (.float k (ar .quo k x y w)) (UE .quo k x y w):=GG _ (by simp) t k x y w
def KB(x:Nat):Option Nat:=if Bk single x then none else some (double.write (single.read x))
def M5(x:Nat)(w:World):Nat:=Ik (KB x) w (.nanConv .f64 x)
def GT(x:Nat)(w:World):World:=D7 (KB x) w
def Fb(x:Nat)(w:World):Nat:=
 if Bk double x then KA w (.nanConv .f32 x)
 else if UD double x&&(single.read (single.write (double.read x))).isInfinity then KA w (.floatToFloat x)
 else single.write (double.read x)
def Dn(x:Nat)(w:World):World:=
 if Bk double x||(UD double x&&(single.read (single.write (double.read x))).isInfinity)then w.drew else w
theorem Oz{x:Nat}(h:UD single x=true):(double.read (double.write (single.read x))).isInfinity=false:=by
 obtain⟨m,p,e,hp,hg⟩:=DE (M4 h);rw[e];simp only[Format.write,Kw];have hle:SZ double m p<double.infRung:=by
  have hmg:mg single (DI single x)<mg single single.infRung:=RO (M4 h);have hq:SZ double m p≤double.infRung-1:=by
   refine Yj ?_;have hL:double.leastPlace=-1074:=by decide
   have hS:single.leastPlace=-149:=by decide
   rw[hL];rw[hS]at hp hg;have e1:(-1074-p).toNat=0:=by omega
   have e2:(p- -1074).toNat=(p- -149).toNat+925:=by omega
   rw[e1,e2,Nat.pow_add,←Nat.mul_assoc,hg];have:mg single single.infRung*2^925≤mg double (double.infRung-1)*2^0:=by decide+kernel
   exact Nat.le_trans (Nat.mul_le_mul_right _ (Nat.le_of_lt hmg)) this
  have:0<double.infRung:=by decide
  omega
 have hw:=IK (f:=double) (neg:=Hu single x) (r:=SZ double m p) (Yk _ _ _);obtain⟨m',p',e',_,_⟩:=DE (f:=double) (w:=double.word (Hu single x) (SZ double m p)) (by rw[hw];exact hle);rw[e'];rfl
theorem S4{P:Program}(src dst:TypeId)(b:Nat)(hs:P.underlying src=some (.float .f32))(hd:P.underlying dst=some (.float .f64))(w:World) :
  (convert src dst (.float .f32 b)).run P w=.ok (.float .f64 (M5 b w)) (GT b w):=by
 have key:(convert src dst (.float .f32 b)).run P w=(Conv.floatToFloat .f32 b .f64).run P w:=by
  simp[convert,run_underlying hs,run_underlying hd]
 rw[key];unfold Conv.floatToFloat
 rw[if_neg (by decide)];by_cases hn:Bk single b=true
 ·have e:FloatKind.f32.decode b=.nan (Hu single b) (DI single b-single.infRung):=Ky bK hn;rw[e];simp only;rw[DJ (.nanConv .f64 b) (fun n=>Value.float .f64 n) w rfl];simp[M5,GT,Ik,D7,KB,hn]
 ·simp only[Bool.not_eq_true]at hn;have ev:KB b=some (double.write (single.read b)):=by unfold KB;rw[hn];rfl
  have e1:M5 b w=double.write (single.read b):=by simp[M5,Ik,ev]
  have e2:GT b w=w:=by simp[GT,D7,ev]
  rw[e1,e2];by_cases hf:UD single b=true
  ·obtain⟨m,p,e,_,_⟩:=DE (M4 hf);have hfi:=Oz hf;have e':FloatKind.f32.decode b=.number (Hu single b) m p:=e;rw[e'] ;rw[e]at hfi⊢;simp only;have:(FloatKind.f64.decode (FloatKind.f64.encode (.number (Hu single b) m p))).isInfinity=false:=hfi;rw[this]
   rfl
  ·have hinf:DI single b=single.infRung:=by
    have h1:=IM hn;have h2:¬DI single b<single.infRung:=by simpa[UD]using hf
    omega
   have e:single.read b=.infinity (Hu single b):=EB bK hinf;have e':FloatKind.f32.decode b=.infinity (Hu single b):=e;rw[e',e]
   rfl
theorem Qw{P:Program}(src dst:TypeId)(b:Nat)(hs:P.underlying src=some (.float .f64))(hd:P.underlying dst=some (.float .f32))(w:World) :
  (convert src dst (.float .f64 b)).run P w=.ok (.float .f32 (Fb b w)) (Dn b w):=by
 have key:(convert src dst (.float .f64 b)).run P w=(Conv.floatToFloat .f64 b .f32).run P w:=by
  simp[convert,run_underlying hs,run_underlying hd]
 rw[key];unfold Conv.floatToFloat
 rw[if_neg (by decide)];by_cases hn:Bk double b=true
 ·have e:FloatKind.f64.decode b=.nan (Hu double b) (DI double b-double.infRung):=Ky bL hn;rw[e];simp only;rw[DJ (.nanConv .f32 b) (fun n=>Value.float .f32 n) w rfl];simp[Fb,Dn,hn]
 ·simp only[Bool.not_eq_true]at hn;by_cases hf:UD double b=true
  ·obtain⟨m,p,e,_,_⟩:=DE (M4 hf);have e':FloatKind.f64.decode b=.number (Hu double b) m p:=e;rw[e'];simp only;by_cases hi:(single.read (single.write (.number (Hu double b) m p))).isInfinity=true
   ·have:(FloatKind.f32.decode (FloatKind.f32.encode (.number (Hu double b) m p))).isInfinity=true:=hi;rw[this];simp only[if_true];rw[DJ (.floatToFloat b) (fun n=>Value.float .f32 n) w rfl];simp[Fb,Dn,hn,hf,e,hi]
   ·simp only[Bool.not_eq_true]at hi;have:(FloatKind.f32.decode (FloatKind.f32.encode (.number (Hu double b) m p))).isInfinity=false:=hi;rw[this];simp[Fb,Dn,hn,e,hi,FloatKind.encode,FloatKind.format]
  ·have hinf:DI double b=double.infRung:=by
    have h1:=IM hn;have h2:¬DI double b<double.infRung:=by simpa[UD]using hf
    omega
   have e:double.read b=.infinity (Hu double b):=EB bL hinf;have e':FloatKind.f64.decode b=.infinity (Hu double b):=e;rw[e'];simp only[Bool.not_eq_true]at hf;simp[Fb,Dn,hn,hf,e,FloatKind.encode,FloatKind.format]
def IN(x:Nat)(w:World):Nat:=Ik (double.sqrt x) w (.nanBits .f64 x x)
def FN(x:Nat)(w:World):World:=D7 (double.sqrt x) w
theorem KC{P:Program}(x:Nat)(w:World):(Extern.MathSqrt.sqrt #[.float .f64 x]).run P w=.ok (.float .f64 (IN x w)) (FN x w):=by
 change Sem.run P (match FloatKind.f64.format.sqrt x with |some r=>pure (.float .f64 r)|none=>(choose (.nanBits .f64 x x)>>= fun n=>pure (Value.float .f64 n))) w=_
 have e:FloatKind.f64.format.sqrt x=double.sqrt x:=rfl;rw[e];cases h:double.sqrt x with
 | some r=>simp[IN,FN,Ik,D7,h]
 | none=>
  simp only;rw[DJ (.nanBits .f64 x x) (fun n=>Value.float .f64 n) w rfl];simp[IN,FN,Ik,D7,h]
def Do(q:Question)(x:Nat)(w:World):Nat:=
 match double.read x with
 | .nan s t=>if double.quiet t=t then x else(if KA w q==1 then x else double.write (.nan s (double.quiet t)))
 | d=>double.write (d.integral .down)
def Cy(x:Nat)(w:World):World:=
 match double.read x with
 | .nan _ t=>if double.quiet t=t then w else w.drew
 | _=>w
theorem GU:∃q:Question,∀(P:Program) (x:Nat) (w:World),(Extern.MathFloor.toIntegral "math.archFloor" .down #[.float .f64 x]).run P w=.ok (.float .f64 (Do q x w)) (Cy x w):=by
 refine⟨?q,fun P x w=>?_⟩;rotate_left
 ·change Sem.run P (match FloatKind.f64.decode x with
   | .nan s t=>if FloatKind.f64.format.quiet t=t then pure (.float .f64 x)else
    (choose ?q >>= fun kept=>pure (Value.float .f64 (if kept==1 then x else FloatKind.f64.encode (.nan s (FloatKind.f64.format.quiet t)))))
   | d=>pure (.float .f64 (FloatKind.f64.encode (d.integral .down)))) w=_
  have e:FloatKind.f64.decode x=double.read x:=rfl;rw[e];cases h:double.read x with
  | nan s t=>
   simp only;have e2:FloatKind.f64.format.quiet t=double.quiet t:=rfl;rw[e2];by_cases hq:double.quiet t=t
   ·rw[if_pos hq];simp[Do,Cy,h,hq]
   ·rw[if_neg hq];rw[DJ _ (fun kept=>Value.float .f64 (if kept==1 then x else FloatKind.f64.encode (.nan s (double.quiet t)))) w rfl];simp[Do,Cy,h,hq];rfl
  | number s m p=>simp[Do,Cy,h];rfl
  | infinity s=>simp[Do,Cy,h];rfl
noncomputable def IP:Question:=Classical.choose GU
theorem JC{P:Program}(x:Nat)(w:World):(Extern.MathFloor.toIntegral "math.archFloor" .down #[.float .f64 x]).run P w=.ok (.float .f64 (Do IP x w)) (Cy x w):=
 Classical.choose_spec GU P x w
end Fl
end
section
namespace Fl
open Ieee
theorem Jg{f:Format}(X:Int)(e:Nat)(hX:X.natAbs<2*f.binade)(hi:X.natAbs*2^e≤mg f f.infRung):∃c,Bk f c=false∧sv f c=X*((2^e:Nat):Int):=by
 obtain⟨c,hc⟩:=UB (f:=f) X.natAbs e hX;have hle:c≤f.infRung:=by
  rcases Nat.lt_or_ge f.infRung c with h|h
  ·have:=RO (f:=f) h;omega
  ·exact h
 refine⟨f.word (decide (X<0)) c,Ha hle,?_⟩;rw[WM (Nat.lt_of_le_of_lt hle f.infRung_lt),hc];by_cases hs:X<0
 ·have:((X.natAbs:Nat):Int)=-X:=by omega
  simp only[hs,decide_true,if_true,Int.natCast_mul,this];simp[Int.neg_mul]
 ·have:((X.natAbs:Nat):Int)=X:=by omega
  simp only[hs,decide_false,Bool.false_eq_true,if_false,Int.natCast_mul,this]
theorem IL.le{f:Format}{w:Nat}{X:Int}{D:Nat}(h:IL f w X D)(Y:Int)(e:Nat)(hY:Y.natAbs<2*f.binade)(hi:Y.natAbs*2^e≤mg f f.infRung)
  (hx:X≤Y*((2^e:Nat):Int)*(D:Int)):sv f w≤Y*((2^e:Nat):Int):=by
 obtain⟨c,h1,h2⟩:=Jg Y e hY hi;have:=h.up c h1 (by rw[h2];exact hx);rw[h2]at this;exact this
theorem IL.ge{f:Format}{w:Nat}{X:Int}{D:Nat}(h:IL f w X D)(Y:Int)(e:Nat)(hY:Y.natAbs<2*f.binade)(hi:Y.natAbs*2^e≤mg f f.infRung)
  (hx:Y*((2^e:Nat):Int)*(D:Int)≤X):Y*((2^e:Nat):Int)≤sv f w:=by
 obtain⟨c,h1,h2⟩:=Jg Y e hY hi;have:=h.down c h1 (by rw[h2];exact hx);rw[h2]at this;exact this
def pw(n:Nat):Nat:=2^n
end Fl
end
section
namespace Fl
open Ieee
end Fl
end
section
namespace Fl
open Ieee
def T:Nat:=pw 1021
attribute [local irreducible] pw
def bN:Nat:=4609176140021203710
def ZM:Nat:=4602678819172646912
def cP:Nat:=4604418534313441775
def XY:Nat:=4607182418800017408
end Fl
end
section
namespace Fl
open Ieee
attribute [local irreducible] pw T
def fi(n:Nat):Nat:=double.nearest false n 0
def ZN(r:Nat):Nat→Nat
 | 0=>XY
 | j+1=>((double.add XY (((double.div (((double.mul (ZN r j) r).getD 0)) (fi (13-j))).getD 0))).getD 0)
structure b8(r:Nat):Prop where
 ge:4602678819172646912≤ZN r 13
 le:ZN r 13≤4609434218613702656
 one:0≤sv double r→4607182418800017408≤ZN r 13
end Fl
end
section
namespace Fl
open Ieee
attribute [local irreducible] pw T
theorem OA{f:Format}{d:Datum}(h:d.isNaN=false):Bk f (f.write d)=false∧f.write d<2^f.width:=by
 refine⟨?_,f.write_lt d⟩;cases d with
 | number s m p=>simp only[Format.write,Kw];exact Ha (Kx _ _ _)
 | infinity s=>exact Ha (Nat.le_refl _)
 | nan s t=>cases h
theorem OB{f:Format}(hf:f.binade≤f.infRung){w:Nat}(h:Bk f w=false):(f.read w).isNaN=false:=by
 rcases Nat.lt_or_eq_of_le (IM h)with h1|h1
 ·obtain⟨m,p,e,_,_⟩:=DE h1;rw[e];rfl
 ·rw[EB hf h1];rfl
def OC(b:Nat):Int:=if Bk single b then 2143289344 else(b:Int)
def ZO(o:Option Nat):Int:=match o with |some r=>(r:Int)|none=>2143289344
theorem C8{f:Format}{o:Option Datum}(h:∀d,o=some d→d.isNaN=false){r:Nat}(e:o.map f.write=some r):Bk f r=false∧r<2^f.width:=by
 cases o with
 | none=>cases e
 | some d=>simp only[Option.map_some,Option.some.injEq]at e;subst e;exact OA (h d rfl)
theorem KE(a b:Datum):∀d,a.sum b=some d→d.isNaN=false:=by
 intro d h;cases a<;>cases b<;>simp only[Datum.sum,reduceCtorEq]at h
 all_goals first
  | (cases h;rfl)
  | (split at h<;>cases h;rfl)
theorem KF(a b:Datum):∀d,a.product b=some d→d.isNaN=false:=by
 intro d h;cases a<;>cases b<;>simp only[Datum.product,reduceCtorEq]at h
 all_goals first
  | (cases h;rfl)
  | (split at h<;>cases h;rfl)
theorem JD(n:Nat)(a b:Datum):∀d,a.quotient n b=some d→d.isNaN=false:=by
  intro d h;cases a<;>cases b<;>simp only[Datum.quotient,reduceCtorEq]at h
  all_goals first
    | (cases h;rfl)
    | (split at h
       · split at h<;>cases h;rfl
       · cases h;rfl)
theorem IQ{op:BinOp}{k:FloatKind}{x y r:Nat}(h:floatBits op k x y=some r):Bk k.format r=false∧r<2^k.format.width:=by
 unfold floatBits at h;split at h
 ·exact C8 (KE _ _) h
 ·exact C8 (KE _ _) h
 ·exact C8 (KF _ _) h
 ·exact C8 (JD _ _ _) h
 ·cases h
theorem ZP(op:BinOp)(x y:Nat)(w:World):ar op .f32 x y w<4294967296:=by
 unfold ar;cases e:floatBits op .f32 x y with
 | some r=>exact(IQ (k:=.f32) e).2
 | none=>
  show KA w (.nanBits .f32 x y)<_;have h:(KA w (.nanBits .f32 x y))=(w.tape w.drawn (.nanBits .f32 x y)%2)*2^31+0x7f800000+1+(w.tape w.drawn (.nanBits .f32 x y)/2)%(2^23-1):=rfl;rw[h];generalize w.tape w.drawn (.nanBits .f32 x y)=t;have h1:t%2=0∨t%2=1:=by omega
  have h2:=Nat.mod_lt (t/2) (show 2^23-1>0 by decide);generalize t/2%(2^23-1)=u at*;rcases h1 with h|h<;>rw[h]<;>omega
theorem UF{f:Format}(hf:f.binade≤f.infRung)(a:Nat):(f.order a a != some .eq)=Bk f a:=by
 cases h:Bk f a
 ·rw[Oy hf h h];simp
 ·rw[Gi hf h];rfl
end Fl
end
section
namespace Fl
open Ieee
attribute [local irreducible] pw T
def WR(x:Nat):Prop:=Bk double x=false∧(UD double x=true→(single.read (single.write (double.read x))).isInfinity=false)
theorem Hb{x:Nat}(w:World)(h:WR x):Fb x w=single.write (double.read x)∧Dn x w=w:=by
 obtain⟨h1,h2⟩:=h;unfold Fb Dn;rw[h1];cases hf:UD double x
 ·simp
 ·rw[h2 hf];simp
def ZQ(v:Nat):Int:=
 if Bk single v then 2143289344 else
 match double.sqrt (double.write (single.read v))with
 | none=>2143289344
 | some r=>(single.write (double.read r):Int)
theorem IR{x:Nat}(w:World)(h:Bk double x=false):Do IP x w=double.write ((double.read x).integral .down)∧Cy x w=w:=by
 have h1:=OB bL h;unfold Do Cy;cases e:double.read x with
 | nan s t=>rw[e]at h1;cases h1
 | number s m p=>exact⟨rfl,rfl⟩
 | infinity s=>exact⟨rfl,rfl⟩
def Yl(v:Nat):Int:=
 if Bk single v then 2143289344 else(single.write (double.read (double.write ((double.read (double.write (single.read v))).integral .down))):Int)
end Fl
end
section
namespace Fl
open Ieee
attribute [local irreducible] pw T
def cF(v:Nat):Nat:=double.write (single.read v)
def bO(v:Nat):Nat:=(double.mul (cF v) bN).getD 0
def bP(v:Nat):Nat:=(double.add (bO v) ZM).getD 0
def cH(v:Nat):Nat:=double.write ((double.read (bP v)).integral .down)
def cQ(v:Nat):Nat:=(double.mul (cH v) cP).getD 0
def cR(v:Nat):Nat:=(double.sub (cF v) (cQ v)).getD 0
def cS(v:Nat):Int:=((double.read (cH v)).toInt .zero).getD 0
def cI(v:Nat):Nat:=((ZN (cR v) 13:Int)+cS v*4503599627370496).toNat
def Ym(v:Nat):Nat:=
 if Bk single v then v
 else if sv single 1118961664<sv single v then 2139095040
 else if sv single v<sv single 3268542464 then 0
 else if sv double 5183643170835005440≤sv double (cI v)then 2139095040
 else single.write (double.read (cI v))
def bQ(v:Nat):Int:=
 match floatBits .add .f32 1065353216 (Ym (Op.negFloat .f32 v))with
 | none=>2143289344
 | some s=>ZO (floatBits .quo .f32 1065353216 s)
def ZR(a:Nat):Nat:=Ym ((single.add a a).getD 0)
def bR(a:Nat):Nat:=(single.sub (ZR a) 1065353216).getD 0
def bS(a:Nat):Nat:=(single.add (ZR a) 1065353216).getD 0
def bT(a:Nat):Nat:=(single.div (bR a) (bS a)).getD 0
def bU(a:Nat):Nat:=if sv single a≤sv single 1092616192 then bT a else 1065353216
def ZS(v:Nat):Int:=if Bk single v then 2143289344 else((bU (v%2147483648)+v/2147483648*2147483648:Nat):Int)
end Fl
end
section
namespace Fl
open Ieee Go.RowKit
def PY(x:Int):Bool:=Bk single x.toNat
def ZT(x:Int):Bool:=decide (0≤x∧x<4294967296)&&(!PY x||x==2143289344)
def Cz(t x:Int):Bool:=
 if t=1 then ZT x else if t=6 then decide (-2147483648≤x∧x≤2147483647)else if t=9 then decide (x=0∨x=1)else decide (t=7)
def Dr(t:Int):Bool:=decide (t=6∨t=7)
def JE(t x:Int):Int:=if t=6 then wrap32 x else x
def Hv(op:List UInt8)(x:Int):Option Int:=
 if op=[78,101,103]then some (if PY x then x else(x+2147483648)%4294967296)
 else if op=[65,98,115]then some (x%2147483648)
 else if op=[82,101,108,117]then some (if PY x then x else if 0<sv single x.toNat then x else 0)
 else if op=[83,113,114,116]then some (ZQ x.toNat)
 else if op=[70,108,111,111,114]then some (Yl x.toNat)
 else if op=[69,120,112]then some (OC (Ym x.toNat))
 else if op=[83,105,103,109,111,105,100]then some (bQ x.toNat)
 else if op=[84,97,110,104]then some (ZS x.toNat)
 else none
def bV(c wh:Bool)(o:Option Int)(op:List UInt8)(t x y:Int):Int×Int:=
 if c=false then(0,1)
 else if op=[73,100,101,110,116,105,116,121]then(x,0)
 else if op=[78,111,116]∧t=9 then(1-x,0)
 else if op=[78,101,103]∧wh=true then(y,0)
 else if op=[65,98,115]∧wh=true then(if x<0 then y else x,0)
 else if t=1 then(match o with |some y=>(y,0)|none=>(0,1))
 else(0,1)
def un(op:List UInt8)(t x:Int):Int×Int:=bV (Cz t x) (Dr t) (Hv op x) op t x (JE t (wrap64 (-x)))
def Wy(b:Bool):Int:=if b then 1 else 0
def Lx(op:List UInt8)(x y:Int):Option Int:=
 if op=[65,100,100]then some (ZO (floatBits .add .f32 x.toNat y.toNat))
 else if op=[83,117,98]then some (ZO (floatBits .sub .f32 x.toNat y.toNat))
 else if op=[77,117,108]then some (ZO (floatBits .mul .f32 x.toNat y.toNat))
 else if op=[68,105,118]then some (ZO (floatBits .quo .f32 x.toNat y.toNat))
 else if op=[69,113,117,97,108]then some (Wy (!PY x&& !PY y&&decide (sv single x.toNat=sv single y.toNat)))
 else if op=[76,101,115,115]then some (Wy (!PY x&& !PY y&&decide (sv single x.toNat<sv single y.toNat)))
 else if op=[71,114,101,97,116,101,114]then some (Wy (!PY x&& !PY y&&decide (sv single y.toNat<sv single x.toNat)))
 else if op=[77,97,120]then some (if PY x||PY y then 2143289344 else if sv single x.toNat=sv single y.toNat then min x y else if sv single y.toNat<sv single x.toNat then x else y)
 else if op=[77,105,110]then some (if PY x||PY y then 2143289344 else if sv single x.toNat=sv single y.toNat then max x y else if sv single x.toNat<sv single y.toNat then x else y)
 else none
def JF(op:List UInt8)(t x y:Int):Int×Int:=
 if op=[65,100,100]then(JE t (wrap64 (x+y)),0)
 else if op=[83,117,98]then(JE t (wrap64 (x-y)),0)
 else if op=[77,117,108]then(JE t (wrap64 (x*y)),0)
 else if op=[68,105,118]then(if y=0 then(0,7)else if y=-1 then(JE t (wrap64 (-x)),0)else(x.tdiv y,0))
 else if op=[77,97,120]then(max x y,0)
 else if op=[77,105,110]then(min x y,0)
 else if op=[69,113,117,97,108]then(Wy (decide (x=y)),0)
 else if op=[76,101,115,115]then(Wy (decide (x<y)),0)
 else if op=[71,114,101,97,116,101,114]then(Wy (decide (y<x)),0)
 else(0,1)
def WS(c d wh:Bool)(o:Option Int)(i:Int×Int)(op:List UInt8)(t x y:Int):Int×Int:=
 if c=false∨d=false then(0,1)
 else if wh=true then i
 else if t=1 then(match o with |some z=>(z,0)|none=>(0,1))
 else if op=[65,110,100]then(x*y,0)
 else if op=[79,114]then(max x y,0)
 else if op=[88,111,114]then(Wy (decide (x≠y)),0)
 else if op=[69,113,117,97,108]then(Wy (decide (x=y)),0)
 else(0,1)
def Eh(op:List UInt8)(t x y:Int):Int×Int:=WS (Cz t x) (Cz t y) (Dr t) (Lx op x y) (JF op t x y) op t x y
end Fl
end
end Go.Proofs.YtkkeehnldcdccaaGreatDoor
