import Ieee.Arith
import Derived.Laws.FloatBits
set_option linter.unusedVariables false
set_option linter.unusedSimpArgs false
namespace Go.Proofs.YtijhdmidffenbaaGreatDoor
namespace Fl
open Ieee
def mg (f:Format) (r:Nat):Nat :=
 if r < f.binade then r else (f.binade+r % f.binade) * 2 ^ (r / f.binade - 1)
theorem binade_pos (f:Format):0 < f.binade:=Nat.two_pow_pos _
theorem mg_low {f:Format} {r:Nat} (h:r < f.binade):mg f r=r:=by
 unfold mg;rw [if_pos h]
theorem mg_high {f:Format} {r:Nat} (h:f.binade≤r):mg f r=(f.binade+r % f.binade) * 2 ^ (r / f.binade - 1):=by
 unfold mg;rw [if_neg (by omega)]
theorem mg_zero (f:Format):mg f 0=0:=mg_low (binade_pos f)
theorem cut_le {neg:Bool} {n drop N:Nat} (h:n≤N * 2 ^ drop):Toward.even.cut neg n drop≤N:=by
 have hlog:n < 2 ^ (n.log2+1):=Nat.lt_log2_self;unfold Toward.cut;simp only [Nat.shiftLeft_eq,Nat.one_mul];by_cases hd:drop≤n.log2+2
 ·rw [Nat.min_eq_left hd];have hp:0 < 2 ^ drop:=Nat.two_pow_pos _;generalize 2 ^ drop=g at *;have hdm:=Nat.div_add_mod n g;have hm:=Nat.mod_lt n hp;have hle:n / g≤N:=Nat.div_le_of_le_mul (by rw [Nat.mul_comm];exact h);by_cases he:n / g=N
  ·have hz:n % g=0:=by
    rw [he] at hdm;have:g * N=N * g:=Nat.mul_comm _ _;omega
   have h0:(decide (g < 2 * (n % g)) || (g==2 * (n % g)&&n / g % 2==1))=false:=by
    rw [hz];simp;omega
   rw [h0];simp;omega
  ·have:=Bool.toNat_le (decide (g < 2 * (n % g)) || (g==2 * (n % g)&&n / g % 2==1));omega
 ·have hmin:min drop (n.log2+2)=n.log2+2:=Nat.min_eq_right (by omega);rw [hmin];have h2:2 ^ (n.log2+2)=2 * 2 ^ (n.log2+1):=by rw [Nat.pow_succ];omega
  have hlt:n < 2 ^ (n.log2+2):=by omega
  rw [Nat.div_eq_of_lt hlt,Nat.mod_eq_of_lt hlt];have h0:(decide (2 ^ (n.log2+2) < 2 * n) || (2 ^ (n.log2+2)==2 * n&&0 % 2==1))=false:=by
   simp;omega
  rw [h0];simp
theorem le_cut {neg:Bool} {n drop N:Nat} (h:N * 2 ^ drop≤n):N≤Toward.even.cut neg n drop:=by
 have hlog:n < 2 ^ (n.log2+1):=Nat.lt_log2_self;unfold Toward.cut;simp only [Nat.shiftLeft_eq,Nat.one_mul];by_cases hd:drop≤n.log2+2
 ·rw [Nat.min_eq_left hd];have hp:0 < 2 ^ drop:=Nat.two_pow_pos _;have:=(Nat.le_div_iff_mul_le hp (x:=N) (y:=n)).2 h;omega
 ·have h1:2 ^ (n.log2+1)≤2 ^ drop:=Nat.pow_le_pow_right (by decide) (by omega);have:N=0:=by
   rcases Nat.eq_zero_or_pos N with h0 | h0
   ·exact h0
   ·have:1 * 2 ^ drop≤N * 2 ^ drop:=Nat.mul_le_mul_right _ h0;omega
  rw [this];exact Nat.zero_le _
def rnd (f:Format) (mag:Nat) (place:Int):Nat :=
 if mag=0 then 0 else
 let last:=max (place+mag.log2 - f.fractionBits) f.leastPlace
 let kept:=Toward.even.cut false (mag <<< (place - last).toNat) (last - place).toNat
 min ((last - f.leastPlace).toNat * f.binade+kept) f.infRung
theorem nearest_eq (f:Format) (neg:Bool) (mag:Nat) (place:Int):f.nearest neg mag place=f.word neg (rnd f mag place):=by
 unfold Format.nearest rnd;by_cases h:mag=0
 ·rw [if_pos h,if_pos h]
 ·rw [if_neg h,if_neg h];rfl
structure Near (B E K V D:Nat):Prop where
 up:∀ N,V≤N * (2 ^ E * D)→K≤N
 down:∀ N,N * (2 ^ E * D)≤V→N≤K
 lt:V < 2 * B * (2 ^ E * D)
 ge:E=0∨B * (2 ^ E * D)≤V
theorem near_of (f:Format) {mag:Nat} (place:Int) (hm:mag≠0) :
    ∃ E K,rnd f mag place=min (E * f.binade+K) f.infRung ∧
      Near f.binade E K (mag * 2 ^ (place - f.leastPlace).toNat) (2 ^ (f.leastPlace - place).toNat):=by
  have h1:2 ^ mag.log2≤mag:=Nat.log2_self_le hm;have h2:mag < 2 ^ (mag.log2+1):=Nat.lt_log2_self;generalize hlg:mag.log2=lg at *
  let last:=max (place+lg - f.fractionBits) f.leastPlace
  have hlast:last=max (place+lg - f.fractionBits) f.leastPlace:=rfl;refine ⟨(last - f.leastPlace).toNat,Toward.even.cut false (mag <<< (place - last).toNat) (last - place).toNat,?_,?_⟩
  · unfold rnd;rw [if_neg hm,hlg]
  · generalize hE:(last - f.leastPlace).toNat=E
    generalize hu:(place - last).toNat=u;generalize hd:(last - place).toNat=dn;generalize ha:(place - f.leastPlace).toNat=a;generalize hq:(f.leastPlace - place).toNat=d;have hbin:f.binade=2 ^ f.fractionBits:=rfl;generalize hfb:f.fractionBits=fb at *;have hpw:2 ^ u * (2 ^ E * 2 ^ d)=2 ^ dn * 2 ^ a:=by
      rw [←Nat.pow_add,←Nat.pow_add,←Nat.pow_add]
      congr 1
      omega
    have hpd:0 < 2 ^ dn:=Nat.two_pow_pos _;have hpE:0 < 2 ^ E * 2 ^ d:=Nat.mul_pos (Nat.two_pow_pos _) (Nat.two_pow_pos _);refine ⟨?_,?_,?_,?_⟩
    · intro N h
      refine cut_le ?_;rw [Nat.shiftLeft_eq];refine Nat.le_of_mul_le_mul_right ?_ hpE
      calc mag * 2 ^ u * (2 ^ E * 2 ^ d)=2 ^ dn * (mag * 2 ^ a):=by
            rw [Nat.mul_assoc,hpw];ac_rfl
        _≤2 ^ dn * (N * (2 ^ E * 2 ^ d)):=Nat.mul_le_mul_left _ h
        _=N * 2 ^ dn * (2 ^ E * 2 ^ d):=by ac_rfl
    · intro N h
      refine le_cut ?_;rw [Nat.shiftLeft_eq];refine Nat.le_of_mul_le_mul_right ?_ hpE
      calc N * 2 ^ dn * (2 ^ E * 2 ^ d)=2 ^ dn * (N * (2 ^ E * 2 ^ d)):=by ac_rfl
        _≤2 ^ dn * (mag * 2 ^ a):=Nat.mul_le_mul_left _ h
        _=mag * 2 ^ u * (2 ^ E * 2 ^ d):=by
            rw [Nat.mul_assoc,hpw];ac_rfl
    · rw [hbin]
      have h3:mag * 2 ^ a < 2 ^ (lg+1) * 2 ^ a:=Nat.mul_lt_mul_of_pos_right h2 (Nat.two_pow_pos _);refine Nat.lt_of_lt_of_le h3 ?_;rw [show 2 * 2 ^ fb * (2 ^ E * 2 ^ d)=2 ^ (fb+1+(E+d)) from by
        rw [Nat.pow_add,Nat.pow_add 2 E d,Nat.pow_succ];ac_rfl,←Nat.pow_add]
      exact Nat.pow_le_pow_right (by decide) (by omega)
    · by_cases h0:E=0
      · exact Or.inl h0
      · right
        rw [hbin];have h3:2 ^ lg * 2 ^ a≤mag * 2 ^ a:=Nat.mul_le_mul_right _ h1;refine Nat.le_trans ?_ h3;rw [←Nat.pow_add,←Nat.pow_add,←Nat.pow_add];exact Nat.pow_le_pow_right (by decide) (by omega)
theorem near_le {f:Format} {E K V D c:Nat} (hD:0 < D) (h:Near f.binade E K V D) (hc:V≤mg f c * D):E * f.binade+K≤c:=by
 have hB:=binade_pos f;obtain ⟨up,down,lt,ge⟩:=h;have hk2:K≤2 * f.binade:=up _ (Nat.le_of_lt lt);by_cases hlow:c < f.binade
 ·rw [mg_low hlow] at hc;rcases ge with h0 | h0
  ·subst h0;have:=up c (by simpa using hc);omega
  ·have h1:f.binade * (2 ^ E * D)≤c * D:=Nat.le_trans h0 hc;have h2:f.binade * D≤f.binade * (2 ^ E * D):=by
    refine Nat.mul_le_mul_left _ ?_;exact Nat.le_mul_of_pos_left _ (Nat.two_pow_pos _)
   have:=Nat.le_of_mul_le_mul_right (Nat.le_trans h2 h1) hD;omega
 ·have hge:f.binade≤c:=by omega
  rw [mg_high hge] at hc;have hdm:=Nat.div_add_mod c f.binade;have hmod:=Nat.mod_lt c hB;have hq1:1≤c / f.binade:=(Nat.le_div_iff_mul_le hB).2 (by omega);generalize hq:c / f.binade=q at *;generalize ht:c % f.binade=t at *;rcases Nat.lt_trichotomy E (q - 1) with hlt | heq | hgt
  ·have:(E+2) * f.binade≤q * f.binade:=Nat.mul_le_mul_right _ (by omega);have e1:(E+2) * f.binade=E * f.binade+2 * f.binade:=Nat.add_mul _ _ _;have e2:q * f.binade=f.binade * q:=Nat.mul_comm _ _;omega
  ·subst heq;have:=up (f.binade+t) (by rw [←Nat.mul_assoc];exact hc);have e1:f.binade * q=(q - 1) * f.binade+f.binade:=by
    rw [Nat.mul_comm,←Nat.succ_mul];congr 1;omega
   omega
  ·rcases ge with h0 | h0
   ·omega
   ·exfalso;have h1:f.binade * (2 ^ E * D)≤(f.binade+t) * 2 ^ (q - 1) * D:=Nat.le_trans h0 hc;have h2:f.binade * 2 ^ E≤(f.binade+t) * 2 ^ (q - 1):=by
     refine Nat.le_of_mul_le_mul_right ?_ hD;rw [Nat.mul_assoc];exact h1
    have h3:2 ^ (q - 1+1)≤2 ^ E:=Nat.pow_le_pow_right (by decide) (by omega);have h4:f.binade * 2 ^ (q - 1+1)≤f.binade * 2 ^ E:=Nat.mul_le_mul_left _ h3;have h5:(f.binade+t) * 2 ^ (q - 1) < 2 * f.binade * 2 ^ (q - 1):=Nat.mul_lt_mul_of_pos_right (by omega) (Nat.two_pow_pos _);have h6:f.binade * 2 ^ (q - 1+1)=2 * f.binade * 2 ^ (q - 1):=by rw [Nat.pow_succ];ac_rfl
    omega
theorem le_near {f:Format} {E K V D c:Nat} (h:Near f.binade E K V D) (hc:mg f c * D≤V):c≤E * f.binade+K:=by
 have hB:=binade_pos f;obtain ⟨up,down,lt,ge⟩:=h;have hkB:E=0∨f.binade≤K:=ge.imp id (fun h=>down _ h);by_cases hlow:c < f.binade
 ·rw [mg_low hlow] at hc;rcases hkB with h0 | h0
  ·subst h0;have:=down c (by simpa using hc);omega
  ·omega
 ·have hge:f.binade≤c:=by omega
  rw [mg_high hge] at hc;have hdm:=Nat.div_add_mod c f.binade;have hmod:=Nat.mod_lt c hB;have hq1:1≤c / f.binade:=(Nat.le_div_iff_mul_le hB).2 (by omega);generalize hq:c / f.binade=q at *;generalize ht:c % f.binade=t at *;rcases Nat.lt_trichotomy E (q - 1) with hlt | heq | hgt
  ·exfalso;have h3:2 ^ (E+1)≤2 ^ (q - 1):=Nat.pow_le_pow_right (by decide) (by omega);have h4:2 * f.binade * (2 ^ E * D)≤(f.binade+t) * 2 ^ (q - 1) * D:=by
    calc 2 * f.binade * (2 ^ E * D)=f.binade * 2 ^ (E+1) * D:=by rw [Nat.pow_succ];ac_rfl
     _≤f.binade * 2 ^ (q - 1) * D:=Nat.mul_le_mul_right _ (Nat.mul_le_mul_left _ h3)
     _≤(f.binade+t) * 2 ^ (q - 1) * D:=Nat.mul_le_mul_right _ (Nat.mul_le_mul_right _ (by omega))
   omega
  ·subst heq;have:=down (f.binade+t) (by rw [←Nat.mul_assoc];exact hc);have e1:f.binade * q=(q - 1) * f.binade+f.binade:=by
    rw [Nat.mul_comm,←Nat.succ_mul];congr 1;omega
   omega
  ·rcases hkB with h0 | h0
   ·omega
   ·have h1:q * f.binade≤E * f.binade:=Nat.mul_le_mul_right _ (by omega);have e2:q * f.binade=f.binade * q:=Nat.mul_comm _ _;omega
theorem rnd_le {f:Format} {mag:Nat} {place:Int} {c:Nat}
  (h:mag * 2 ^ (place - f.leastPlace).toNat≤mg f c * 2 ^ (f.leastPlace - place).toNat):rnd f mag place≤c:=by
 by_cases hm:mag=0
 ·unfold rnd;rw [if_pos hm];omega
 ·obtain ⟨E,K,he,hn⟩:=near_of f place hm;rw [he];have:=near_le (Nat.two_pow_pos _) hn h;omega
theorem le_rnd {f:Format} {mag:Nat} {place:Int} {c:Nat} (hc:c≤f.infRung)
  (h:mg f c * 2 ^ (f.leastPlace - place).toNat≤mag * 2 ^ (place - f.leastPlace).toNat):c≤rnd f mag place:=by
 by_cases hm:mag=0
 ·subst hm;have h0:mg f c=0:=by
   rw [Nat.zero_mul] at h;have:=Nat.le_zero.1 h;rcases Nat.mul_eq_zero.1 this with h1 | h1
   ·exact h1
   ·have:=Nat.two_pow_pos (f.leastPlace - place).toNat;omega
  have hB:=binade_pos f;by_cases hlow:c < f.binade
  ·rw [mg_low hlow] at h0;omega
  ·rw [mg_high (by omega)] at h0;have:=Nat.two_pow_pos (c / f.binade - 1);rcases Nat.mul_eq_zero.1 h0 with h1 | h1<;>omega
 ·obtain ⟨E,K,he,hn⟩:=near_of f place hm;rw [he];have:=le_near hn h;omega
theorem rnd_le_inf (f:Format) (mag:Nat) (place:Int):rnd f mag place≤f.infRung:=by
 by_cases hm:mag=0
 ·unfold rnd;rw [if_pos hm];omega
 ·obtain ⟨E,K,he,hn⟩:=near_of f place hm;rw [he];exact Nat.min_le_right _ _
theorem mg_lt {f:Format} {a b:Nat} (h:a < b):mg f a < mg f b:=by
 have hB:=binade_pos f;by_cases hb:b < f.binade
 ·rw [mg_low hb,mg_low (by omega)];exact h
 ·rw [mg_high (r:=b) (by omega)];have hq1:1≤b / f.binade:=(Nat.le_div_iff_mul_le hB).2 (by omega);have hdb:=Nat.div_add_mod b f.binade;by_cases ha:a < f.binade
  ·rw [mg_low ha];have:(f.binade+b % f.binade) * 1≤(f.binade+b % f.binade) * 2 ^ (b / f.binade - 1):=Nat.mul_le_mul_left _ (Nat.two_pow_pos _);omega
  ·rw [mg_high (r:=a) (by omega)];have hda:=Nat.div_add_mod a f.binade;have hma:=Nat.mod_lt a hB;have hmb:=Nat.mod_lt b hB;have hqa:1≤a / f.binade:=(Nat.le_div_iff_mul_le hB).2 (by omega);generalize a / f.binade=p at *;generalize b / f.binade=q at *;generalize a % f.binade=s at *;generalize b % f.binade=t at *;rcases Nat.lt_trichotomy p q with hlt | heq | hgt
   ·have h1:(f.binade+s) * 2 ^ (p - 1) < 2 * f.binade * 2 ^ (p - 1):=Nat.mul_lt_mul_of_pos_right (by omega) (Nat.two_pow_pos _);have h2:2 * f.binade * 2 ^ (p - 1)=f.binade * 2 ^ (p - 1+1):=by rw [Nat.pow_succ];ac_rfl
    have h3:2 ^ (p - 1+1)≤2 ^ (q - 1):=Nat.pow_le_pow_right (by decide) (by omega);have h4:f.binade * 2 ^ (p - 1+1)≤(f.binade+t) * 2 ^ (q - 1):=Nat.mul_le_mul (by omega) h3;omega
   ·subst heq;refine Nat.mul_lt_mul_of_pos_right (by omega) (Nat.two_pow_pos _)
   ·exfalso;have:f.binade * (q+1)≤f.binade * p:=Nat.mul_le_mul_left _ (by omega);rw [Nat.mul_add] at this;omega
theorem mg_le {f:Format} {a b:Nat} (h:a≤b):mg f a≤mg f b:=by
 rcases Nat.lt_or_eq_of_le h with h | h
 ·exact Nat.le_of_lt (mg_lt h)
 ·rw [h];exact Nat.le_refl _
theorem mg_lt_iff {f:Format} {a b:Nat}:mg f a < mg f b↔a < b:=by
 constructor
 ·intro h;rcases Nat.lt_or_ge a b with h1 | h1
  ·exact h1
  ·have:=mg_le (f:=f) h1;omega
 ·exact mg_lt
theorem mg_inj {f:Format} {a b:Nat} (h:mg f a=mg f b):a=b:=by
 rcases Nat.lt_trichotomy a b with h1 | h1 | h1
 ·have:=mg_lt (f:=f) h1;omega
 ·exact h1
 ·have:=mg_lt (f:=f) h1;omega
theorem rnd_eq {f:Format} {mag:Nat} {place:Int} {c:Nat} (hc:c≤f.infRung)
  (h:mag * 2 ^ (place - f.leastPlace).toNat=mg f c * 2 ^ (f.leastPlace - place).toNat):rnd f mag place=c :=
 Nat.le_antisymm (rnd_le (Nat.le_of_eq h)) (le_rnd hc (Nat.le_of_eq h.symm))
theorem mg_exact {f:Format} (m e:Nat) (h:m < 2 * f.binade):∃ c,mg f c=m * 2 ^ e:=by
 have hB:=binade_pos f
 induction e generalizing m with
 | zero =>
  refine ⟨m,?_⟩;by_cases hlow:m < f.binade
  ·rw [mg_low hlow];simp
  ·have h1:m / f.binade=1:=by
    refine Nat.div_eq_of_lt_le ?_ ?_<;>omega
   rw [mg_high (by omega),h1];have:=Nat.div_add_mod m f.binade;rw [h1] at this;simp;omega
 | succ e ih =>
  by_cases hlow:m < f.binade
  ·obtain ⟨c,hc⟩:=ih (2 * m) (by omega);exact ⟨c,by rw [hc,Nat.pow_succ];ac_rfl⟩
  ·refine ⟨(e+1+1) * f.binade+(m - f.binade),?_⟩;have ht:m - f.binade < f.binade:=by omega
   have hbig:f.binade≤(e+1+1) * f.binade+(m - f.binade):=by
    have:=Nat.mul_le_mul_right f.binade (show 1≤e+1+1 by omega);omega
   have hdiv:((e+1+1) * f.binade+(m - f.binade)) / f.binade=e+1+1:=by
    rw [Nat.mul_comm,Nat.mul_add_div hB,Nat.div_eq_of_lt ht]
   have hmod:((e+1+1) * f.binade+(m - f.binade)) % f.binade=m - f.binade:=by
    rw [Nat.mul_comm,Nat.mul_add_mod,Nat.mod_eq_of_lt ht]
   rw [mg_high hbig,hdiv,hmod];rw [show f.binade+(m - f.binade)=m by omega]
   rfl
def rung (f:Format) (w:Nat):Nat:=w % f.signWeight
def sgn (f:Format) (w:Nat):Bool:=w / f.signWeight % 2==1
def isNaN (f:Format) (w:Nat):Bool:=decide (f.infRung < w % f.signWeight)
def sv (f:Format) (w:Nat):Int:=if sgn f w then -(mg f (rung f w):Int) else (mg f (rung f w):Int)
theorem read_fin {f:Format} {w:Nat} (h:rung f w < f.infRung) :
  ∃ m p,f.read w=.number (sgn f w) m p∧f.leastPlace≤p∧m * 2 ^ (p - f.leastPlace).toNat=mg f (rung f w):=by
 unfold Format.read;simp only [rung] at h ⊢;by_cases h1:w % f.signWeight < f.binade
 ·rw [if_pos h1];refine ⟨_,_,rfl,Int.le_refl _,?_⟩;rw [mg_low h1];simp
 ·rw [if_neg h1,if_pos h];refine ⟨_,_,rfl,by omega,?_⟩;rw [mg_high (by omega)]
  congr 2
  omega
theorem read_inf {f:Format} (hf:f.binade≤f.infRung) {w:Nat} (h:rung f w=f.infRung):f.read w=.infinity (sgn f w):=by
 unfold Format.read;simp only [rung] at h ⊢;rw [h,if_neg (by omega),if_neg (by omega),if_pos rfl]
 rfl
theorem read_nan {f:Format} (hf:f.binade≤f.infRung) {w:Nat} (h:isNaN f w=true):f.read w=.nan (sgn f w) (rung f w - f.infRung):=by
 unfold Format.read;simp only [isNaN,decide_eq_true_eq] at h;rw [if_neg (by omega),if_neg (by omega),if_neg (by omega)]
 rfl
theorem signed_eq (s:Bool) (m k:Nat):signed s m k=if s then -((m * 2 ^ k:Nat):Int) else ((m * 2 ^ k:Nat):Int):=by
 unfold signed;simp only [Nat.shiftLeft_eq]
theorem signed_sv {f:Format} {w m:Nat} {p b:Int} (hL:f.leastPlace≤b) (hb:b≤p) (h:m * 2 ^ (p - f.leastPlace).toNat=mg f (rung f w)) :
  signed (sgn f w) m (p - b).toNat * ((2 ^ (b - f.leastPlace).toNat:Nat):Int)=sv f w:=by
 have e:(p - f.leastPlace).toNat=(p - b).toNat+(b - f.leastPlace).toNat:=by omega
 rw [e,Nat.pow_add,←Nat.mul_assoc] at h;rw [signed_eq];unfold sv;rw [←h];cases sgn f w<;>simp [Int.neg_mul]
theorem compare_mul (x y:Int) {c:Nat} (h:0 < c):compare (x * (c:Int)) (y * (c:Int))=compare x y:=by
 have hc:(0:Int) < c:=by omega
 rcases Int.lt_trichotomy x y with h1 | h1 | h1
 ·have h2:x * (c:Int) < y * (c:Int):=Int.mul_lt_mul_of_pos_right h1 hc;rw [Int.compare_eq_lt.2 h1,Int.compare_eq_lt.2 h2]
 ·rw [h1];simp
 ·have h2:y * (c:Int) < x * (c:Int):=Int.mul_lt_mul_of_pos_right h1 hc;rw [Int.compare_eq_gt.2 h1,Int.compare_eq_gt.2 h2]
theorem sv_abs_lt {f:Format} {w:Nat} (h:rung f w < f.infRung):-(mg f f.infRung:Int) < sv f w∧sv f w < (mg f f.infRung:Int):=by
 have:=mg_lt (f:=f) h;unfold sv;split<;>constructor<;>omega
theorem order_eq {f:Format} (hf:f.binade≤f.infRung) {a b:Nat} (ha:isNaN f a=false) (hb:isNaN f b=false) :
  f.order a b=some (compare (sv f a) (sv f b)):=by
 have hB:=binade_pos f;have hpos:0 < mg f f.infRung:=by
  have:=mg_lt (f:=f) (show 0 < f.infRung by omega);omega
 simp only [isNaN,decide_eq_false_iff_not,Nat.not_lt] at ha hb;unfold Format.order;rcases Nat.lt_or_eq_of_le ha with ha | ha<;>rcases Nat.lt_or_eq_of_le hb with hb | hb
 ·obtain ⟨m,p,e1,h1,g1⟩:=read_fin (f:=f) (w:=a) ha;obtain ⟨n,q,e2,h2,g2⟩:=read_fin (f:=f) (w:=b) hb;rw [e1,e2];simp only [Datum.order]
  congr 1
  have k1:=signed_sv (f:=f) (w:=a) (b:=min p q) (by omega) (by omega) g1;have k2:=signed_sv (f:=f) (w:=b) (b:=min p q) (by omega) (by omega) g2;rw [←k1,←k2,compare_mul _ _ (Nat.two_pow_pos _)]
 ·obtain ⟨m,p,e1,h1,g1⟩:=read_fin (f:=f) (w:=a) ha;rw [e1,read_inf hf hb];simp only [Datum.order]
  congr 1
  have:=sv_abs_lt ha;have e:sv f b=if sgn f b then -(mg f f.infRung:Int) else (mg f f.infRung:Int):=by unfold sv;rw [show rung f b=f.infRung from hb]
  rw [e];cases sgn f b
  ·exact (Int.compare_eq_lt.2 (by simp;omega)).symm
  ·exact (Int.compare_eq_gt.2 (by simp;omega)).symm
 ·obtain ⟨m,p,e1,h1,g1⟩:=read_fin (f:=f) (w:=b) hb;rw [e1,read_inf hf ha];simp only [Datum.order]
  congr 1
  have:=sv_abs_lt hb;have e:sv f a=if sgn f a then -(mg f f.infRung:Int) else (mg f f.infRung:Int):=by unfold sv;rw [show rung f a=f.infRung from ha]
  rw [e];cases sgn f a
  ·exact (Int.compare_eq_gt.2 (by simp;omega)).symm
  ·exact (Int.compare_eq_lt.2 (by simp;omega)).symm
 ·rw [read_inf hf ha,read_inf hf hb];simp only [Datum.order]
  congr 1
  have ea:sv f a=if sgn f a then -(mg f f.infRung:Int) else (mg f f.infRung:Int):=by unfold sv;rw [show rung f a=f.infRung from ha]
  have eb:sv f b=if sgn f b then -(mg f f.infRung:Int) else (mg f f.infRung:Int):=by unfold sv;rw [show rung f b=f.infRung from hb]
  rw [ea,eb];cases sgn f a<;>cases sgn f b
  ·simp
  ·exact (Int.compare_eq_gt.2 (by simp;omega)).symm
  ·exact (Int.compare_eq_lt.2 (by simp;omega)).symm
  ·simp
theorem order_nan_left {f:Format} (hf:f.binade≤f.infRung) {a b:Nat} (ha:isNaN f a=true):f.order a b=none:=by
 unfold Format.order;rw [read_nan hf ha];cases f.read b<;>rfl
theorem order_nan_right {f:Format} (hf:f.binade≤f.infRung) {a b:Nat} (hb:isNaN f b=true):f.order a b=none:=by
 unfold Format.order;rw [read_nan hf hb];cases f.read a<;>rfl
end Fl
end Go.Proofs.YtijhdmidffenbaaGreatDoor
