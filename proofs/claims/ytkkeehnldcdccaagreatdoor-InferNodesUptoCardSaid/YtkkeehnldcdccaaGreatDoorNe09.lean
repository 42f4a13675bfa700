import Derived.RangeFuncFrom
import Derived.RangeFuncBox
import Derived.RangeFuncLeaves
import Derived.Shelf.Abstract
import Derived.OwnWalkIn
import Derived.TacticsInMore
import Derived.LoopNIn
import Derived.LoopIn
import Derived.Maps.AppendAt
import Derived.Deep.Draws
import Derived.Sort.QuietIn
import Derived.RegionIn
import Derived.Shelf.RegionOpen
import Derived.Test.YtkkeehnldcdccaaGreatDoorShelfin
import Derived.Laws.OwnMore
import Derived.Test.YtkkeehnldcdccaaGreatDoorNe08
set_option linter.unusedVariables false
set_option linter.unusedSimpArgs false
set_option maxRecDepth 100000
set_option maxHeartbeats 4000000
namespace Go.Proofs.YtkkeehnldcdccaaGreatDoor
open Go.Lib (hid)
open Go.RowKit
def AH(ats:List At)(nm:ByteArray)(other:Int):Int:=match Az ats nm 2 with |none=>other|some a=>a.i
def Af(ats:List At)(nm:ByteArray)(other:List Int):List Int:=match Az ats nm 7 with |none=>other|some a=>a.ints
theorem GC{α:Type}(o:Option α)(z:α):(o=none∧o.isSome=false∧o.getD z=z)∨∃a,o=some a∧o.isSome=true∧o.getD z=a:=by
 cases o with
 | none=>exact .inl ⟨rfl,rfl,rfl⟩
 | some a=>exact .inr ⟨a,rfl,rfl,rfl⟩
theorem DC{w:World}{v:Value}{n:Nd}(h:Ba w v n)(nm:ByteArray)(other:Int) :
  Calls Tryz.prog 45 #[v,.string nm,.int .i64 other] w fun e w'=>e=.returned (.int .i64 (AH n.attrs nm other))∧Below w.heap.size w w':=by
 obtain⟨vin,vat,rfl,hn⟩:=h;obtain⟨a1,c1,rfl⟩:=hn.is.form;obtain⟨a2,c2,rfl⟩:=hn.ia.form;have hb0:Below w.heap.size w (w.alloc (Obj.cells #[Value.string n.op,Value.string n.name,Value.slice a1 n.ins.length c1,Value.string n.out,Value.slice a2 n.attrs.length c2] 25)):=(Below.refl _ w).alloc (Nat.le_refl _) _;have HF:=hid (Ga ⟨_,_,rfl,hn.below hb0⟩ nm 2);have HB0:=hid hb0;clear hn hb0;unfold Nd.val at HF⊢;go_enter Tryz.func45,Tryz.ntmps45
 go_wp2_with fail
 refine HF.out.mono ?_;rintro e w1⟨B1,va,rfl,vd,vx,vi,rfl,hna⟩;have HB1:=hid (HB0.out.trans (B1.mono HB0.out.size));have HB2:Hid (∀o,Below w.heap.size w (w1.alloc o)):=hid fun o=>HB1.out.alloc HB1.out.size o;obtain⟨ad,cd,rfl⟩:=hna.id.shape;obtain⟨ax,cx,rfl⟩:=hna.ix.shape;obtain⟨ai,ci,rfl⟩:=hna.ii.shape;clear hna B1;unfold At.val;rcases GC (Az n.attrs nm 2) At.zero with⟨h1,h2,h3⟩| ⟨a,h1,h2,h3⟩
 ·have HP:Hid (AH n.attrs nm other=other):=hid (by unfold AH;rw[h1]);rw[h2];clear h1 h2 h3;go_wp2
  go_ret
  exact⟨Ab (An HP.out.symm),HB2.out _⟩
 ·have HP:Hid (AH n.attrs nm other=a.i):=hid (by unfold AH;rw[h1]);rw[h2,h3];clear h1 h2 h3;go_wp2
  go_ret
  exact⟨Ab (An HP.out.symm),HB2.out _⟩
theorem DD{w:World}{v:Value}{n:Nd}(h:Ba w v n)(nm:ByteArray)(other:Int) :
  Calls Tryz.prog 27 #[v,.string nm,.int .i64 other] w fun e w'=>e=.returned (.int .i64 (AH n.attrs nm other))∧Below w.heap.size w w':=by
 obtain⟨vin,vat,rfl,hn⟩:=h;obtain⟨a1,c1,rfl⟩:=hn.is.form;obtain⟨a2,c2,rfl⟩:=hn.ia.form;have hb0:Below w.heap.size w (w.alloc (Obj.cells #[Value.string n.op,Value.string n.name,Value.slice a1 n.ins.length c1,Value.string n.out,Value.slice a2 n.attrs.length c2] 25)):=(Below.refl _ w).alloc (Nat.le_refl _) _;have HF:=hid (GB ⟨_,_,rfl,hn.below hb0⟩ nm 2);have HB0:=hid hb0;clear hn hb0;unfold Nd.val at HF⊢;go_enter Tryz.func27,Tryz.ntmps27
 go_wp2_with fail
 refine HF.out.mono ?_;rintro e w1⟨B1,va,rfl,vd,vx,vi,rfl,hna⟩;have HB1:=hid (HB0.out.trans (B1.mono HB0.out.size));have HB2:Hid (∀o,Below w.heap.size w (w1.alloc o)):=hid fun o=>HB1.out.alloc HB1.out.size o;obtain⟨ad,cd,rfl⟩:=hna.id.shape;obtain⟨ax,cx,rfl⟩:=hna.ix.shape;obtain⟨ai,ci,rfl⟩:=hna.ii.shape;clear hna B1;unfold At.val;rcases GC (Az n.attrs nm 2) At.zero with⟨h1,h2,h3⟩| ⟨a,h1,h2,h3⟩
 ·have HP:Hid (AH n.attrs nm other=other):=hid (by unfold AH;rw[h1]);rw[h2];clear h1 h2 h3;go_wp2
  go_ret
  exact⟨Ab (An HP.out.symm),HB2.out _⟩
 ·have HP:Hid (AH n.attrs nm other=a.i):=hid (by unfold AH;rw[h1]);rw[h2,h3];clear h1 h2 h3;go_wp2
  go_ret
  exact⟨Ab (An HP.out.symm),HB2.out _⟩
theorem CR{w:World}{v vo:Value}{n:Nd}(h:Ba w v n)(nm:ByteArray){other:List Int}(ho:Aa w vo other) :
  Calls Tryz.prog 109 #[v,.string nm,vo] w fun e w'=>∃v',e=.returned v'∧w'.ownsRow w.heap.size 2 1 v' (Af n.attrs nm other).length ((Af n.attrs nm other).map (Value.int .i64))∧Below w.heap.size w w':=by
 obtain⟨i0,hi,hz0,hz1,hz2⟩:=info_parts Dp;obtain⟨vin,vat,rfl,hn⟩:=h;obtain⟨a1,c1,rfl⟩:=hn.is.form;obtain⟨a2,c2,rfl⟩:=hn.ia.form;obtain⟨a3,c3,rfl⟩:=ho.shape;have hb0:Below w.heap.size w (w.alloc (Obj.cells #[Value.string n.op,Value.string n.name,Value.slice a1 n.ins.length c1,Value.string n.out,Value.slice a2 n.attrs.length c2] 25)):=(Below.refl _ w).alloc (Nat.le_refl _) _;have HF:=hid (Ga ⟨_,_,rfl,hn.below hb0⟩ nm 7);have HB0:=hid hb0;have HO:=hid ho;clear hn hb0 ho;unfold Nd.val at HF⊢;go_enter Tryz.func109,Tryz.ntmps109
 go_wp2_with fail
 refine HF.out.mono ?_;rintro e w1⟨B1,va,rfl,vd,vx,vi,rfl,hna⟩;have HB1:=hid (HB0.out.trans (B1.mono HB0.out.size));have HB2:Hid (∀o,Below w.heap.size w (w1.alloc o)):=hid fun o=>HB1.out.alloc HB1.out.size o;have HII:Hid (∀o,Aa (w1.alloc o) vi ((Az n.attrs nm 7).getD At.zero).ints):=hid fun o=>hna.ii.below ((Below.refl _ _).alloc (Nat.le_refl _) _);have HOO:Hid (∀o,Aa (w1.alloc o) (.slice a3 other.length c3) other):=hid fun o=>HO.out.below (HB2.out o);obtain⟨ad,cd,rfl⟩:=hna.id.shape;obtain⟨ax,cx,rfl⟩:=hna.ix.shape;obtain⟨ai,ci,rfl⟩:=hna.ii.shape;clear hna B1;unfold At.val;rcases GC (Az n.attrs nm 7) At.zero with⟨h1,h2,h3⟩| ⟨a,h1,h2,h3⟩
 ·have HP:Hid (Af n.attrs nm other=other):=hid (by unfold Af;rw[h1]);rw[h2];clear h1 h2 h3 HII;go_wp2_with fail
  refine(Cv (HOO.out _)).mono ?_;rintro e w2⟨v',rfl,h1,h2⟩;have H1:=hid (Bl (b0:=w.heap.size) h1 (by have:=HB1.out.size;first|omega|(rw[World.size_alloc];omega)));have H2:=hid ((HB2.out _).trans (h2.mono (by have:=HB1.out.size;first|omega|(rw[World.size_alloc];omega))));clear h1 h2;go_wp2
  go_ret
  exact⟨_,rfl,by rw[HP.out];exact H1.out,H2.out⟩
 ·have HP:Hid (Af n.attrs nm other=a.ints):=hid (by unfold Af;rw[h1]);rw[h2,h3];rw[h3]at HII;clear h1 h2 h3;go_wp2_with fail
  refine(Cv (HII.out _)).mono ?_;rintro e w2⟨v',rfl,h1,h2⟩;have H1:=hid (Bl (b0:=w.heap.size) h1 (by have:=HB1.out.size;first|omega|(rw[World.size_alloc];omega)));have H2:=hid ((HB2.out _).trans (h2.mono (by have:=HB1.out.size;first|omega|(rw[World.size_alloc];omega))));clear h1 h2;go_wp2
  go_ret
  exact⟨_,rfl,by rw[HP.out];exact H1.out,H2.out⟩
theorem IH{w:World}{v vo:Value}{n:Nd}(h:Ba w v n)(nm:ByteArray){other:List Int}(ho:Aa w vo other) :
  Calls Tryz.prog 132 #[v,.string nm,vo] w fun e w'=>∃v',e=.returned v'∧w'.ownsRow w.heap.size 2 1 v' (Af n.attrs nm other).length ((Af n.attrs nm other).map (Value.int .i64))∧Below w.heap.size w w':=by
 obtain⟨i0,hi,hz0,hz1,hz2⟩:=info_parts Dp;obtain⟨vin,vat,rfl,hn⟩:=h;obtain⟨a1,c1,rfl⟩:=hn.is.form;obtain⟨a2,c2,rfl⟩:=hn.ia.form;obtain⟨a3,c3,rfl⟩:=ho.shape;have hb0:Below w.heap.size w (w.alloc (Obj.cells #[Value.string n.op,Value.string n.name,Value.slice a1 n.ins.length c1,Value.string n.out,Value.slice a2 n.attrs.length c2] 25)):=(Below.refl _ w).alloc (Nat.le_refl _) _;have HF:=hid (GB ⟨_,_,rfl,hn.below hb0⟩ nm 7);have HB0:=hid hb0;have HO:=hid ho;clear hn hb0 ho;unfold Nd.val at HF⊢;go_enter Tryz.func132,Tryz.ntmps132
 go_wp2_with fail
 refine HF.out.mono ?_;rintro e w1⟨B1,va,rfl,vd,vx,vi,rfl,hna⟩;have HB1:=hid (HB0.out.trans (B1.mono HB0.out.size));have HB2:Hid (∀o,Below w.heap.size w (w1.alloc o)):=hid fun o=>HB1.out.alloc HB1.out.size o;have HII:Hid (∀o,Aa (w1.alloc o) vi ((Az n.attrs nm 7).getD At.zero).ints):=hid fun o=>hna.ii.below ((Below.refl _ _).alloc (Nat.le_refl _) _);have HOO:Hid (∀o,Aa (w1.alloc o) (.slice a3 other.length c3) other):=hid fun o=>HO.out.below (HB2.out o);obtain⟨ad,cd,rfl⟩:=hna.id.shape;obtain⟨ax,cx,rfl⟩:=hna.ix.shape;obtain⟨ai,ci,rfl⟩:=hna.ii.shape;clear hna B1;unfold At.val;rcases GC (Az n.attrs nm 7) At.zero with⟨h1,h2,h3⟩| ⟨a,h1,h2,h3⟩
 ·have HP:Hid (Af n.attrs nm other=other):=hid (by unfold Af;rw[h1]);rw[h2];clear h1 h2 h3 HII;go_wp2_with (at_builtin;refine BT rfl _ _ 39 rfl Tryz.underlying39 hi hz0 hz1 hz2 rfl (by decide) rfl rfl (HOO.out _).news ?_)
  intro v' w2 h1 h2;have H1:=hid (Bl (b0:=w.heap.size) h1 (by have:=HB1.out.size;first|omega|(rw[World.size_alloc];omega)));have H2:=hid ((HB2.out _).trans (h2.mono (by have:=HB1.out.size;first|omega|(rw[World.size_alloc];omega))));clear h1 h2;go_wp2
  go_ret
  exact⟨_,rfl,by rw[HP.out];exact H1.out,H2.out⟩
 ·have HP:Hid (Af n.attrs nm other=a.ints):=hid (by unfold Af;rw[h1]);rw[h2,h3];rw[h3]at HII;clear h1 h2 h3;go_wp2_with (at_builtin;refine BT rfl _ _ 39 rfl Tryz.underlying39 hi hz0 hz1 hz2 rfl (by decide) rfl rfl (HII.out _).news ?_)
  intro v' w2 h1 h2;have H1:=hid (Bl (b0:=w.heap.size) h1 (by have:=HB1.out.size;first|omega|(rw[World.size_alloc];omega)));have H2:=hid ((HB2.out _).trans (h2.mono (by have:=HB1.out.size;first|omega|(rw[World.size_alloc];omega))));clear h1 h2;go_wp2
  go_ret
  exact⟨_,rfl,by rw[HP.out];exact H1.out,H2.out⟩
namespace Vx
theorem J0{zs:List Int}{k:Nat}(h:k<zs.length)(p:Int→Bool):(zs.drop k).any p=(p (zs.getD k 0)||(zs.drop (k+1)).any p):=by
 rw[Bs h];rfl
theorem Gw{zs:List Int}(h:zs.any (fun d=>decide (d<1))=true):AK zs=(0,4):=by unfold AK;rw[if_pos h]
theorem Fh{zs:List Int}(h:zs.any (fun d=>decide (d<1))=false)(g:6<zs.length):AK zs=(0,6):=by
 unfold AK;rw[h,if_neg (by decide),if_pos g]
theorem Fi{zs:List Int}(h:zs.any (fun d=>decide (d<1))=false)(g:¬6<zs.length):AK zs=A0 1 zs:=by
 unfold AK;rw[h,if_neg (by decide),if_neg g]
theorem H8{zs:List Int}(h:zs.any (fun d=>decide (d<1))=false){k:Nat}(hk:k<zs.length):1≤zs.getD k 0:=by
 have:=List.any_eq_false.1 h _ (Am hk)
 simpa using this
theorem MN{zs:List Int}{k:Nat}(p:Int→Bool)(h:¬k<zs.length):(zs.drop k).any p=false:=by
 rw[List.drop_eq_nil_of_le (by omega)];rfl
theorem Fj{zs:List Int}{k:Nat}{n:Int}(h:k<zs.length):A0 n (zs.drop k)=if 65536<n*zs.getD k 0 then(0,6)else A0 (n*zs.getD k 0) (zs.drop (k+1)):=by
 rw[Bs h];rfl
theorem F8{zs:List Int}{k:Nat}{n:Int}(h:¬k<zs.length):A0 n (zs.drop k)=(n,0):=by
 rw[List.drop_eq_nil_of_le (by omega)];rfl
theorem JR{n d:Int}(h1:1≤n)(h:65536<d):65536<n*d:=by
 have:1*d≤n*d:=Int.mul_le_mul_of_nonneg_right h1 (by omega);omega
theorem Fk{n d:Int}(h1:1≤n)(h:1≤d):1≤n*d:=by
 have:1*1≤n*d:=Int.mul_le_mul h1 h (by decide) (by omega);omega
theorem MO{n d:Int}(h1:1≤n)(h2:n≤65536)(h3:1≤d)(h:d≤65536):n*d≤4294967296:=by
 have:n*d≤65536*65536:=Int.mul_le_mul h2 h (by omega) (by omega);omega
attribute [local irreducible] AK A0
theorem GX(b off cap:Nat)(zs:List Int)(hlen:zs.length*8≤140737488351232)(hw:Hid (∀z∈zs,Bf z))(w:World)(hr:Hid (Ec w b off zs)) :
  Calls Tryz.prog 25 #[.slice (some ⟨b,off,none⟩) zs.length cap] w fun e w'=>e=.returned (.tuple #[.int .i64 (AK zs).1,.int .i64 (AK zs).2])∧w=w':=by
 go_enter Tryz.func25,Tryz.ntmps25
 go_wp2
 go_loop [4] (fun i=>∃k:Nat,k≤zs.length∧i=.int .i64 (k:Int)∧Hid (zs.any (fun d=>decide (d<1))=(zs.drop k).any (fun d=>decide (d<1)))) (fun i=>zs.length-(intOf i).toNat)
 case atStart=>exact⟨0,Nat.zero_le _,rfl,hid (by simp)⟩
 case round=>
  obtain⟨k,hk,rfl,hany⟩:=hrel;by_cases hkl:k<zs.length
  ·have hcx:=hr.out k hkl;have hn:=hid (J0 hkl (fun d=>decide (d<1)));generalize zs.getD k 0=z at*;go_wp2
   ·rename_i hz
    go_ret2
    have e:=Gw (zs:=zs) (by rw[hany.out,hn.out];simp;omega);rw[e];exact⟨rfl,rfl⟩
   ·go_round
    case rel=>exact⟨k+1,by omega,by go_num,hid (by rw[hany.out,hn.out];simp;omega)⟩
    case measure=>simp[intOf];omega
  ·have hlow:=hid (by rw[hany.out,MN _ hkl]:zs.any (fun d=>decide (d<1))=false);have ek:k=zs.length:=by omega
   go_wp2
   ·rename_i hz
    go_ret2
    have e:=Fh hlow.out (by omega);rw[e];exact⟨rfl,rfl⟩
   ·have h6:zs.length≤6:=by omega
    go_loop [5,6] (fun n i=>∃(m:Int) (k:Nat),k≤zs.length∧1≤m∧m≤65536∧n=.int .i64 m∧i=.int .i64 (k:Int)∧Hid (AK zs=A0 m (zs.drop k))) (fun _ i=>zs.length-(intOf i).toNat)
    case atStart=>exact⟨1,0,Nat.zero_le _,by omega,by omega,rfl,rfl,hid (by rw[Fi hlow.out (by omega)];simp)⟩
    case round=>
     obtain⟨m,k,hk,hm1,hm2,rfl,rfl,hc⟩:=hrel;by_cases hkl:k<zs.length
     ·have hcx:=hr.out k hkl;have hn:=hid (Fj (n:=m) hkl);have h1:=H8 hlow.out hkl;generalize zs.getD k 0=z at*;by_cases hbig:65536<z
      ·have e:AK zs=(0,6):=by rw[hc.out,hn.out,if_pos (JR hm1 hbig)]
       rw[e];go_wp2
       go_ret2
       exact⟨rfl,rfl⟩
      ·have ht:=MO hm1 hm2 h1 (by omega);have hp:=Fk hm1 h1;by_cases hb2:65536<m*z
       ·have e:AK zs=(0,6):=by rw[hc.out,hn.out,if_pos hb2]
        rw[e];go_wp2
        go_ret2
        exact⟨rfl,rfl⟩
       ·have e:Hid (AK zs=A0 (m*z) (zs.drop (k+1))):=hid (by rw[hc.out,hn.out,if_neg hb2]);go_wp2
        go_round
        case rel=>exact⟨m*z,k+1,by omega,hp,by omega,by go_num,by go_num,e⟩
        case measure=>simp[intOf];omega
     ·have e:AK zs=(m,0):=by rw[hc.out,F8 hkl]
      have ek:k=zs.length:=by omega
      rw[e];go_wp2
      go_ret2
      exact⟨rfl,rfl⟩
theorem FA(a0:Option Addr)(cap:Nat)(w:World) :
  Calls Tryz.prog 25 #[.slice a0 0 cap] w fun e w'=>e=.returned (.tuple #[.int .i64 (AK []).1,.int .i64 (AK []).2])∧w=w':=by
 have e:AK []=(1,0):=by unfold AK;unfold A0;decide
 rw[e];go_enter Tryz.func25,Tryz.ntmps25
 go_wp2
 go_rounds 1
 go_wp2
 go_rounds 1
 go_wp2
 go_ret2
 exact⟨rfl,rfl⟩
theorem Cj{w:World}{v:Value}{zs:List Int}(h:Aa w v zs) :
  Calls Tryz.prog 25 #[v] w fun e w'=>e=.returned (.tuple #[.int .i64 (AK zs).1,.int .i64 (AK zs).2])∧w=w':=by
 cases h with
 | empty a0 cap=>exact FA a0 cap w
 | row b off cap _ h0 hc hb hr hlen hw=>exact GX b off cap zs hlen (hid hw) w (hid hr)
def WE(fn:Value)(p:Int→Bool):Prop:=(fn=.func (.func 40) #[] #[]∧p=fun d=>decide (d<1))∨(fn=.func (.func 40) #[] #[]∧p=fun d=>decide (d<1))
def Ls(p:Int→Bool)(zs:List Int):Int:=if zs.any p then(zs.findIdx p:Int)else-1
theorem Qq{p:Int→Bool}{zs:List Int}{k:Nat}(hk:k<zs.length)(h:(zs.take k).any p=false)(g:p (zs.getD k 0)=true):Ls p zs=k:=by
 have e:zs=zs.take k++zs.getD k 0::zs.drop (k+1):=by rw[←Bs hk,List.take_append_drop]
 have ha:zs.any p=true:=List.any_eq_true.2 ⟨_,Am hk,g⟩;unfold Ls;rw[if_pos ha];have h3:zs.findIdx p=k:=by
  rw[List.findIdx_eq (by omega)];have h5:zs[k]=zs.getD k 0:=by simp[List.getD,List.getElem?_eq_getElem hk]
  refine⟨by rw[h5];exact g,fun j hj=>?_⟩;have h4:=List.any_eq_false.1 h (zs[j]'(by omega)) (by
   rw[List.mem_take_iff_getElem];exact⟨j,by omega,rfl⟩)
  simpa using h4
 rw[h3]
theorem Lt{p:Int→Bool}{zs:List Int}{k:Nat}(hk:k<zs.length)(h:(zs.take k).any p=false)(g:p (zs.getD k 0)=false):(zs.take (k+1)).any p=false:=by
 rw[List.take_add_one,List.any_append,h];have h5:zs[k]?=some (zs.getD k 0):=by simp[List.getD,List.getElem?_eq_getElem hk]
 rw[h5]
 simpa using g
theorem M0(b off cap:Nat)(zs:List Int)(hlen:zs.length*8≤140737488351232)(hw:Hid (∀z∈zs,Bf z))(w:World)(hr:Hid (Ec w b off zs))(fn:Value)(p:Int→Bool)(hp:WE fn p) :
    Calls Tryz.prog 99 #[.slice (some ⟨b,off,none⟩) zs.length cap,fn] w fun e w'=>e=.returned (.int .i64 (Ls p zs))∧w=w':=by
  rcases hp with⟨rfl,hp⟩| ⟨rfl,hp⟩
  all_goals
    have HP:=hid hp;clear hp;go_enter Tryz.func99,Tryz.ntmps99
    go_wp2
    go_loop [8] (fun i=>∃k:Nat,k≤zs.length∧i=.int .i64 (k:Int)∧Hid ((zs.take k).any p=false)) (fun i=>zs.length-(intOf i).toNat)
    case atStart=>exact⟨0,Nat.zero_le _,rfl,hid (by simp)⟩
    case round=>
      obtain⟨k,hk,rfl,hany⟩:=hrel;by_cases hkl:k<zs.length
      · have hcx:=hr.out k hkl
        have hn:=hid (@Qq p _ _ hkl hany.out);have hn2:=hid (@Lt p _ _ hkl hany.out);have hI:=(hw.out _ (Am hkl)).1;have hI2:=(hw.out _ (Am hkl)).2;generalize zs.getD k 0=z at*;go_wp2
        all_goals first
          | (go_ret
             refine⟨Ab (An ?_),rfl⟩;exact(hn.out (by rw[HP.out];simp;omega)).symm)
          | (go_round
             case rel=>exact⟨k+1,by omega,by go_num,hid (hn2.out (by rw[HP.out];simp;omega))⟩
             case measure=>simp[intOf];omega)
      · have ek:k=zs.length:=by omega
        have e:Hid (Ls p zs=-1):=hid (by
          have:=hany.out;rw[ek,List.take_length]at this;unfold Ls;rw[this];rfl)
        go_wp2
        go_ret
        exact⟨Ab (An e.out.symm),rfl⟩
theorem Kn(a0:Option Addr)(cap:Nat)(w:World)(fn:Value)(p:Int→Bool)(hp:WE fn p) :
  Calls Tryz.prog 99 #[.slice a0 0 cap,fn] w fun e w'=>e=.returned (.int .i64 (Ls p []))∧w=w':=by
 have e:Ls p []=-1:=rfl;rw[e];rcases hp with⟨rfl,hp⟩| ⟨rfl,hp⟩
 all_goals
  go_enter Tryz.func99,Tryz.ntmps99
  go_wp2
  go_rounds 1
  go_ret
  exact⟨rfl,rfl⟩
theorem M1{w:World}{v:Value}{zs:List Int}(h:Aa w v zs)(fn:Value)(p:Int→Bool)(hp:WE fn p) :
  Calls Tryz.prog 99 #[v,fn] w fun e w'=>e=.returned (.int .i64 (Ls p zs))∧w=w':=by
 cases h with
 | empty a0 cap=>exact Kn a0 cap w fn p hp
 | row b off cap _ h0 hc hb hr hlen hw=>exact M0 b off cap zs hlen (hid hw) w (hid hr) fn p hp
theorem WF(p:Int→Bool)(zs:List Int):decide (0≤Ls p zs)=zs.any p:=by
 unfold Ls;cases zs.any p
 ·rfl
 ·simp
theorem FW{w:World}{v:Value}{zs:List Int}(h:Aa w v zs)(fn:Value)(p:Int→Bool)(hp:WE fn p) :
  Calls Tryz.prog 39 #[v,fn] w fun e w'=>e=.returned (.bool (zs.any p))∧w=w':=by
 have H:=hid (M1 h fn p hp);have hg:=hid (WF p zs);go_enter Tryz.func39,Tryz.ntmps39
 go_wp2_with (go_at_call 99;refine H.out.mono ?_;rintro e w'⟨rfl,rfl⟩)
 go_ret
 refine⟨Ab (Ar ?_),rfl⟩;have:=hg.out
 simpa using this
theorem Iz(b off cap:Nat)(zs:List Int)(hlen:zs.length*8≤140737488351232)(hw:Hid (∀z∈zs,Bf z))(w:World)(hr:Hid (Ec w b off zs))(hin:Hid (Aa w (.slice (some ⟨b,off,none⟩) zs.length cap) zs)) :
  Calls Tryz.prog 18 #[.slice (some ⟨b,off,none⟩) zs.length cap] w fun e w'=>e=.returned (.tuple #[.int .i64 (AK zs).1,.int .i64 (AK zs).2])∧w=w':=by
 have H:=hid (FW hin.out (.func (.func 40) #[] #[]) _ (Or.inl ⟨rfl,rfl⟩));cases hb1:zs.any (fun d=>decide (d<1))
 ·rw[hb1]at H;by_cases h6:6<zs.length
  ·have e:AK zs=(0,6):=Fh hb1 h6;rw[e];clear hb1;go_enter Tryz.func18,Tryz.ntmps18
   go_wp2_with (go_at_call 39;refine H.out.mono ?_;rintro e w'⟨rfl,rfl⟩)
   go_ret2
   exact⟨rfl,rfl⟩
  ·have hlow:=hid hb1;have h6':zs.length≤6:=by omega
   clear hb1;go_enter Tryz.func18,Tryz.ntmps18
   go_wp2_with (go_at_call 39;refine H.out.mono ?_;rintro e w'⟨rfl,rfl⟩)
   go_loop [4,14] (fun n i=>∃(m:Int) (k:Nat),k≤zs.length∧1≤m∧m≤65536∧n=.int .i64 m∧i=.int .i64 (k:Int)∧Hid (AK zs=A0 m (zs.drop k))) (fun _ i=>zs.length-(intOf i).toNat)
   case atStart=>exact⟨1,0,Nat.zero_le _,by omega,by omega,rfl,rfl,hid (by rw[Fi hlow.out (by omega)];simp)⟩
   case round=>
    obtain⟨m,k,hk,hm1,hm2,rfl,rfl,hc⟩:=hrel;by_cases hkl:k<zs.length
    ·have hcx:=hr.out k hkl;have hn:=hid (Fj (n:=m) hkl);have h1:=H8 hlow.out hkl;have hI2:=(hw.out _ (Am hkl)).2;generalize zs.getD k 0=z at*;have hq:=NP (n:=m) (d:=z) hm1;rw[Int.tdiv_eq_ediv_of_nonneg (by decide)]at hq;have hq0:wrap64 (65536/m)=65536/m:=by
      have h3:65536/m≤65536:=Int.ediv_le_self _ (by decide);have h4:0≤65536/m:=Int.ediv_nonneg (by decide) (by omega);unfold wrap64;omega
     have hm0:(m==0)=false:=by simp;omega
     by_cases hb2:65536<m*z
     ·have e:Hid (AK zs=(0,6)):=hid (by rw[hc.out,hn.out,if_pos hb2]);have hlt:65536/m<z:=hq.2 hb2;clear hq hb2
      skip
      go_wp2
      go_ret2
      exact⟨Hy (An (by rw[e.out])) (An (by rw[e.out])),rfl⟩
     ·have e:Hid (AK zs=A0 (m*z) (zs.drop (k+1))):=hid (by rw[hc.out,hn.out,if_neg hb2]);have hp:=Fk hm1 h1;have hle:¬65536/m<z:=fun h=>hb2 (hq.1 h);clear hq
      skip
      go_wp2
      go_round
      case rel=>exact⟨m*z,k+1,by omega,hp,by omega,by go_num,by go_num,e⟩
      case measure=>simp[intOf];omega
    ·have e:Hid (AK zs=(m,0)):=hid (by rw[hc.out,F8 hkl]);have ek:k=zs.length:=by omega
     go_wp2
     go_ret2
     exact⟨Hy (An (by rw[e.out])) (An (by rw[e.out])),rfl⟩
 ·rw[hb1]at H;have e:AK zs=(0,4):=Gw hb1;rw[e];clear hb1;go_enter Tryz.func18,Tryz.ntmps18
  go_wp2_with (go_at_call 39;refine H.out.mono ?_;rintro e w'⟨rfl,rfl⟩)
  go_ret2
  exact⟨rfl,rfl⟩
theorem F9(a0:Option Addr)(cap:Nat)(w:World) :
  Calls Tryz.prog 18 #[.slice a0 0 cap] w fun e w'=>e=.returned (.tuple #[.int .i64 (AK []).1,.int .i64 (AK []).2])∧w=w':=by
 have H:=hid (FW (Aa.empty (w:=w) a0 cap) (.func (.func 40) #[] #[]) _ (Or.inl ⟨rfl,rfl⟩));have e:AK []=(1,0):=by unfold AK;unfold A0;decide
 rw[e];rw[show([]:List Int).any (fun d=>decide (d<1))=false from rfl]at H;go_enter Tryz.func18,Tryz.ntmps18
 go_wp2_with (go_at_call 39;refine H.out.mono ?_;rintro e w'⟨rfl,rfl⟩)
 go_rounds 1
 go_ret2
 exact⟨rfl,rfl⟩
theorem C6{w:World}{v:Value}{zs:List Int}(h:Aa w v zs) :
  Calls Tryz.prog 18 #[v] w fun e w'=>e=.returned (.tuple #[.int .i64 (AK zs).1,.int .i64 (AK zs).2])∧w=w':=by
 have h':=h;cases h with
 | empty a0 cap=>exact F9 a0 cap w
 | row b off cap _ h0 hc hb hr hlen hw=>exact Iz b off cap zs hlen (hid hw) w (hid hr) (hid h')
end Vx
namespace Vx
namespace Vw
def pr:List Int→Int
 | []=>1
 | d::ds=>d*pr ds
def ZJ:List Int→Int→List Int
 | [],_=>[]
 | _::ds,k=>k/pr ds::ZJ ds (k%pr ds)
def aW:List Int→List Int→Int
 | s::ss,c::cs=>c*s+aW ss cs
 | _,_=>0
def Us:List Int→List Int
 | []=>[]
 | _::ds=>0::Us ds
def b7(ds:List Int):Prop:=∀d∈ds,1≤d
end Vw
end Vx
namespace Vx
open Go Go.RowKit
variable {F:Fence} {n:Nat} {P:Program}
def cW{β:Type}(B:Nat)(J:β→World→Prop):Prop:=
 ∀s A A' row,J s A→A.grownBy A' row→(∀r,row=some r→r=B)→J s A'
end Vx
namespace Vx
theorem _root_.Go.Proofs.YtkkeehnldcdccaaGreatDoor.Aa.form{w:World}{v:Value}{zs:List Int}(h:Aa w v zs):∃a cap,v=.slice a zs.length cap:=by
 cases h with
 | empty a0 cap=>exact⟨a0,cap,rfl⟩
 | row b off cap _ h0 hc hb hr hlen hw=>exact⟨_,cap,rfl⟩
attribute [local irreducible] AK
end Vx
namespace Vx
open Go.RowKit Go.Shelf Vw
attribute [local go_sem] Oper.semAt_some
def CO(xs:List Int):Array Value:=(xs.map (Value.int .i64)).toArray
def DR(w:World)(B:Nat)(xs:List Int):Prop:=w.heap[B]?=some (.cells (CO xs) 3 (0,0))
theorem DR.cell{w:World}{B:Nat}{xs:List Int}(h:DR w B xs){j:Nat}(hj:j<xs.length):w.cell? ⟨B,j,none⟩=some (.int .i64 (xs.getD j 0)):=by
 simp[World.cell?,show w.heap[B]?=_ from h,CO,List.getElem?_eq_getElem hj,List.getD]
theorem DR.frozen{w:World}{B:Nat}{xs:List Int}(h:DR w B xs)(j:Nat):w.frozen? ⟨B,j,none⟩=false:=by
 simp[World.frozen?,show w.heap[B]?=_ from h]
theorem DR.set{w:World}{B:Nat}{xs:List Int}(h:DR w B xs)(j:Nat)(x:Int):DR (w.setCell ⟨B,j,none⟩ (.int .i64 x)) B (xs.set j x):=by
 obtain⟨hlt,hk⟩:=Array.getElem?_eq_some_iff.1 h;show(w.heap.modify B _)[B]?=_;rw[Array.getElem?_eq_getElem (by rw[Array.size_modify];exact hlt),Array.getElem_modify_self,hk];simp[CO,List.map_set]
theorem DR.keep{w w':World}{B:Nat}{xs:List Int}(h:DR w B xs)(g:w'.heap[B]?=w.heap[B]?):DR w' B xs:=g.trans h
theorem DR.new(w:World)(xs:List Int):DR (w.alloc (.cells (CO xs) 3)) w.heap.size xs:=World.alloc_heap_new w _
theorem AI:(Tryz.prog.info? 3).map (fun i=>(i.zero,i.size,i.bytes))=some (some (.int .i64 0),1,8):=by kernel_rfl
theorem Lu(w:World)(r:Nat)(hr:r≤100000):(Instr.makeSlice 29 (.int .i64 (r:Int)) (.int .i64 (r:Int))).run Tryz.prog w=.ok (.slice (some ⟨w.heap.size,0,none⟩) r r) (w.alloc (.cells (CO (List.replicate r 0)) 3)):=by
 obtain⟨i0,hi,hz0,hz1,hz2⟩:=info_parts AI;have:=run_make (P:=Tryz.prog) w 29 3 i0 (.int .i64 0) Tryz.underlying29 hi hz0 .i64 .i64 (r:Int) (r:Int) (by omega) (by omega) (by rw[hz2];omega) (by omega);rw[this];have e:madeCells (Value.int .i64 0).cells (((r:Int).toNat)*i0.size)=CO (List.replicate r 0):=by
  rw[hz1];refine Array.toList_inj.1 ?_;have h2:=toList_madeCells_one (.int .i64 0) r
  simpa[CO,Value.cells]using h2
 rw[e];simp
open Classical in
noncomputable def left(B:Nat)(ds:List Int)(w:World):Nat:=
 if h:∃k:Int,0≤k∧k<pr ds∧DR w B (ZJ ds k)then(pr ds-Classical.choose h).toNat else 0
def Ko(off:Int)(ds ss:List Int)(n:Nat):List Int:=(List.range n).map fun(k:Nat)=>off+aW ss (ZJ ds (k:Int))
end Vx
namespace Vx
open Go.RowKit Go.Shelf Vw
attribute [local go_sem] Oper.semAt_some
theorem Ye(W:World)(row:Option Nat):W.grownBy W.drew row:=⟨rfl,rfl,rfl,Nat.le_refl _,fun _ _ _=>rfl⟩
variable {w0:World} {bv B:Nat} {off:Int} {a1 a2:Option Addr} {c1 c2 r:Nat} {J:List Int→World→Prop} {pre xs:List Int} {W:World}
end Vx
namespace Vx
open Go.RowKit Go.Shelf Vw
attribute [local go_sem] Oper.semAt_some
attribute [local irreducible] ZJ aW Us pr Ko
def Yf(w0:World)(a:Option Addr)(zs:List Int):Prop:=∀m,m<zs.length→∃b o,a=some ⟨b,o,none⟩∧b<w0.heap.size∧Ec w0 b o zs
theorem _root_.Go.Proofs.YtkkeehnldcdccaaGreatDoor.Aa.rowsV{w:World}{a:Option Addr}{n c:Nat}{zs:List Int}(h:Aa w (.slice a n c) zs):n=zs.length∧Yf w a zs:=by
 cases h with
 | empty a0 cap=>exact⟨rfl,fun m hm=>by simp at hm⟩
 | row b off cap _ h0 hc hb hr hlen hw=>exact⟨rfl,fun m _=>⟨b,off,rfl,hb,hr⟩⟩
end Vx
namespace Vx
open Go.RowKit Go.Shelf Vw
attribute [local go_sem] Oper.semAt_some
variable {w0:World} {R1 R2 R3 S B:Nat} {dv:Value} {data all pre:List Int}
attribute [local irreducible] ZJ aW Us pr Ko
end Vx
namespace Vx
open Go.RowKit Vw
theorem Ut:∀ {zs:List Int} {n m:Int},(∀d∈zs,1≤d)→1≤n→n≤65536→A0 n zs=(m,0)→m=n*pr zs∧n*pr zs≤65536∧∀d∈zs,d≤65536
 | [],n,m,_,h1,h2,h=>by
  simp only[A0,Prod.mk.injEq,and_true]at h;simp[pr,←h,h2]
 | d::ds,n,m,hp,h1,h2,h=>by
  have hd:=hp d (by simp);simp only[A0]at h;by_cases g:65536<n*d
  ·rw[if_pos g]at h;simp at h
  ·rw[if_neg g]at h;have hn:=Fk h1 hd;obtain⟨a,b,c⟩:=Ut (zs:=ds) (n:=n*d) (m:=m) (fun x hx=>hp x (by simp[hx])) hn (by omega) h;have e:n*d*pr ds=n*pr (d::ds):=by simp[pr,Int.mul_assoc]
   refine⟨by rw[←e];exact a,by rw[←e];exact b,?_⟩;intro x hx;rcases List.mem_cons.1 hx with rfl|hx
   ·by_cases h3:65536<x
    ·exact absurd (JR h1 h3) g
    ·omega
   ·exact c x hx
theorem Ge{zs:List Int}(h:(AK zs).2=0):(∀d∈zs,1≤d∧d≤65536)∧zs.length≤6∧(AK zs).1=pr zs∧pr zs≤65536:=by
 cases ha:zs.any (fun d=>decide (d<1))
 ·by_cases g:6<zs.length
  ·rw[Fh ha g]at h;simp at h
  ·rw[Fi ha g]at h⊢;have hp:∀d∈zs,1≤d:=fun d hd=>by
    have:=List.any_eq_false.1 ha d hd
    simpa using this
   obtain⟨a,b,c⟩:=Ut (n:=1) (m:=(A0 1 zs).1) hp (by decide) (by decide) (by rw[←h]);rw[Int.one_mul]at a b;exact⟨fun d hd=>⟨hp d hd,c d hd⟩,by omega,a,b⟩
 ·rw[Gw ha]at h;simp at h
end Vx
namespace Vx
open Go.RowKit Vw
attribute [local irreducible] AK pr
end Vx
namespace Vx
open Go.RowKit Vw
theorem Kp{zs:List Int}(h:∀z∈zs,Bf z)(j:Nat):Bf (zs.getD j 0):=by
 by_cases hj:j<zs.length
 ·exact h _ (Am hj)
 ·rw[List.getD,List.getElem?_eq_none (by omega)];constructor<;>decide
theorem JU{ds:List Int}(h:(AK ds).2=0):b7 ds:=fun d hd=>((Ge h).1 d hd).1
def Yg(w:World)(g:Nat)(xs:List Int):Prop:=∃cur,w.heap[g]?=some (.cells cur 3 (0,0))∧cur.toList.take xs.length=xs.map (Value.int .i64)∧xs.length≤cur.size
theorem Yg.keep{w w':World}{g:Nat}{xs:List Int}(h:Yg w g xs)(e:w'.heap[g]?=w.heap[g]?):Yg w' g xs:=by
 obtain⟨cur,h1,h2⟩:=h;exact⟨cur,e.trans h1,h2⟩
end Vx
namespace Vb
open Go.RowKit Vx Vx.Vw
def Bj(B:Nat)(w:World)(v:Value)(zs:List Int):Prop:=w.ownsRow B 3 1 v zs.length (zs.map (Value.int .i64))
theorem Bj.of_owns{B:Nat}{w:World}{v:Value}{zs:List Int}(h:w.ownsRow B 3 1 v zs.length (zs.map (Value.int .i64))):Bj B w v zs:=h
theorem Bj.ints{B:Nat}{w':World}{v:Value}{zs:List Int}(h:Bj B w' v zs)(hlen:zs.length*8≤140737488351232)(hw:∀z∈zs,Bf z):Aa w' v zs:=Aa.of_owns (B:=B) (t:=3) h (by omega) hw
theorem Bj.below{B:Nat}{w w':World}{v:Value}{zs:List Int}(h:Bj B w v zs)(hb:Below w.heap.size w w'):Bj B w' v zs:=AJ h hb
theorem Bj.form{B:Nat}{w:World}{v:Value}{zs:List Int}(h:Bj B w v zs):∃a cap,v=.slice a zs.length cap:=Bh h
theorem Bj.row{B g:Nat}{w':World}{zs:List Int}{n:Nat}(h:DR w' g zs)(hB:B≤g)(hn:n=zs.length)(hm:n≤1000000):Bj B w' (.slice (some ⟨g,0,none⟩) n n) zs:=by
 subst hn;refine⟨by simp,.inr ⟨g,zs.length,CO zs,rfl,hB,h,Nat.le_refl _,?_,?_,?_⟩⟩
 ·unfold maxLen;omega
 ·simp[CO]
 ·simp only[CO,Nat.mul_one];rw[List.take_of_length_le (by simp)]
theorem Bj.at{B:Nat}{w:World}{a:Option Addr}{n c j:Nat}{xs:List Int}(h:Bj B w (.slice a n c) xs)(hn:xs.length=n)(hj:j<n):∃g,a=some ⟨g,0,none⟩∧B≤g∧w.cell? ⟨g,j,none⟩=some (.int .i64 (xs.getD j 0))∧w.frozen? ⟨g,j,none⟩=false∧∀x:Int,Bj B (w.setCell ⟨g,j,none⟩ (.int .i64 x)) (.slice (some ⟨g,0,none⟩) n c) (xs.set j x):=by
 subst hn;obtain⟨g,cap,e,hB,hg⟩:=World.ownsRow.form h (by omega);obtain⟨rfl,-,rfl⟩:=Value.slice.inj e;refine⟨g,rfl,hB,?_,World.ownsRow.frozenAt h j,fun x=>?_⟩
 ·have:=World.ownsRow.cells h (g:=g) rfl j (.int .i64 (xs.getD j 0)) (by rw[List.getElem?_map,Fz hj];rfl)
  rwa [show(⟨g,0,none⟩:Addr).add j=⟨g,j,none⟩from by rw[Fo,Nat.zero_add]]at this
 ·unfold Bj;rw[List.length_set,List.map_set];exact(World.ownsRow.stored h j _).1
theorem Cv{w:World}{v:Value}{zs:List Int}(h:Aa w v zs) :
  Calls Tryz.prog 22 #[v] w fun e w'=>∃v',e=.returned v'∧Bj w.heap.size w' v' zs∧Below w.heap.size w w':=by
 cases h with
 | empty a0 cap=>
  cases a0 with
  | none=>
   refine(Tryz.slices_Clone_int_nil 0 cap w).mono ?_;rintro e w'⟨rfl,rfl⟩;exact⟨_,rfl,World.ownsRow_nil _ _ _ _,Below.refl _ _⟩
  | some a=>
   refine(Tryz.slices_Clone_int_zero a cap w).mono ?_;rintro e w'⟨v',rfl,h1,_,h2⟩;exact⟨v',rfl,Bj.of_owns (zs:=[]) h1,h2⟩
 | row b off cap _ h0 hc hb hr hlen hw=>
  refine(Tryz.slices_Clone_int b off zs.length cap zs w (Nat.le_refl _) (by omega) hr).mono ?_;rintro e w'⟨v',rfl,h1,_,h2⟩;rw[List.take_length]at h1;exact⟨v',rfl,Bj.of_owns h1,h2⟩
end Vb
end Go.Proofs.YtkkeehnldcdccaaGreatDoor
