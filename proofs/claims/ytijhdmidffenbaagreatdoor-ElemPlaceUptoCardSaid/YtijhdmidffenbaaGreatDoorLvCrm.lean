import Derived.Test.YtijhdmidffenbaaGreatDoorGrArm
import Derived.Test.YtijhdmidffenbaaGreatDoorSchCrm
open Go.Lib (hid)
set_option linter.unusedVariables false
set_option linter.unusedSimpArgs false
namespace Go.Proofs.YtijhdmidffenbaaGreatDoor
open Go.RowKit
def TestV (g:Nat) (lb:Array Value) (p:Vl→Bool) (w:World):Prop :=
 ∀ (W:World) (x:Vl) (vd:Value),Below w.heap.size w W→rdValue W [.string x.name,.int .i64 x.typ,vd] x→Calls Tryz.prog g (#[.agg #[.string x.name,.int .i64 x.typ,vd]]++lb) W fun e w'=>e=.returned (.bool (p x))∧Below W.heap.size W w'
set_option maxHeartbeats 1000000 in
theorem indexV_row (b off cap:Nat) (l:List Vl) (hlen:l.length≤1048576) (w:World) (hr:Hid (SlIn 3 rdValue w (.slice (some ⟨b,off,none⟩) l.length cap) l)) (g:Nat) (lb:Array Value) (eg:∀ args w,(callFunc g args).run Tryz.prog w=.ok (.enter g args) w) (p:Vl→Bool) (hp:Hid (TestV g lb p w)) :
  Calls Tryz.prog 154 #[.slice (some ⟨b,off,none⟩) l.length cap,.func (.func g) #[] lb] w fun e w'=>e=.returned (.int .i64 (gidx p l))∧Below w.heap.size w w':=by
 go_enter Tryz.func154,Tryz.ntmps154
 go_wp2
 go_loopg [5,8] l.length (fun gg _ s8 wr=>∃ k:Nat,k≤l.length∧l.length - k≤gg∧s8=.int .i64 (k:Int)∧Hid (Below w.heap.size w wr)∧Hid ((l.take k).any p=false))
 case atStart=>exact ⟨0,Nat.zero_le _,by omega,rfl,hid (Below.refl _ _),hid (by simp)⟩
 case round =>
  obtain ⟨k,hk,hg,rfl,hB,hany⟩:=hrel;by_cases hkl:k < l.length
  ·have hki:(k:Int) < (l.length:Int):=by omega
   obtain ⟨x,hx⟩:∃ x,l[k]?=some x:=⟨_,List.getElem?_eq_getElem hkl⟩;obtain ⟨b',off',cap',vd,hv,hb,c0,c1,c2,h1,h2,h3⟩:=value_at hr.out hx;obtain ⟨hv1,_,rfl⟩:=Value.slice.inj hv;obtain ⟨rfl,rfl⟩:b'=b∧off'=off:=by simpa using hv1.symm
   have c0:=(hB.out.cell (p:=⟨b',off'+k * 3,none⟩) hb).trans c0;have c1:=(hB.out.cell (p:=⟨b',off'+k * 3+1,none⟩) hb).trans c1;have c2:=(hB.out.cell (p:=⟨b',off'+k * 3+2,none⟩) hb).trans c2;have hcall:=hid (hp.out _ x vd hB.out ⟨vd,rfl,h1,h2,h3.below hB.out⟩);have HA:=hid hx;clear hx h1 h2 h3 hv hv1;cases hq:p x with
   | true =>
    have e:=hid (gidx_at HA.out hany.out hq);rw [hq] at hcall;clear hq;go_wp2_with (go_at_fn g;refine hcall.out.mono ?_;rintro e w' ⟨rfl,hB2⟩)
    go_ret
    exact ⟨ret_val (int_val e.out.symm),hB.out.trans (hB2.mono hB.out.size)⟩
   | false =>
    have e:=hid (take_any HA.out hany.out hq);rw [hq] at hcall;clear hq;go_wp2_with (go_at_fn g;refine hcall.out.mono ?_;rintro e w' ⟨rfl,hB2⟩)
    go_roundg (l.length - (k+1))
    case measure=>omega
    case rel=>exact ⟨k+1,by omega,by omega,by go_num,hid (hB.out.trans (hB2.mono hB.out.size)),e⟩
  ·have hki:¬ (k:Int) < (l.length:Int):=by omega
   obtain rfl:k=l.length:=by omega
   have e:Hid (gidx p l=-1):=hid (gidx_none (by have:=hany.out;rwa [List.take_length] at this));go_wp2
   go_ret
   exact ⟨ret_val (int_val e.out.symm),hB.out⟩
theorem indexV_empty (a0:Option Addr) (cap:Nat) (fn:Value) (p:Vl→Bool) (w:World) :
  Calls Tryz.prog 154 #[.slice a0 0 cap,fn] w fun e w'=>e=.returned (.int .i64 (gidx p []))∧Below w.heap.size w w':=by
 have e:gidx p []=-1:=rfl;rw [e];go_enter Tryz.func154,Tryz.ntmps154
 go_wp2
 go_rounds 1
 go_ret
 exact ⟨rfl,Below.refl _ _⟩
theorem indexV_any {w:World} {v:Value} {l:List Vl} (h:SlIn 3 rdValue w v l) (g:Nat) (lb:Array Value) (eg:∀ args w,(callFunc g args).run Tryz.prog w=.ok (.enter g args) w) (p:Vl→Bool) (hp:TestV g lb p w) :
  Calls Tryz.prog 154 #[v,.func (.func g) #[] lb] w fun e w'=>e=.returned (.int .i64 (gidx p l))∧Below w.heap.size w w':=by
 have h0:=h;cases h with
 | empty a0 cap=>exact indexV_empty a0 cap _ p w
 | row b off cap _ _ _ _ _ hlen=>exact indexV_row b off cap l (by omega) w (hid h0) g lb eg p (hid hp)
theorem containsV_any {w:World} {v:Value} {l:List Vl} (h:SlIn 3 rdValue w v l) (g:Nat) (lb:Array Value) (eg:∀ args w,(callFunc g args).run Tryz.prog w=.ok (.enter g args) w) (p:Vl→Bool) (hp:TestV g lb p w) :
  Calls Tryz.prog 118 #[v,.func (.func g) #[] lb] w fun e w'=>e=.returned (.bool (l.any p))∧Below w.heap.size w w':=by
 have H:=hid (indexV_any h g lb eg p hp);have hg:=hid (gidx_ge p l);go_enter Tryz.func118,Tryz.ntmps118
 go_wp2_with (go_at_call 154;refine H.out.mono ?_;rintro e w' ⟨rfl,hB⟩)
 go_ret
 refine ⟨ret_val (bool_val ?_),hB⟩;have:=hg.out
 simpa using this
end Go.Proofs.YtijhdmidffenbaaGreatDoor
