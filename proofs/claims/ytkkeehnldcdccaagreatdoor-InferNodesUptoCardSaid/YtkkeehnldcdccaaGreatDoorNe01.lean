import Derived.Test.YtkkeehnldcdccaaGreatDoorChecked
import Derived.WalkKit
import Derived.WalkSpells
import Derived.WalkLawsBesides
import Derived.Deep.Light
import Derived.Deep.LoopGhost
import Derived.Outline
import Derived.OwnWalk
import Derived.RowKit3
import Derived.Lib.Hide
import Derived.Handy
import Derived.Lib.Walk
import Derived.Deep.Draws
import Derived.Shelf.Abstract
set_option linter.unusedVariables false
set_option linter.unusedSimpArgs false
set_option maxRecDepth 100000
set_option maxHeartbeats 4000000
namespace Go.Proofs.YtkkeehnldcdccaaGreatDoor
open Go.RowKit
open Go.Lib (hid)
theorem Ab{a b:Value}(h:a=b):Ending.returned a=Ending.returned b:=by rw[h]
theorem An{k:IntKind}{a b:Int}(h:a=b):Value.int k a=Value.int k b:=by rw[h]
theorem Ar{a b:Bool}(h:a=b):Value.bool a=Value.bool b:=by rw[h]
theorem Hy{a b c d:Value}(h:a=c)(g:b=d):Ending.returned (.tuple #[a,b])=Ending.returned (.tuple #[c,d]):=by rw[h,g]
def Bf(z:Int):Prop:=-9223372036854775808≤z∧z≤9223372036854775807
def Ec(w:World)(b off:Nat)(zs:List Int):Prop:=∀j,j<zs.length→w.cell? ⟨b,off+j,none⟩=some (.int .i64 (zs.getD j 0))
inductive Aa(w:World):Value→List Int→Prop
 | empty (a0:Option Addr) (cap:Nat):Aa w (.slice a0 0 cap) []
 | row (b off cap:Nat) (zs:List Int) (h0:zs≠[]) (hc:zs.length≤cap) (hb:b<w.heap.size) (hr:Ec w b off zs) (hlen:zs.length*8≤140737488351232) (hw:∀z∈zs,Bf z) :
   Aa w (.slice (some ⟨b,off,none⟩) zs.length cap) zs
theorem Aa.wf{w:World}{v:Value}{zs:List Int}(h:Aa w v zs):zs.length*8≤140737488351232∧∀z∈zs,Bf z:=by
 cases h with
 | empty=>exact⟨by decide,fun z hz=>by cases hz⟩
 | row b off cap _ _ _ _ _ hlen hw=>exact⟨hlen,hw⟩
theorem Ec.below{w w':World}{b off:Nat}{zs:List Int}(h:Ec w b off zs)(hB:Below w.heap.size w w')(hb:b<w.heap.size):Ec w' b off zs:=
 fun j hj=>(hB.cell (p:=⟨b,off+j,none⟩) hb).trans (h j hj)
theorem Aa.below{w w':World}{v:Value}{zs:List Int}(h:Aa w v zs)(hB:Below w.heap.size w w'):Aa w' v zs:=by
 cases h with
 | empty a0 cap=>exact .empty a0 cap
 | row b off cap _ h0 hc hb hr hlen hw=>exact .row b off cap zs h0 hc (Nat.lt_of_lt_of_le hb hB.size) (hr.below hB hb) hlen hw
theorem Bs{zs:List Int}{k:Nat}(h:k<zs.length):zs.drop k=zs.getD k 0::zs.drop (k+1):=by
 rw[List.drop_eq_getElem_cons h];simp[List.getD,List.getElem?_eq_getElem h]
theorem Am{zs:List Int}{k:Nat}(h:k<zs.length):zs.getD k 0∈zs:=by
 simp[List.getD,List.getElem?_eq_getElem h]
def A0:Int→List Int→Int×Int
 | n,[]=>(n,0)
 | n,d::ds=>if 65536<n*d then(0,6)else A0 (n*d) ds
def AK(zs:List Int):Int×Int:=if zs.any (fun d=>decide (d<1))then(0,4)else if 6<zs.length then(0,6)else A0 1 zs
theorem NP{n d:Int}(h1:1≤n):(Int.tdiv 65536 n<d)↔65536<n*d:=by
 rw[Int.tdiv_eq_ediv_of_nonneg (by decide),Int.ediv_lt_iff_lt_mul (by omega),Int.mul_comm]
theorem BH{α:Type}(l:List α)(j:Nat)(h:j<l.length):∃x,l[j]?=some x:=⟨_,List.getElem?_eq_getElem h⟩
theorem Aa.shape{w:World}{v:Value}{zs:List Int}(h:Aa w v zs):∃a cap,v=.slice a zs.length cap:=by
 cases h with
 | empty a0 cap=>exact⟨a0,cap,rfl⟩
 | row b off cap _ h0 hc hb hr hlen hw=>exact⟨_,cap,rfl⟩
def CX{α:Type}(p:α→Bool)(zs:List α):Int:=if zs.any p then(zs.findIdx p:Int)else-1
theorem Hz{α:Type}{p:α→Bool}{zs:List α}{k:Nat}{z:α}(hk:zs[k]?=some z)(h:(zs.take k).any p=false)(g:p z=true):CX p zs=k:=by
 obtain⟨hlt,e⟩:=List.getElem?_eq_some_iff.1 hk;have ha:zs.any p=true:=List.any_eq_true.2 ⟨_,List.mem_of_getElem? hk,g⟩;unfold CX;rw[if_pos ha];have h3:zs.findIdx p=k:=by
  rw[List.findIdx_eq hlt];refine⟨by rw[e];exact g,fun j hj=>?_⟩;have h4:=List.any_eq_false.1 h (zs[j]'(by omega)) (by
   rw[List.mem_take_iff_getElem];exact⟨j,by omega,rfl⟩)
  simpa using h4
 rw[h3]
theorem El{α:Type}{p:α→Bool}{zs:List α}(h:zs.any p=false):CX p zs=-1:=by
 unfold CX;rw[h];rfl
theorem CY{α:Type}{p:α→Bool}{zs:List α}{k:Nat}{z:α}(hk:zs[k]?=some z)(h:(zs.take k).any p=false)(g:p z=false):(zs.take (k+1)).any p=false:=by
 rw[List.take_add_one,List.any_append,h,hk]
 simpa using g
theorem H7{α:Type}(p:α→Bool)(zs:List α):decide (0≤CX p zs)=zs.any p:=by
 unfold CX;cases zs.any p
 ·rfl
 ·simp
theorem Ix{α:Type}{p:α→Bool}{zs:List α}:(zs.find? p=none∧CX p zs=-1)∨(∃(k:Nat) (z:α),zs[k]?=some z∧zs.find? p=some z∧CX p zs=k∧k<zs.length):=by
 cases h:zs.find? p with
 | none=>
  left;refine⟨rfl,El ?_⟩;rw[List.any_eq_false];intro x hx;have:=List.find?_eq_none.1 h x hx
  simpa using this
 | some z=>
  right;have ha:zs.any p=true:=List.any_eq_true.2 ⟨z,List.mem_of_find?_eq_some h,List.find?_some h⟩;have hl:zs.findIdx p<zs.length:=by rw[List.findIdx_lt_length];simpa using ha
  refine⟨zs.findIdx p,z,?_,rfl,?_,hl⟩
  ·rw[List.getElem?_eq_getElem hl];rw[List.find?_eq_some_iff_getElem]at h;obtain⟨hp,i,hi,e,hj⟩:=h;have:zs.findIdx p=i:=by
    rw[List.findIdx_eq hi];exact⟨by rw[e];exact hp,fun j hji=>by simpa using hj j hji⟩
   subst this;rw[e]
  ·unfold CX;rw[if_pos ha]
def MM(w:World)(b off:Nat)(ss:List ByteArray):Prop:=∀(j:Nat) s,ss[j]?=some s→w.cell? ⟨b,off+j,none⟩=some (.string s)
inductive Bi(w:World):Value→List ByteArray→Prop
 | empty (a0:Option Addr) (cap:Nat):Bi w (.slice a0 0 cap) []
 | row (b off cap:Nat) (ss:List ByteArray) (h0:ss≠[]) (hc:ss.length≤cap) (hb:b<w.heap.size) (hr:MM w b off ss) (hlen:ss.length*16≤140737488351232) :
   Bi w (.slice (some ⟨b,off,none⟩) ss.length cap) ss
theorem Bi.form{w:World}{v:Value}{ss:List ByteArray}(h:Bi w v ss):∃a cap,v=.slice a ss.length cap:=by
 cases h with
 | empty a0 cap=>exact⟨a0,cap,rfl⟩
 | row b off cap _ h0 hc hb hr hlen=>exact⟨_,cap,rfl⟩
theorem Bi.len{w:World}{v:Value}{ss:List ByteArray}(h:Bi w v ss):ss.length*16≤140737488351232:=by
 cases h with
 | empty a0 cap=>decide
 | row b off cap _ h0 hc hb hr hlen=>exact hlen
theorem Bi.below{w w':World}{v:Value}{ss:List ByteArray}(h:Bi w v ss)(hB:Below w.heap.size w w'):Bi w' v ss:=by
 cases h with
 | empty a0 cap=>exact .empty a0 cap
 | row b off cap _ h0 hc hb hr hlen=>exact .row b off cap ss h0 hc (Nat.lt_of_lt_of_le hb hB.size) (fun j s hj=>(hB.cell (p:=⟨b,off+j,none⟩) hb).trans (hr j s hj)) hlen
structure At where
 name:ByteArray
 kind:Int
 f:Int
 i:Int
 s:ByteArray
 typ:Int
 dims:List Int
 data:List Int
 ints:List Int
def At.zero:At:=⟨⟨#[]⟩,0,0,0,⟨#[]⟩,0,[],[],[]⟩
structure Er(w:World)(a:At)(vd vx vi:Value):Prop where
 id:Aa w vd a.dims
 ix:Aa w vx a.data
 ii:Aa w vi a.ints
 wk:Bf a.kind
 wf:Bf a.f
 wi:Bf a.i
 wt:Bf a.typ
 zn:a.name.size≤1048576
 zs:a.s.size≤1048576
def At.val(a:At)(vd vx vi:Value):Value:=.agg #[.string a.name,.int .i64 a.kind,.int .i64 a.f,.int .i64 a.i,.string a.s,.int .i64 a.typ,vd,vx,vi]
def F7(w:World)(v:Value)(a:At):Prop:=∃vd vx vi,v=a.val vd vx vi∧Er w a vd vx vi
theorem Er.below{w w':World}{a:At}{vd vx vi:Value}(h:Er w a vd vx vi)(hB:Below w.heap.size w w'):Er w' a vd vx vi:=
 { h with id:=h.id.below hB,ix:=h.ix.below hB,ii:=h.ii.below hB }
theorem F7.zero(w:World):F7 w (.agg #[.string ⟨#[]⟩,.int .i64 0,.int .i64 0,.int .i64 0,.string ⟨#[]⟩,.int .i64 0,.slice none 0 0,.slice none 0 0,.slice none 0 0]) At.zero:=
 ⟨_,_,_,rfl,.empty _ _,.empty _ _,.empty _ _,by unfold At.zero Bf;decide,by unfold At.zero Bf;decide,by unfold At.zero Bf;decide,by unfold At.zero Bf;decide,by decide,by decide⟩
structure Iy(w:World)(b o:Nat)(a:At)(vd vx vi:Value):Prop where
 c0:w.cell? ⟨b,o,none⟩=some (.string a.name)
 c1:w.cell? ⟨b,o+1,none⟩=some (.int .i64 a.kind)
 c2:w.cell? ⟨b,o+2,none⟩=some (.int .i64 a.f)
 c3:w.cell? ⟨b,o+3,none⟩=some (.int .i64 a.i)
 c4:w.cell? ⟨b,o+4,none⟩=some (.string a.s)
 c5:w.cell? ⟨b,o+5,none⟩=some (.int .i64 a.typ)
 c6:w.cell? ⟨b,o+6,none⟩=some vd
 c7:w.cell? ⟨b,o+7,none⟩=some vx
 c8:w.cell? ⟨b,o+8,none⟩=some vi
theorem Iy.below{w w':World}{b o:Nat}{a:At}{vd vx vi:Value}(h:Iy w b o a vd vx vi){n:Nat}(hb:b<n)(hB:Below n w w'):Iy w' b o a vd vx vi:=
 ⟨(hB.cell (p:=⟨b,o,none⟩) hb).trans h.c0,(hB.cell (p:=⟨b,o+1,none⟩) hb).trans h.c1,(hB.cell (p:=⟨b,o+2,none⟩) hb).trans h.c2,(hB.cell (p:=⟨b,o+3,none⟩) hb).trans h.c3,(hB.cell (p:=⟨b,o+4,none⟩) hb).trans h.c4,
  (hB.cell (p:=⟨b,o+5,none⟩) hb).trans h.c5,(hB.cell (p:=⟨b,o+6,none⟩) hb).trans h.c6,(hB.cell (p:=⟨b,o+7,none⟩) hb).trans h.c7,(hB.cell (p:=⟨b,o+8,none⟩) hb).trans h.c8⟩
def GW(w:World)(b off:Nat)(ats:List At):Prop:=∀(j:Nat) a,ats[j]?=some a→∃vd vx vi,Iy w b (off+j*9) a vd vx vi∧Er w a vd vx vi
inductive Bw(w:World):Value→List At→Prop
 | empty (a0:Option Addr) (cap:Nat):Bw w (.slice a0 0 cap) []
 | row (b off cap:Nat) (ats:List At) (h0:ats≠[]) (hc:ats.length≤cap) (hb:b<w.heap.size) (hr:GW w b off ats) (hlen:ats.length≤1048576) :
   Bw w (.slice (some ⟨b,off,none⟩) ats.length cap) ats
theorem Bw.form{w:World}{v:Value}{ats:List At}(h:Bw w v ats):∃a cap,v=.slice a ats.length cap:=by
 cases h with
 | empty a0 cap=>exact⟨a0,cap,rfl⟩
 | row b off cap _ h0 hc hb hr hlen=>exact⟨_,cap,rfl⟩
theorem Bw.len{w:World}{v:Value}{ats:List At}(h:Bw w v ats):ats.length≤1048576:=by
 cases h with
 | empty a0 cap=>decide
 | row b off cap _ h0 hc hb hr hlen=>exact hlen
theorem GW.below{w w':World}{b off:Nat}{ats:List At}(h:GW w b off ats)(hb:b<w.heap.size)(hB:Below w.heap.size w w'):GW w' b off ats:=fun j a hj=>by
 obtain⟨vd,vx,vi,h1,h2⟩:=h j a hj;exact⟨vd,vx,vi,h1.below hb hB,h2.below hB⟩
theorem Bw.below{w w':World}{v:Value}{ats:List At}(h:Bw w v ats)(hB:Below w.heap.size w w'):Bw w' v ats:=by
 cases h with
 | empty a0 cap=>exact .empty a0 cap
 | row b off cap _ h0 hc hb hr hlen=>exact .row b off cap ats h0 hc (Nat.lt_of_lt_of_le hb hB.size) (hr.below hb hB) hlen
theorem Bw.rows{w:World}{v:Value}{ats:List At}(h:Bw w v ats):∀(j:Nat) a,ats[j]?=some a→∃b off cap,v=.slice (some ⟨b,off,none⟩) ats.length cap∧b<w.heap.size∧GW w b off ats:=by
 intro j a hj;cases h with
 | empty a0 cap=>simp at hj
 | row b off cap _ h0 hc hb hr hlen=>exact⟨b,off,cap,rfl,hb,hr⟩
theorem Bi.rows{w:World}{v:Value}{ss:List ByteArray}(h:Bi w v ss):∀(j:Nat) s,ss[j]?=some s→∃b off cap,v=.slice (some ⟨b,off,none⟩) ss.length cap∧b<w.heap.size∧MM w b off ss:=by
 intro j a hj;cases h with
 | empty a0 cap=>simp at hj
 | row b off cap _ h0 hc hb hr hlen=>exact⟨b,off,cap,rfl,hb,hr⟩
structure Nd where
 op:ByteArray
 name:ByteArray
 ins:List ByteArray
 out:ByteArray
 attrs:List At
structure Fg(w:World)(n:Nd)(vin vat:Value):Prop where
 is:Bi w vin n.ins
 ia:Bw w vat n.attrs
def Nd.val(n:Nd)(vin vat:Value):Value:=.agg #[.string n.op,.string n.name,vin,.string n.out,vat]
def Ba(w:World)(v:Value)(n:Nd):Prop:=∃vin vat,v=n.val vin vat∧Fg w n vin vat
theorem Fg.below{w w':World}{n:Nd}{vin vat:Value}(h:Fg w n vin vat)(hB:Below w.heap.size w w'):Fg w' n vin vat:=⟨h.is.below hB,h.ia.below hB⟩
def Es:List ByteArray:=[⟨#[73,100,101,110,116,105,116,121]⟩,⟨#[78,101,103]⟩,⟨#[65,98,115]⟩,⟨#[78,111,116]⟩,⟨#[82,101,108,117]⟩,⟨#[83,113,114,116]⟩,⟨#[70,108,111,111,114]⟩,⟨#[69,120,112]⟩,⟨#[83,105,103,109,111,105,100]⟩,⟨#[84,97,110,104]⟩]
section
theorem J0{zs:List Int}{k:Nat}(h:k<zs.length)(p:Int→Bool):(zs.drop k).any p=(p (zs.getD k 0)||(zs.drop (k+1)).any p):=by
 rw[Bs h];rfl
theorem Gw{zs:List Int}(h:zs.any (fun d=>decide (d<1))=true):AK zs=(0,4):=by unfold AK;rw[if_pos h]
theorem Fh{zs:List Int}(h:zs.any (fun d=>decide (d<1))=false)(g:6<zs.length):AK zs=(0,6):=by
 unfold AK;rw[h,if_neg (by decide),if_pos g]
theorem Fi{zs:List Int}(h:zs.any (fun d=>decide (d<1))=false)(g:¬6<zs.length):AK zs=A0 1 zs:=by
 unfold AK;rw[h,if_neg (by decide),if_neg g]
theorem H8{zs:List Int}(h:zs.any (fun d=>decide (d<1))=false){k:Nat}(hk:k<zs.length):1≤zs.getD k 0:=by
 have:=List.any_eq_false.1 h _ (Am hk)
 simpa using this
theorem MN{zs:List Int}{k:Nat}(p:Int→Bool)(h:¬k<zs.length):(zs.drop k).any p=false:=by
 rw[List.drop_eq_nil_of_le (by omega)];rfl
theorem Fj{zs:List Int}{k:Nat}{n:Int}(h:k<zs.length):A0 n (zs.drop k)=if 65536<n*zs.getD k 0 then(0,6)else A0 (n*zs.getD k 0) (zs.drop (k+1)):=by
 rw[Bs h];rfl
theorem F8{zs:List Int}{k:Nat}{n:Int}(h:¬k<zs.length):A0 n (zs.drop k)=(n,0):=by
 rw[List.drop_eq_nil_of_le (by omega)];rfl
theorem JR{n d:Int}(h1:1≤n)(h:65536<d):65536<n*d:=by
 have:1*d≤n*d:=Int.mul_le_mul_of_nonneg_right h1 (by omega);omega
theorem Fk{n d:Int}(h1:1≤n)(h:1≤d):1≤n*d:=by
 have:1*1≤n*d:=Int.mul_le_mul h1 h (by decide) (by omega);omega
theorem MO{n d:Int}(h1:1≤n)(h2:n≤65536)(h3:1≤d)(h:d≤65536):n*d≤4294967296:=by
 have:n*d≤65536*65536:=Int.mul_le_mul h2 h (by omega) (by omega);omega
theorem Fz{zs:List Int}{k:Nat}(h:k<zs.length):zs[k]?=some (zs.getD k 0):=by simp[List.getD,List.getElem?_eq_getElem h]
def I9(g:Nat)(lb:Array Value)(p:Int→Bool)(w:World):Prop:=
 ∀(W:World) (z:Int),Below w.heap.size w W→Bf z→Calls Tryz.prog g (#[.int .i64 z]++lb) W fun e w'=>e=.returned (.bool (p z))∧Below W.heap.size W w'
attribute [local irreducible] AK A0
theorem P2(b off cap:Nat)(zs:List Int)(hlen:zs.length*8≤140737488351232)(hw:Hid (∀z∈zs,Bf z))(w:World)(hb:b<w.heap.size)(hr:Hid (Ec w b off zs))(g:Nat)(lb:Array Value)(eg:∀args w,(callFunc g args).run Tryz.prog w=.ok (.enter g args) w)(p:Int→Bool)(hp:Hid (I9 g lb p w)) :
  Calls Tryz.prog 99 #[.slice (some ⟨b,off,none⟩) zs.length cap,.func (.func g) #[] lb] w fun e w'=>e=.returned (.int .i64 (CX p zs))∧Below w.heap.size w w':=by
 go_enter Tryz.func99,Tryz.ntmps99
 go_wp2
 go_loopg [5,8] zs.length (fun gg _ s8 wr=>∃k:Nat,k≤zs.length∧zs.length-k≤gg∧s8=.int .i64 (k:Int)∧Hid (Below w.heap.size w wr)∧Hid ((zs.take k).any p=false))
 case atStart=>exact⟨0,Nat.zero_le _,by omega,rfl,hid (Below.refl _ _),hid (by simp)⟩
 case round=>
  obtain⟨k,hk,hg,rfl,hB,hany⟩:=hrel;by_cases hkl:k<zs.length
  ·have hki:(k:Int)<(zs.length:Int):=by omega
   have c0:=(hr.out.below hB.out hb) k hkl;have HI:=hw.out _ (Am hkl);have HA:=hid (Fz hkl);generalize zs.getD k 0=z at c0 HI HA;have hcall:=hid (hp.out _ z hB.out HI);clear HI;cases hq:p z with
   | true=>
    have e:=hid (Hz HA.out hany.out hq);rw[hq]at hcall;clear hq;go_wp2_with (go_at_fn g;refine hcall.out.mono ?_;rintro e w'⟨rfl,hB2⟩)
    go_ret
    exact⟨Ab (An e.out.symm),hB.out.trans (hB2.mono hB.out.size)⟩
   | false=>
    have e:=hid (CY HA.out hany.out hq);rw[hq]at hcall;clear hq;go_wp2_with (go_at_fn g;refine hcall.out.mono ?_;rintro e w'⟨rfl,hB2⟩)
    go_roundg (zs.length-(k+1))
    case measure=>omega
    case rel=>exact⟨k+1,by omega,by omega,by go_num,hid (hB.out.trans (hB2.mono hB.out.size)),e⟩
  ·have hki:¬(k:Int)<(zs.length:Int):=by omega
   obtain rfl:k=zs.length:=by omega
   have e:Hid (CX p zs=-1):=hid (El (by have:=hany.out;rwa [List.take_length]at this));go_wp2
   go_ret
   exact⟨Ab (An e.out.symm),hB.out⟩
theorem MP(a0:Option Addr)(cap:Nat)(fn:Value)(p:Int→Bool)(w:World) :
  Calls Tryz.prog 99 #[.slice a0 0 cap,fn] w fun e w'=>e=.returned (.int .i64 (CX p []))∧Below w.heap.size w w':=by
 have e:CX p []=-1:=rfl;rw[e];go_enter Tryz.func99,Tryz.ntmps99
 go_wp2
 go_rounds 1
 go_ret
 exact⟨rfl,Below.refl _ _⟩
theorem P3{w:World}{v:Value}{zs:List Int}(h:Aa w v zs)(g:Nat)(lb:Array Value)(eg:∀args w,(callFunc g args).run Tryz.prog w=.ok (.enter g args) w)(p:Int→Bool)(hp:I9 g lb p w) :
  Calls Tryz.prog 99 #[v,.func (.func g) #[] lb] w fun e w'=>e=.returned (.int .i64 (CX p zs))∧Below w.heap.size w w':=by
 cases h with
 | empty a0 cap=>exact MP a0 cap _ p w
 | row b off cap _ h0 hc hb hr hlen hw=>exact P2 b off cap zs hlen (hid hw) w hb (hid hr) g lb eg p (hid hp)
theorem GO{w:World}{v:Value}{zs:List Int}(h:Aa w v zs)(g:Nat)(lb:Array Value)(eg:∀args w,(callFunc g args).run Tryz.prog w=.ok (.enter g args) w)(p:Int→Bool)(hp:I9 g lb p w) :
  Calls Tryz.prog 39 #[v,.func (.func g) #[] lb] w fun e w'=>e=.returned (.bool (zs.any p))∧Below w.heap.size w w':=by
 have H:=hid (P3 h g lb eg p hp);have hg:=hid (H7 p zs);go_enter Tryz.func39,Tryz.ntmps39
 go_wp2_with (go_at_call 99;refine H.out.mono ?_;rintro e w'⟨rfl,hB⟩)
 go_ret
 refine⟨Ab (Ar ?_),hB⟩;have:=hg.out
 simpa using this
theorem P4(b off cap:Nat)(zs:List Int)(hlen:zs.length*8≤140737488351232)(hw:Hid (∀z∈zs,Bf z))(w:World)(hb:b<w.heap.size)(hr:Hid (Ec w b off zs))(g:Nat)(lb:Array Value)(eg:∀args w,(callFunc g args).run Tryz.prog w=.ok (.enter g args) w)(p:Int→Bool)(hp:Hid (I9 g lb p w)) :
  Calls Tryz.prog 156 #[.slice (some ⟨b,off,none⟩) zs.length cap,.func (.func g) #[] lb] w fun e w'=>e=.returned (.int .i64 (CX p zs))∧Below w.heap.size w w':=by
 go_enter Tryz.func156,Tryz.ntmps156
 go_wp2
 go_loopg [5,8] zs.length (fun gg _ s8 wr=>∃k:Nat,k≤zs.length∧zs.length-k≤gg∧s8=.int .i64 (k:Int)∧Hid (Below w.heap.size w wr)∧Hid ((zs.take k).any p=false))
 case atStart=>exact⟨0,Nat.zero_le _,by omega,rfl,hid (Below.refl _ _),hid (by simp)⟩
 case round=>
  obtain⟨k,hk,hg,rfl,hB,hany⟩:=hrel;by_cases hkl:k<zs.length
  ·have hki:(k:Int)<(zs.length:Int):=by omega
   have c0:=(hr.out.below hB.out hb) k hkl;have HI:=hw.out _ (Am hkl);have HA:=hid (Fz hkl);generalize zs.getD k 0=z at c0 HI HA;have hcall:=hid (hp.out _ z hB.out HI);clear HI;cases hq:p z with
   | true=>
    have e:=hid (Hz HA.out hany.out hq);rw[hq]at hcall;clear hq;go_wp2_with (go_at_fn g;refine hcall.out.mono ?_;rintro e w'⟨rfl,hB2⟩)
    go_ret
    exact⟨Ab (An e.out.symm),hB.out.trans (hB2.mono hB.out.size)⟩
   | false=>
    have e:=hid (CY HA.out hany.out hq);rw[hq]at hcall;clear hq;go_wp2_with (go_at_fn g;refine hcall.out.mono ?_;rintro e w'⟨rfl,hB2⟩)
    go_roundg (zs.length-(k+1))
    case measure=>omega
    case rel=>exact⟨k+1,by omega,by omega,by go_num,hid (hB.out.trans (hB2.mono hB.out.size)),e⟩
  ·have hki:¬(k:Int)<(zs.length:Int):=by omega
   obtain rfl:k=zs.length:=by omega
   have e:Hid (CX p zs=-1):=hid (El (by have:=hany.out;rwa [List.take_length]at this));go_wp2
   go_ret
   exact⟨Ab (An e.out.symm),hB.out⟩
theorem MQ(a0:Option Addr)(cap:Nat)(fn:Value)(p:Int→Bool)(w:World) :
  Calls Tryz.prog 156 #[.slice a0 0 cap,fn] w fun e w'=>e=.returned (.int .i64 (CX p []))∧Below w.heap.size w w':=by
 have e:CX p []=-1:=rfl;rw[e];go_enter Tryz.func156,Tryz.ntmps156
 go_wp2
 go_rounds 1
 go_ret
 exact⟨rfl,Below.refl _ _⟩
theorem P5{w:World}{v:Value}{zs:List Int}(h:Aa w v zs)(g:Nat)(lb:Array Value)(eg:∀args w,(callFunc g args).run Tryz.prog w=.ok (.enter g args) w)(p:Int→Bool)(hp:I9 g lb p w) :
  Calls Tryz.prog 156 #[v,.func (.func g) #[] lb] w fun e w'=>e=.returned (.int .i64 (CX p zs))∧Below w.heap.size w w':=by
 cases h with
 | empty a0 cap=>exact MQ a0 cap _ p w
 | row b off cap _ h0 hc hb hr hlen hw=>exact P4 b off cap zs hlen (hid hw) w hb (hid hr) g lb eg p (hid hp)
theorem GP{w:World}{v:Value}{zs:List Int}(h:Aa w v zs)(g:Nat)(lb:Array Value)(eg:∀args w,(callFunc g args).run Tryz.prog w=.ok (.enter g args) w)(p:Int→Bool)(hp:I9 g lb p w) :
  Calls Tryz.prog 97 #[v,.func (.func g) #[] lb] w fun e w'=>e=.returned (.bool (zs.any p))∧Below w.heap.size w w':=by
 have H:=hid (P5 h g lb eg p hp);have hg:=hid (H7 p zs);go_enter Tryz.func97,Tryz.ntmps97
 go_wp2_with (go_at_call 156;refine H.out.mono ?_;rintro e w'⟨rfl,hB⟩)
 go_ret
 refine⟨Ab (Ar ?_),hB⟩;have:=hg.out
 simpa using this
theorem GX(b off cap:Nat)(zs:List Int)(hlen:zs.length*8≤140737488351232)(hw:Hid (∀z∈zs,Bf z))(w:World)(hr:Hid (Ec w b off zs)) :
  Calls Tryz.prog 25 #[.slice (some ⟨b,off,none⟩) zs.length cap] w fun e w'=>e=.returned (.tuple #[.int .i64 (AK zs).1,.int .i64 (AK zs).2])∧w=w':=by
 go_enter Tryz.func25,Tryz.ntmps25
 go_wp2
 go_loop [4] (fun i=>∃k:Nat,k≤zs.length∧i=.int .i64 (k:Int)∧Hid (zs.any (fun d=>decide (d<1))=(zs.drop k).any (fun d=>decide (d<1)))) (fun i=>zs.length-(intOf i).toNat)
 case atStart=>exact⟨0,Nat.zero_le _,rfl,hid (by simp)⟩
 case round=>
  obtain⟨k,hk,rfl,hany⟩:=hrel;by_cases hkl:k<zs.length
  ·have hcx:=hr.out k hkl;have hn:=hid (J0 hkl (fun d=>decide (d<1)));generalize zs.getD k 0=z at*;go_wp2
   ·rename_i hz
    go_ret2
    have e:=Gw (zs:=zs) (by rw[hany.out,hn.out];simp;omega);rw[e];exact⟨rfl,rfl⟩
   ·go_round
    case rel=>exact⟨k+1,by omega,by go_num,hid (by rw[hany.out,hn.out];simp;omega)⟩
    case measure=>simp[intOf];omega
  ·have hlow:=hid (by rw[hany.out,MN _ hkl]:zs.any (fun d=>decide (d<1))=false);have ek:k=zs.length:=by omega
   go_wp2
   ·rename_i hz
    go_ret2
    have e:=Fh hlow.out (by omega);rw[e];exact⟨rfl,rfl⟩
   ·have h6:zs.length≤6:=by omega
    go_loop [5,6] (fun n i=>∃(m:Int) (k:Nat),k≤zs.length∧1≤m∧m≤65536∧n=.int .i64 m∧i=.int .i64 (k:Int)∧Hid (AK zs=A0 m (zs.drop k))) (fun _ i=>zs.length-(intOf i).toNat)
    case atStart=>exact⟨1,0,Nat.zero_le _,by omega,by omega,rfl,rfl,hid (by rw[Fi hlow.out (by omega)];simp)⟩
    case round=>
     obtain⟨m,k,hk,hm1,hm2,rfl,rfl,hc⟩:=hrel;by_cases hkl:k<zs.length
     ·have hcx:=hr.out k hkl;have hn:=hid (Fj (n:=m) hkl);have h1:=H8 hlow.out hkl;generalize zs.getD k 0=z at*;by_cases hbig:65536<z
      ·have e:AK zs=(0,6):=by rw[hc.out,hn.out,if_pos (JR hm1 hbig)]
       rw[e];go_wp2
       go_ret2
       exact⟨rfl,rfl⟩
      ·have ht:=MO hm1 hm2 h1 (by omega);have hp:=Fk hm1 h1;by_cases hb2:65536<m*z
       ·have e:AK zs=(0,6):=by rw[hc.out,hn.out,if_pos hb2]
        rw[e];go_wp2
        go_ret2
        exact⟨rfl,rfl⟩
       ·have e:Hid (AK zs=A0 (m*z) (zs.drop (k+1))):=hid (by rw[hc.out,hn.out,if_neg hb2]);go_wp2
        go_round
        case rel=>exact⟨m*z,k+1,by omega,hp,by omega,by go_num,by go_num,e⟩
        case measure=>simp[intOf];omega
     ·have e:AK zs=(m,0):=by rw[hc.out,F8 hkl]
      have ek:k=zs.length:=by omega
      rw[e];go_wp2
      go_ret2
      exact⟨rfl,rfl⟩
theorem FA(a0:Option Addr)(cap:Nat)(w:World) :
  Calls Tryz.prog 25 #[.slice a0 0 cap] w fun e w'=>e=.returned (.tuple #[.int .i64 (AK []).1,.int .i64 (AK []).2])∧w=w':=by
 have e:AK []=(1,0):=by unfold AK;unfold A0;decide
 rw[e];go_enter Tryz.func25,Tryz.ntmps25
 go_wp2
 go_rounds 1
 go_wp2
 go_rounds 1
 go_wp2
 go_ret2
 exact⟨rfl,rfl⟩
theorem Cj{w:World}{v:Value}{zs:List Int}(h:Aa w v zs) :
  Calls Tryz.prog 25 #[v] w fun e w'=>e=.returned (.tuple #[.int .i64 (AK zs).1,.int .i64 (AK zs).2])∧w=w':=by
 cases h with
 | empty a0 cap=>exact FA a0 cap w
 | row b off cap _ h0 hc hb hr hlen hw=>exact GX b off cap zs hlen (hid hw) w (hid hr)
theorem LQ:∀args w,(callFunc 40 args).run Tryz.prog w=.ok (.enter 40 args) w:=enters_of Tryz.func40 (by kernel_rfl) rfl
theorem P6(z:Int)(w:World):Calls Tryz.prog 40 #[.int .i64 z] w fun e w'=>e=.returned (.bool (decide (z<1)))∧Below w.heap.size w w':=by
 go_enter Tryz.func40,Tryz.ntmps40
 go_wp2
 go_ret
 exact⟨rfl,Below.refl _ _⟩
theorem Ja(w:World):I9 40 #[] (fun d=>decide (d<1)) w:=fun W z _ _=>P6 z W
theorem Iz(b off cap:Nat)(zs:List Int)(hlen:zs.length*8≤140737488351232)(hw:Hid (∀z∈zs,Bf z))(w:World)(hb:b<w.heap.size)(hr:Hid (Ec w b off zs))(hin:Hid (Aa w (.slice (some ⟨b,off,none⟩) zs.length cap) zs)) :
  Calls Tryz.prog 18 #[.slice (some ⟨b,off,none⟩) zs.length cap] w fun e w'=>e=.returned (.tuple #[.int .i64 (AK zs).1,.int .i64 (AK zs).2])∧Below w.heap.size w w':=by
 have H:=hid (GO hin.out _ _ LQ _ (Ja w));cases hb1:zs.any (fun d=>decide (d<1))
 ·rw[hb1]at H;by_cases h6:6<zs.length
  ·have e:AK zs=(0,6):=Fh hb1 h6;rw[e];clear hb1;go_enter Tryz.func18,Tryz.ntmps18
   go_wp2_with (go_at_call 39;refine H.out.mono ?_;rintro e w'⟨rfl,hB⟩;have HB:=hid hB;clear hB)
   go_ret2
   exact⟨rfl,HB.out⟩
  ·have hlow:=hid hb1;have h6':zs.length≤6:=by omega
   clear hb1;go_enter Tryz.func18,Tryz.ntmps18
   go_wp2_with (go_at_call 39;refine H.out.mono ?_;rintro e w'⟨rfl,hB⟩;have HB:=hid hB;clear hB)
   have HR2:=hid (hr.out.below HB.out hb);go_loop [4,14] (fun n i=>∃(m:Int) (k:Nat),k≤zs.length∧1≤m∧m≤65536∧n=.int .i64 m∧i=.int .i64 (k:Int)∧Hid (AK zs=A0 m (zs.drop k))) (fun _ i=>zs.length-(intOf i).toNat)
   case atStart=>exact⟨1,0,Nat.zero_le _,by omega,by omega,rfl,rfl,hid (by rw[Fi hlow.out (by omega)];simp)⟩
   case round=>
    obtain⟨m,k,hk,hm1,hm2,rfl,rfl,hc⟩:=hrel;by_cases hkl:k<zs.length
    ·have hcx:=HR2.out k hkl;have hn:=hid (Fj (n:=m) hkl);have h1:=H8 hlow.out hkl;have hI2:=(hw.out _ (Am hkl)).2;generalize zs.getD k 0=z at*;have hq:=NP (n:=m) (d:=z) hm1;rw[Int.tdiv_eq_ediv_of_nonneg (by decide)]at hq;have hq0:wrap64 (65536/m)=65536/m:=by
      have h3:65536/m≤65536:=Int.ediv_le_self _ (by decide);have h4:0≤65536/m:=Int.ediv_nonneg (by decide) (by omega);unfold wrap64;omega
     have hm0:(m==0)=false:=by simp;omega
     by_cases hb2:65536<m*z
     ·have e:Hid (AK zs=(0,6)):=hid (by rw[hc.out,hn.out,if_pos hb2]);have hlt:65536/m<z:=hq.2 hb2;clear hq hb2
      skip
      go_wp2
      go_ret2
      exact⟨Hy (An (by rw[e.out])) (An (by rw[e.out])),HB.out⟩
     ·have e:Hid (AK zs=A0 (m*z) (zs.drop (k+1))):=hid (by rw[hc.out,hn.out,if_neg hb2]);have hp:=Fk hm1 h1;have hle:¬65536/m<z:=fun h=>hb2 (hq.1 h);clear hq
      skip
      go_wp2
      go_round
      case rel=>exact⟨m*z,k+1,by omega,hp,by omega,by go_num,by go_num,e⟩
      case measure=>simp[intOf];omega
    ·have e:Hid (AK zs=(m,0)):=hid (by rw[hc.out,F8 hkl]);have ek:k=zs.length:=by omega
     go_wp2
     go_ret2
     exact⟨Hy (An (by rw[e.out])) (An (by rw[e.out])),HB.out⟩
 ·rw[hb1]at H;have e:AK zs=(0,4):=Gw hb1;rw[e];clear hb1;go_enter Tryz.func18,Tryz.ntmps18
  go_wp2_with (go_at_call 39;refine H.out.mono ?_;rintro e w'⟨rfl,hB⟩;have HB:=hid hB;clear hB)
  go_ret2
  exact⟨rfl,HB.out⟩
theorem F9(a0:Option Addr)(cap:Nat)(w:World) :
  Calls Tryz.prog 18 #[.slice a0 0 cap] w fun e w'=>e=.returned (.tuple #[.int .i64 (AK []).1,.int .i64 (AK []).2])∧Below w.heap.size w w':=by
 have H:=hid (GO (Aa.empty (w:=w) a0 cap) _ _ LQ _ (Ja w));have e:AK []=(1,0):=by unfold AK;unfold A0;decide
 rw[e];rw[show([]:List Int).any (fun d=>decide (d<1))=false from rfl]at H;go_enter Tryz.func18,Tryz.ntmps18
 go_wp2_with (go_at_call 39;refine H.out.mono ?_;rintro e w'⟨rfl,hB⟩;have HB:=hid hB;clear hB)
 go_rounds 1
 go_ret2
 exact⟨rfl,HB.out⟩
theorem C6{w:World}{v:Value}{zs:List Int}(h:Aa w v zs) :
  Calls Tryz.prog 18 #[v] w fun e w'=>e=.returned (.tuple #[.int .i64 (AK zs).1,.int .i64 (AK zs).2])∧Below w.heap.size w w':=by
 have h':=h;cases h with
 | empty a0 cap=>exact F9 a0 cap w
 | row b off cap _ h0 hc hb hr hlen hw=>exact Iz b off cap zs hlen (hid hw) w hb (hid hr) (hid h')
end
end Go.Proofs.YtkkeehnldcdccaaGreatDoor
