import Derived.Test.YtkkeehnldcdccaaGreatDoorShelfin
import Derived.Shelf.SlicesG.Clone
import Derived.Test.YtkkeehnldcdccaaGreatDoorNe07
set_option linter.unusedVariables false
set_option linter.unusedSimpArgs false
set_option maxRecDepth 100000
set_option maxHeartbeats 4000000
namespace Go.Proofs.YtkkeehnldcdccaaGreatDoor
open Go.Lib (hid)
open Go.RowKit
section
theorem Ag.push{w w':World}{B:Nat}{v v':Value}{zs:List Int}{x:Int}(h:Ag w B v zs)(hr:w'.ownsRow B 3 1 v' (zs.length+1) (zs.map (Value.int .i64)++[.int .i64 x])):Ag w' B v' (zs++[x]):=by
 unfold Ag;rw[List.length_append,List.map_append];exact hr
theorem Ag.own{w:World}{B:Nat}{v:Value}{zs:List Int}(h:Ag w B v zs):w.ownsRow B 3 1 v zs.length (zs.map (Value.int .i64)):=h
theorem DO{x:Int}{r:Nat}(h:0≤x∧x<(r:Int))(hr:r≤1125899906842624):Bf x:=by unfold Bf;omega
theorem Ai{w:World}{a:Option Addr}{n c k:Nat}{zs:List Int}(h:Aa w (.slice a n c) zs)(hk:k<zs.length):∃b off,a=some ⟨b,off,none⟩∧n=zs.length∧b<w.heap.size∧w.cell? ⟨b,off+k,none⟩=some (.int .i64 (zs.getD k 0))∧Bf (zs.getD k 0):=by
 obtain⟨b,off,cap,e,hb,hr,hi⟩:=h.rows hk;obtain⟨rfl,rfl,rfl⟩:=Value.slice.inj e;exact⟨b,off,rfl,rfl,hb,hr k hk,hi⟩
attribute [local irreducible] Bq DB Ag
theorem Ib{w:World}{v:Value}{zs:List Int}{r:Nat}(h:Aa w v zs)(hl:zs.length*8≤140737488351232)(hr:r≤1125899906842624) :
  Calls Tryz.prog 111 #[v,.int .i64 (r:Int)] w fun e w'=>AY w (By zs r) e w':=by
 obtain⟨i0,hi,hz0,hz1,hz2⟩:=info_parts AI;have HAx:=hid (fun(W:World) (a:Int) (ha:Bf a)=>Ia a r ha hr W);have HCo:=hid (fun(W:World) (u:Value) (ks:List Int) (h:Aa W u ks) (x:Int)=>Ew h x);have HY:=hid (fun(W:World)=>Ao W);have HNo:=hid (fun(W:World)=>Aw W);obtain⟨a,c,rfl⟩:=h.shape;have HI:=hid h;clear h;go_enter Tryz.func111,Tryz.ntmps111
 go_wp2_with fail
 go_loopw [5,11] (fun ov i wr=>∃(k:Nat) (ks:List Int),k≤zs.length∧i=.int .i64 (k:Int)∧ks.length≤k∧Hid (∀x∈ks,0≤x∧x<(r:Int))∧Hid (By zs r=DB r ks (zs.drop k))∧Hid (Ag wr w.heap.size ov ks)∧Hid (Below w.heap.size w wr)) (fun _ i _=>zs.length-(intOf i).toNat)
 case atStart=>exact⟨0,[],Nat.zero_le _,rfl,Nat.zero_le _,hid (by simp),hid rfl,hid (Ag.nil _ _),hid (Below.refl _ _)⟩
 case round=>
  obtain⟨k,ks,hk,rfl,hkl,hlt,hF,hO,hW⟩:=hrel;obtain⟨ao,co,rfl⟩:=hO.out.form;have hsw:=hW.out.size;by_cases hkz:k<zs.length
  ·have hki:(k:Int)<(zs.length:Int):=by omega
   obtain⟨b,off,rfl,-,hb,c0,hx⟩:=Ai HI.out hkz;have c0:=(hW.out.cell (p:=⟨b,off+k,none⟩) hb).trans c0;have HF1:=hid (fun h=>Kk (r:=r) (acc:=ks) hkz h);have HF2:=hid (fun x h=>Jf (r:=r) (acc:=ks) (x:=x) hkz h);have HF3:=hid (fun x h=>Kl (r:=r) (acc:=ks) (x:=x) hkz h);generalize zs.getD k 0=z at*;have hA:=HAx.out wr z hx;have hKI:=hid (hO.out.ints (by omega) (fun x hx=>DO (hlt.out x hx) hr));clear hx;cases hax:Bq z r with
   | none=>
    have e:=hid (hF.out.trans (HF1.out hax));rw[hax]at hA;have hA:=hid hA;clear hax;go_wp2_with fail
    refine hA.out.mono ?_;rintro e w'⟨rfl,rfl⟩;exact⟨rfl,AY.no e.out hW.out⟩
   | some x=>
    have hxl:=FC hax;have HF2:=hid (HF2.out x hax);have HF3:=hid (HF3.out x hax);rw[hax]at hA;have hA:=hid hA;clear hax;go_wp2_with fail
    refine hA.out.mono ?_;rintro e w'⟨rfl,rfl⟩;have hC:=HCo.out w' _ ks hKI.out x;cases hct:ks.contains x with
    | true=>
     have e:=hid (hF.out.trans (HF2.out hct));rw[hct]at hC;have hC:=hid hC;clear hct;go_wp2_with fail
     refine hC.out.mono ?_;rintro e w'⟨rfl,rfl⟩;go_wp2_with fail
     refine(HNo.out _).mono ?_;rintro e w'⟨rfl,rfl⟩;exact⟨rfl,AY.no e.out hW.out⟩
    | false=>
     have e:=hid (hF.out.trans (HF3.out hct));rw[hct]at hC;have hC:=hid hC;clear hct;go_wp2_with fail
     refine hC.out.mono ?_;rintro e w'⟨rfl,rfl⟩;go_wp2_with fail
     refine(HY.out _).mono ?_;rintro e w'⟨rfl,rfl⟩;go_wp2_with (at_builtin;refine wpList_append_own _ rfl _ _ 29 rfl w.heap.size 3 i0 (.int .i64 0) 1 8 Tryz.underlying29 hi hz0 hz1 hz2 rfl (by decide) _ _ _ rfl (hO.out.own.alloc _) ⟨w'.heap.size,0,none⟩ 1 1 (#[.int .i64 x]:Array Value).toList rfl rfl (World.news_of_block (heap_alloc_new w' _)) (by simp[Value.oneCell']) ?A3 ?A4 ?A5 ?_)
     case A3=>unfold maxLen;omega
     case A4=>omega
     case A5=>first|(simp;omega)|omega
     intro v' w4 hown' hgrow _;have hb4:Hid (Below w.heap.size w w4):=hid ((hW.out.alloc hsw _).grown hgrow (by simp;omega) fun g hg=>(hO.out.own.lt g hg).1);have ho4:Hid (Ag w4 w.heap.size v' (ks++[x])):=hid (hO.out.push hown');have hl4:Hid (∀y∈ks++[x],0≤y∧y<(r:Int)):=hid (fun y hy=>by
      rcases List.mem_append.1 hy with h|h
      ·exact hlt.out y h
      ·obtain rfl:y=x:=by simpa using h
       exact hxl)
     have hkl2:(ks++[x]).length≤k+1:=by simp;omega
     generalize ks++[x]=ks2 at*;clear hown' hgrow;go_wp2_with fail
     go_roundw
     case rel=>exact⟨k+1,ks2,by omega,by go_num,hkl2,hl4,e,ho4,hb4⟩
     case measure=>simp[intOf];omega
  ·have hki:¬(k:Int)<(zs.length:Int):=by omega
   have e:=hid (hF.out.trans (L6 hkz));go_wp2
   go_ret
   exact AY.yes e.out hW.out hO.out
theorem Lr{zs:List Int}{k:Nat}{x:Int}(h:(zs.take k).contains x=false)(hk:k<zs.length)(g:¬zs.getD k 0=x):(zs.take (k+1)).contains x=false:=by
 rw[List.take_add_one,Fz hk];simp only[Option.toList_some,List.contains_eq_mem,decide_eq_false_iff_not,List.mem_append,List.mem_singleton]at h⊢;exact fun c=>c.elim h (fun e=>g e.symm)
theorem Oj{zs:List Int}{k:Nat}(hk:k<zs.length):zs.contains (zs.getD k 0)=true:=by
 rw[List.contains_iff_mem];exact Am hk
theorem Km{w:World}{v:Value}{zs:List Int}(h:Aa w v zs)(x:Int) :
  Calls Tryz.prog 134 #[v,.int .i64 x] w fun e w'=>e=.returned (.bool (zs.contains x))∧w'=w:=by
 obtain⟨a,c,rfl⟩:=h.shape;have hl:=h.wf.1;have HI:=hid h;clear h;go_enter Tryz.func134,Tryz.ntmps134
 go_wp2_with fail
 go_loop [5] (fun i=>∃k:Nat,k≤zs.length∧i=.int .i64 (k:Int)∧Hid ((zs.take k).contains x=false)) (fun i=>zs.length-(intOf i).toNat)
 case atStart=>exact⟨0,Nat.zero_le _,rfl,hid (by simp)⟩
 case round=>
  obtain⟨k,hk,rfl,hT⟩:=hrel;by_cases hkz:k<zs.length
  ·have hki:(k:Int)<(zs.length:Int):=by omega
   obtain⟨b,off,rfl,-,hb,c0,-⟩:=Ai HI.out hkz;have H1:=hid (Lr hT.out hkz);have H2:=hid (Oj hkz);generalize zs.getD k 0=z at*;by_cases e:z=x
   ·subst e;have hzz:(z==z)=true:=by simp
    go_wp2
    go_ret
    exact⟨Ab (Ar (by have:=H2.out;simpa using this.symm)),rfl⟩
   ·have hzz:(z==x)=false:=by simpa using e
    have H3:=hid (H1.out e);clear e;go_wp2
    go_round
    case rel=>exact⟨k+1,by omega,by go_num,H3⟩
    case measure=>simp[intOf];omega
  ·have hki:¬(k:Int)<(zs.length:Int):=by omega
   have e:Hid (zs.contains x=false):=hid (by have:=hT.out;rwa [List.take_of_length_le (by omega)]at this);go_wp2
   go_ret
   exact⟨Ab (Ar (by have:=e.out;simpa using this.symm)),rfl⟩
theorem GA{w:World}{v:Value}{zs:List Int}{r:Nat}(h:Aa w v zs)(hl:zs.length*8≤140737488351232)(hr:r≤1125899906842624) :
  Calls Tryz.prog 133 #[v,.int .i64 (r:Int)] w fun e w'=>Eg w (By zs r) e w':=by
 obtain⟨i0,hi,hz0,hz1,hz2⟩:=info_parts AI;have HAx:=hid (fun(W:World) (a:Int) (ha:Bf a)=>Gz a r ha hr W);have HCo:=hid (fun(W:World) (u:Value) (ks:List Int) (h:Aa W u ks) (x:Int)=>Km h x);obtain⟨a,c,rfl⟩:=h.shape;have HI:=hid h;clear h;go_enter Tryz.func133,Tryz.ntmps133
 go_wp2_with fail
 go_loopw [6,7] (fun ov i wr=>∃(k:Nat) (ks:List Int),k≤zs.length∧i=.int .i64 (k:Int)∧ks.length≤k∧Hid (∀x∈ks,0≤x∧x<(r:Int))∧Hid (By zs r=DB r ks (zs.drop k))∧Hid (Ag wr w.heap.size ov ks)∧Hid (Below w.heap.size w wr)) (fun _ i _=>zs.length-(intOf i).toNat)
 case atStart=>exact⟨0,[],Nat.zero_le _,rfl,Nat.zero_le _,hid (by simp),hid rfl,hid (Ag.nil _ _),hid (Below.refl _ _)⟩
 case round=>
  obtain⟨k,ks,hk,rfl,hkl,hlt,hF,hO,hW⟩:=hrel;obtain⟨ao,co,rfl⟩:=hO.out.form;have hsw:=hW.out.size;by_cases hkz:k<zs.length
  ·have hki:(k:Int)<(zs.length:Int):=by omega
   obtain⟨b,off,rfl,-,hb,c0,hx⟩:=Ai HI.out hkz;have c0:=(hW.out.cell (p:=⟨b,off+k,none⟩) hb).trans c0;have HF1:=hid (fun h=>Kk (r:=r) (acc:=ks) hkz h);have HF2:=hid (fun x h=>Jf (r:=r) (acc:=ks) (x:=x) hkz h);have HF3:=hid (fun x h=>Kl (r:=r) (acc:=ks) (x:=x) hkz h);generalize zs.getD k 0=z at*;have hA:=HAx.out wr z hx;have hKI:=hid (hO.out.ints (by omega) (fun x hx=>DO (hlt.out x hx) hr));clear hx;cases hax:Bq z r with
   | none=>
    have e:=hid (hF.out.trans (HF1.out hax));rw[hax]at hA;have hA:=hid hA;clear hax;go_wp2_with fail
    refine hA.out.mono ?_;unfold GR;rintro e w'⟨rfl,rfl⟩;go_wp2_with fail
    go_ret2
    exact Eg.no e.out hW.out (Ag.nil _ _) (.empty none 0)
   | some x=>
    have hxl:=FC hax;have HF2:=hid (HF2.out x hax);have HF3:=hid (HF3.out x hax);rw[hax]at hA;have hA:=hid hA;clear hax;go_wp2_with fail
    refine hA.out.mono ?_;unfold GR;rintro e w'⟨rfl,rfl⟩;have hC:=HCo.out w' _ ks hKI.out x;cases hct:ks.contains x with
    | true=>
     have e:=hid (hF.out.trans (HF2.out hct));rw[hct]at hC;have hC:=hid hC;clear hct;go_wp2_with fail
     refine hC.out.mono ?_;rintro e w'⟨rfl,rfl⟩;go_wp2_with fail
     go_ret2
     exact Eg.no e.out hW.out (Ag.nil _ _) (.empty none 0)
    | false=>
     have e:=hid (hF.out.trans (HF3.out hct));rw[hct]at hC;have hC:=hid hC;clear hct;go_wp2_with fail
     refine hC.out.mono ?_;rintro e w'⟨rfl,rfl⟩;go_wp2_with (at_builtin;refine wpList_append_own _ rfl _ _ 29 rfl w.heap.size 3 i0 (.int .i64 0) 1 8 Tryz.underlying29 hi hz0 hz1 hz2 rfl (by decide) _ _ _ rfl (hO.out.own.alloc _) ⟨w'.heap.size,0,none⟩ 1 1 (#[.int .i64 x]:Array Value).toList rfl rfl (World.news_of_block (heap_alloc_new w' _)) (by simp[Value.oneCell']) ?A3 ?A4 ?A5 ?_)
     case A3=>unfold maxLen;omega
     case A4=>omega
     case A5=>first|(simp;omega)|omega
     intro v' w4 hown' hgrow _;have hb4:Hid (Below w.heap.size w w4):=hid ((hW.out.alloc hsw _).grown hgrow (by simp;omega) fun g hg=>(hO.out.own.lt g hg).1);have ho4:Hid (Ag w4 w.heap.size v' (ks++[x])):=hid (hO.out.push hown');have hl4:Hid (∀y∈ks++[x],0≤y∧y<(r:Int)):=hid (fun y hy=>by
      rcases List.mem_append.1 hy with h|h
      ·exact hlt.out y h
      ·obtain rfl:y=x:=by simpa using h
       exact hxl)
     have hkl2:(ks++[x]).length≤k+1:=by simp;omega
     generalize ks++[x]=ks2 at*;clear hown' hgrow;go_wp2_with fail
     go_roundw
     case rel=>exact⟨k+1,ks2,by omega,by go_num,hkl2,hl4,e,ho4,hb4⟩
     case measure=>simp[intOf];omega
  ·have hki:¬(k:Int)<(zs.length:Int):=by omega
   have e:=hid (hF.out.trans (L6 hkz));go_wp2
   go_ret2
   exact Eg.yes e.out hW.out hO.out
end
structure CV(w:World)(B:Nat)(a:At)(vd vx vi:Value):Prop where
 od:w.ownsRow B 3 1 vd a.dims.length (a.dims.map (Value.int .i64))
 ox:w.ownsRow B 2 1 vx a.data.length (a.data.map (Value.int .i64))
 oi:w.ownsRow B 2 1 vi a.ints.length (a.ints.map (Value.int .i64))
theorem CV.below{w w':World}{B:Nat}{a:At}{vd vx vi:Value}(h:CV w B a vd vx vi)(hB:Below w.heap.size w w'):CV w' B a vd vx vi:=⟨AJ h.od hB,AJ h.ox hB,AJ h.oi hB⟩
theorem CV.base{w:World}{B B':Nat}{a:At}{vd vx vi:Value}(h:CV w B' a vd vx vi)(hB:B≤B'):CV w B a vd vx vi:=⟨Bl h.od hB,Bl h.ox hB,Bl h.oi hB⟩
theorem CV.grown{w w':World}{B b z n:Nat}{a:At}{vd vx vi v:Value}{xs:List Value}(h:CV w B a vd vx vi)(hr:w.ownsRow b 43 z v n xs)(hg:w.grownBy w' v.ownBlock):CV w' B a vd vx vi:=
 ⟨h.od.kept hg (Dq h.od hr (by decide)),h.ox.kept hg (Dq h.ox hr (by decide)),h.oi.kept hg (Dq h.oi hr (by decide))⟩
theorem CV.setCell{w:World}{B:Nat}{a:At}{vd vx vi:Value}(h:CV w B a vd vx vi){p:Addr}(hp:p.block<B)(u:Value):CV (w.setCell p u) B a vd vx vi:=
 ⟨A6 h.od fun g hg=>Below.heap_setCell _ _ _ _ (by have:=(h.od.lt g hg).1;omega),A6 h.ox fun g hg=>Below.heap_setCell _ _ _ _ (by have:=(h.ox.lt g hg).1;omega),A6 h.oi fun g hg=>Below.heap_setCell _ _ _ _ (by have:=(h.oi.lt g hg).1;omega)⟩
abbrev L7:=Value×Value×Value
def Gc(a:At)(t:L7):List Value:=[.string a.name,.int .i64 a.kind,.int .i64 a.f,.int .i64 a.i,.string a.s,.int .i64 a.typ,t.1,t.2.1,t.2.2]
def G9:List At→List L7→List Value
 | a::l,t::ts=>Gc a t++G9 l ts
 | _,_=>[]
theorem IG:∀ {l:List At} {ts:List L7} (a:At) (t:L7),l.length=ts.length→G9 (l++[a]) (ts++[t])=G9 l ts++Gc a t
 | [],[],a,t,_=>by simp[G9]
 | [],_::_,_,_,h=>by simp at h
 | _::_,[],_,_,h=>by simp at h
 | b::l,u::ts,a,t,h=>by
  simp only[List.cons_append,G9];rw[IG a t (by simpa using h),List.append_assoc]
structure DH(w:World)(B:Nat)(n:Nd)(vin vat:Value)(ts:List L7):Prop where
 ins:w.ownsRow B 9 1 vin n.ins.length (n.ins.map Value.string)
 len:ts.length=n.attrs.length
 row:w.ownsRow B 43 9 vat n.attrs.length (G9 n.attrs ts)
 att:∀(j:Nat) a t,n.attrs[j]?=some a→ts[j]?=some t→CV w B a t.1 t.2.1 t.2.2
theorem DH.base{w:World}{B B':Nat}{n:Nd}{vin vat:Value}{ts:List L7}(h:DH w B' n vin vat ts)(hB:B≤B'):DH w B n vin vat ts:=
 ⟨Bl h.ins hB,h.len,Bl h.row hB,fun j a t h1 h2=>(h.att j a t h1 h2).base hB⟩
theorem SX{w w':World}{b:Nat}{cs:Array Value}{t:TypeId}{row:Option Nat}(h:Ac w b cs t)(hg:w.grownBy w' row)(hne:row≠some b):Ac w' b cs t:=
 (hg.block b h.lt (fun e=>hne e.symm)).trans h
structure RI(a:At):Prop where
 d:a.dims.length*8≤140737488351232∧∀z∈a.dims,Bf z
 x:a.data.length*8≤140737488351232∧∀z∈a.data,Bf z
 i:a.ints.length*8≤140737488351232∧∀z∈a.ints,Bf z
 wk:Bf a.kind
 wf:Bf a.f
 wi:Bf a.i
 wt:Bf a.typ
 zn:a.name.size≤1048576
 zs:a.s.size≤1048576
theorem Er.bounds{w:World}{a:At}{vd vx vi:Value}(h:Er w a vd vx vi):RI a:=
 ⟨h.id.wf,h.ix.wf,h.ii.wf,h.wk,h.wf,h.wi,h.wt,h.zn,h.zs⟩
theorem CV.reads{w:World}{B:Nat}{a:At}{vd vx vi:Value}(h:CV w B a vd vx vi)(hb:RI a):Er w a vd vx vi:=
 ⟨Aa.of_owns h.od hb.d.1 hb.d.2,Aa.of_owns h.ox hb.x.1 hb.x.2,Aa.of_owns h.oi hb.i.1 hb.i.2,hb.wk,hb.wf,hb.wi,hb.wt,hb.zn,hb.zs⟩
structure XX(n:Nd):Prop where
 ins:n.ins.length*16≤140737488351232
 len:n.attrs.length≤1048576
 att:∀a∈n.attrs,RI a
theorem Fg.bounds{w:World}{n:Nd}{vin vat:Value}(h:Fg w n vin vat):XX n:=
 ⟨h.is.len,h.ia.len,fun a ha=>by
  obtain⟨j,hj⟩:=List.getElem?_of_mem ha;obtain⟨b,off,cap,_,_,hr⟩:=h.ia.rows j a hj;obtain⟨vd,vx,vi,_,h2⟩:=hr j a hj;exact h2.bounds⟩
theorem Bi.own{w:World}{base:Nat}{v:Value}{ss:List ByteArray}{n:Nat}(h:w.ownsRow base 9 1 v n (ss.map Value.string))(hn:ss.length=n)(hl:n*16≤140737488351232):Bi w v ss:=by
 obtain⟨h1,h2⟩:=h;rcases h2 with⟨rfl,h0⟩| ⟨g,cap,cur,rfl,hb,hg,hc,hm,hs,ht⟩
 ·subst h0;rw[List.length_eq_zero_iff.1 hn];exact .empty none 0
 ·by_cases h0:ss=[]
  ·subst h0;simp at hn;subst hn;exact .empty _ cap
  ·have:=Bi.row g 0 cap ss (w:=w) h0 (by omega) (Array.getElem?_eq_some_iff.1 hg).1 (fun j s hj=>by
    have hjl:j<ss.length:=(List.getElem?_eq_some_iff.1 hj).1;have ht':cur.toList.take n=ss.map Value.string:=by simpa using ht
    have h2:(cur.toList.take n)[j]?=(ss.map Value.string)[j]?:=by rw[ht']
    rw[List.getElem?_take_of_lt (by omega),List.getElem?_map,hj]at h2;simp only[Option.map_some,Array.getElem?_toList]at h2;have h3:w.cell? ⟨g,0+j,none⟩=cur[0+j]?:=by simp[World.cell?,hg]
    rw[h3,Nat.zero_add];exact h2) (by omega)
   rwa [hn]at this
theorem MZ(b o i:Nat):(⟨b,o,none⟩:Addr).add i=⟨b,o+i,none⟩:=by
 unfold Addr.add;split
 ·rename_i h;subst h;rfl
 ·rfl
theorem Ok:∀ {l:List At} {ts:List L7} {j:Nat} {a:At} {t:L7} {i:Nat} {u:Value},l[j]?=some a→ts[j]?=some t→(Gc a t)[i]?=some u→(G9 l ts)[j*9+i]?=some u
 | [],_,j,a,t,i,u,h,_,_=>by simp at h
 | _::_,[],j,a,t,i,u,_,h,_=>by simp at h
 | b::l,s::ts,0,a,t,i,u,h1,h2,h3=>by
  simp only[List.getElem?_cons_zero,Option.some.injEq]at h1 h2;subst h1 h2;have hi:i<(Gc b s).length:=(List.getElem?_eq_some_iff.1 h3).1;show(Gc b s++G9 l ts)[0*9+i]?=some u;rw[Nat.zero_mul,Nat.zero_add,List.getElem?_append_left hi];exact h3
 | b::l,s::ts,j+1,a,t,i,u,h1,h2,h3=>by
  show(Gc b s++G9 l ts)[(j+1)*9+i]?=some u;rw[List.getElem?_append_right (by simp[Gc];omega)];have e:(j+1)*9+i-(Gc b s).length=j*9+i:=by simp[Gc];omega
  rw[e];exact Ok (by simpa using h1) (by simpa using h2) h3
theorem Ac.five{W:World}{b:Nat}{x0 x1 x2 x3 x4:Value}{t:TypeId}(h:Ac W b #[x0,x1,x2,x3,x4] t):W.cell? ⟨b,0,none⟩=some x0∧W.cell? ⟨b,1,none⟩=some x1∧W.cell? ⟨b,2,none⟩=some x2∧W.cell? ⟨b,3,none⟩=some x3∧W.cell? ⟨b,4,none⟩=some x4:=⟨h.cell 0 rfl,h.cell 1 rfl,h.cell 2 rfl,h.cell 3 rfl,h.cell 4 rfl⟩
structure Qp(w:World)(B:Nat)(l:List At)(vat:Value)(ts:List L7):Prop where
 len:ts.length=l.length
 row:w.ownsRow B 43 9 vat l.length (G9 l ts)
 att:∀(j:Nat) a t,l[j]?=some a→ts[j]?=some t→CV w B a t.1 t.2.1 t.2.2
theorem Qp.reads{w:World}{B:Nat}{l:List At}{vat:Value}{ts:List L7}(h:Qp w B l vat ts)(hl:l.length≤1048576)(hb:∀a∈l,RI a):Bw w vat l:=by
 obtain⟨h1,h2⟩:=h.row;rcases h2 with⟨rfl,h0⟩| ⟨g,cap,cur,rfl,hbb,hg,hc,hm,hs,ht⟩
 ·rw[List.length_eq_zero_iff.1 h0];exact .empty none 0
 ·by_cases h0:l=[]
  ·subst h0;exact .empty _ cap
  ·refine .row g 0 cap l h0 hc (Array.getElem?_eq_some_iff.1 hg).1 (fun j a hj=>?_) hl;have hjl:j<l.length:=(List.getElem?_eq_some_iff.1 hj).1;obtain⟨t,ht⟩:∃t,ts[j]?=some t:=⟨_,List.getElem?_eq_getElem (by rw[h.len];exact hjl)⟩;have hcell:∀(i:Nat) u,(Gc a t)[i]?=some u→w.cell? ⟨g,0+j*9+i,none⟩=some u:=fun i u hu=>by
    have:=h.row.cells (g:=g) rfl _ u (Ok hj ht hu);rw[MZ]at this;rw[show 0+j*9+i=0+(j*9+i) by omega];exact this
   exact⟨t.1,t.2.1,t.2.2,⟨hcell 0 _ rfl,hcell 1 _ rfl,hcell 2 _ rfl,hcell 3 _ rfl,hcell 4 _ rfl,hcell 5 _ rfl,hcell 6 _ rfl,hcell 7 _ rfl,hcell 8 _ rfl⟩,(h.att j a t hj ht).reads (hb a (List.mem_of_getElem? hj))⟩
theorem DH.attrs{w:World}{B:Nat}{n:Nd}{vin vat:Value}{ts:List L7}(h:DH w B n vin vat ts):Qp w B n.attrs vat ts:=⟨h.len,h.row,h.att⟩
theorem DH.reads{w:World}{B:Nat}{n:Nd}{vin vat:Value}{ts:List L7}(h:DH w B n vin vat ts)(hb:XX n):Fg w n vin vat:=
 ⟨Bi.own h.ins rfl hb.ins,h.attrs.reads hb.len hb.att⟩
theorem DH.below{w w':World}{B:Nat}{n:Nd}{vin vat:Value}{ts:List L7}(h:DH w B n vin vat ts)(hB:Below w.heap.size w w'):DH w' B n vin vat ts:=
 ⟨AJ h.ins hB,h.len,AJ h.row hB,fun j a t h1 h2=>(h.att j a t h1 h2).below hB⟩
theorem DH.appended{w w':World}{B:Nat}{n:Nd}{vin vat v':Value}{ts:List L7}{a:At}{t:L7}(h:DH w B n vin vat ts)(hg:w.grownBy w' vat.ownBlock)
  (hown:w'.ownsRow B 43 9 v' (n.attrs.length+1) (G9 n.attrs ts++Gc a t)) (ha:CV w B a t.1 t.2.1 t.2.2):DH w' B { n with attrs:=n.attrs++[a] } vin v' (ts++[t]) where
 ins:=h.ins.kept hg (Dq h.ins h.row (by decide))
 len:=by rw[List.length_append,List.length_append,h.len];rfl
 row:=by
  rw[IG _ _ h.len.symm,List.length_append];exact hown
 att:=fun j b s hj hs=>by
  simp only at hj;by_cases hjl:j<n.attrs.length
  ·rw[List.getElem?_append_left hjl]at hj;rw[List.getElem?_append_left (by rw[h.len];exact hjl)]at hs;exact(h.att j b s hj hs).grown h.row hg
  ·rw[List.getElem?_append_right (by omega)]at hj;rw[List.getElem?_append_right (by rw[h.len];omega),h.len]at hs;have h0:j-n.attrs.length=0:=by
    rcases Nat.eq_zero_or_pos (j-n.attrs.length)with h|h
    ·exact h
    ·rw[List.getElem?_eq_none (by simp;omega)]at hj;cases hj
   rw[h0]at hj hs;obtain rfl:=Option.some.inj hj;obtain rfl:=Option.some.inj hs;exact ha.grown h.row hg
theorem CV.stored{w:World}{B b:Nat}{a:At}{vd vx vi:Value}{cs:Array Value}(h:CV w B a vd vx vi)(hb:Ac w b cs 25)(i:Nat)(u:Value):CV (w.setCell ⟨b,i,none⟩ u) B a vd vx vi:=
 ⟨A6 h.od fun g hg=>Below.heap_setCell _ _ _ _ (Bu h.od hb (by decide) g hg),A6 h.ox fun g hg=>Below.heap_setCell _ _ _ _ (Bu h.ox hb (by decide) g hg),A6 h.oi fun g hg=>Below.heap_setCell _ _ _ _ (Bu h.oi hb (by decide) g hg)⟩
theorem DH.stored{w:World}{B b:Nat}{n:Nd}{vin vat:Value}{ts:List L7}{cs:Array Value}(h:DH w B n vin vat ts)(hb:Ac w b cs 25)(i:Nat)(u:Value):DH (w.setCell ⟨b,i,none⟩ u) B n vin vat ts where
 ins:=A6 h.ins fun g hg=>Below.heap_setCell _ _ _ _ (Bu h.ins hb (by decide) g hg)
 len:=h.len
 row:=A6 h.row fun g hg=>Below.heap_setCell _ _ _ _ (Bu h.row hb (by decide) g hg)
 att:=fun j a t h1 h2=>(h.att j a t h1 h2).stored hb i u
theorem RJ{ats:List At}{nm:ByteArray}{kd:Int}{k:Nat}{a:At}(h:(ats.take k).any (Lp nm kd)=false)(ha:ats[k]?=some a)(hi:Lp nm kd a=true):Az ats nm kd=some a:=by
 unfold Az;obtain⟨hlt,e⟩:=List.getElem?_eq_some_iff.1 ha;rw[List.find?_eq_some_iff_getElem];refine⟨hi,k,hlt,e,fun j hj=>?_⟩;have:=List.any_eq_false.1 h (ats[j]'(by omega)) (by rw[List.mem_take_iff_getElem];exact⟨j,by omega,rfl⟩)
 simpa using this
theorem Ol{ats:List At}{nm:ByteArray}{kd:Int}(h:ats.any (Lp nm kd)=false):Az ats nm kd=none:=by
 unfold Az;rw[List.find?_eq_none];exact fun x hx=>List.any_eq_false.1 h x hx
theorem Ic{a:At}{nm:ByteArray}{kd:Int}(h:¬a.kind=kd):Lp nm kd a=false:=by unfold Lp;simp[h]
theorem Ie{a:At}{nm:ByteArray}{kd:Int}(h:¬a.name.toList=nm.toList):Lp nm kd a=false:=by unfold Lp;simp[IC h]
theorem Ur{a:At}{nm:ByteArray}{kd:Int}(h:a.name.toList=nm.toList)(g:a.kind=kd):Lp nm kd a=true:=by unfold Lp;simp[AP h,g]
theorem GB{w:World}{v:Value}{n:Nd}(h:Ba w v n)(nm:ByteArray)(kd:Int) :
  Calls Tryz.prog 66 #[v,.string nm,.int .i64 kd] w fun e w'=>Below w.heap.size w w'∧∃va,e=.returned (.tuple #[va,.bool (Az n.attrs nm kd).isSome])∧F7 w' va ((Az n.attrs nm kd).getD At.zero):=by
 obtain⟨vin,vat,rfl,hn⟩:=h;obtain⟨a1,c1,rfl⟩:=hn.is.form;obtain⟨a2,c2,rfl⟩:=hn.ia.form;have hal:=hn.ia.len;have HN:=hid hn;clear hn;unfold Nd.val;go_enter Tryz.func66,Tryz.ntmps66
 go_wp2_with fail
 generalize hw1:(w.alloc _).alloc _=W1;have hB1:Hid (Below w.heap.size w W1):=hid (by rw[←hw1];exact((Below.refl _ w).alloc (Nat.le_refl _) _).alloc (by simp) _);have hX:Hid (Ac W1 w.heap.size #[Value.string n.op,Value.string n.name,Value.slice a1 n.ins.length c1,Value.string n.out,Value.slice a2 n.attrs.length c2] 25):=hid (by rw[←hw1];exact(Ac.new w _ _).below' ((Below.refl _ _).alloc (Nat.le_refl _) _));have hR:Hid (Ac W1 (w.heap.size+1) #[Value.string ⟨#[]⟩,Value.int .i64 0,Value.int .i64 0,Value.int .i64 0,Value.string ⟨#[]⟩,Value.int .i64 0,Value.slice none 0 0,Value.slice none 0 0,Value.slice none 0 0] 43):=hid (by rw[←hw1];simpa using Ac.new (w.alloc (Obj.cells #[Value.string n.op,Value.string n.name,Value.slice a1 n.ins.length c1,Value.string n.out,Value.slice a2 n.attrs.length c2] 25)) #[Value.string ⟨#[]⟩,Value.int .i64 0,Value.int .i64 0,Value.int .i64 0,Value.string ⟨#[]⟩,Value.int .i64 0,Value.slice none 0 0,Value.slice none 0 0,Value.slice none 0 0] 43);clear hw1;have k4:W1.cell? ⟨w.heap.size,4,none⟩=some (.slice a2 n.attrs.length c2):=hX.out.cell 4 rfl;obtain⟨r0,r1,r2,r3,r4,r5,r6,r7,r8⟩:=hR.out.nine;obtain⟨f0,f1,f2,f3,f4,f5,f6,f7,f8⟩:=hR.out.thaw9;go_loop [8] (fun i=>∃k:Nat,k≤n.attrs.length∧i=.int .i64 (k:Int)∧Hid ((n.attrs.take k).any (Lp nm kd)=false)) (fun i=>n.attrs.length-(intOf i).toNat)
 case atStart=>exact⟨0,Nat.zero_le _,rfl,hid (by simp)⟩
 case round=>
  obtain⟨k,hk,rfl,hT⟩:=hrel;by_cases hkl:k<n.attrs.length
  ·have hki:(k:Int)<(n.attrs.length:Int):=by omega
   obtain⟨a,ha⟩:∃a,n.attrs[k]?=some a:=⟨_,List.getElem?_eq_getElem hkl⟩;obtain⟨b,off,cap,hv,hb,hrd⟩:=HN.out.ia.rows k a ha;obtain⟨rfl,_,rfl⟩:=Value.slice.inj hv;obtain⟨vd,vx,vi,hc9,hn9⟩:=hrd k a ha;obtain⟨c0,c1,c2,c3,c4,c5,c6,c7,c8⟩:=hc9.below hb hB1.out;obtain⟨ad,cd,rfl⟩:=hn9.id.shape;obtain⟨ax,cx,rfl⟩:=hn9.ix.shape;obtain⟨ai,ci,rfl⟩:=hn9.ii.shape;have HN9:=hid hn9;have HA:=hid ha;clear hv hrd hc9 hn9 ha;by_cases hnm:a.name.toList=nm.toList
   ·by_cases hkd:a.kind=kd
    ·have hf:Hid (Az n.attrs nm kd=some a):=hid (RJ hT.out HA.out (Ur hnm hkd));have hkb:(a.kind==kd)=true:=by simpa using hkd
     have hnb:(a.name.toList==nm.toList)=true:=by simpa using hnm
     clear hkd;go_wp2
     have hp:=hR.out.put (.string a.name) (.int .i64 a.kind) (.int .i64 a.f) (.int .i64 a.i) (.string a.s) (.int .i64 a.typ) (.slice ad a.dims.length cd) (.slice ax a.data.length cx) (.slice ai a.ints.length ci);have hq:Below w.heap.size w (EZ W1 (w.heap.size+1) (.string a.name) (.int .i64 a.kind) (.int .i64 a.f) (.int .i64 a.i) (.string a.s) (.int .i64 a.typ) (.slice ad a.dims.length cd) (.slice ax a.data.length cx) (.slice ai a.ints.length ci)):=Ck hB1.out (by omega);have hn9:Er (EZ W1 (w.heap.size+1) (.string a.name) (.int .i64 a.kind) (.int .i64 a.f) (.int .i64 a.i) (.string a.s) (.int .i64 a.typ) (.slice ad a.dims.length cd) (.slice ax a.data.length cx) (.slice ai a.ints.length ci)) a (.slice ad a.dims.length cd) (.slice ax a.data.length cx) (.slice ai a.ints.length ci):=HN9.out.below hq;clear c0 c1 c2 c3 c4 c5 c6 c7 c8;obtain⟨c0,c1,c2,c3,c4,c5,c6,c7,c8⟩:=hp.nine;unfold EZ at c0 c1 c2 c3 c4 c5 c6 c7 c8 hq hn9;refine bodyPost_ret (v:=.tuple #[.agg #[.string a.name,.int .i64 a.kind,.int .i64 a.f,.int .i64 a.i,.string a.s,.int .i64 a.typ,.slice ad a.dims.length cd,.slice ax a.data.length cx,.slice ai a.ints.length ci],.bool true]) (by simp[results,Tryz.f66,go_sem,c0,c1,c2,c3,c4,c5,c6,c7,c8]) rfl ?_;rw[hf.out];exact⟨hq,_,rfl,_,_,_,rfl,hn9⟩
    ·have hkb:(a.kind==kd)=false:=by simpa using hkd
     have hnb:(a.name.toList==nm.toList)=true:=by simpa using hnm
     have hT':Hid ((n.attrs.take (k+1)).any (Lp nm kd)=false):=hid (CY HA.out hT.out (Ic hkd));go_wp2
     go_round
     case rel=>exact⟨k+1,by omega,by go_num,hT'⟩
     case measure=>simp[intOf];omega
   ·have hnb:(a.name.toList==nm.toList)=false:=by simpa using hnm
    have hT':Hid ((n.attrs.take (k+1)).any (Lp nm kd)=false):=hid (CY HA.out hT.out (Ie hnm));go_wp2
    go_round
    case rel=>exact⟨k+1,by omega,by go_num,hT'⟩
    case measure=>simp[intOf];omega
  ·have hki:¬(k:Int)<(n.attrs.length:Int):=by omega
   obtain rfl:k=n.attrs.length:=by omega
   have hf:Hid (Az n.attrs nm kd=none):=hid (Ol (by have:=hT.out;rwa [List.take_length]at this));go_wp2
   have hp:=hR.out.put (.string ⟨#[]⟩) (.int .i64 0) (.int .i64 0) (.int .i64 0) (.string ⟨#[]⟩) (.int .i64 0) (.slice none 0 0) (.slice none 0 0) (.slice none 0 0);have hq:Below w.heap.size w (EZ W1 (w.heap.size+1) (.string ⟨#[]⟩) (.int .i64 0) (.int .i64 0) (.int .i64 0) (.string ⟨#[]⟩) (.int .i64 0) (.slice none 0 0) (.slice none 0 0) (.slice none 0 0)):=Ck hB1.out (by omega);obtain⟨c0,c1,c2,c3,c4,c5,c6,c7,c8⟩:=hp.nine;unfold EZ at c0 c1 c2 c3 c4 c5 c6 c7 c8 hq;refine bodyPost_ret (v:=.tuple #[.agg #[.string ⟨#[]⟩,.int .i64 0,.int .i64 0,.int .i64 0,.string ⟨#[]⟩,.int .i64 0,.slice none 0 0,.slice none 0 0,.slice none 0 0],.bool false]) (by simp[results,Tryz.f66,go_sem,c0,c1,c2,c3,c4,c5,c6,c7,c8]) rfl ?_;rw[hf.out];exact⟨hq,_,rfl,F7.zero _⟩
def C64.ren:Go.Shelf.Ren:=⟨fun|41=>164|n=>n,fun|22=>39|23=>2|4=>4|n=>n,fun|n=>n⟩
theorem C64.lays:Go.Proofs.SlLaysN.n41 Tryz.prog C64.ren:={
 mixed:=by kernel_rfl
 f41:=⟨Tryz.f164.name,by decide,Tryz.func164.trans (congrArg some (by kernel_rfl))⟩
 t4:=Tryz.underlying4
 a4:=Tryz.isAgg4
 z4:=Tryz.sizeOf4
 v4:=Tryz.zeroValue4
 t22:=Tryz.underlying39
 a22:=Tryz.isAgg39
 z22:=Tryz.sizeOf39
 v22:=Tryz.zeroValue39
 t23:=Tryz.underlying2
 a23:=Tryz.isAgg2
 z23:=Tryz.sizeOf2
 v23:=Tryz.zeroValue2
 i23:=by kernel_rfl }
theorem Cv{w:World}{v:Value}{zs:List Int}(h:Aa w v zs) :
  Calls Tryz.prog 164 #[v] w fun e w'=>∃v',e=.returned v'∧w'.ownsRow w.heap.size 2 1 v' zs.length (zs.map (Value.int .i64))∧Below w.heap.size w w':=by
 cases h with
 | empty a0 cap=>
  cases a0 with
  | none=>
   refine(AnyG.slices_Clone_int_nil C64.lays 0 cap w).mono ?_;rintro e w'⟨rfl,rfl⟩;exact⟨_,rfl,World.ownsRow_nil _ _ _ _,Below.refl _ _⟩
  | some a=>
   refine(AnyG.slices_Clone_int_zero C64.lays a cap w).mono ?_;rintro e w'⟨v',rfl,h1,_,h2⟩;exact⟨v',rfl,h1,h2⟩
 | row b off cap _ h0 hc hb hr hlen hw=>
  refine(AnyG.slices_Clone_int C64.lays b off zs.length cap zs w (Nat.le_refl _) (by omega) hr).mono ?_;rintro e w'⟨v',rfl,h1,_,h2⟩;rw[List.take_length]at h1;exact⟨v',rfl,h1,h2⟩
end Go.Proofs.YtkkeehnldcdccaaGreatDoor
