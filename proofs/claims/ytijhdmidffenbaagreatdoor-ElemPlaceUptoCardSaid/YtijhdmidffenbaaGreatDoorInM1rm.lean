import Derived.Test.YtijhdmidffenbaaGreatDoorSchCrm
import Derived.Test.YtijhdmidffenbaaGreatDoorOpenrm
import Derived.Test.YtijhdmidffenbaaGreatDoorSchCorm
import Derived.Test.YtijhdmidffenbaaGreatDoorShelfrm
import Derived.Test.YtijhdmidffenbaaGreatDoorSrMrm
import Derived.Shelf.SlicesG.Clone
import Derived.Test.YtijhdmidffenbaaGreatDoorVxMrm
import Derived.Test.YtijhdmidffenbaaGreatDoorGrArm
import Derived.Test.YtijhdmidffenbaaGreatDoorRegrm
import Derived.Test.YtijhdmidffenbaaGreatDoorLvCrm
import Derived.BigQuiet
import Derived.Deep.QuietTactic
open Go.Lib (hid)
set_option linter.unusedVariables false
set_option linter.unusedSimpArgs false
namespace Go.Proofs.YtijhdmidffenbaaGreatDoor
section
open Go.RowKit
abbrev brk (c:Int):Ending:=.panicked [{ v:=.iface 56 (.int .i64 c),recovered:=false }]
theorem rule_yes (w:World):Calls Tryz.prog 29 #[.bool true] w fun e w'=>e=.returned (.tuple #[])∧w'=w:=by
 go_enter Tryz.func29,Tryz.ntmps29
 go_wp2
 go_end0
 exact ⟨rfl,rfl⟩
theorem rule_no (w:World):Calls Tryz.prog 29 #[.bool false] w fun e w'=>e=brk 4∧w'=w:=by
 go_enter Tryz.func29,Tryz.ntmps29
 go_wp2
 exact ⟨rfl,rfl,rfl⟩
theorem good_yes (w:World):Calls Tryz.prog 27 #[.int .i64 0] w fun e w'=>e=.returned (.tuple #[])∧w'=w:=by
 go_enter Tryz.func27,Tryz.ntmps27
 go_wp2
 go_end0
 exact ⟨rfl,rfl⟩
theorem good_no (c:Int) (h:c≠0) (w:World):Calls Tryz.prog 27 #[.int .i64 c] w fun e w'=>e=brk c∧w'=w:=by
 have hz:(c != 0)=true:=by simpa using h
 clear h;go_enter Tryz.func27,Tryz.ntmps27
 go_wp2
 exact ⟨rfl,rfl,rfl⟩
def axisP (a:Int) (r:Nat):Option Int:=if -(r:Int)≤a∧a < (r:Int) then some (if a < 0 then a+r else a) else none
theorem axis_none {a:Int} {r:Nat} (h:¬ (-(r:Int)≤a∧a < (r:Int))):axisP a r=none:=if_neg h
theorem axis_neg {a:Int} {r:Nat} (h:-(r:Int)≤a) (h0:a < 0):axisP a r=some (a+r):=by
 unfold axisP;rw [if_pos ⟨h,by omega⟩,if_pos h0]
theorem axis_pos {a:Int} {r:Nat} (h:a < (r:Int)) (h0:¬ a < 0):axisP a r=some a:=by
 unfold axisP;rw [if_pos ⟨by omega,h⟩,if_neg h0]
theorem axis_lt {a k:Int} {r:Nat} (h:axisP a r=some k):0≤k∧k < (r:Int):=by
 unfold axisP at h;split at h
 ·obtain rfl:=Option.some.inj h;split<;>omega
 ·cases h
def AxisR (x:Option Int) (e:Ending):Prop:=match x with | none=>e=brk 4 | some k=>e=.returned (.int .i64 k)
theorem AxisR.no {x:Option Int} (h:x=none):AxisR x (brk 4):=by subst h;rfl
theorem AxisR.yes {x:Option Int} {z:Int} (h:x=some z):AxisR x (.returned (.int .i64 z)):=by subst h;rfl
set_option maxHeartbeats 1000000 in
theorem axis_any (a:Int) (r:Nat) (ha:InI a) (hr:r≤1125899906842624) (w:World):Calls Tryz.prog 67 #[.int .i64 a,.int .i64 (r:Int)] w fun e w'=>AxisR (axisP a r) e∧w'=w:=by
 have HY:=hid (rule_yes w);have HN:=hid (rule_no w);obtain ⟨a0,a1⟩:=ha;go_enter Tryz.func67,Tryz.ntmps67
 by_cases h1:-(r:Int)≤a
 ·by_cases h2:a < (r:Int)
  ·by_cases h0:a < 0
   ·have e:=hid (axis_neg h1 h0);go_wp2_with (go_at_call 29;refine HY.out.mono ?_;rintro e w' ⟨rfl,rfl⟩)
    go_ret
    exact ⟨AxisR.yes e.out,rfl⟩
   ·have e:=hid (axis_pos h2 h0);go_wp2_with (go_at_call 29;refine HY.out.mono ?_;rintro e w' ⟨rfl,rfl⟩)
    go_ret
    exact ⟨AxisR.yes e.out,rfl⟩
  ·have e:=hid (axis_none (a:=a) (r:=r) (fun c=>h2 c.2));go_wp2_with (go_at_call 29;refine HN.out.mono ?_;rintro e w' ⟨rfl,rfl⟩)
   exact ⟨rfl,AxisR.no e.out,rfl⟩
 ·have e:=hid (axis_none (a:=a) (r:=r) (fun c=>h1 c.1));go_wp2_with (go_at_call 29;refine HN.out.mono ?_;rintro e w' ⟨rfl,rfl⟩)
  exact ⟨rfl,AxisR.no e.out,rfl⟩
def RowI (w:World) (B:Nat) (v:Value) (zs:List Int):Prop:=w.ownsRow B 3 1 v zs.length (zs.map (Value.int .i64))
theorem RowI.nil (w:World) (B:Nat):RowI w B (.slice none 0 0) []:=World.ownsRow_nil _ _ _ _
theorem RowI.form {w:World} {B:Nat} {v:Value} {zs:List Int} (h:RowI w B v zs):∃ a c,v=.slice a zs.length c:=owns_form h
theorem RowI.base {w:World} {B B':Nat} {v:Value} {zs:List Int} (h:RowI w B v zs) (hb:B'≤B):RowI w B' v zs:=owns_base h hb
theorem RowI.below {w w':World} {B:Nat} {v:Value} {zs:List Int} (h:RowI w B v zs) (hB:Below w.heap.size w w'):RowI w' B v zs:=owns_below h hB
theorem RowI.ints {w:World} {B:Nat} {v:Value} {zs:List Int} (h:RowI w B v zs) (hl:zs.length * 8≤140737488351232) (hw:∀ z ∈ zs,InI z):IntsIn w v zs :=
 IntsIn.of_owns (B:=B) (t:=3) h (by omega) hw
def ResI (w:World) (x:Option (List Int)) (e:Ending) (w':World):Prop:=Below w.heap.size w w'∧match x with | none=>e=brk 4 | some zs=>∃ v,e=.returned v∧RowI w' w.heap.size v zs
theorem ResI.no {w w':World} {x:Option (List Int)} (h:x=none) (hB:Below w.heap.size w w'):ResI w x (brk 4) w':=by subst h;exact ⟨hB,rfl⟩
theorem ResI.yes {w w':World} {x:Option (List Int)} {zs:List Int} {v:Value} (h:x=some zs) (hB:Below w.heap.size w w') (hr:RowI w' w.heap.size v zs):ResI w x (.returned v) w':=by subst h;exact ⟨hB,v,rfl,hr⟩
def axesF (r:Nat):List Int→List Int→Option (List Int)
 | acc,[]=>some acc
 | acc,a :: l=>match axisP a r with
  | none=>none
  | some k=>if acc.contains k=true then none else axesF r (acc++[k]) l
def axesP (l:List Int) (r:Nat):Option (List Int):=axesF r [] l
theorem axesF_end {r:Nat} {acc l:List Int} {k:Nat} (h:¬ k < l.length):axesF r acc (l.drop k)=some acc:=by
 rw [List.drop_eq_nil_of_le (by omega)];rfl
theorem axesF_none {r:Nat} {acc l:List Int} {k:Nat} (hk:k < l.length) (h:axisP (l.getD k 0) r=none):axesF r acc (l.drop k)=none:=by
 rw [drop_next hk];unfold axesF;rw [h]
theorem axesF_twice {r:Nat} {acc l:List Int} {k:Nat} {x:Int} (hk:k < l.length) (h:axisP (l.getD k 0) r=some x) (hc:acc.contains x=true):axesF r acc (l.drop k)=none:=by
 rw [drop_next hk];unfold axesF;rw [h];exact if_pos hc
theorem axesF_next {r:Nat} {acc l:List Int} {k:Nat} {x:Int} (hk:k < l.length) (h:axisP (l.getD k 0) r=some x) (hc:acc.contains x=false):axesF r acc (l.drop k)=axesF r (acc++[x]) (l.drop (k+1)):=by
 rw [drop_next hk,axesF,h];show (if acc.contains x=true then none else axesF r (acc++[x]) (l.drop (k+1)))=_;rw [if_neg (by rw [hc];decide)]
theorem containsI2_any {w:World} {v:Value} {zs:List Int} (h:IntsIn w v zs) (x:Int) :
  Calls Tryz.prog 122 #[v,.int .i64 x] w fun e w'=>e=.returned (.bool (zs.contains x))∧w'=w:=by
 cases h with
 | empty a0 cap =>
  refine (Tryz.slices_Contains_int_empty a0 cap x w).mono ?_;rintro e w' ⟨rfl,rfl⟩;exact ⟨rfl,rfl⟩
 | row b off cap _ h0 hc hb hr hlen hw =>
  refine (Tryz.slices_Contains_int b off zs.length cap zs x w (Nat.le_refl _) (by omega) (fun j hj=>hr j hj)).mono ?_;rintro e w' ⟨rfl,rfl⟩;rw [List.take_length];exact ⟨rfl,rfl⟩
end
section
open Go.RowKit
set_option maxRecDepth 100000
theorem RowI.push {w w':World} {B:Nat} {v v':Value} {zs:List Int} {x:Int} (h:RowI w B v zs) (hr:w'.ownsRow B 3 1 v' (zs.length+1) (zs.map (Value.int .i64)++[.int .i64 x])):RowI w' B v' (zs++[x]):=by
 unfold RowI;rw [List.length_append,List.map_append];exact hr
theorem RowI.own {w:World} {B:Nat} {v:Value} {zs:List Int} (h:RowI w B v zs):w.ownsRow B 3 1 v zs.length (zs.map (Value.int .i64)):=h
theorem inI_low {x:Int} {r:Nat} (h:0≤x∧x < (r:Int)) (hr:r≤1125899906842624):InI x:=by unfold InI;omega
theorem ints_at {w:World} {a:Option Addr} {n c k:Nat} {zs:List Int} (h:IntsIn w (.slice a n c) zs) (hk:k < zs.length):∃ b off,a=some ⟨b,off,none⟩∧n=zs.length∧b < w.heap.size∧w.cell? ⟨b,off+k,none⟩=some (.int .i64 (zs.getD k 0))∧InI (zs.getD k 0):=by
 obtain ⟨b,off,cap,e,hb,hr,hi⟩:=h.rows hk;obtain ⟨rfl,rfl,rfl⟩:=Value.slice.inj e;exact ⟨b,off,rfl,rfl,hb,hr k hk,hi⟩
attribute [local irreducible] axisP axesF RowI
set_option maxHeartbeats 4000000 in
theorem axes_any {w:World} {v:Value} {zs:List Int} {r:Nat} (h:IntsIn w v zs) (hl:zs.length * 8≤140737488351232) (hr:r≤1125899906842624) :
  Calls Tryz.prog 121 #[v,.int .i64 (r:Int)] w fun e w'=>ResI w (axesP zs r) e w':=by
 obtain ⟨i0,hi,hz0,hz1,hz2⟩:=info_parts info_int;have HAx:=hid (fun (W:World) (a:Int) (ha:InI a)=>axis_any a r ha hr W);have HCo:=hid (fun (W:World) (u:Value) (ks:List Int) (h:IntsIn W u ks) (x:Int)=>containsI2_any h x);have HY:=hid (fun (W:World)=>rule_yes W);have HNo:=hid (fun (W:World)=>rule_no W);obtain ⟨a,c,rfl⟩:=h.shape;have HI:=hid h;clear h;go_enter Tryz.func121,Tryz.ntmps121
 go_wp2_with fail
 go_loopw [5,11] (fun ov i wr=>∃ (k:Nat) (ks:List Int),k≤zs.length∧i=.int .i64 (k:Int)∧ks.length≤k∧Hid (∀ x ∈ ks,0≤x∧x < (r:Int))∧Hid (axesP zs r=axesF r ks (zs.drop k))∧Hid (RowI wr w.heap.size ov ks)∧Hid (Below w.heap.size w wr)) (fun _ i _=>zs.length - (intOf i).toNat)
 case atStart=>exact ⟨0,[],Nat.zero_le _,rfl,Nat.zero_le _,hid (by simp),hid rfl,hid (RowI.nil _ _),hid (Below.refl _ _)⟩
 case round =>
  obtain ⟨k,ks,hk,rfl,hkl,hlt,hF,hO,hW⟩:=hrel;obtain ⟨ao,co,rfl⟩:=hO.out.form;have hsw:=hW.out.size;by_cases hkz:k < zs.length
  ·have hki:(k:Int) < (zs.length:Int):=by omega
   obtain ⟨b,off,rfl,-,hb,c0,hx⟩:=ints_at HI.out hkz;have c0:=(hW.out.cell (p:=⟨b,off+k,none⟩) hb).trans c0;have HF1:=hid (fun h=>axesF_none (r:=r) (acc:=ks) hkz h);have HF2:=hid (fun x h=>axesF_twice (r:=r) (acc:=ks) (x:=x) hkz h);have HF3:=hid (fun x h=>axesF_next (r:=r) (acc:=ks) (x:=x) hkz h);generalize zs.getD k 0=z at *;have hA:=HAx.out wr z hx;have hKI:=hid (hO.out.ints (by omega) (fun x hx=>inI_low (hlt.out x hx) hr));clear hx;cases hax:axisP z r with
   | none =>
    have e:=hid (hF.out.trans (HF1.out hax));rw [hax] at hA;have hA:=hid hA;clear hax;go_wp2_with fail
    refine hA.out.mono ?_;rintro e w' ⟨rfl,rfl⟩;exact ⟨rfl,ResI.no e.out hW.out⟩
   | some x =>
    have hxl:=axis_lt hax;have HF2:=hid (HF2.out x hax);have HF3:=hid (HF3.out x hax);rw [hax] at hA;have hA:=hid hA;clear hax;go_wp2_with fail
    refine hA.out.mono ?_;rintro e w' ⟨rfl,rfl⟩;have hC:=HCo.out w' _ ks hKI.out x;cases hct:ks.contains x with
    | true =>
     have e:=hid (hF.out.trans (HF2.out hct));rw [hct] at hC;have hC:=hid hC;clear hct;go_wp2_with fail
     refine hC.out.mono ?_;rintro e w' ⟨rfl,rfl⟩;go_wp2_with fail
     refine (HNo.out _).mono ?_;rintro e w' ⟨rfl,rfl⟩;exact ⟨rfl,ResI.no e.out hW.out⟩
    | false =>
     have e:=hid (hF.out.trans (HF3.out hct));rw [hct] at hC;have hC:=hid hC;clear hct;go_wp2_with fail
     refine hC.out.mono ?_;rintro e w' ⟨rfl,rfl⟩;go_wp2_with fail
     refine (HY.out _).mono ?_;rintro e w' ⟨rfl,rfl⟩;go_wp2_with (at_builtin;refine wpList_append_own _ rfl _ _ 27 rfl w.heap.size 3 i0 (.int .i64 0) 1 8 Tryz.underlying27 hi hz0 hz1 hz2 rfl (by decide) _ _ _ rfl (hO.out.own.alloc _) ⟨w'.heap.size,0,none⟩ 1 1 (#[.int .i64 x]:Array Value).toList rfl rfl (World.news_of_block (heap_alloc_new w' _)) (by simp [Value.oneCell']) ?A3 ?A4 ?A5 ?_)
     case A3=>unfold maxLen;omega
     case A4=>omega
     case A5=>first | (simp;omega) | omega
     intro v' w4 hown' hgrow _;have hb4:Hid (Below w.heap.size w w4):=hid ((hW.out.alloc hsw _).grown hgrow (by simp;omega) fun g hg=>(hO.out.own.lt g hg).1);have ho4:Hid (RowI w4 w.heap.size v' (ks++[x])):=hid (hO.out.push hown');have hl4:Hid (∀ y ∈ ks++[x],0≤y∧y < (r:Int)):=hid (fun y hy=>by
      rcases List.mem_append.1 hy with h | h
      ·exact hlt.out y h
      ·obtain rfl:y=x:=by simpa using h
       exact hxl)
     have hkl2:(ks++[x]).length≤k+1:=by simp;omega
     generalize ks++[x]=ks2 at *;clear hown' hgrow;go_wp2_with fail
     go_roundw
     case rel=>exact ⟨k+1,ks2,by omega,by go_num,hkl2,hl4,e,ho4,hb4⟩
     case measure=>simp [intOf];omega
  ·have hki:¬ (k:Int) < (zs.length:Int):=by omega
   have e:=hid (hF.out.trans (axesF_end hkz));go_wp2
   go_ret
   exact ResI.yes e.out hW.out hO.out
end
section
open Go.RowKit
def C64.ren:Go.Shelf.Ren:=⟨fun | 41=>90 | n=>n,fun | 22=>44 | 23=>2 | 4=>4 | n=>n,fun | n=>n⟩
theorem C64.lays:Go.Proofs.SlLaysN.n41 Tryz.prog C64.ren:={
 mixed:=by kernel_rfl
 f41:=⟨Tryz.f90.name,by decide,Tryz.func90.trans (congrArg some (by kernel_rfl))⟩
 t4:=Tryz.underlying4
 a4:=Tryz.isAgg4
 z4:=Tryz.sizeOf4
 v4:=Tryz.zeroValue4
 t22:=Tryz.underlying44
 a22:=Tryz.isAgg44
 z22:=Tryz.sizeOf44
 v22:=Tryz.zeroValue44
 t23:=Tryz.underlying2
 a23:=Tryz.isAgg2
 z23:=Tryz.sizeOf2
 v23:=Tryz.zeroValue2
 i23:=by kernel_rfl }
theorem clone_any {w:World} {v:Value} {zs:List Int} (h:IntsIn w v zs) :
  Calls Tryz.prog 90 #[v] w fun e w'=>∃ v',e=.returned v'∧w'.ownsRow w.heap.size 2 1 v' zs.length (zs.map (Value.int .i64))∧Below w.heap.size w w':=by
 cases h with
 | empty a0 cap =>
  cases a0 with
  | none =>
   refine (AnyG.slices_Clone_int_nil C64.lays 0 cap w).mono ?_;rintro e w' ⟨rfl,rfl⟩;exact ⟨_,rfl,World.ownsRow_nil _ _ _ _,Below.refl _ _⟩
  | some a =>
   refine (AnyG.slices_Clone_int_zero C64.lays a cap w).mono ?_;rintro e w' ⟨v',rfl,h1,_,h2⟩;exact ⟨v',rfl,h1,h2⟩
 | row b off cap _ h0 hc hb hr hlen hw =>
  refine (AnyG.slices_Clone_int C64.lays b off zs.length cap zs w (Nat.le_refl _) (by omega) hr).mono ?_;rintro e w' ⟨v',rfl,h1,_,h2⟩;rw [List.take_length] at h1;exact ⟨v',rfl,h1,h2⟩
end
section
open Go.RowKit
def intP (ats:List At) (nm:ByteArray) (other:Int):Int:=match findA ats nm 2 with | none=>other | some a=>a.i
def bitsP (ats:List At) (nm:ByteArray) (other:Int):Int:=match findA ats nm 1 with | none=>other | some a=>a.f
def intsP (ats:List At) (nm:ByteArray) (other:List Int):List Int:=match findA ats nm 7 with | none=>other | some a=>a.ints
theorem opt_parts {α:Type} (o:Option α) (z:α):(o=none∧o.isSome=false∧o.getD z=z)∨∃ a,o=some a∧o.isSome=true∧o.getD z=a:=by
 cases o with
 | none=>exact .inl ⟨rfl,rfl,rfl⟩
 | some a=>exact .inr ⟨a,rfl,rfl,rfl⟩
set_option maxRecDepth 100000 in
set_option maxHeartbeats 2000000 in
theorem sint_any {w:World} {v:Value} {n:Nd} (h:NodeV w v n) (nm:ByteArray) (other:Int) :
  Calls Tryz.prog 49 #[v,.string nm,.int .i64 other] w fun e w'=>e=.returned (.int .i64 (intP n.attrs nm other))∧Below w.heap.size w w':=by
 obtain ⟨vin,vat,rfl,hn⟩:=h;obtain ⟨a1,c1,rfl⟩:=hn.is.form;obtain ⟨a2,c2,rfl⟩:=hn.ia.form;have hb0:Below w.heap.size w (w.alloc (Obj.cells #[Value.string n.op,Value.string n.name,Value.slice a1 n.ins.length c1,Value.string n.out,Value.slice a2 n.attrs.length c2] 25)):=(Below.refl _ w).alloc (Nat.le_refl _) _;have HF:=hid (find_any ⟨_,_,rfl,hn.below hb0⟩ nm 2);have HB0:=hid hb0;clear hn hb0;unfold Nd.val at HF ⊢;go_enter Tryz.func49,Tryz.ntmps49
 go_wp2_with fail
 refine HF.out.mono ?_;rintro e w1 ⟨B1,va,rfl,vd,vx,vi,rfl,hna⟩;have HB1:=hid (HB0.out.trans (B1.mono HB0.out.size));have HB2:Hid (∀ o,Below w.heap.size w (w1.alloc o)):=hid fun o=>HB1.out.alloc HB1.out.size o;obtain ⟨ad,cd,rfl⟩:=hna.id.shape;obtain ⟨ax,cx,rfl⟩:=hna.ix.shape;obtain ⟨ai,ci,rfl⟩:=hna.ii.shape;clear hna B1;unfold At.val;rcases opt_parts (findA n.attrs nm 2) At.zero with ⟨h1,h2,h3⟩ | ⟨a,h1,h2,h3⟩
 ·have HP:Hid (intP n.attrs nm other=other):=hid (by unfold intP;rw [h1]);rw [h2];clear h1 h2 h3;go_wp2
  go_ret
  exact ⟨ret_val (int_val HP.out.symm),HB2.out _⟩
 ·have HP:Hid (intP n.attrs nm other=a.i):=hid (by unfold intP;rw [h1]);rw [h2,h3];clear h1 h2 h3;go_wp2
  go_ret
  exact ⟨ret_val (int_val HP.out.symm),HB2.out _⟩
set_option maxRecDepth 100000 in
set_option maxHeartbeats 2000000 in
theorem sbits_any {w:World} {v:Value} {n:Nd} (h:NodeV w v n) (nm:ByteArray) (other:Int) :
  Calls Tryz.prog 77 #[v,.string nm,.int .i64 other] w fun e w'=>e=.returned (.int .i64 (bitsP n.attrs nm other))∧Below w.heap.size w w':=by
 obtain ⟨vin,vat,rfl,hn⟩:=h;obtain ⟨a1,c1,rfl⟩:=hn.is.form;obtain ⟨a2,c2,rfl⟩:=hn.ia.form;have hb0:Below w.heap.size w (w.alloc (Obj.cells #[Value.string n.op,Value.string n.name,Value.slice a1 n.ins.length c1,Value.string n.out,Value.slice a2 n.attrs.length c2] 25)):=(Below.refl _ w).alloc (Nat.le_refl _) _;have HF:=hid (find_any ⟨_,_,rfl,hn.below hb0⟩ nm 1);have HB0:=hid hb0;clear hn hb0;unfold Nd.val at HF ⊢;go_enter Tryz.func77,Tryz.ntmps77
 go_wp2_with fail
 refine HF.out.mono ?_;rintro e w1 ⟨B1,va,rfl,vd,vx,vi,rfl,hna⟩;have HB1:=hid (HB0.out.trans (B1.mono HB0.out.size));have HB2:Hid (∀ o,Below w.heap.size w (w1.alloc o)):=hid fun o=>HB1.out.alloc HB1.out.size o;obtain ⟨ad,cd,rfl⟩:=hna.id.shape;obtain ⟨ax,cx,rfl⟩:=hna.ix.shape;obtain ⟨ai,ci,rfl⟩:=hna.ii.shape;clear hna B1;unfold At.val;rcases opt_parts (findA n.attrs nm 1) At.zero with ⟨h1,h2,h3⟩ | ⟨a,h1,h2,h3⟩
 ·have HP:Hid (bitsP n.attrs nm other=other):=hid (by unfold bitsP;rw [h1]);rw [h2];clear h1 h2 h3;go_wp2
  go_ret
  exact ⟨ret_val (int_val HP.out.symm),HB2.out _⟩
 ·have HP:Hid (bitsP n.attrs nm other=a.f):=hid (by unfold bitsP;rw [h1]);rw [h2,h3];clear h1 h2 h3;go_wp2
  go_ret
  exact ⟨ret_val (int_val HP.out.symm),HB2.out _⟩
set_option maxRecDepth 100000 in
set_option maxHeartbeats 2000000 in
theorem sints_any {w:World} {v vo:Value} {n:Nd} (h:NodeV w v n) (nm:ByteArray) {other:List Int} (ho:IntsIn w vo other) :
  Calls Tryz.prog 50 #[v,.string nm,vo] w fun e w'=>∃ v',e=.returned v'∧w'.ownsRow w.heap.size 2 1 v' (intsP n.attrs nm other).length ((intsP n.attrs nm other).map (Value.int .i64))∧Below w.heap.size w w':=by
 obtain ⟨i0,hi,hz0,hz1,hz2⟩:=info_parts info_int64;obtain ⟨vin,vat,rfl,hn⟩:=h;obtain ⟨a1,c1,rfl⟩:=hn.is.form;obtain ⟨a2,c2,rfl⟩:=hn.ia.form;obtain ⟨a3,c3,rfl⟩:=ho.shape;have hb0:Below w.heap.size w (w.alloc (Obj.cells #[Value.string n.op,Value.string n.name,Value.slice a1 n.ins.length c1,Value.string n.out,Value.slice a2 n.attrs.length c2] 25)):=(Below.refl _ w).alloc (Nat.le_refl _) _;have HF:=hid (find_any ⟨_,_,rfl,hn.below hb0⟩ nm 7);have HB0:=hid hb0;have HO:=hid ho;clear hn hb0 ho;unfold Nd.val at HF ⊢;go_enter Tryz.func50,Tryz.ntmps50
 go_wp2_with fail
 refine HF.out.mono ?_;rintro e w1 ⟨B1,va,rfl,vd,vx,vi,rfl,hna⟩;have HB1:=hid (HB0.out.trans (B1.mono HB0.out.size));have HB2:Hid (∀ o,Below w.heap.size w (w1.alloc o)):=hid fun o=>HB1.out.alloc HB1.out.size o;have HII:Hid (∀ o,IntsIn (w1.alloc o) vi ((findA n.attrs nm 7).getD At.zero).ints):=hid fun o=>hna.ii.below ((Below.refl _ _).alloc (Nat.le_refl _) _);have HOO:Hid (∀ o,IntsIn (w1.alloc o) (.slice a3 other.length c3) other):=hid fun o=>HO.out.below (HB2.out o);obtain ⟨ad,cd,rfl⟩:=hna.id.shape;obtain ⟨ax,cx,rfl⟩:=hna.ix.shape;obtain ⟨ai,ci,rfl⟩:=hna.ii.shape;clear hna B1;unfold At.val;rcases opt_parts (findA n.attrs nm 7) At.zero with ⟨h1,h2,h3⟩ | ⟨a,h1,h2,h3⟩
 ·have HP:Hid (intsP n.attrs nm other=other):=hid (by unfold intsP;rw [h1]);rw [h2];clear h1 h2 h3 HII;go_wp2_with fail
  refine (clone_any (HOO.out _)).mono ?_;rintro e w2 ⟨v',rfl,h1,h2⟩;have H1:=hid (owns_base (b0:=w.heap.size) h1 (by have:=HB1.out.size;first | omega | (rw [World.size_alloc];omega)));have H2:=hid ((HB2.out _).trans (h2.mono (by have:=HB1.out.size;first | omega | (rw [World.size_alloc];omega))));clear h1 h2;go_wp2
  go_ret
  exact ⟨_,rfl,by rw [HP.out];exact H1.out,H2.out⟩
 ·have HP:Hid (intsP n.attrs nm other=a.ints):=hid (by unfold intsP;rw [h1]);rw [h2,h3];rw [h3] at HII;clear h1 h2 h3;go_wp2_with fail
  refine (clone_any (HII.out _)).mono ?_;rintro e w2 ⟨v',rfl,h1,h2⟩;have H1:=hid (owns_base (b0:=w.heap.size) h1 (by have:=HB1.out.size;first | omega | (rw [World.size_alloc];omega)));have H2:=hid ((HB2.out _).trans (h2.mono (by have:=HB1.out.size;first | omega | (rw [World.size_alloc];omega))));clear h1 h2;go_wp2
  go_ret
  exact ⟨_,rfl,by rw [HP.out];exact H1.out,H2.out⟩
end
section
open Go.RowKit
set_option maxRecDepth 100000
theorem attr_in {w:World} {v:Value} {ats:List At} (h:AttrsIn w v ats) {a:At} (ha:a ∈ ats):∃ vd vx vi,AttrN w a vd vx vi:=by
 obtain ⟨j,hj⟩:=List.getElem?_of_mem ha;obtain ⟨b,off,cap,_,_,hr⟩:=h.rows j a hj;obtain ⟨vd,vx,vi,_,hn⟩:=hr j a hj;exact ⟨vd,vx,vi,hn⟩
theorem ints_okP {w:World} {v:Value} {n:Nd} (h:NodeV w v n) {nm:ByteArray} {other:List Int} (h1:other.length * 8≤140737488351232) (h2:∀ z ∈ other,InI z):(intsP n.attrs nm other).length * 8≤140737488351232∧∀ z ∈ intsP n.attrs nm other,InI z:=by
 obtain ⟨vin,vat,rfl,hn⟩:=h;unfold intsP;split
 ·exact ⟨h1,h2⟩
 ·rename_i a ha
  obtain ⟨vd,vx,vi,hN⟩:=attr_in hn.ia (List.mem_of_find?_eq_some ha);exact ⟨hN.ii.wf.1,hN.ii.wf.2⟩
theorem int_okP {w:World} {v:Value} {n:Nd} (h:NodeV w v n) {nm:ByteArray} {other:Int} (h1:InI other):InI (intP n.attrs nm other):=by
 obtain ⟨vin,vat,rfl,hn⟩:=h;unfold intP;split
 ·exact h1
 ·rename_i a ha
  obtain ⟨vd,vx,vi,hN⟩:=attr_in hn.ia (List.mem_of_find?_eq_some ha);exact hN.wi
def RowL (w:World) (B:Nat) (v:Value) (zs:List Int):Prop:=w.ownsRow B 2 1 v zs.length (zs.map (Value.int .i64))
theorem RowL.nil (w:World) (B:Nat):RowL w B (.slice none 0 0) []:=World.ownsRow_nil _ _ _ _
theorem RowL.form {w:World} {B:Nat} {v:Value} {zs:List Int} (h:RowL w B v zs):∃ a c,v=.slice a zs.length c:=owns_form h
theorem RowL.ints {w:World} {B:Nat} {v:Value} {zs:List Int} (h:RowL w B v zs) (hl:zs.length * 8≤140737488351232) (hw:∀ z ∈ zs,InI z):IntsIn w v zs :=
 IntsIn.of_owns (B:=B) (t:=2) h (by omega) hw
theorem RowL.own {w:World} {B:Nat} {v:Value} {zs:List Int} (h:RowL w B v zs):w.ownsRow B 2 1 v zs.length (zs.map (Value.int .i64)):=h
theorem RowL.push {w w':World} {B:Nat} {v v':Value} {zs:List Int} {x:Int} (h:RowL w B v zs) (hr:w'.ownsRow B 2 1 v' (zs.length+1) (zs.map (Value.int .i64)++[.int .i64 x])):RowL w' B v' (zs++[x]):=by
 unfold RowL;rw [List.length_append,List.map_append];exact hr
def upL (n:Nat):List Int:=(List.range n).map fun (i:Nat)=>(i:Int)
theorem upL_next (k:Nat):upL (k+1)=upL k++[(k:Int)]:=by unfold upL;rw [List.range_succ,List.map_append];rfl
theorem upL_len (k:Nat):(upL k).length=k:=by unfold upL;simp
theorem upL_in (k:Nat) (h:k≤1125899906842624):∀ z ∈ upL k,InI z:=fun z hz=>by
 unfold upL at hz;obtain ⟨i,hi,rfl⟩:=List.mem_map.1 hz;have:=List.mem_range.1 hi;unfold InI;omega
attribute [local irreducible] upL
set_option maxHeartbeats 4000000 in
theorem upTo_any (n:Nat) (hn:n * 8≤140737488351232) (w:World) :
  Calls Tryz.prog 120 #[.int .i64 (n:Int)] w fun e w'=>Below w.heap.size w w'∧∃ v,e=.returned v∧RowL w' w.heap.size v (upL n):=by
 obtain ⟨i0,hi,hz0,hz1,hz2⟩:=info_parts info_int64;go_enter Tryz.func120,Tryz.ntmps120
 go_wp2_with fail
 go_loopw [3,6] (fun ov i wr=>∃ (k:Nat),k≤n∧i=.int .i64 (k:Int)∧Hid (RowL wr w.heap.size ov (upL k))∧Hid (Below w.heap.size w wr)) (fun _ i _=>n - (intOf i).toNat)
 case atStart=>exact ⟨0,Nat.zero_le _,rfl,hid (by rw [show upL 0=[] by unfold upL;rfl];exact RowL.nil _ _),hid (Below.refl _ _)⟩
 case round =>
  obtain ⟨k,hk,rfl,hO,hW⟩:=hrel;obtain ⟨ao,co,rfl⟩:=hO.out.form;have hsw:=hW.out.size;have hlen:=upL_len k;have HN:=hid (upL_next k);by_cases hkz:k < n
  ·have hki:(k:Int) < (n:Int):=by omega
   generalize upL k=zs at *;have HLn:=hid hlen;have hl2:zs.length≤k:=by omega
   clear hlen;go_wp2_with (at_builtin;refine wpList_append_own _ rfl _ _ 44 rfl w.heap.size 2 i0 (.int .i64 0) 1 8 Tryz.underlying44 hi hz0 hz1 hz2 rfl (by decide) _ _ _ rfl (hO.out.own.alloc _) ⟨wr.heap.size,0,none⟩ 1 1 (#[.int .i64 (k:Int)]:Array Value).toList rfl rfl (World.news_of_block (heap_alloc_new wr _)) (by simp [Value.oneCell']) ?A3 ?A4 ?A5 ?_)
   case A3=>unfold maxLen;omega
   case A4=>omega
   case A5=>simp;omega
   intro v' w4 hown' hgrow _;have hb4:Hid (Below w.heap.size w w4):=hid ((hW.out.alloc hsw _).grown hgrow (by simp;omega) fun g hg=>(hO.out.own.lt g hg).1);have ho4:Hid (RowL w4 w.heap.size v' (upL (k+1))):=hid (by rw [HN.out];exact hO.out.push hown');clear hown' hgrow;go_wp2_with fail
   go_roundw
   case rel=>exact ⟨k+1,by omega,by go_num,ho4,hb4⟩
   case measure=>simp [intOf];omega
  ·have hki:¬ (k:Int) < (n:Int):=by omega
   obtain rfl:k=n:=by omega
   have hO':=hO.out;rw [hlen] at hO';have HO':=hid hO';clear hO';go_wp2
   go_ret
   exact ⟨hW.out,_,rfl,HO'.out⟩
def numsP (l:List Int) (count lo hi:Int):Option (List Int):=if (l.all fun x=>decide (lo≤x)&&decide (x≤hi))=true∧(l.length:Int)=count then some l else none
theorem nums_bad {l:List Int} {count lo hi:Int} {k:Nat} (hk:k < l.length) (h:(decide (lo≤l.getD k 0)&&decide (l.getD k 0≤hi))=false):numsP l count lo hi=none:=by
 unfold numsP;rw [if_neg];rintro ⟨h1,_⟩;have:=List.all_eq_true.1 h1 _ (getD_mem hk);rw [h] at this;cases this
theorem nums_end {l:List Int} {count lo hi:Int} (h:(l.all fun x=>decide (lo≤x)&&decide (x≤hi))=true):numsP l count lo hi=if (l.length:Int)=count then some l else none:=by
 unfold numsP;by_cases e:(l.length:Int)=count
 ·rw [if_pos ⟨h,e⟩,if_pos e]
 ·rw [if_neg (fun c=>e c.2),if_neg e]
theorem all_next {l:List Int} {k:Nat} {p:Int→Bool} (hk:k < l.length) (h:(l.take k).all p=true) (g:p (l.getD k 0)=true):(l.take (k+1)).all p=true:=by
 rw [List.take_add_one,int_at hk,List.all_append,h]
 simpa using g
theorem take_next {l:List Int} {k:Nat} (hk:k < l.length):l.take (k+1)=l.take k++[l.getD k 0]:=by
 rw [List.take_add_one,int_at hk];rfl
attribute [local irreducible] numsP intsP RowI
set_option maxHeartbeats 4000000 in
theorem numbers_any {w:World} {v vo:Value} {n:Nd} (h:NodeV w v n) (nm:ByteArray) {other:List Int} (ho:IntsIn w vo other) (count lo hi:Int) :
  Calls Tryz.prog 125 #[v,.string nm,vo,.int .i64 count,.int .i64 lo,.int .i64 hi] w fun e w'=>ResI w (numsP (intsP n.attrs nm other) count lo hi) e w':=by
 obtain ⟨i0,hi0,hz0,hz1,hz2⟩:=info_parts info_int;have HI:=hid (fun (W:World) (u:Value) (hu:NodeV W u n) (ho:IntsIn W vo other)=>sints_any hu nm ho);have HY:=hid (fun (W:World)=>rule_yes W);have HNo:=hid (fun (W:World)=>rule_no W);have hok:=ints_okP h (nm:=nm) ho.wf.1 ho.wf.2;obtain ⟨vin,vat,rfl,hn⟩:=h;obtain ⟨a1,c1,rfl⟩:=hn.is.form;obtain ⟨a2,c2,rfl⟩:=hn.ia.form;obtain ⟨a3,c3,rfl⟩:=ho.shape;have HN:=hid hn;have HOt:=hid ho;clear hn ho;unfold Nd.val;go_enter Tryz.func125,Tryz.ntmps125
 go_wp2_with fail
 have hB1:Hid (Below w.heap.size w (w.alloc (Obj.cells #[Value.string n.op,.string n.name,.slice a1 n.ins.length c1,.string n.out,.slice a2 n.attrs.length c2] 25))):=hid ((Below.refl _ w).alloc (Nat.le_refl _) _);generalize w.alloc _=W1 at hB1 ⊢;have hI:=HI.out W1 _ ⟨_,_,rfl,HN.out.below hB1.out⟩ (HOt.out.below hB1.out);unfold Nd.val at hI;refine hI.mono ?_;rintro e w2 ⟨v2,rfl,hr2,B2⟩;clear hI HI HN HOt;obtain ⟨zs,hzs⟩:∃ zs,intsP n.attrs nm other=zs:=⟨_,rfl⟩;have HZ:=hid hzs;rw [hzs] at hok hr2;clear hzs;have HB2:=hid (hB1.out.trans (B2.mono hB1.out.size));have HIn:Hid (IntsIn w2 v2 zs):=hid (RowL.ints (B:=W1.heap.size) hr2 hok.1 hok.2);have hlen:=hok.1;clear hr2 B2 hok;obtain ⟨az,cz,rfl⟩:=HIn.out.shape;go_wp2_with fail
 go_loopw [14,23] (fun ov i wr=>∃ (k:Nat),k≤zs.length∧i=.int .i64 (k:Int)∧Hid (((zs.take k).all fun x=>decide (lo≤x)&&decide (x≤hi))=true)∧Hid (RowI wr w2.heap.size ov (zs.take k))∧Hid (Below w2.heap.size w2 wr)) (fun _ i _=>zs.length - (intOf i).toNat)
 case atStart=>exact ⟨0,Nat.zero_le _,rfl,hid (by simp),hid (by rw [List.take_zero];exact RowI.nil _ _),hid (Below.refl _ _)⟩
 case round =>
  obtain ⟨k,hk,rfl,hT,hO,hW⟩:=hrel;obtain ⟨ao,co,hov⟩:=hO.out.form;subst hov;have hBw:=hid (HB2.out.trans (hW.out.mono HB2.out.size));have hsw:=hBw.out.size;have hsw2:=hW.out.size;have htk:(zs.take k).length=k:=by rw [List.length_take];omega
  rw [htk];by_cases hkz:k < zs.length
  ·have hki:(k:Int) < (zs.length:Int):=by omega
   obtain ⟨b,off,rfl,-,hb,c0,-⟩:=ints_at HIn.out hkz;have c0:=(hW.out.cell (p:=⟨b,off+k,none⟩) hb).trans c0;have H1:=hid (nums_bad (count:=count) (lo:=lo) (hi:=hi) hkz);have H2:=hid (all_next (p:=fun x=>decide (lo≤x)&&decide (x≤hi)) hkz hT.out);have H3:=hid (take_next hkz);generalize zs.getD k 0=z at *;by_cases h1:lo≤z
   ·by_cases h2:z≤hi
    ·have H2:=hid (H2.out (by simp [h1,h2]));go_wp2_with fail
     refine (HY.out _).mono ?_;rintro e w' ⟨rfl,rfl⟩;have HO2:Hid (w'.ownsRow w2.heap.size 3 1 (.slice ao k co) k ((zs.take k).map (Value.int .i64))):=hid (by have:=hO.out.own;rwa [htk] at this);have HTk:=hid htk;clear htk;go_wp2_with (at_builtin;refine wpList_append_own _ rfl _ _ 27 rfl w2.heap.size 3 i0 (.int .i64 0) 1 8 Tryz.underlying27 hi0 hz0 hz1 hz2 rfl (by decide) _ _ _ rfl (HO2.out.alloc _) ⟨w'.heap.size,0,none⟩ 1 1 (#[.int .i64 z]:Array Value).toList rfl rfl (World.news_of_block (heap_alloc_new w' _)) (by simp [Value.oneCell']) ?A3 ?A4 ?A5 ?_)
     case A3=>unfold maxLen;omega
     case A4=>omega
     case A5=>simp;omega
     intro v' w4 hown' hgrow _;have hb4:Hid (Below w2.heap.size w2 w4):=hid ((hW.out.alloc hW.out.size _).grown hgrow (by simp;have:=hW.out.size;omega) fun g hg=>(HO2.out.lt g hg).1);have ho4:Hid (RowI w4 w2.heap.size v' (zs.take (k+1))):=hid (by
      rw [H3.out];refine hO.out.push ?_;rw [HTk.out,List.map_take];exact hown')
     clear hown' hgrow;go_wp2_with fail
     go_roundw
     case rel=>exact ⟨k+1,by omega,by go_num,H2,ho4,hb4⟩
     case measure=>simp [intOf];omega
    ·have e:=hid (H1.out (by simp [h1,h2]));go_wp2_with fail
     refine (HNo.out _).mono ?_;rintro e w' ⟨rfl,rfl⟩;exact ⟨rfl,ResI.no (by rw [HZ.out];exact e.out) hBw.out⟩
   ·have e:=hid (H1.out (by simp [h1]));go_wp2_with fail
    refine (HNo.out _).mono ?_;rintro e w' ⟨rfl,rfl⟩;exact ⟨rfl,ResI.no (by rw [HZ.out];exact e.out) hBw.out⟩
  ·have hki:¬ (k:Int) < (zs.length:Int):=by omega
   obtain rfl:k=zs.length:=by omega
   have he:=hid (nums_end (count:=count) (by have:=hT.out;rwa [List.take_length] at this));have HOz:Hid (RowI wr w2.heap.size (.slice ao zs.length co) zs):=hid (by have:=hO.out;rwa [List.take_length] at this);by_cases hc:(zs.length:Int)=count
   ·have e:=hid (he.out.trans (if_pos hc));have hcb:((zs.length:Int)==count)=true:=by simpa using hc
    clear hc;go_wp2_with fail
    refine (HY.out _).mono ?_;rintro e w' ⟨rfl,rfl⟩;go_wp2
    go_ret
    exact ResI.yes (by rw [HZ.out];exact e.out) hBw.out (HOz.out.base HB2.out.size)
   ·have e:=hid (he.out.trans (if_neg hc));have hcb:((zs.length:Int)==count)=false:=by simpa using hc
    clear hc;go_wp2_with fail
    refine (HNo.out _).mono ?_;rintro e w' ⟨rfl,rfl⟩;exact ⟨rfl,ResI.no (by rw [HZ.out];exact e.out) hBw.out⟩
end
section
open Go.RowKit
set_option maxRecDepth 100000
attribute [local irreducible] numsP intsP RowI
def ResE (w:World) (o:Int × List Int) (e:Ending) (w':World):Prop:=Below w.heap.size w w'∧((o.1≠0∧e=brk o.1)∨(o.1=0∧∃ v,e=.returned v∧RowI w' w.heap.size v o.2))
theorem ResE.no {w w':World} {o:Int × List Int} {c:Int} (h:o.1=c) (hc:c≠0) (hB:Below w.heap.size w w'):ResE w o (brk c) w':=⟨hB,Or.inl ⟨by rw [h];exact hc,by rw [h]⟩⟩
theorem ResE.yes {w w':World} {o:Int × List Int} {v:Value} (h:o.1=0) (hB:Below w.heap.size w w') (hr:RowI w' w.heap.size v o.2):ResE w o (.returned v) w':=⟨hB,Or.inr ⟨h,v,rfl,hr⟩⟩
attribute [local irreducible] Vb.bcO
set_option maxHeartbeats 4000000 in
theorem spread_any {w:World} {va vb:Value} {xa xb:List Int} (ha:IntsIn w va xa) (hb:IntsIn w vb xb) :
  Calls Tryz.prog 66 #[va,vb] w fun e w'=>ResE w (Vb.bcO xa xb) e w':=by
 have HB:=hid (Vb.broadcast_any ha hb);have HY:=hid (fun (W:World)=>good_yes W);have HNo:=hid (fun (W:World) (c:Int) (h:c≠0)=>good_no c h W);go_enter Tryz.func66,Tryz.ntmps66
 go_wp2_with fail
 refine HB.out.mono ?_;rintro e w2 ⟨B2,hc⟩;have HB2:=hid B2;clear B2;rcases hc with ⟨h0,rfl⟩ | ⟨h0,v,rfl,hr⟩
 ·have H0:=hid h0;clear h0;go_wp2_with fail
  refine (HNo.out _ _ H0.out).mono ?_;rintro e w' ⟨rfl,rfl⟩;exact ⟨rfl,ResE.no rfl H0.out HB2.out⟩
 ·have H0:=hid h0;have HR:Hid (RowI w2 w.heap.size v (Vb.bcO xa xb).2):=hid (by unfold RowI;exact hr);clear h0 hr;go_wp2_with fail
  refine (HY.out _).mono ?_;rintro e w' ⟨rfl,rfl⟩;go_wp2
  go_ret
  exact ResE.yes H0.out HB2.out HR.out
end
section
open Go.RowKit
set_option maxRecDepth 100000
structure MkN (w:World) (n:Nd) (ins:List Vl) (vin vat vv:Value):Prop where
 node:NodeN w n vin vat
 ins:SlIn 3 rdValue w vv ins
theorem MkN.below {w w':World} {n:Nd} {ins:List Vl} {vin vat vv:Value} (h:MkN w n ins vin vat vv) (hB:Below w.heap.size w w'):MkN w' n ins vin vat vv:=⟨h.node.below hB,h.ins.below (rdValue_below hB) hB⟩
def MkV (w:World) (v:Value) (n:Nd) (ins:List Vl):Prop:=∃ vin vat vv,v=.agg #[.string n.op,.string n.name,vin,.string n.out,vat,vv]∧MkN w n ins vin vat vv
theorem BoxN.six {W:World} {b:Nat} {x0 x1 x2 x3 x4 x5:Value} {t:TypeId} (h:BoxN W b #[x0,x1,x2,x3,x4,x5] t):W.cell? ⟨b,0,none⟩=some x0∧W.cell? ⟨b,1,none⟩=some x1∧W.cell? ⟨b,2,none⟩=some x2∧W.cell? ⟨b,3,none⟩=some x3∧W.cell? ⟨b,4,none⟩=some x4∧W.cell? ⟨b,5,none⟩=some x5:=⟨h.cell 0 rfl,h.cell 1 rfl,h.cell 2 rfl,h.cell 3 rfl,h.cell 4 rfl,h.cell 5 rfl⟩
theorem axesF_props {r:Nat}:∀ (l acc ks:List Int),axesF r acc l=some ks→(∀ z ∈ acc,0≤z∧z < (r:Int))→(∀ z ∈ ks,0≤z∧z < (r:Int))∧ks.length=acc.length+l.length:=by
 intro l
 induction l with
 | nil=>intro acc ks h ha;unfold axesF at h;obtain rfl:=Option.some.inj h;exact ⟨ha,rfl⟩
 | cons a l ih =>
  intro acc ks h ha;unfold axesF at h;split at h
  ·cases h
  ·rename_i k hk
   split at h
   ·cases h
   ·obtain ⟨h1,h2⟩:=ih _ _ h (fun z hz=>by
     rcases List.mem_append.1 hz with hz | hz
     ·exact ha z hz
     ·obtain rfl:z=k:=by simpa using hz
      exact axis_lt hk)
    exact ⟨h1,by rw [h2];simp;omega⟩
theorem axesP_props {r:Nat} {l ks:List Int} (h:axesP l r=some ks):(∀ z ∈ ks,0≤z∧z < (r:Int))∧ks.length=l.length:=by
 obtain ⟨h1,h2⟩:=axesF_props l [] ks h (by simp);exact ⟨h1,by simpa using h2⟩
def nmAxes:ByteArray:=⟨#[97,120,101,115]⟩
def nmAxis:ByteArray:=⟨#[97,120,105,115]⟩
def nmKeep:ByteArray:=⟨#[107,101,101,112,100,105,109,115]⟩
def opArgMax:ByteArray:=⟨#[65,114,103,77,97,120]⟩
theorem argMax_list:opArgMax.toList=([65,114,103,77,97,120]:List UInt8):=by rw [ByteArray.toList_eq];rfl
def cutI (x gone:List Int) (keep:Bool) (i:Nat):List Int:=if gone.contains (i:Int)=true then (if keep=true then [1] else []) else [x.getD i 0]
def wouL (x gone:List Int) (keep:Bool) (k:Nat):List Int:=(List.range k).flatMap (cutI x gone keep)
theorem wou_next {x gone:List Int} {keep:Bool} {k:Nat}:wouL x gone keep (k+1)=wouL x gone keep k++cutI x gone keep k:=by
 unfold wouL;rw [List.range_succ,List.flatMap_append];simp
theorem cut_not {x gone:List Int} {keep:Bool} {i:Nat} (h:gone.contains (i:Int)=false):cutI x gone keep i=[x.getD i 0]:=if_neg (by rw [h];decide)
theorem cut_keep {x gone:List Int} {i:Nat} (h:gone.contains (i:Int)=true):cutI x gone true i=[1]:=(if_pos h).trans (if_pos rfl)
theorem cut_gone {x gone:List Int} {i:Nat} (h:gone.contains (i:Int)=true):cutI x gone false i=[]:=(if_pos h).trans (if_neg (by decide))
theorem wou_len (x gone:List Int) (keep:Bool) (k:Nat):(wouL x gone keep k).length≤k:=by
 induction k with
 | zero=>simp [wouL]
 | succ k ih =>
  rw [wou_next,List.length_append];have:(cutI x gone keep k).length≤1:=by
   unfold cutI;split
   ·split<;>simp
   ·simp
  omega
def redL (n:Nd) (r:Nat):List Int:=if n.op=opArgMax then [intP n.attrs nmAxis 0] else intsP n.attrs nmAxes (upL r)
def reducedP (n:Nd) (x:List Int):Option (List Int) :=
 match axesP (redL n x.length) x.length with
 | none=>none
 | some gone=>if intP n.attrs nmKeep 1=0∨intP n.attrs nmKeep 1=1 then some (wouL x gone (decide (intP n.attrs nmKeep 1=1)) x.length) else none
theorem reduced_axes {n:Nd} {x:List Int} (h:axesP (redL n x.length) x.length=none):reducedP n x=none:=by unfold reducedP;rw [h]
theorem reduced_keep {n:Nd} {x gone:List Int} (h:axesP (redL n x.length) x.length=some gone) (hk:¬ (intP n.attrs nmKeep 1=0∨intP n.attrs nmKeep 1=1)):reducedP n x=none:=by unfold reducedP;rw [h];exact if_neg hk
theorem reduced_good {n:Nd} {x gone:List Int} {keep:Int} (h:axesP (redL n x.length) x.length=some gone) (he:intP n.attrs nmKeep 1=keep) (hk:keep=0∨keep=1):reducedP n x=some (wouL x gone (decide (keep=1)) x.length):=by subst he;unfold reducedP;rw [h];exact if_pos hk
theorem inI_0:InI 0:=by unfold InI;decide
theorem inI_one:InI 1:=by unfold InI;decide
attribute [local irreducible] upL intsP intP axesP RowI RowL wouL cutI
set_option maxHeartbeats 8000000 in
theorem reduced_any {w:World} {v vx:Value} {n:Nd} {ins:List Vl} {x:List Int} (h:MkV w v n ins) (hx:IntsIn w vx x) :
  Calls Tryz.prog 68 #[v,vx] w fun e w'=>ResI w (reducedP n x) e w':=by
 obtain ⟨i0,hi,hz0,hz1,hz2⟩:=info_parts info_int;have HU:=hid (fun (W:World) (h:x.length * 8≤140737488351232)=>upTo_any x.length h W);have HY:=hid (fun (W:World)=>rule_yes W);have HNo:=hid (fun (W:World)=>rule_no W);have HCo:=hid (fun (W:World) (u:Value) (ks:List Int) (h:IntsIn W u ks) (x:Int)=>containsI2_any h x);obtain ⟨vin,vat,vv,rfl,hm⟩:=h;obtain ⟨a1,c1,rfl⟩:=hm.node.is.form;obtain ⟨a2,c2,rfl⟩:=hm.node.ia.form;obtain ⟨a3,c3,rfl⟩:=hm.ins.form;obtain ⟨a4,c4,rfl⟩:=hx.shape;have hxl:=hx.wf.1;have HM:=hid hm;have HX:=hid hx;clear hm hx;go_enter Tryz.func68,Tryz.ntmps68
 go_wp2_with fail
 have hB1:Hid (Below w.heap.size w (w.alloc (Obj.cells #[.string n.op,.string n.name,.slice a1 n.ins.length c1,.string n.out,.slice a2 n.attrs.length c2,.slice a3 ins.length c3] 63))):=hid ((Below.refl _ w).alloc (Nat.le_refl _) _);have hA1:=hid (BoxN.new w #[.string n.op,.string n.name,.slice a1 n.ins.length c1,.string n.out,.slice a2 n.attrs.length c2,.slice a3 ins.length c3] 63);generalize w.alloc _=W1 at hB1 hA1 ⊢;have HND:Hid (∀ W,Below W1.heap.size W1 W→NodeV W (.agg #[.string n.op,.string n.name,.slice a1 n.ins.length c1,.string n.out,.slice a2 n.attrs.length c2]) n):=hid fun W hW=>⟨_,_,rfl,(HM.out.below (hB1.out.trans (hW.mono hB1.out.size))).node⟩;have HInts:Hid (∀ (W:World) (vo:Value),Below W1.heap.size W1 W→IntsIn W vo (upL x.length)→Calls Tryz.prog 50 #[.agg #[.string n.op,.string n.name,.slice a1 n.ins.length c1,.string n.out,.slice a2 n.attrs.length c2],.string ⟨#[97,120,101,115]⟩,vo] W fun e w'=>∃ v',e=.returned v'∧RowL w' W.heap.size v' (intsP n.attrs nmAxes (upL x.length))∧Below W.heap.size W w'):=hid fun W vo hW ho=>by unfold RowL;exact sints_any (HND.out W hW) nmAxes ho
 have HInt:Hid (∀ (W:World),Below W1.heap.size W1 W→Calls Tryz.prog 49 #[.agg #[.string n.op,.string n.name,.slice a1 n.ins.length c1,.string n.out,.slice a2 n.attrs.length c2],.string ⟨#[97,120,105,115]⟩,.int .i64 0] W fun e w'=>e=.returned (.int .i64 (intP n.attrs nmAxis 0))∧Below W.heap.size W w'):=hid fun W hW=>sint_any (HND.out W hW) nmAxis 0;have HKeep:Hid (∀ (W:World),Below W1.heap.size W1 W→Calls Tryz.prog 49 #[.agg #[.string n.op,.string n.name,.slice a1 n.ins.length c1,.string n.out,.slice a2 n.attrs.length c2],.string ⟨#[107,101,101,112,100,105,109,115]⟩,.int .i64 1] W fun e w'=>e=.returned (.int .i64 (intP n.attrs nmKeep 1))∧Below W.heap.size W w'):=hid fun W hW=>sint_any (HND.out W hW) nmKeep 1;have HF:Hid (∀ W',Below W1.heap.size W1 W'→BoxN W' w.heap.size #[.string n.op,.string n.name,.slice a1 n.ins.length c1,.string n.out,.slice a2 n.attrs.length c2,.slice a3 ins.length c3] 63):=hid fun W' h=>hA1.out.below' h;go_wp2_with fail
 refine wp_region_plan 6 [0,1,2,3,4,5] (fun W'=>Below W1.heap.size W1 W') (by kernel_rfl) (by kernel_rfl) (fun _ d _ _ _ h=>by cases d<;>exact h) (Below.refl _ _).drew ?_;have B0:Hid (Below W1.heap.size W1 W1.drew):=hid (Below.refl _ _).drew
 repeat
  refine plan_read (v:=?_) rfl rfl (Or.inl ⟨by rfl,?_⟩) ?_;rotate_left
  ·intro w' hSw;obtain ⟨k0,k1,k2,k3,k4,k5⟩:=(HF.out w' hSw).six;go_simp
   try with_reducible rfl
  try simp only [aPut]
 refine plan_act rfl rfl (fun K' hK=>?_);go_simp
 refine (HU.out _ hxl).mono ?_;rintro e w2 ⟨B2,v2,rfl,hr2⟩;have HB2:=hid (B0.out.trans (B2.mono B0.out.size));have HI2:Hid (IntsIn w2 v2 (upL x.length)):=hid (hr2.ints (by rw [upL_len];exact hxl) (upL_in _ (by omega)));refine hK.out _ _ HB2.out ?_;clear hK K' B2 hr2;refine plan_act rfl rfl (fun K' hK=>?_);go_simp
 refine (HInts.out _ _ HB2.out HI2.out).mono ?_;rintro e w3 ⟨v3,rfl,hr3,B3⟩;have HB3:=hid (HB2.out.trans (B3.mono HB2.out.size));have HR3:=hid hr3;refine hK.out _ _ HB3.out ?_;clear hK K' B3 hr3 HB2 HI2 B0;refine plan_tail rfl ?_;simp only [aDrp];have hok:=ints_okP (HND.out _ HB3.out) (nm:=nmAxes) (other:=upL x.length) (by rw [upL_len];exact hxl) (upL_in _ (by omega));have HI3:Hid (IntsIn w3 v3 (intsP n.attrs nmAxes (upL x.length))):=hid (HR3.out.ints hok.1 hok.2);obtain ⟨a5,c5,rfl⟩:=HI3.out.shape;clear hok;obtain ⟨k0,k1,k2,k3,k4,k5⟩:=(HF.out w3 HB3.out).six;have HAx:=hid (fun (W:World) (u:Value) (L:List Int) (h:IntsIn W u L)=>axes_any (r:=x.length) h h.wf.1 (by omega));by_cases hop:n.op=opArgMax
 ·have hob:(n.op.toList==([65,114,103,77,97,120]:List UInt8))=true:=by rw [hop,argMax_list];simp
  have HRd:Hid (redL n x.length=[intP n.attrs nmAxis 0]):=hid (if_pos hop);have HIP:=hid (int_okP (HND.out _ HB3.out) (nm:=nmAxis) inI_0);clear hop;go_wp2_with fail
  clear k0 k1 k2 k3 k4 k5;refine (HInt.out _ HB3.out).mono ?_;rintro e w4 ⟨rfl,B4⟩;have HB4:=hid (HB3.out.trans (B4.mono HB3.out.size));clear B4 HI3 HR3;generalize intP n.attrs nmAxis 0=z at HRd HIP ⊢;have HL5:Hid (IntsIn (w4.alloc (.cells #[.int .i64 z] 2)) (.slice (some ⟨w4.heap.size,0,none⟩) 1 1) [z]):=hid (.row w4.heap.size 0 1 [z] (by simp) (Nat.le_refl _) (by simp) (fun j hj=>by
   obtain rfl:j=0:=by simp at hj;omega
   exact (BoxN.new w4 #[.int .i64 z] 2).cell 0 rfl) (by simp) (fun y hy=>(show y=z by simpa using hy) ▸ HIP.out))
  have HB5:Hid (Below W1.heap.size W1 (w4.alloc (.cells #[.int .i64 z] 2))):=hid (HB4.out.alloc HB4.out.size _);go_wp2_with fail
  generalize w4.alloc _=W5 at HL5 HB5 ⊢;have hA:Calls Tryz.prog 121 #[.slice (some ⟨w4.heap.size,0,none⟩) 1 1,.int .i64 (x.length:Int)] W5 fun e w'=>ResI W5 (axesP (redL n x.length) x.length) e w':=by rw [HRd.out];exact HAx.out W5 _ _ HL5.out
  have HLb:Hid (Below W1.heap.size W1 W5):=HB5;have HA5:=hid hA;clear hA HL5 HB4 HB5 HRd HIP;refine HA5.out.mono ?_;clear HA5;rintro e w6 ⟨B6,hc6⟩;have HB6:=hid (HLb.out.trans (B6.mono HLb.out.size));clear B6 HLb;have HBw6:=hid (hB1.out.trans (HB6.out.mono hB1.out.size));have HRA:=hid (fun h=>reduced_axes (n:=n) (x:=x) h);have HRK:=hid (fun gone h=>reduced_keep (n:=n) (x:=x) (gone:=gone) h);have HRG:=hid (fun gone keep h=>reduced_good (n:=n) (x:=x) (gone:=gone) (keep:=keep) h);have HPr:=hid (fun gone h=>axesP_props (r:=x.length) (l:=redL n x.length) (ks:=gone) h);have HRl:Hid ((redL n x.length).length * 8≤140737488351232):=hid (by
   unfold redL;split
   ·simp
   ·exact (ints_okP (HND.out _ HB6.out) (nm:=nmAxes) (other:=upL x.length) (by rw [upL_len];exact hxl) (upL_in _ (by omega))).1)
  generalize redL n x.length=L at *;generalize hax:axesP L x.length=ax at *;cases ax with
  | none =>
   obtain rfl:e=brk 4:=hc6;have e:=hid (HRA.out rfl);exact ⟨rfl,ResI.no e.out HBw6.out⟩
  | some gone =>
   obtain ⟨v6,rfl,hr6⟩:∃ v,e=.returned v∧RowI w6 _ v gone:=hc6;have HR6:=hid hr6;obtain ⟨a6,c6,rfl⟩:=hr6.form;obtain ⟨hp1,hp2⟩:=HPr.out gone rfl;have HI6:Hid (IntsIn w6 (.slice a6 gone.length c6) gone):=hid (hr6.ints (by rw [hp2];exact HRl.out) (fun z hz=>inI_low (hp1 z hz) (by omega)));have HRK:=hid (HRK.out gone rfl);have HRG:=hid (fun keep=>HRG.out gone keep rfl);clear hr6 hp1 hp2 hax HR6 HRA HPr HRl;obtain ⟨k0,k1,k2,k3,k4,k5⟩:=(HF.out w6 HB6.out).six;go_wp2_with fail
   clear k0 k1 k2 k3 k4 k5;refine (HKeep.out _ HB6.out).mono ?_;rintro e w7 ⟨rfl,B7⟩;have HB7:=hid (HBw6.out.trans (B7.mono HBw6.out.size));have HI7:Hid (IntsIn w7 (.slice a6 gone.length c6) gone):=hid (HI6.out.below B7);clear B7 HI6 HB6;generalize hkp:intP n.attrs nmKeep 1=kp at *;have HRG:=hid (HRG.out kp rfl);by_cases hk:kp=0∨kp=1
   ·have HG:=hid (HRG.out hk);have HX7:=hid (HX.out.below HB7.out);clear HRG HRK hkp;obtain ⟨kb,hkb⟩:∃ kb,decide (kp=1)=kb:=⟨_,rfl⟩;rw [hkb] at HG;have hk1:(kp==1)=kb:=by rw [←hkb];rfl
    have hk0:(kp==0)=!kb:=by
     rcases hk with rfl | rfl
     ·rw [←hkb];rfl
     ·rw [←hkb];rfl
    clear hk hkb;cases kb
    all_goals
     go_wp2_with fail
     refine (HY.out _).mono ?_;rintro e w' ⟨rfl,rfl⟩;go_wp2_with fail
    ·go_loopw [8,41] (fun ov i wr=>∃ (k:Nat),k≤x.length∧i=.int .i64 (k:Int)∧Hid (RowI wr w'.heap.size ov (wouL x gone false k))∧Hid (Below w'.heap.size w' wr)) (fun _ i _=>x.length - (intOf i).toNat)
     case atStart=>exact ⟨0,Nat.zero_le _,rfl,hid (by rw [show wouL x gone false 0=[] by unfold wouL;rfl];exact RowI.nil _ _),hid (Below.refl _ _)⟩
     case round =>
      obtain ⟨k,hk,rfl,hO,hW⟩:=hrel;obtain ⟨ao,co,hov⟩:=hO.out.form;subst hov;have hsw:=hW.out.size;have hwl:=wou_len x gone false k;have HNx:=hid (wou_next (x:=x) (gone:=gone) (keep:=false) (k:=k));by_cases hkz:k < x.length
      ·have hki:(k:Int) < (x.length:Int):=by omega
       obtain ⟨b,off,rfl,-,hb,c0,-⟩:=ints_at HX7.out hkz;have c0:=(hW.out.cell (p:=⟨b,off+k,none⟩) hb).trans c0;have hC:=HCo.out wr _ gone (HI7.out.below hW.out) (k:Int);have HC1:=hid (cut_not (x:=x) (gone:=gone) (keep:=false) (i:=k));have HC2:=hid (cut_gone (x:=x) (gone:=gone) (i:=k));generalize x.getD k 0=z at *;generalize wouL x gone false k=zs at *;cases hct:gone.contains (k:Int) with
       | false =>
        rw [hct] at hC;have hC:=hid hC;have HC1:=hid (HC1.out hct);clear hct;go_wp2_with fail
        refine hC.out.mono ?_;rintro e w'' ⟨rfl,rfl⟩;go_wp2_with (at_builtin;refine wpList_append_own _ rfl _ _ 27 rfl w'.heap.size 3 i0 (.int .i64 0) 1 8 Tryz.underlying27 hi hz0 hz1 hz2 rfl (by decide) _ _ _ rfl (hO.out.own.alloc _) ⟨w''.heap.size,0,none⟩ 1 1 (#[.int .i64 z]:Array Value).toList rfl rfl (World.news_of_block (heap_alloc_new w'' _)) (by simp [Value.oneCell']) ?A3 ?A4 ?A5 ?_)
        case A3=>unfold maxLen;omega
        case A4=>omega
        case A5=>first | (simp;omega) | omega
        intro v' w4 hown' hgrow _;have hb4:Hid (Below w'.heap.size w' w4):=hid ((hW.out.alloc hsw _).grown hgrow (by simp;omega) fun g hg=>(hO.out.own.lt g hg).1);have ho4:Hid (RowI w4 w'.heap.size v' (wouL x gone false (k+1))):=hid (by rw [HNx.out,HC1.out];exact hO.out.push hown');clear hown' hgrow;go_wp2_with fail
        go_roundw
        case rel=>exact ⟨k+1,by omega,by go_num,ho4,hb4⟩
        case measure=>simp [intOf];omega
       | true =>
        rw [hct] at hC;have hC:=hid hC;have HC2:=hid (HC2.out hct);clear hct;go_wp2_with fail
        refine hC.out.mono ?_;rintro e w'' ⟨rfl,rfl⟩;have ho4:Hid (RowI w'' w'.heap.size (.slice ao zs.length co) (wouL x gone false (k+1))):=hid (by rw [HNx.out,HC2.out,List.append_nil];exact hO.out);go_wp2_with fail
        go_roundw
        case rel=>exact ⟨k+1,by omega,by go_num,ho4,hW⟩
        case measure=>simp [intOf];omega
      ·have hki:¬ (k:Int) < (x.length:Int):=by omega
       obtain rfl:k=x.length:=by omega
       generalize wouL x gone false x.length=zs at *;go_wp2
       go_ret
       exact ResI.yes HG.out (HB7.out.trans (hW.out.mono HB7.out.size)) (hO.out.base HB7.out.size)
    ·go_loopw [8,41] (fun ov i wr=>∃ (k:Nat),k≤x.length∧i=.int .i64 (k:Int)∧Hid (RowI wr w'.heap.size ov (wouL x gone true k))∧Hid (Below w'.heap.size w' wr)) (fun _ i _=>x.length - (intOf i).toNat)
     case atStart=>exact ⟨0,Nat.zero_le _,rfl,hid (by rw [show wouL x gone true 0=[] by unfold wouL;rfl];exact RowI.nil _ _),hid (Below.refl _ _)⟩
     case round =>
      obtain ⟨k,hk,rfl,hO,hW⟩:=hrel;obtain ⟨ao,co,hov⟩:=hO.out.form;subst hov;have hsw:=hW.out.size;have hwl:=wou_len x gone true k;have HNx:=hid (wou_next (x:=x) (gone:=gone) (keep:=true) (k:=k));by_cases hkz:k < x.length
      ·have hki:(k:Int) < (x.length:Int):=by omega
       obtain ⟨b,off,rfl,-,hb,c0,-⟩:=ints_at HX7.out hkz;have c0:=(hW.out.cell (p:=⟨b,off+k,none⟩) hb).trans c0;have hC:=HCo.out wr _ gone (HI7.out.below hW.out) (k:Int);have HC1:=hid (cut_not (x:=x) (gone:=gone) (keep:=true) (i:=k));have HC2:=hid (cut_keep (x:=x) (gone:=gone) (i:=k));generalize x.getD k 0=z at *;generalize wouL x gone true k=zs at *;cases hct:gone.contains (k:Int) with
       | false =>
        rw [hct] at hC;have hC:=hid hC;have HC1:=hid (HC1.out hct);clear hct;go_wp2_with fail
        refine hC.out.mono ?_;rintro e w'' ⟨rfl,rfl⟩;go_wp2_with (at_builtin;refine wpList_append_own _ rfl _ _ 27 rfl w'.heap.size 3 i0 (.int .i64 0) 1 8 Tryz.underlying27 hi hz0 hz1 hz2 rfl (by decide) _ _ _ rfl (hO.out.own.alloc _) ⟨w''.heap.size,0,none⟩ 1 1 (#[.int .i64 z]:Array Value).toList rfl rfl (World.news_of_block (heap_alloc_new w'' _)) (by simp [Value.oneCell']) ?A3 ?A4 ?A5 ?_)
        case A3=>unfold maxLen;omega
        case A4=>omega
        case A5=>first | (simp;omega) | omega
        intro v' w4 hown' hgrow _;have hb4:Hid (Below w'.heap.size w' w4):=hid ((hW.out.alloc hsw _).grown hgrow (by simp;omega) fun g hg=>(hO.out.own.lt g hg).1);have ho4:Hid (RowI w4 w'.heap.size v' (wouL x gone true (k+1))):=hid (by rw [HNx.out,HC1.out];exact hO.out.push hown');clear hown' hgrow;go_wp2_with fail
        go_roundw
        case rel=>exact ⟨k+1,by omega,by go_num,ho4,hb4⟩
        case measure=>simp [intOf];omega
       | true =>
        rw [hct] at hC;have hC:=hid hC;have HC2:=hid (HC2.out hct);clear hct;go_wp2_with fail
        refine hC.out.mono ?_;rintro e w'' ⟨rfl,rfl⟩;go_wp2_with (at_builtin;refine wpList_append_own _ rfl _ _ 27 rfl w'.heap.size 3 i0 (.int .i64 0) 1 8 Tryz.underlying27 hi hz0 hz1 hz2 rfl (by decide) _ _ _ rfl (hO.out.own.alloc _) ⟨w''.heap.size,0,none⟩ 1 1 (#[.int .i64 1]:Array Value).toList rfl rfl (World.news_of_block (heap_alloc_new w'' _)) (by simp [Value.oneCell']) ?A3 ?A4 ?A5 ?_)
        case A3=>unfold maxLen;omega
        case A4=>omega
        case A5=>first | (simp;omega) | omega
        intro v' w4 hown' hgrow _;have hb4:Hid (Below w'.heap.size w' w4):=hid ((hW.out.alloc hsw _).grown hgrow (by simp;omega) fun g hg=>(hO.out.own.lt g hg).1);have ho4:Hid (RowI w4 w'.heap.size v' (wouL x gone true (k+1))):=hid (by rw [HNx.out,HC2.out];exact hO.out.push hown');clear hown' hgrow;go_wp2_with fail
        go_roundw
        case rel=>exact ⟨k+1,by omega,by go_num,ho4,hb4⟩
        case measure=>simp [intOf];omega
      ·have hki:¬ (k:Int) < (x.length:Int):=by omega
       obtain rfl:k=x.length:=by omega
       generalize wouL x gone true x.length=zs at *;go_wp2
       go_ret
       exact ResI.yes HG.out (HB7.out.trans (hW.out.mono HB7.out.size)) (hO.out.base HB7.out.size)
   ·have e:=hid (HRK.out hk);have hk0:(kp==0)=false:=by simp;omega
    have hk1:(kp==1)=false:=by simp;omega
    clear hk;go_wp2_with fail
    refine (HNo.out _).mono ?_;rintro e w' ⟨rfl,rfl⟩;exact ⟨rfl,ResI.no e.out HB7.out⟩
 ·have hob:(n.op.toList==([65,114,103,77,97,120]:List UInt8))=false:=by simpa using fun c=>hop (toList_inj (c.trans argMax_list.symm))
  have HRd:Hid (redL n x.length=intsP n.attrs nmAxes (upL x.length)):=hid (if_neg hop);clear hop;go_wp2_with fail
  clear k0 k1 k2 k3 k4 k5;have hA:Calls Tryz.prog 121 #[.slice a5 (intsP n.attrs nmAxes (upL x.length)).length c5,.int .i64 (x.length:Int)] w3 fun e w'=>ResI w3 (axesP (redL n x.length) x.length) e w':=by rw [HRd.out];exact HAx.out w3 _ _ HI3.out
  have HLb:=HB3;have HA5:=hid hA;clear hA HR3 HI3 HRd;refine HA5.out.mono ?_;clear HA5;rintro e w6 ⟨B6,hc6⟩;have HB6:=hid (HLb.out.trans (B6.mono HLb.out.size));clear B6 HLb;have HBw6:=hid (hB1.out.trans (HB6.out.mono hB1.out.size));have HRA:=hid (fun h=>reduced_axes (n:=n) (x:=x) h);have HRK:=hid (fun gone h=>reduced_keep (n:=n) (x:=x) (gone:=gone) h);have HRG:=hid (fun gone keep h=>reduced_good (n:=n) (x:=x) (gone:=gone) (keep:=keep) h);have HPr:=hid (fun gone h=>axesP_props (r:=x.length) (l:=redL n x.length) (ks:=gone) h);have HRl:Hid ((redL n x.length).length * 8≤140737488351232):=hid (by
   unfold redL;split
   ·simp
   ·exact (ints_okP (HND.out _ HB6.out) (nm:=nmAxes) (other:=upL x.length) (by rw [upL_len];exact hxl) (upL_in _ (by omega))).1)
  generalize redL n x.length=L at *;generalize hax:axesP L x.length=ax at *;cases ax with
  | none =>
   obtain rfl:e=brk 4:=hc6;have e:=hid (HRA.out rfl);exact ⟨rfl,ResI.no e.out HBw6.out⟩
  | some gone =>
   obtain ⟨v6,rfl,hr6⟩:∃ v,e=.returned v∧RowI w6 _ v gone:=hc6;have HR6:=hid hr6;obtain ⟨a6,c6,rfl⟩:=hr6.form;obtain ⟨hp1,hp2⟩:=HPr.out gone rfl;have HI6:Hid (IntsIn w6 (.slice a6 gone.length c6) gone):=hid (hr6.ints (by rw [hp2];exact HRl.out) (fun z hz=>inI_low (hp1 z hz) (by omega)));have HRK:=hid (HRK.out gone rfl);have HRG:=hid (fun keep=>HRG.out gone keep rfl);clear hr6 hp1 hp2 hax HR6 HRA HPr HRl;obtain ⟨k0,k1,k2,k3,k4,k5⟩:=(HF.out w6 HB6.out).six;go_wp2_with fail
   clear k0 k1 k2 k3 k4 k5;refine (HKeep.out _ HB6.out).mono ?_;rintro e w7 ⟨rfl,B7⟩;have HB7:=hid (HBw6.out.trans (B7.mono HBw6.out.size));have HI7:Hid (IntsIn w7 (.slice a6 gone.length c6) gone):=hid (HI6.out.below B7);clear B7 HI6 HB6;generalize hkp:intP n.attrs nmKeep 1=kp at *;have HRG:=hid (HRG.out kp rfl);by_cases hk:kp=0∨kp=1
   ·have HG:=hid (HRG.out hk);have HX7:=hid (HX.out.below HB7.out);clear HRG HRK hkp;obtain ⟨kb,hkb⟩:∃ kb,decide (kp=1)=kb:=⟨_,rfl⟩;rw [hkb] at HG;have hk1:(kp==1)=kb:=by rw [←hkb];rfl
    have hk0:(kp==0)=!kb:=by
     rcases hk with rfl | rfl
     ·rw [←hkb];rfl
     ·rw [←hkb];rfl
    clear hk hkb;cases kb
    all_goals
     go_wp2_with fail
     refine (HY.out _).mono ?_;rintro e w' ⟨rfl,rfl⟩;go_wp2_with fail
    ·go_loopw [8,41] (fun ov i wr=>∃ (k:Nat),k≤x.length∧i=.int .i64 (k:Int)∧Hid (RowI wr w'.heap.size ov (wouL x gone false k))∧Hid (Below w'.heap.size w' wr)) (fun _ i _=>x.length - (intOf i).toNat)
     case atStart=>exact ⟨0,Nat.zero_le _,rfl,hid (by rw [show wouL x gone false 0=[] by unfold wouL;rfl];exact RowI.nil _ _),hid (Below.refl _ _)⟩
     case round =>
      obtain ⟨k,hk,rfl,hO,hW⟩:=hrel;obtain ⟨ao,co,hov⟩:=hO.out.form;subst hov;have hsw:=hW.out.size;have hwl:=wou_len x gone false k;have HNx:=hid (wou_next (x:=x) (gone:=gone) (keep:=false) (k:=k));by_cases hkz:k < x.length
      ·have hki:(k:Int) < (x.length:Int):=by omega
       obtain ⟨b,off,rfl,-,hb,c0,-⟩:=ints_at HX7.out hkz;have c0:=(hW.out.cell (p:=⟨b,off+k,none⟩) hb).trans c0;have hC:=HCo.out wr _ gone (HI7.out.below hW.out) (k:Int);have HC1:=hid (cut_not (x:=x) (gone:=gone) (keep:=false) (i:=k));have HC2:=hid (cut_gone (x:=x) (gone:=gone) (i:=k));generalize x.getD k 0=z at *;generalize wouL x gone false k=zs at *;cases hct:gone.contains (k:Int) with
       | false =>
        rw [hct] at hC;have hC:=hid hC;have HC1:=hid (HC1.out hct);clear hct;go_wp2_with fail
        refine hC.out.mono ?_;rintro e w'' ⟨rfl,rfl⟩;go_wp2_with (at_builtin;refine wpList_append_own _ rfl _ _ 27 rfl w'.heap.size 3 i0 (.int .i64 0) 1 8 Tryz.underlying27 hi hz0 hz1 hz2 rfl (by decide) _ _ _ rfl (hO.out.own.alloc _) ⟨w''.heap.size,0,none⟩ 1 1 (#[.int .i64 z]:Array Value).toList rfl rfl (World.news_of_block (heap_alloc_new w'' _)) (by simp [Value.oneCell']) ?A3 ?A4 ?A5 ?_)
        case A3=>unfold maxLen;omega
        case A4=>omega
        case A5=>first | (simp;omega) | omega
        intro v' w4 hown' hgrow _;have hb4:Hid (Below w'.heap.size w' w4):=hid ((hW.out.alloc hsw _).grown hgrow (by simp;omega) fun g hg=>(hO.out.own.lt g hg).1);have ho4:Hid (RowI w4 w'.heap.size v' (wouL x gone false (k+1))):=hid (by rw [HNx.out,HC1.out];exact hO.out.push hown');clear hown' hgrow;go_wp2_with fail
        go_roundw
        case rel=>exact ⟨k+1,by omega,by go_num,ho4,hb4⟩
        case measure=>simp [intOf];omega
       | true =>
        rw [hct] at hC;have hC:=hid hC;have HC2:=hid (HC2.out hct);clear hct;go_wp2_with fail
        refine hC.out.mono ?_;rintro e w'' ⟨rfl,rfl⟩;have ho4:Hid (RowI w'' w'.heap.size (.slice ao zs.length co) (wouL x gone false (k+1))):=hid (by rw [HNx.out,HC2.out,List.append_nil];exact hO.out);go_wp2_with fail
        go_roundw
        case rel=>exact ⟨k+1,by omega,by go_num,ho4,hW⟩
        case measure=>simp [intOf];omega
      ·have hki:¬ (k:Int) < (x.length:Int):=by omega
       obtain rfl:k=x.length:=by omega
       generalize wouL x gone false x.length=zs at *;go_wp2
       go_ret
       exact ResI.yes HG.out (HB7.out.trans (hW.out.mono HB7.out.size)) (hO.out.base HB7.out.size)
    ·go_loopw [8,41] (fun ov i wr=>∃ (k:Nat),k≤x.length∧i=.int .i64 (k:Int)∧Hid (RowI wr w'.heap.size ov (wouL x gone true k))∧Hid (Below w'.heap.size w' wr)) (fun _ i _=>x.length - (intOf i).toNat)
     case atStart=>exact ⟨0,Nat.zero_le _,rfl,hid (by rw [show wouL x gone true 0=[] by unfold wouL;rfl];exact RowI.nil _ _),hid (Below.refl _ _)⟩
     case round =>
      obtain ⟨k,hk,rfl,hO,hW⟩:=hrel;obtain ⟨ao,co,hov⟩:=hO.out.form;subst hov;have hsw:=hW.out.size;have hwl:=wou_len x gone true k;have HNx:=hid (wou_next (x:=x) (gone:=gone) (keep:=true) (k:=k));by_cases hkz:k < x.length
      ·have hki:(k:Int) < (x.length:Int):=by omega
       obtain ⟨b,off,rfl,-,hb,c0,-⟩:=ints_at HX7.out hkz;have c0:=(hW.out.cell (p:=⟨b,off+k,none⟩) hb).trans c0;have hC:=HCo.out wr _ gone (HI7.out.below hW.out) (k:Int);have HC1:=hid (cut_not (x:=x) (gone:=gone) (keep:=true) (i:=k));have HC2:=hid (cut_keep (x:=x) (gone:=gone) (i:=k));generalize x.getD k 0=z at *;generalize wouL x gone true k=zs at *;cases hct:gone.contains (k:Int) with
       | false =>
        rw [hct] at hC;have hC:=hid hC;have HC1:=hid (HC1.out hct);clear hct;go_wp2_with fail
        refine hC.out.mono ?_;rintro e w'' ⟨rfl,rfl⟩;go_wp2_with (at_builtin;refine wpList_append_own _ rfl _ _ 27 rfl w'.heap.size 3 i0 (.int .i64 0) 1 8 Tryz.underlying27 hi hz0 hz1 hz2 rfl (by decide) _ _ _ rfl (hO.out.own.alloc _) ⟨w''.heap.size,0,none⟩ 1 1 (#[.int .i64 z]:Array Value).toList rfl rfl (World.news_of_block (heap_alloc_new w'' _)) (by simp [Value.oneCell']) ?A3 ?A4 ?A5 ?_)
        case A3=>unfold maxLen;omega
        case A4=>omega
        case A5=>first | (simp;omega) | omega
        intro v' w4 hown' hgrow _;have hb4:Hid (Below w'.heap.size w' w4):=hid ((hW.out.alloc hsw _).grown hgrow (by simp;omega) fun g hg=>(hO.out.own.lt g hg).1);have ho4:Hid (RowI w4 w'.heap.size v' (wouL x gone true (k+1))):=hid (by rw [HNx.out,HC1.out];exact hO.out.push hown');clear hown' hgrow;go_wp2_with fail
        go_roundw
        case rel=>exact ⟨k+1,by omega,by go_num,ho4,hb4⟩
        case measure=>simp [intOf];omega
       | true =>
        rw [hct] at hC;have hC:=hid hC;have HC2:=hid (HC2.out hct);clear hct;go_wp2_with fail
        refine hC.out.mono ?_;rintro e w'' ⟨rfl,rfl⟩;go_wp2_with (at_builtin;refine wpList_append_own _ rfl _ _ 27 rfl w'.heap.size 3 i0 (.int .i64 0) 1 8 Tryz.underlying27 hi hz0 hz1 hz2 rfl (by decide) _ _ _ rfl (hO.out.own.alloc _) ⟨w''.heap.size,0,none⟩ 1 1 (#[.int .i64 1]:Array Value).toList rfl rfl (World.news_of_block (heap_alloc_new w'' _)) (by simp [Value.oneCell']) ?A3 ?A4 ?A5 ?_)
        case A3=>unfold maxLen;omega
        case A4=>omega
        case A5=>first | (simp;omega) | omega
        intro v' w4 hown' hgrow _;have hb4:Hid (Below w'.heap.size w' w4):=hid ((hW.out.alloc hsw _).grown hgrow (by simp;omega) fun g hg=>(hO.out.own.lt g hg).1);have ho4:Hid (RowI w4 w'.heap.size v' (wouL x gone true (k+1))):=hid (by rw [HNx.out,HC2.out];exact hO.out.push hown');clear hown' hgrow;go_wp2_with fail
        go_roundw
        case rel=>exact ⟨k+1,by omega,by go_num,ho4,hb4⟩
        case measure=>simp [intOf];omega
      ·have hki:¬ (k:Int) < (x.length:Int):=by omega
       obtain rfl:k=x.length:=by omega
       generalize wouL x gone true x.length=zs at *;go_wp2
       go_ret
       exact ResI.yes HG.out (HB7.out.trans (hW.out.mono HB7.out.size)) (hO.out.base HB7.out.size)
   ·have e:=hid (HRK.out hk);have hk0:(kp==0)=false:=by simp;omega
    have hk1:(kp==1)=false:=by simp;omega
    clear hk;go_wp2_with fail
    refine (HNo.out _).mono ?_;rintro e w' ⟨rfl,rfl⟩;exact ⟨rfl,ResI.no e.out HB7.out⟩
end
section
open Go.RowKit
set_option maxRecDepth 100000
theorem eg_alike:∀ args w,(callFunc 119 args).run Tryz.prog w=.ok (.enter 119 args) w:=enters_of Tryz.func119 (by kernel_rfl) rfl
set_option maxHeartbeats 1000000 in
theorem alike1_any {w:World} (x:Vl) (vd:Value) (t:Int) {A:Addr} (h:w.cell? A=some (.int .i64 t)) :
  Calls Tryz.prog 119 #[.agg #[.string x.name,.int .i64 x.typ,vd],.pointer (some A)] w fun e w'=>e=.returned (.bool (x.typ != t))∧Below w.heap.size w w':=by
 have g:=cell_alloc h (.cells #[Value.string x.name,Value.int IntKind.i64 x.typ,vd] 29);have hB:=hid ((Below.refl w.heap.size w).alloc (Nat.le_refl _) (.cells #[Value.string x.name,Value.int IntKind.i64 x.typ,vd] 29));go_enter Tryz.func119,Tryz.ntmps119
 go_wp2
 go_ret
 exact ⟨ret_val (bool_val (by first | rfl | simp)),hB.out⟩
set_option maxHeartbeats 4000000 in
theorem alike_any {w:World} {v:Value} {n:Nd} {ins:List Vl} (t:Int) (h:MkV w v n ins) :
  Calls Tryz.prog 65 #[v,.int .i64 t] w fun e w'=>e=.returned (.bool (!(ins.any fun x=>x.typ != t)))∧Below w.heap.size w w':=by
 obtain ⟨vin,vat,vv,rfl,hm⟩:=h;obtain ⟨a3,c3,rfl⟩:=hm.ins.form;have HM:=hid hm;clear hm;have hmf:∀ (fn:Fn) (first cap:Array Value) (w:World),(Instr.makeFunc fn first cap).run Tryz.prog w=.ok (.func fn first cap) w:=fun _ _ _ _=>rfl;go_enter Tryz.func65,Tryz.ntmps65
 have HB1:Hid (Below w.heap.size w ((w.alloc (.cells #[.string n.op,.string n.name,vin,.string n.out,vat,.slice a3 ins.length c3] 63)).alloc (.cells #[.int .i64 t] 3))):=hid (((Below.refl _ w).alloc (Nat.le_refl _) _).alloc (by simp) _);have HT:Hid (((w.alloc (.cells #[.string n.op,.string n.name,vin,.string n.out,vat,.slice a3 ins.length c3] 63)).alloc (.cells #[.int .i64 t] 3)).cell? ⟨w.heap.size+1,0,none⟩=some (.int .i64 t)):=hid (by
  have:=(BoxN.new (w.alloc (.cells #[.string n.op,.string n.name,vin,.string n.out,vat,.slice a3 ins.length c3] 63)) #[.int .i64 t] 3).cell 0 rfl
  rwa [World.size_alloc] at this)
 go_wp2_with fail
 generalize World.alloc (w.alloc _) _=W1 at HB1 HT ⊢;refine (containsV_any (HM.out.below HB1.out).ins _ _ eg_alike (fun x=>x.typ != t) (fun W x vd hB hx=>alike1_any x vd t ((hB.cell (by have:=cell_in HT.out;exact this)).trans HT.out))).mono ?_;rintro e w2 ⟨rfl,B2⟩;have HB2:=hid (HB1.out.trans (B2.mono HB1.out.size));clear B2;go_wp2_with fail
 go_ret
 exact ⟨rfl,HB2.out⟩
end
end Go.Proofs.YtijhdmidffenbaaGreatDoor
