import Derived.Test.YtijhdmidffenbaaGreatDoorSchGrm
import Derived.Test.YtijhdmidffenbaaGreatDoorSchOrm
import Derived.Test.YtijhdmidffenbaaGreatDoorShelfrm
open Go.Lib (hid)
set_option linter.unusedVariables false
set_option linter.unusedSimpArgs false
namespace Go.Proofs.YtijhdmidffenbaaGreatDoor
open Go.RowKit
def TestS (g:Nat) (lb:Array Value) (p:ByteArray→Bool) (w:World):Prop :=
 ∀ (W:World) (a:ByteArray),Below w.heap.size w W→Calls Tryz.prog g (#[.string a]++lb) W fun e w'=>e=.returned (.bool (p a))∧Below W.heap.size W w'
set_option maxHeartbeats 1000000 in
theorem indexS_row (b off cap:Nat) (ss:List ByteArray) (hlen:ss.length * 16≤140737488351232) (w:World) (hb:b < w.heap.size) (hr:Hid (ReadsS w b off ss)) (g:Nat) (lb:Array Value) (eg:∀ args w,(callFunc g args).run Tryz.prog w=.ok (.enter g args) w) (p:ByteArray→Bool) (hp:Hid (TestS g lb p w)) :
  Calls Tryz.prog 96 #[.slice (some ⟨b,off,none⟩) ss.length cap,.func (.func g) #[] lb] w fun e w'=>e=.returned (.int .i64 (gidx p ss))∧Below w.heap.size w w':=by
 go_enter Tryz.func96,Tryz.ntmps96
 go_wp2
 go_loopg [5,8] ss.length (fun gg _ s8 wr=>∃ k:Nat,k≤ss.length∧ss.length - k≤gg∧s8=.int .i64 (k:Int)∧Hid (Below w.heap.size w wr)∧Hid ((ss.take k).any p=false))
 case atStart=>exact ⟨0,Nat.zero_le _,by omega,rfl,hid (Below.refl _ _),hid (by simp)⟩
 case round =>
  obtain ⟨k,hk,hg,rfl,hB,hany⟩:=hrel;by_cases hkl:k < ss.length
  ·have hki:(k:Int) < (ss.length:Int):=by omega
   obtain ⟨a,ha⟩:∃ a,ss[k]?=some a:=⟨_,List.getElem?_eq_getElem hkl⟩;have c0:wr.cell? ⟨b,off+k,none⟩=some (.string a):=(hB.out.cell (p:=⟨b,off+k,none⟩) hb).trans (hr.out k a ha);have hcall:=hid (hp.out _ a hB.out);have HA:=hid ha;clear ha;cases hq:p a with
   | true =>
    have e:=hid (gidx_at HA.out hany.out hq);rw [hq] at hcall;clear hq;go_wp2_with (go_at_fn g;refine hcall.out.mono ?_;rintro e w' ⟨rfl,hB2⟩)
    go_ret
    exact ⟨ret_val (int_val e.out.symm),hB.out.trans (hB2.mono hB.out.size)⟩
   | false =>
    have e:=hid (take_any HA.out hany.out hq);rw [hq] at hcall;clear hq;go_wp2_with (go_at_fn g;refine hcall.out.mono ?_;rintro e w' ⟨rfl,hB2⟩)
    go_roundg (ss.length - (k+1))
    case measure=>omega
    case rel=>exact ⟨k+1,by omega,by omega,by go_num,hid (hB.out.trans (hB2.mono hB.out.size)),e⟩
  ·have hki:¬ (k:Int) < (ss.length:Int):=by omega
   obtain rfl:k=ss.length:=by omega
   have e:Hid (gidx p ss=-1):=hid (gidx_none (by have:=hany.out;rwa [List.take_length] at this));go_wp2
   go_ret
   exact ⟨ret_val (int_val e.out.symm),hB.out⟩
theorem indexS_empty (a0:Option Addr) (cap:Nat) (fn:Value) (p:ByteArray→Bool) (w:World) :
  Calls Tryz.prog 96 #[.slice a0 0 cap,fn] w fun e w'=>e=.returned (.int .i64 (gidx p []))∧Below w.heap.size w w':=by
 have e:gidx p []=-1:=rfl;rw [e];go_enter Tryz.func96,Tryz.ntmps96
 go_wp2
 go_rounds 1
 go_ret
 exact ⟨rfl,Below.refl _ _⟩
theorem indexS_any {w:World} {v:Value} {ss:List ByteArray} (h:StrsIn w v ss) (g:Nat) (lb:Array Value) (eg:∀ args w,(callFunc g args).run Tryz.prog w=.ok (.enter g args) w) (p:ByteArray→Bool) (hp:TestS g lb p w) :
  Calls Tryz.prog 96 #[v,.func (.func g) #[] lb] w fun e w'=>e=.returned (.int .i64 (gidx p ss))∧Below w.heap.size w w':=by
 cases h with
 | empty a0 cap=>exact indexS_empty a0 cap _ p w
 | row b off cap _ h0 hc hb hr hlen=>exact indexS_row b off cap ss hlen w hb (hid hr) g lb eg p (hid hp)
theorem containsS_any {w:World} {v:Value} {ss:List ByteArray} (h:StrsIn w v ss) (g:Nat) (lb:Array Value) (eg:∀ args w,(callFunc g args).run Tryz.prog w=.ok (.enter g args) w) (p:ByteArray→Bool) (hp:TestS g lb p w) :
  Calls Tryz.prog 104 #[v,.func (.func g) #[] lb] w fun e w'=>e=.returned (.bool (ss.any p))∧Below w.heap.size w w':=by
 have H:=hid (indexS_any h g lb eg p hp);have hg:=hid (gidx_ge p ss);go_enter Tryz.func104,Tryz.ntmps104
 go_wp2_with (go_at_call 96;refine H.out.mono ?_;rintro e w' ⟨rfl,hB⟩)
 go_ret
 refine ⟨ret_val (bool_val ?_),hB⟩;have:=hg.out
 simpa using this
theorem eg_then1:∀ args w,(callFunc 105 args).run Tryz.prog w=.ok (.enter 105 args) w:=enters_of Tryz.func105 (by kernel_rfl) rfl
theorem then1_any (s:ByteArray) {w:World} (hG:Glob w):Calls Tryz.prog 105 #[.string s] w fun e w'=>e=.returned (.bool (!oneB s))∧Below w.heap.size w w':=by
 have H:=hid (ofOne_any s hG);clear hG;go_enter Tryz.func105,Tryz.ntmps105
 go_wp2_with (go_at_call 93;refine H.out.mono ?_;rintro e w' ⟨rfl,rfl⟩)
 go_ret
 exact ⟨rfl,Below.refl _ _⟩
theorem testS_then {w:World} (hG:Glob w):TestS 105 #[] (fun s=>!oneB s) w:=fun W s hB=>then1_any s (hG.below hB)
def splitL (s:ByteArray):List ByteArray:=Lib.splitB ⟨#[44]⟩ 0 (Lib.countB s ⟨#[44]⟩) s
theorem splitL_len (s:ByteArray):(splitL s).length=Lib.countB s ⟨#[44]⟩+1:=Lib.splitB_all ⟨#[44]⟩ (by decide) 0 _ s rfl
theorem splitL_le (s:ByteArray):(splitL s).length≤s.size+1:=by
 rw [splitL_len];have:=Lib.countB_le ⟨#[44]⟩ (by decide) s.size s (Nat.le_refl _);omega
theorem split_any (s:ByteArray) {w:World} (hG:Glob w) (hs:s.size≤1048600) :
  Calls Tryz.prog 95 #[.string s,.string ⟨#[44]⟩] w fun e w'=>Below w.heap.size w w'∧∃ v,e=.returned v∧StrsIn w' v (splitL s):=by
 obtain ⟨m,hm⟩:=hG.max;refine (Tryz.strings_Split s ⟨#[44]⟩ m w (by omega) hm (by decide)).mono ?_;rintro e w' ⟨rfl,rfl⟩;have hl:=splitL_len s;have hl2:=splitL_le s;refine ⟨(Below.refl _ w).alloc (Nat.le_refl _) _,_,rfl,?_⟩;have hn:=World.alloc_heap_new w (Obj.cells ((splitL s).map Value.string).toArray 9);have:=StrsIn.row (w:=w.alloc (Obj.cells ((splitL s).map Value.string).toArray 9)) w.heap.size 0 (Lib.countB s ⟨#[44]⟩+1) (splitL s) (by intro h;rw [h] at hl;simp at hl) (by omega) (by simp) (fun j t hj=>by
  rw [World.cell?,hn];simp [hj]) (by omega)
 rw [hl] at this
 exact_mod_cast this
def thenE (ats:List At):List ByteArray × Int :=
 match findA ats ⟨#[116,104,101,110]⟩ 3 with
 | none=>([],0)
 | some a=>if (splitL a.s).any (fun s=>!oneB s) then ([],4) else (splitL a.s,0)
theorem thenE_none {ats:List At} (h:findA ats ⟨#[116,104,101,110]⟩ 3=none):thenE ats=([],0):=by unfold thenE;rw [h]
theorem thenE_bad {ats:List At} {a:At} (h:findA ats ⟨#[116,104,101,110]⟩ 3=some a) (g:(splitL a.s).any (fun s=>!oneB s)=true):thenE ats=([],4):=by
 unfold thenE;rw [h];simp only [];rw [if_pos g]
theorem thenE_good {ats:List At} {a:At} (h:findA ats ⟨#[116,104,101,110]⟩ 3=some a) (g:(splitL a.s).any (fun s=>!oneB s)=false):thenE ats=(splitL a.s,0):=by
 unfold thenE;rw [h];simp only [];rw [if_neg (by rw [g];decide)]
attribute [local irreducible] thenE splitL findA oneB
set_option maxRecDepth 100000 in
set_option maxHeartbeats 2000000 in
theorem then_any {w:World} {v:Value} {n:Nd} (h:NodeV w v n) (hG:Glob w) :
  Calls Tryz.prog 57 #[v] w fun e w'=>Below w.heap.size w w'∧∃ v',e=.returned (.tuple #[v',.int .i64 (thenE n.attrs).2])∧StrsIn w' v' (thenE n.attrs).1:=by
 obtain ⟨vin,vat,rfl,hn⟩:=h;obtain ⟨a1,c1,rfl⟩:=hn.is.form;obtain ⟨a2,c2,rfl⟩:=hn.ia.form;have hb0:Below w.heap.size w (w.alloc (Obj.cells #[Value.string n.op,Value.string n.name,Value.slice a1 n.ins.length c1,Value.string n.out,Value.slice a2 n.attrs.length c2] 25)):=(Below.refl _ w).alloc (Nat.le_refl _) _;have HF:=hid (find_any ⟨_,_,rfl,hn.below hb0⟩ ⟨#[116,104,101,110]⟩ 3);have HB0:=hid hb0;have HG:=hid hG;clear hn hG hb0;unfold Nd.val at HF ⊢;go_enter Tryz.func57,Tryz.ntmps57
 go_wp2_with fail
 refine HF.out.mono ?_;rintro e w1 ⟨B1,va,rfl,vd,vx,vi,rfl,hna⟩;have HB1:=hid (HB0.out.trans (B1.mono HB0.out.size));obtain ⟨ad,cd,rfl⟩:=hna.id.shape;obtain ⟨ax,cx,rfl⟩:=hna.ix.shape;obtain ⟨ai,ci,rfl⟩:=hna.ii.shape;have hzs:=hna.zs;unfold At.val;clear B1 hna HF;cases hf:findA n.attrs ⟨#[116,104,101,110]⟩ 3 with
 | none =>
  have HT:=hid (thenE_none hf);clear hf;simp only [Option.isSome_none,Option.getD_none];go_wp2_with fail
  go_ret2
  rw [HT.out];exact ⟨HB1.out.alloc HB1.out.size _,_,rfl,.empty _ _⟩
 | some a =>
  rw [hf] at hzs;simp only [Option.isSome_some,Option.getD_some] at hzs ⊢;have HFA:=hid hf;clear hf;have HG1:=hid ((HG.out.below HB1.out).below ((Below.refl _ w1).alloc (Nat.le_refl _) (Obj.cells #[.string a.name,.int .i64 a.kind,.int .i64 a.f,.int .i64 a.i,.string a.s,.int .i64 a.typ,.slice ad a.dims.length cd,.slice ax a.data.length cx,.slice ai a.ints.length ci] 69)));have HB2:=hid (HB1.out.alloc HB1.out.size (Obj.cells #[.string a.name,.int .i64 a.kind,.int .i64 a.f,.int .i64 a.i,.string a.s,.int .i64 a.typ,.slice ad a.dims.length cd,.slice ax a.data.length cx,.slice ai a.ints.length ci] 69));go_wp2_with fail
  refine (split_any a.s HG1.out (by omega)).mono ?_;rintro e w2 ⟨B2,v2,rfl,hs2⟩;have HB3:=hid (HB2.out.trans (B2.mono HB2.out.size));have HG2:=hid (HG1.out.below B2);have HS2:=hid hs2;obtain ⟨a3,c3,rfl⟩:=hs2.form;clear B2 hs2;cases hb:(splitL a.s).any (fun s=>!oneB s)
  ·have HT:=hid (thenE_good HFA.out hb);have HC:=containsS_any HS2.out _ _ eg_then1 _ (testS_then HG2.out);rw [hb] at HC;have HC:=hid HC;clear hb;go_wp2_with fail
   refine HC.out.mono ?_;rintro e w3 ⟨rfl,B3⟩;have HS3:=hid (HS2.out.below B3);have HB4:=hid (HB3.out.trans (B3.mono HB3.out.size));clear B3;go_wp2_with fail
   go_ret2
   rw [HT.out];exact ⟨HB4.out,_,rfl,HS3.out⟩
  ·have HT:=hid (thenE_bad HFA.out hb);have HC:=containsS_any HS2.out _ _ eg_then1 _ (testS_then HG2.out);rw [hb] at HC;have HC:=hid HC;clear hb;go_wp2_with fail
   refine HC.out.mono ?_;rintro e w3 ⟨rfl,B3⟩;have HB4:=hid (HB3.out.trans (B3.mono HB3.out.size));clear B3;go_wp2_with fail
   go_ret2
   rw [HT.out];exact ⟨HB4.out,_,rfl,.empty _ _⟩
end Go.Proofs.YtijhdmidffenbaaGreatDoor
