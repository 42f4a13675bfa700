import Derived.Test.YtijhdmidffenbaaGreatDoorInM2rm
import Derived.Test.YtijhdmidffenbaaGreatDoorGrCrm
import Derived.Test.YtijhdmidffenbaaGreatDoorSchBrm
import Derived.Test.YtijhdmidffenbaaGreatDoorNmMrm
import Derived.Test.YtijhdmidffenbaaGreatDoorRegrm
import Derived.Test.YtijhdmidffenbaaGreatDoorVxM2rm
import Derived.Test.YtijhdmidffenbaaGreatDoorSchNdrm
import Derived.Test.YtijhdmidffenbaaGreatDoorInM3rm
import Derived.Test.YtijhdmidffenbaaGreatDoorFlM2rm
import Derived.Test.YtijhdmidffenbaaGreatDoorSrMrm
set_option linter.unusedVariables false
set_option linter.unusedSimpArgs false
namespace Go.Proofs.YtijhdmidffenbaaGreatDoor
section
open Go.RowKit
set_option maxRecDepth 100000
abbrev Tn:=Int × List Int × List Int
def tvV (t:Tn):Vl:=⟨⟨#[]⟩,t.1,t.2.1⟩
theorem tensor_at {w:World} {v:Value} {l:List Tn} (h:SlIn 3 rdTensor w v l) {j:Nat} {x:Tn} (hj:l[j]?=some x):∃ b off cap vd vx,v=.slice (some ⟨b,off,none⟩) l.length cap∧b < w.heap.size∧w.cell? ⟨b,off+j * 3,none⟩=some (.int .i64 x.1)∧w.cell? ⟨b,off+j * 3+1,none⟩=some vd∧w.cell? ⟨b,off+j * 3+2,none⟩=some vx∧InI x.1∧IntsIn w vd x.2.1∧IntsIn w vx x.2.2:=by
 obtain ⟨b,off,cap,cs,rfl,hb,_,_,⟨vd,vx,rfl,h1,h2,h3⟩,hc⟩:=h.rows j x hj;exact ⟨b,off,cap,vd,vx,rfl,hb,hc 0 _ rfl,hc 1 _ rfl,hc 2 _ rfl,h1,h2,h3⟩
theorem tensors_below {w w':World} {v:Value} {l:List Tn} (h:SlIn 3 rdTensor w v l) (hB:Below w.heap.size w w'):SlIn 3 rdTensor w' v l :=
 SlIn.below (fun cs x ⟨vd,vx,h0,h1,h2,h3⟩=>⟨vd,vx,h0,h1,h2.below hB,h3.below hB⟩) h hB
structure ValsB (w0 w:World) (B:Nat) (l:List Vl) (vv:Value) (ds:List Value):Prop where
 len:ds.length=l.length
 row:w.ownsRow B 29 3 vv l.length (rowV l ds)
 att:∀ (j:Nat) x d,l[j]?=some x→ds[j]?=some d→x.name.size≤1048576∧InI x.typ∧IntsIn w0 d x.dims
theorem ValsB.below {w0 w w':World} {B:Nat} {l:List Vl} {vv:Value} {ds:List Value} (h:ValsB w0 w B l vv ds) (hB:Below w.heap.size w w'):ValsB w0 w' B l vv ds :=
 ⟨h.len,owns_below h.row hB,h.att⟩
theorem ValsB.sl {w0 w:World} {B:Nat} {l:List Vl} {vv:Value} {ds:List Value} (h:ValsB w0 w B l vv ds) (hl:l.length≤1048575) (h0w:Below w0.heap.size w0 w):SlIn 3 rdValue w vv l:=by
 by_cases h0:l=[]
 ·subst h0;obtain ⟨a,c,rfl⟩:=owns_form h.row;exact .empty a c
 ·have hp:0 < l.length:=List.length_pos_iff.2 h0;obtain ⟨g,cap,e,hB,hg⟩:=World.ownsRow.form h.row hp;have hr:=h.row;subst e;have hblk:=(World.ownsRow.lt hr g rfl).2;have hcap:l.length≤cap:=by
   obtain ⟨_,h1 | ⟨g',cap',cur,e,_,_,hc,_⟩⟩:=hr
   ·omega
   ·obtain ⟨_,_,rfl⟩:=Value.slice.inj e;exact hc
  refine .row g 0 cap l h0 hcap hblk (fun j x hj=>?_) (by omega);have hjl:=(List.getElem?_eq_some_iff.1 hj).1;obtain ⟨d,hd⟩:∃ d,ds[j]?=some d:=⟨_,List.getElem?_eq_getElem (by rw [h.len];exact hjl)⟩;refine ⟨valC x d,rfl,⟨d,rfl,(h.att j x d hj hd).1,(h.att j x d hj hd).2.1,(h.att j x d hj hd).2.2.below h0w⟩,fun i u hu=>?_⟩;have:=World.ownsRow.cells hr (g:=g) rfl (j * 3+i) u (rowV_get hj hd hu);rw [show (⟨g,0,none⟩:Addr).add (j * 3+i)=⟨g,j * 3+i,none⟩ from by rw [add_some,Nat.zero_add]] at this;rw [show 0+j * 3+i=j * 3+i by omega];exact this
def pbAll (ts:List Tn):Bool:=ts.all fun t=>decide (pbE t.1 t.2.1 t.2.2=0)
def begO (n:Nd) (ts:List Tn) (ty:Int × Int) (ds:Int × List Int):Int × Int × List Int:=if pbAll ts=true then outP n (ts.map tvV) ty ds else (1,0,[])
theorem begO_bad {n:Nd} {ts:List Tn} {ty:Int × Int} {ds:Int × List Int} {k:Nat} {x:Tn} (hx:ts[k]?=some x) (h:pbE x.1 x.2.1 x.2.2≠0):begO n ts ty ds=(1,0,[]):=by
 unfold begO;rw [if_neg];intro c;have:=List.all_eq_true.1 c x (List.mem_of_getElem? hx);exact h (of_decide_eq_true this)
theorem begO_good {n:Nd} {ts:List Tn} {ty:Int × Int} {ds:Int × List Int} (h:pbAll ts=true):begO n ts ty ds=outP n (ts.map tvV) ty ds:=if_pos h
theorem pbAll_next {ts:List Tn} {k:Nat} {x:Tn} (hx:ts[k]?=some x) (h:pbAll (ts.take k)=true) (g:pbE x.1 x.2.1 x.2.2=0):pbAll (ts.take (k+1))=true:=by
 rw [List.take_add_one,hx];unfold pbAll at *;rw [List.all_append,h];simp [g]
theorem info_val:(Tryz.prog.info? 29).map (fun i=>(i.zero,i.size,i.bytes))=some (some (.agg #[.string ⟨#[]⟩,.int .i64 0,.slice none 0 0]),3,48):=by kernel_rfl
theorem boxn_newE {W:World} {b:Nat} {cs:Array Value} {t:TypeId} (h:b=W.heap.size):BoxN (W.alloc (.cells cs t)) b cs t:=by subst h;exact BoxN.new _ _ _
theorem put3_row {w:World} {D B0 B:Nat} {v a b c:Value} {zs:List Int} (h:RowI w D v zs) (hl:B < D) (hb:B0≤D):RowI (put3 w B a b c) B0 v zs:=by
 refine RowI.base (B:=D) ?_ hb;unfold RowI put3 at *;exact ownsRow_setCell_below (ownsRow_setCell_below (ownsRow_setCell_below h (a:=⟨B,0,none⟩) (show B < D by omega) _) (a:=⟨B,1,none⟩) (show B < D by omega) _) (a:=⟨B,2,none⟩) (show B < D by omega) _
attribute [local irreducible] cnt chk checkP inpE outP folB thenE RowI pbE begO pbAll
end
section
open Go.RowKit
set_option maxRecDepth 100000
def PlaceR (fn:Value) (w0:World) (f:List Int→Int × Int) (m:Nat) (R:List Int→Prop):Prop :=
 ∃ (g:Nat) (lb:Array Value),fn=.func (.func g) #[] lb∧(∀ args w,(callFunc g args).run Tryz.prog w=.ok (.enter g args) w) ∧
  ∀ (W:World) (v:Value) (xs:List Int),Below w0.heap.size w0 W→IntsIn W v xs→xs.length=m→R xs→Calls Tryz.prog g (#[v]++lb) W fun e w'=>e=.returned (.tuple #[.int .i64 (f xs).1,.int .i64 (f xs).2])∧Below W.heap.size W w'
theorem ints_cell {W:World} {v:Value} {xs:List Int} (h:IntsIn W v xs) {k:Nat} (hk:k < xs.length):∃ b off cap,v=.slice (some ⟨b,off,none⟩) xs.length cap∧b < W.heap.size∧W.cell? ⟨b,off+k,none⟩=some (.int .i64 (xs.getD k 0))∧InI (xs.getD k 0):=by
 obtain ⟨b,o,c,hv,hb,hr,_⟩:=h.rows hk;exact ⟨b,o,c,hv,hb,hr k hk,h.wf.2 _ (getD_mem hk)⟩
attribute [local irreducible] Fl.un Fl.bin
end
section
open Go.RowKit
set_option maxRecDepth 100000
def SpOK (W:List Int) (N:Nat) (t:Tn) (l:List Int):Prop :=
 (cnt t.2.1).2=0∧(Vx.spO 0 t.2.1 (Vx.strd t.2.1) W).1=0∧Vx.readL 0 W (Vx.spS t.2.1 (Vx.strd t.2.1) W) t.2.2=some l∧l.length=N
theorem SpOK.parts {W:List Int} {N:Nat} {t:Tn} {l:List Int} (h:SpOK W N t l):(cnt t.2.1).2=0∧(Vx.spO 0 t.2.1 (Vx.strd t.2.1) W).1=0∧Vx.readL 0 W (Vx.spS t.2.1 (Vx.strd t.2.1) W) t.2.2=some l∧l.length=N:=h
def DoR (w:World) (o:Int × Int × List Int × List Int) (e:Ending) (w':World):Prop :=
 Below w.heap.size w w'∧((o.1≠0∧e=.returned (.tuple #[.agg #[.int .i64 0,.slice none 0 0,.slice none 0 0],.int .i64 o.1])) ∨
  (o.1=0∧∃ vd vx,e=.returned (.tuple #[.agg #[.int .i64 o.2.1,vd,vx],.int .i64 0])∧RowI w' w.heap.size vd o.2.2.1∧w'.ownsRow w.heap.size 2 1 vx o.2.2.2.length (o.2.2.2.map (Value.int .i64))))
theorem DoR.no {w w':World} {o:Int × Int × List Int × List Int} {c:Int} (h:o=(c,0,[],[])) (hc:c≠0) (hB:Below w.heap.size w w'):DoR w o (.returned (.tuple #[.agg #[.int .i64 0,.slice none 0 0,.slice none 0 0],.int .i64 c])) w':=by
 subst h;exact ⟨hB,Or.inl ⟨hc,rfl⟩⟩
def nilsS (r:Nat):List Value:=List.replicate r (.slice none 0 0)
theorem info_data:(Tryz.prog.info? 44).map (fun i=>(i.zero,i.size,i.bytes))=some (some (.slice none 0 0),1,24):=by kernel_rfl
theorem info_i64:(Tryz.prog.info? 2).map (fun i=>(i.zero,i.size,i.bytes))=some (some (.int .i64 0),1,8):=by kernel_rfl
theorem run_make_datas (w:World) (r:Nat) (hr:r≤100000):(Instr.makeSlice 76 (.int .i64 (r:Int)) (.int .i64 (r:Int))).run Tryz.prog w=.ok (.slice (some ⟨w.heap.size,0,none⟩) r r) (w.alloc (.cells (nilsS r).toArray 44)):=by
 obtain ⟨i0,hi,hz0,hz1,hz2⟩:=info_parts info_data;have:=run_make (P:=Tryz.prog) w 76 44 i0 (.slice none 0 0) Tryz.underlying76 hi hz0 .i64 .i64 (r:Int) (r:Int) (by omega) (by omega) (by rw [hz2];omega) (by omega);rw [this];have e:madeCells (Value.slice none 0 0).cells (((r:Int).toNat) * i0.size)=(nilsS r).toArray:=by
  rw [hz1];refine Array.toList_inj.1 ?_;have h2:=toList_madeCells_one (.slice none 0 0) r;show _=nilsS r;unfold nilsS;rw [←h2];simp [Value.cells]
 rw [e];simp
def i64s (xs:List Int):Array Value:=(xs.map (Value.int .i64)).toArray
theorem run_make_i64s (w:World) (r:Nat) (hr:r≤100000):(Instr.makeSlice 44 (.int .i64 (r:Int)) (.int .i64 (r:Int))).run Tryz.prog w=.ok (.slice (some ⟨w.heap.size,0,none⟩) r r) (w.alloc (.cells (i64s (List.replicate r 0)) 2)):=by
 obtain ⟨i0,hi,hz0,hz1,hz2⟩:=info_parts info_i64;have:=run_make (P:=Tryz.prog) w 44 2 i0 (.int .i64 0) Tryz.underlying44 hi hz0 .i64 .i64 (r:Int) (r:Int) (by omega) (by omega) (by rw [hz2];omega) (by omega);rw [this];have e:madeCells (Value.int .i64 0).cells (((r:Int).toNat) * i0.size)=i64s (List.replicate r 0):=by
  rw [hz1];refine Array.toList_inj.1 ?_;have h2:=toList_madeCells_one (.int .i64 0) r
  simpa [i64s,Value.cells] using h2
 rw [e];simp
theorem PlaceR.parts {fn:Value} {w0:World} {f:List Int→Int × Int} {m:Nat} {R:List Int→Prop} (h:PlaceR fn w0 f m R):∃ (g:Nat) (lb:Array Value),fn=.func (.func g) #[] lb∧(∀ args w,(callFunc g args).run Tryz.prog w=.ok (.enter g args) w) ∧
  ∀ (W:World) (v:Value) (xs:List Int),Below w0.heap.size w0 W→IntsIn W v xs→xs.length=m→R xs→Calls Tryz.prog g (#[v]++lb) W fun e w'=>e=.returned (.tuple #[.int .i64 (f xs).1,.int .i64 (f xs).2])∧Below W.heap.size W w':=h
theorem i64s_at {xs:List Int} {j:Nat} (h:j < xs.length):(i64s xs)[j]?=some (.int .i64 (xs.getD j 0)):=by
 unfold i64s;rw [List.getElem?_toArray,List.getElem?_map,List.getElem?_eq_getElem h];simp [List.getD,List.getElem?_eq_getElem h]
theorem i64s_set (xs:List Int) (j:Nat) (z:Int):(i64s xs).setIfInBounds j (.int .i64 z)=i64s (xs.set j z):=by
 unfold i64s;refine Array.toList_inj.1 ?_;simp [List.map_set]
theorem owns_put3 {w:World} {B b n z:Nat} {e:TypeId} {v x0 x1 x2 u0 u1 u2:Value} {xs:List Value} {t:TypeId} (h:w.ownsRow B e z v n xs) (hb:BoxN w b #[x0,x1,x2] t) (hne:e≠t):(put3 w b u0 u1 u2).ownsRow B e z v n xs :=
 owns_heap h (fun g hg=>put3_other (owns_box h hb hne g hg))
theorem rowI_put3 {w:World} {B b:Nat} {v x0 x1 x2 u0 u1 u2:Value} {zs:List Int} (h:RowI w B v zs) (hb:BoxN w b #[x0,x1,x2] 46):RowI (put3 w b u0 u1 u2) B v zs:=by
 unfold RowI at *;exact owns_put3 h hb (by decide)
theorem strd_le:∀ {zs:List Int},(∀ d ∈ zs,1≤d∧d≤65536)→Vx.Vw.pr zs≤65536→∀ z ∈ Vx.strd zs,1≤z∧z≤65536
 | [],_,_,z,hz=>by simp [Vx.strd] at hz
 | d :: ds,h,g,z,hz=>by
  have hp:Vx.Vw.Pos ds:=fun x hx=>(h x (List.mem_cons_of_mem _ hx)).1;have h1:=Vx.Vw.pr_pos hp;have hd:=(h d (List.mem_cons_self ..)).1;rw [Vx.Vw.pr] at g;have h2:Vx.Vw.pr ds≤65536:=by
   have:=Int.mul_le_mul_of_nonneg_right hd (by omega:0≤Vx.Vw.pr ds);rw [Int.one_mul] at this;omega
  rw [Vx.strd] at hz;rcases List.mem_cons.1 hz with rfl | hz
  ·exact ⟨h1,h2⟩
  ·exact strd_le (fun x hx=>h x (List.mem_cons_of_mem _ hx)) h2 z hz
theorem strd_inI {zs:List Int} (h:(cnt zs).2=0):∀ z ∈ Vx.strd zs,InI z:=fun z hz=>by
 obtain ⟨h1,-,-,h4⟩:=Vx.cnt_good h;have:=strd_le h1 h4 z hz;unfold InI;omega
attribute [local irreducible] cnt chk checkP inpE outP folB thenE RowI pbE begO pbAll rowV nilsS i64s Vx.spO Vx.spS Vx.strd Vx.readL SpOK PlaceR
end
section
open Go.RowKit
set_option maxRecDepth 100000
theorem outP_yes {n:Nd} {ins:List Vl} {ty:Int × Int} {ds:Int × List Int} (h:(outP n ins ty ds).1=0):checkP n=0∧ins.length=n.ins.length∧inpE ins=0∧ty.1=0∧ds.1=0∧(cnt ds.2).2=0∧outP n ins ty ds=(0,ty.2,ds.2):=by
 unfold outP at *;split at h
 ·rename_i g;exact absurd h g
 rename_i g1;rw [if_neg g1]
 split at h
 ·exact absurd h (by decide)
 rename_i g2;rw [if_neg g2]
 split at h
 ·rename_i g;exact absurd h g
 rename_i g3;rw [if_neg g3]
 unfold restP at *;split at h
 ·rename_i g;exact absurd h g
 rename_i g4;rw [if_neg g4]
 split at h
 ·rename_i g;exact absurd h g
 rename_i g5;rw [if_neg g5]
 split at h
 ·rename_i g;exact absurd h g
 rename_i g6;rw [if_neg g6]
 split at h
 ·exact absurd h (by decide)
 rename_i g7;rw [if_neg g7]
 exact ⟨by simpa using g1,by simpa using g2,by simpa using g3,by simpa using g4,by simpa using g5,by simpa using g6,rfl⟩
theorem begO_yes {n:Nd} {ts:List Tn} {ty:Int × Int} {ds:Int × List Int} (h:(begO n ts ty ds).1=0):pbAll ts=true∧(outP n (ts.map tvV) ty ds).1=0∧begO n ts ty ds=outP n (ts.map tvV) ty ds:=by
 unfold begO at *;split at h
 ·rename_i g;rw [if_pos g];exact ⟨g,h,rfl⟩
 ·exact absurd h (by decide)
theorem pbE_zero {t:Int} {d x:List Int} (h:pbE t d x=0):chk t 0=true∧(cnt d).2=0∧(x.length:Int)=Vx.Vw.pr d∧∀ z ∈ x,chk t z=true:=by
 unfold pbE at h;split at h
 ·exact absurd h (by decide)
 rename_i g1
 split at h
 ·rename_i g;exact absurd h g
 rename_i g2
 split at h
 ·exact absurd h (by decide)
 rename_i g3
 split at h
 ·exact absurd h (by decide)
 rename_i g4
 have g2':(cnt d).2=0:=by simpa using g2
 refine ⟨by simpa using g1,g2',?_,fun z hz=>?_⟩
 ·rw [←(Vx.cnt_good g2').2.2.1];simpa using g3
 ·have g4':∀ z ∈ x,chk t z=true:=by simpa using g4
  exact g4' z hz
theorem pbAll_mem {ts:List Tn} (h:pbAll ts=true) {t:Tn} (ht:t ∈ ts):pbE t.1 t.2.1 t.2.2=0:=of_decide_eq_true (List.all_eq_true.1 h t ht)
attribute [local irreducible] cnt chk checkP inpE outP folB thenE RowI pbE begO pbAll SpOK Fl.bin Fl.un typU Vb.bcO
theorem node_belowV {w W:World} {vn:Value} {n:Nd} (h:NodeV w vn n) (hB:Below w.heap.size w W):NodeV W vn n:=by
 obtain ⟨vin,vat,rfl,hm⟩:=h;exact ⟨vin,vat,rfl,hm.below hB⟩
end
section
open Go.RowKit
theorem okW_eq (x:Int):okW x=Fl.okF x:=by
 unfold okW Fl.okF;by_cases h:0≤x∧x < 4294967296
 ·obtain ⟨n,rfl⟩:∃ n:Nat,x=(n:Int):=⟨x.toNat,by omega⟩;have e1:bits .and .i64 (n:Int) 2139095040=((n &&& 2139095040:Nat):Int):=Fl.bits_and_nat (b:=2139095040) (by omega) (by decide);have e2:bits .and .i64 (n:Int) 8388607=((n &&& 8388607:Nat):Int):=Fl.bits_and_nat (b:=8388607) (by omega) (by decide);rw [e1,e2,Fl.and_frac];have h3:=Fl.and_inf (x:=n);have d1:decide ((n:Int) / 4294967296=0)=true:=decide_eq_true (by omega);have d2:decide (0≤(n:Int)∧(n:Int) < 4294967296)=true:=decide_eq_true h;have d3:decide (((n &&& 2139095040:Nat):Int)=2139095040)=decide (n / 8388608 % 256=255):=decide_eq_decide.2 (by rw [←h3];omega);have d4:decide (((n % 8388608:Nat):Int)=0)=decide (n % 8388608=0):=decide_eq_decide.2 (by omega);rw [d1,d2,d3,d4];unfold Fl.isN;rw [Int.toNat_natCast,Fl.isNaN_bits];by_cases g:n % 8388608=0<;>by_cases g':(n:Int)=2143289344<;>simp [g,g']
 ·have d1:decide (x / 4294967296=0)=false:=decide_eq_false (by omega);have d2:decide (0≤x∧x < 4294967296)=false:=decide_eq_false h;rw [d1,d2,Bool.false_and,Bool.false_and]
theorem chk_fl (t x:Int):chk t x=Fl.chk t x:=by unfold chk Fl.chk;rw [okW_eq]
theorem pbE_of {t:Int} {d x:List Int} (h:chk t 0=true) (hc:(cnt d).2=0) (hl:(x.length:Int)=Vx.Vw.pr d) (hx:∀ z ∈ x,chk t z=true):pbE t d x=0:=by
 refine pbE_good h hc (by rw [(Vx.cnt_good hc).2.2.1];exact hl) ?_;rw [List.any_eq_false];intro z hz;rw [hx z hz];decide
end
section
open Go.RowKit
set_option maxRecDepth 100000
theorem strs_boxE {W:World} {b:Nat} {cs:Array Value} {t:TypeId} {ss:List ByteArray} (h:BoxN W b cs t) (e:cs.toList=ss.map Value.string) (h0:ss≠[]) (hl:ss.length≤1000):StrsIn W (.slice (some ⟨b,0,none⟩) ss.length ss.length) ss:=by
 refine .row b 0 ss.length ss h0 (Nat.le_refl _) h.lt (fun j s hj=>?_) (by omega);have:cs[j]?=some (.string s):=by rw [←Array.getElem?_toList,e,List.getElem?_map,hj];rfl
 simpa using h.cell j this
theorem ints_boxE {W:World} {b:Nat} {cs:Array Value} {t:TypeId} {zs:List Int} (h:BoxN W b cs t) (e:cs.toList=zs.map (Value.int .i64)) (h0:zs≠[]) (hl:zs.length≤1000) (hi:∀ z ∈ zs,InI z):IntsIn W (.slice (some ⟨b,0,none⟩) zs.length zs.length) zs:=by
 refine .row b 0 zs.length zs h0 (Nat.le_refl _) h.lt (fun j hj=>?_) (by omega) hi;have:cs[j]?=some (.int .i64 (zs.getD j 0)):=by
  rw [←Array.getElem?_toList,e,List.getElem?_map,List.getElem?_eq_getElem hj];simp [List.getD,List.getElem?_eq_getElem hj]
 simpa using h.cell j this
theorem tens_two {W:World} {b:Nat} {t:TypeId} {x y:Tn} {dx xx dy xy:Value} (h:BoxN W b #[.int .i64 x.1,dx,xx,.int .i64 y.1,dy,xy] t)
  (hx:InI x.1∧IntsIn W dx x.2.1∧IntsIn W xx x.2.2) (hy:InI y.1∧IntsIn W dy y.2.1∧IntsIn W xy y.2.2):SlIn 3 rdTensor W (.slice (some ⟨b,0,none⟩) 2 2) [x,y]:=by
 refine .row b 0 2 [x,y] (by simp) (by simp) h.lt (fun j z hj=>?_) (by simp)
 match j,hj with
 | 0,hj =>
  obtain rfl:=Option.some.inj hj;exact ⟨[.int .i64 x.1,dx,xx],rfl,⟨dx,xx,rfl,hx⟩,fun i u hu=>by
   match i,hu with
   | 0,hu=>obtain rfl:=Option.some.inj hu;simpa using h.cell 0 rfl
   | 1,hu=>obtain rfl:=Option.some.inj hu;simpa using h.cell 1 rfl
   | 2,hu=>obtain rfl:=Option.some.inj hu;simpa using h.cell 2 rfl⟩
 | 1,hj =>
  obtain rfl:=Option.some.inj hj;exact ⟨[.int .i64 y.1,dy,xy],rfl,⟨dy,xy,rfl,hy⟩,fun i u hu=>by
   match i,hu with
   | 0,hu=>obtain rfl:=Option.some.inj hu;simpa using h.cell 3 rfl
   | 1,hu=>obtain rfl:=Option.some.inj hu;simpa using h.cell 4 rfl
   | 2,hu=>obtain rfl:=Option.some.inj hu;simpa using h.cell 5 rfl⟩
theorem tens_one {W:World} {b:Nat} {t:TypeId} {x:Tn} {dx xx:Value} (h:BoxN W b #[.int .i64 x.1,dx,xx] t)
  (hx:InI x.1∧IntsIn W dx x.2.1∧IntsIn W xx x.2.2):SlIn 3 rdTensor W (.slice (some ⟨b,0,none⟩) 1 1) [x]:=by
 refine .row b 0 1 [x] (by simp) (by simp) h.lt (fun j z hj=>?_) (by simp)
 match j,hj with
 | 0,hj =>
  obtain rfl:=Option.some.inj hj;exact ⟨[.int .i64 x.1,dx,xx],rfl,⟨dx,xx,rfl,hx⟩,fun i u hu=>by
   match i,hu with
   | 0,hu=>obtain rfl:=Option.some.inj hu;simpa using h.cell 0 rfl
   | 1,hu=>obtain rfl:=Option.some.inj hu;simpa using h.cell 1 rfl
   | 2,hu=>obtain rfl:=Option.some.inj hu;simpa using h.cell 2 rfl⟩
def SomeB (w:World) (e:Ending) (w':World):Prop:=(∃ b,e=.returned (.bool b))∧Below w.heap.size w w'
end
section
open Go.RowKit
set_option maxRecDepth 100000
theorem blk_keep {W:World} {b:Nat} {o:Obj} (h:W.heap[b]?=some o) (o':Obj):(W.alloc o').heap[b]?=some o:=by
 have hb:b < W.heap.size:=(Array.getElem?_eq_some_iff.1 h).1;exact ((((Below.refl W.heap.size W).alloc (Nat.le_refl _) o').block b hb)).trans h
theorem allocs1 {w W:World} {o1:Obj} (h:World.alloc w o1=W):Below w.heap.size w W∧W.heap.size=w.heap.size+1∧W.heap[w.heap.size]?=some o1:=by
 subst h;exact ⟨(Below.refl _ _).alloc (Nat.le_refl _) _,by simp,World.alloc_heap_new _ _⟩
theorem allocs2 {w W:World} {o1 o2:Obj} (h:World.alloc (World.alloc w o1) o2=W):Below w.heap.size w W∧W.heap.size=w.heap.size+1+1∧W.heap[w.heap.size]?=some o1∧W.heap[w.heap.size+1]?=some o2:=by
 subst h;obtain ⟨hB,hS,h1⟩:=allocs1 (w:=w) (o1:=o1) rfl;have hn:=World.alloc_heap_new (World.alloc w o1) o2;rw [hS] at hn;exact ⟨hB.alloc (by rw [hS];omega) _,by simp,blk_keep h1 _,hn⟩
theorem allocs3 {w W:World} {o1 o2 o3:Obj} (h:World.alloc (World.alloc (World.alloc w o1) o2) o3=W):Below w.heap.size w W∧W.heap.size=w.heap.size+1+1+1∧W.heap[w.heap.size]?=some o1∧W.heap[w.heap.size+1]?=some o2∧W.heap[w.heap.size+1+1]?=some o3:=by
 subst h;obtain ⟨hB,hS,h1,h2⟩:=allocs2 (w:=w) (o1:=o1) (o2:=o2) rfl;have hn:=World.alloc_heap_new (World.alloc (World.alloc w o1) o2) o3;rw [hS] at hn;exact ⟨hB.alloc (by rw [hS];omega) _,by simp,blk_keep h1 _,blk_keep h2 _,hn⟩
theorem allocs4 {w W:World} {o1 o2 o3 o4:Obj} (h:World.alloc (World.alloc (World.alloc (World.alloc w o1) o2) o3) o4=W):Below w.heap.size w W∧W.heap.size=w.heap.size+1+1+1+1∧W.heap[w.heap.size]?=some o1∧W.heap[w.heap.size+1]?=some o2∧W.heap[w.heap.size+1+1]?=some o3∧W.heap[w.heap.size+1+1+1]?=some o4:=by
 subst h;obtain ⟨hB,hS,h1,h2,h3⟩:=allocs3 (w:=w) (o1:=o1) (o2:=o2) (o3:=o3) rfl;have hn:=World.alloc_heap_new (World.alloc (World.alloc (World.alloc w o1) o2) o3) o4;rw [hS] at hn;exact ⟨hB.alloc (by rw [hS];omega) _,by simp,blk_keep h1 _,blk_keep h2 _,blk_keep h3 _,hn⟩
theorem allocs5 {w W:World} {o1 o2 o3 o4 o5:Obj} (h:World.alloc (World.alloc (World.alloc (World.alloc (World.alloc w o1) o2) o3) o4) o5=W):Below w.heap.size w W∧W.heap.size=w.heap.size+1+1+1+1+1∧W.heap[w.heap.size]?=some o1∧W.heap[w.heap.size+1]?=some o2∧W.heap[w.heap.size+1+1]?=some o3∧W.heap[w.heap.size+1+1+1]?=some o4∧W.heap[w.heap.size+1+1+1+1]?=some o5:=by
 subst h;obtain ⟨hB,hS,h1,h2,h3,h4⟩:=allocs4 (w:=w) (o1:=o1) (o2:=o2) (o3:=o3) (o4:=o4) rfl;have hn:=World.alloc_heap_new (World.alloc (World.alloc (World.alloc (World.alloc w o1) o2) o3) o4) o5;rw [hS] at hn;exact ⟨hB.alloc (by rw [hS];omega) _,by simp,blk_keep h1 _,blk_keep h2 _,blk_keep h3 _,blk_keep h4 _,hn⟩
theorem allocs6 {w W:World} {o1 o2 o3 o4 o5 o6:Obj} (h:World.alloc (World.alloc (World.alloc (World.alloc (World.alloc (World.alloc w o1) o2) o3) o4) o5) o6=W):Below w.heap.size w W∧W.heap.size=w.heap.size+1+1+1+1+1+1∧W.heap[w.heap.size]?=some o1∧W.heap[w.heap.size+1]?=some o2∧W.heap[w.heap.size+1+1]?=some o3∧W.heap[w.heap.size+1+1+1]?=some o4∧W.heap[w.heap.size+1+1+1+1]?=some o5∧W.heap[w.heap.size+1+1+1+1+1]?=some o6:=by
 subst h;obtain ⟨hB,hS,h1,h2,h3,h4,h5⟩:=allocs5 (w:=w) (o1:=o1) (o2:=o2) (o3:=o3) (o4:=o4) (o5:=o5) rfl;have hn:=World.alloc_heap_new (World.alloc (World.alloc (World.alloc (World.alloc (World.alloc w o1) o2) o3) o4) o5) o6;rw [hS] at hn;exact ⟨hB.alloc (by rw [hS];omega) _,by simp,blk_keep h1 _,blk_keep h2 _,blk_keep h3 _,blk_keep h4 _,blk_keep h5 _,hn⟩
theorem allocs7 {w W:World} {o1 o2 o3 o4 o5 o6 o7:Obj} (h:World.alloc (World.alloc (World.alloc (World.alloc (World.alloc (World.alloc (World.alloc w o1) o2) o3) o4) o5) o6) o7=W):Below w.heap.size w W∧W.heap.size=w.heap.size+1+1+1+1+1+1+1∧W.heap[w.heap.size]?=some o1∧W.heap[w.heap.size+1]?=some o2∧W.heap[w.heap.size+1+1]?=some o3∧W.heap[w.heap.size+1+1+1]?=some o4∧W.heap[w.heap.size+1+1+1+1]?=some o5∧W.heap[w.heap.size+1+1+1+1+1]?=some o6∧W.heap[w.heap.size+1+1+1+1+1+1]?=some o7:=by
 subst h;obtain ⟨hB,hS,h1,h2,h3,h4,h5,h6⟩:=allocs6 (w:=w) (o1:=o1) (o2:=o2) (o3:=o3) (o4:=o4) (o5:=o5) (o6:=o6) rfl;have hn:=World.alloc_heap_new (World.alloc (World.alloc (World.alloc (World.alloc (World.alloc (World.alloc w o1) o2) o3) o4) o5) o6) o7;rw [hS] at hn;exact ⟨hB.alloc (by rw [hS];omega) _,by simp,blk_keep h1 _,blk_keep h2 _,blk_keep h3 _,blk_keep h4 _,blk_keep h5 _,blk_keep h6 _,hn⟩
def HiB (B:Nat) (v:Value):Prop:=∀ b o n c,v=.slice (some ⟨b,o,none⟩) n c→B≤b
theorem HiB.none (B n c:Nat):HiB B (.slice none n c):=fun b o m d h=>by cases h
theorem HiB.owns {w:World} {B n:Nat} {e:TypeId} {v:Value} {xs:List Value} (h:w.ownsRow B e 1 v n xs):HiB B v:=fun b o m d hv=>by
 rcases h.2 with ⟨rfl,_⟩ | ⟨g',cap',cur',rfl,hb,_⟩
 ·cases hv
 ·obtain ⟨e1,-,-⟩:=Value.slice.inj hv;obtain ⟨rfl,-⟩:g'=b∧0=o:=by simpa using e1
  exact hb
theorem DoR.uni {w w':World} {o:Int × Int × List Int × List Int} {e:Ending} (h:DoR w o e w') (h0:o.1≠0→o.2=(0,[],[])) (hd:o.1=0→(o.2.2.1.length≤1000∧∀ z ∈ o.2.2.1,InI z)∧(o.2.2.2.length≤100000∧∀ z ∈ o.2.2.2,InI z)) :
  ∃ vd vx,e=.returned (.tuple #[.agg #[.int .i64 o.2.1,vd,vx],.int .i64 o.1])∧IntsIn w' vd o.2.2.1∧IntsIn w' vx o.2.2.2∧(HiB w.heap.size vd∧HiB w.heap.size vx)∧Below w.heap.size w w':=by
 obtain ⟨hB,⟨hne,rfl⟩ | ⟨hz,vd,vx,rfl,h1,h2⟩⟩:=h
 ·obtain ⟨a,b,c,d⟩:=o;have:=h0 hne;simp only [Prod.mk.injEq] at this;obtain ⟨rfl,rfl,rfl⟩:=this;exact ⟨_,_,rfl,.empty none 0,.empty none 0,⟨HiB.none _ _ _,HiB.none _ _ _⟩,hB⟩
 ·obtain ⟨⟨a1,a2⟩,b1,b2⟩:=hd hz;exact ⟨vd,vx,by rw [hz],h1.ints (by omega) a2,IntsIn.of_owns h2 (by omega) b2,⟨HiB.owns h1,HiB.owns h2⟩,hB⟩
def UniR (w:World) (o:Int × Int × List Int × List Int) (e:Ending) (w':World):Prop :=
 ∃ vd vx,e=.returned (.tuple #[.agg #[.int .i64 o.2.1,vd,vx],.int .i64 o.1])∧IntsIn w' vd o.2.2.1∧IntsIn w' vx o.2.2.2∧(HiB w.heap.size vd∧HiB w.heap.size vx)∧Below w.heap.size w w'
theorem UniR.out {w w':World} {c t:Int} {d x:List Int} {e:Ending} (h:UniR w (c,t,d,x) e w'):∃ vd vx,e=.returned (.tuple #[.agg #[.int .i64 t,vd,vx],.int .i64 c])∧IntsIn w' vd d∧IntsIn w' vx x∧(HiB w.heap.size vd∧HiB w.heap.size vx)∧Below w.heap.size w w':=h
theorem tens_mem {w:World} {v:Value} {l:List Tn} (h:SlIn 3 rdTensor w v l) {x:Tn} (hx:x ∈ l):InI x.1∧∀ z ∈ x.2.2,InI z:=by
 obtain ⟨j,hj⟩:=List.getElem?_of_mem hx;obtain ⟨b,off,cap,vd,vx,-,-,-,-,-,h1,h2,h3⟩:=tensor_at h hj;exact ⟨h1,h3.wf.2⟩
theorem box_of {W:World} {b:Nat} {cs:Array Value} {t:TypeId} (h:W.heap[b]?=some (.cells cs t)):BoxN W b cs t:=h
end
section
open Go.RowKit
set_option maxRecDepth 100000
def TensV (w:World) (v:Value) (x:Tn):Prop:=∃ vd vx,v=.agg #[.int .i64 x.1,vd,vx]∧InI x.1∧IntsIn w vd x.2.1∧IntsIn w vx x.2.2
end
end Go.Proofs.YtijhdmidffenbaaGreatDoor
