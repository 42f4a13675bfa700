import Derived.Test.YtijhdmidffenbaaGreatDoorElM3rm
import Derived.Test.YtijhdmidffenbaaGreatDoorRegrm
import Derived.Test.YtijhdmidffenbaaGreatDoorElMec
import Derived.Test.YtijhdmidffenbaaGreatDoorElMrm
import Derived.Test.YtijhdmidffenbaaGreatDoorNmM2rm
import Derived.Test.YtijhdmidffenbaaGreatDoorEpCec
import Derived.Test.YtijhdmidffenbaaGreatDoorFlM2rm
import Derived.Test.YtijhdmidffenbaaGreatDoorInM1rm
open Go.Lib (hid)
set_option linter.unusedVariables false
set_option linter.unusedSimpArgs false
namespace Go.Proofs.YtijhdmidffenbaaGreatDoor
section
open Go
section
variable {P:Program} {ops:Array Oper} {Q:Exit→Act→World→Prop} {md:Region.Mode} {S:World→Prop} {n:Nat}
inductive PlT
 | tail
 | read (i:Nat) (p:PlT)
 | act (i:Nat) (p:PlT)
 | two (i:Nat) (p:PlT) (j:Nat) (q:PlT)
 | three (i:Nat) (p:PlT) (j:Nat) (q:PlT) (k:Nat) (r:PlT)
def PlT.reads:List Nat→PlT→PlT
 | [],p=>p
 | i :: l,p=>.read i (PlT.reads l p)
def PlT.len:PlT→Nat
 | .tail=>0
 | .read _ p=>p.len+1
 | .act _ p=>p.len+1
 | .two _ p _ q=>p.len+1
 | .three _ p _ q _ r=>p.len+1
def wpTreeT (P:Program) (md:Region.Mode) (ops:Array Oper) (Q:Exit→Act→World→Prop) (S:World→Prop) (n:Nat):PlT→Act→World→Prop
 | .tail,a,w=>wpList P ops Q (ops.toList.drop n) a w
 | .read i p,a,w =>
  match ops[i]? with
  | none=>False
  | some o=>∃ v,YieldsIf P ops S o v a∧wpTreeT P md ops Q S n p (a.put o.dst v) w
 | .act i p,a,w=>wpOp P ops Q i (fun a' w'=>S w'∧wpTreeT P md ops Q S n p a' w') a w
 | .two i p j q,a,w=>wpOp P ops Q i (fun a' w'=>S w'∧wpTreeT P md ops Q S n p a' w') a w∧wpOp P ops Q j (fun a' w'=>S w'∧wpTreeT P md ops Q S n q a' w') a w
 | .three i p j q k r,a,w=>wpOp P ops Q i (fun a' w'=>S w'∧wpTreeT P md ops Q S n p a' w') a w∧wpOp P ops Q j (fun a' w'=>S w'∧wpTreeT P md ops Q S n q a' w') a w∧wpOp P ops Q k (fun a' w'=>S w'∧wpTreeT P md ops Q S n r a' w') a w
def treeTB (md:Region.Mode) (ops:Array Oper) (n:Nat):PlT→Array Bool→Bool
 | .tail,listed=>Region.seqB md ops (ops.size - n) n listed
 | .read i p,listed=>decide (i < n)&&((Region.ready md ops listed).contains i&&Region.free md ops listed i)&&treeTB md ops n p (listed.setIfInBounds i true)
 | .act i p,listed=>decide (i < n)&&decide (Region.ready md ops listed=[i])&&treeTB md ops n p (listed.setIfInBounds i true)
 | .two i p j q,listed=>decide (i < n)&&decide (j < n)&&decide (Region.ready md ops listed=[i,j])&&decide (p.len=q.len)&&treeTB md ops n p (listed.setIfInBounds i true)&&treeTB md ops n q (listed.setIfInBounds j true)
 | .three i p j q k r,listed=>decide (i < n)&&decide (j < n)&&decide (k < n)&&decide (Region.ready md ops listed=[i,j,k])&&decide (p.len=q.len)&&decide (p.len=r.len)&&treeTB md ops n p (listed.setIfInBounds i true)&&treeTB md ops n q (listed.setIfInBounds j true)&&treeTB md ops n r (listed.setIfInBounds k true)
theorem wpAnyP_of_treeT (hsel:Region.noSelect ops=true) (hs:Region.sinkB md ops n=true) (hc:Region.chainB md ops n=true) (hn:n < ops.size)
  (hQ:∀ c (d:Option Tmp) (v:Value) a w,Q (.panic c) (a.put d v) w→Q (.panic c) a w) :
  ∀ (pl:PlT) (listed:Array Bool) (a:Act) (w:World),HeadInv md ops n listed→treeTB md ops n pl listed=true→S w→wpTreeT P md ops Q S n pl a w →
   wpAnyP P md ops Q S n (pl.len+(ops.size - n)) listed a w
 | .tail,listed,a,w,inv,hB,hS,h=>by
  have h1:=wpAnyP_of_seq (S:=S) (n:=n) (ops.toList.drop n) n listed a w (Nat.le_refl _) (fun j=>by simp [List.getElem?_drop]) (by simpa [treeTB] using hB) h
  simpa [PlT.len] using h1
 | .read i p,listed,a,w,inv,hB,hS,h=>by
  unfold treeTB at hB;unfold wpTreeT at h;simp only [Bool.and_eq_true,decide_eq_true_eq] at hB;obtain ⟨⟨hin,hr⟩,hB'⟩:=hB;cases ho:ops[i]? with
  | none=>rw [ho] at h;exact h.elim
  | some o =>
   rw [ho] at h;obtain ⟨v,hy,h⟩:=h;have hr':i ∈ Region.ready md ops listed:=by simpa using hr.1
   rw [show PlT.len (.read i p)+(ops.size - n)=(p.len+(ops.size - n))+1 by rw [PlT.len];omega];exact wpAnyP_first ho (Region.noSelect_spec hsel) hs hc hn hin (fun c a w h=>hQ c _ _ a w h) _ listed a w inv (Region.free_spec ho hr.2) hr' hy hS
    (wpAnyP_of_treeT hsel hs hc hn hQ p _ _ w (inv.set hr' hin) hB' hS h)
 | .act i p,listed,a,w,inv,hB,hS,h=>by
  unfold treeTB at hB;unfold wpTreeT at h;simp only [Bool.and_eq_true,decide_eq_true_eq] at hB;obtain ⟨⟨hin,hr⟩,hB'⟩:=hB;rw [show PlT.len (.act i p)+(ops.size - n)=(p.len+(ops.size - n))+1 by rw [PlT.len];omega];refine ⟨fun h1=>(by rw [hr] at h1;cases h1),fun j hj=>?_⟩;have hj':=hj;rw [hr] at hj;obtain rfl:j=i:=by simpa using hj
  exact wpOp_mono (fun a' w' h'=>⟨fun _=>h'.1,wpAnyP_of_treeT hsel hs hc hn hQ p _ a' w' (inv.set hj' hin) hB' h'.1 h'.2⟩) h
 | .two i p k q,listed,a,w,inv,hB,hS,h=>by
  unfold treeTB at hB;unfold wpTreeT at h;simp only [Bool.and_eq_true,decide_eq_true_eq] at hB;obtain ⟨⟨⟨⟨⟨hin,hkn⟩,hr⟩,hl⟩,hp⟩,hq⟩:=hB;rw [show PlT.len (.two i p k q)+(ops.size - n)=(p.len+(ops.size - n))+1 by rw [PlT.len];omega];refine ⟨fun h1=>(by rw [hr] at h1;cases h1),fun j hj=>?_⟩;have hj':=hj;rw [hr] at hj;rcases List.mem_cons.1 hj with rfl | hj
  ·exact wpOp_mono (fun a' w' h'=>⟨fun _=>h'.1,wpAnyP_of_treeT hsel hs hc hn hQ p _ a' w' (inv.set hj' hin) hp h'.1 h'.2⟩) h.1
  ·obtain rfl:j=k:=by simpa using hj
   rw [hl];exact wpOp_mono (fun a' w' h'=>⟨fun _=>h'.1,wpAnyP_of_treeT hsel hs hc hn hQ q _ a' w' (inv.set hj' hkn) hq h'.1 h'.2⟩) h.2
 | .three i p k q m r,listed,a,w,inv,hB,hS,h=>by
  unfold treeTB at hB;unfold wpTreeT at h;simp only [Bool.and_eq_true,decide_eq_true_eq] at hB;obtain ⟨⟨⟨⟨⟨⟨⟨⟨hin,hkn⟩,hmn⟩,hr⟩,hl⟩,hl2⟩,hp⟩,hq⟩,hq2⟩:=hB;rw [show PlT.len (.three i p k q m r)+(ops.size - n)=(p.len+(ops.size - n))+1 by rw [PlT.len];omega];refine ⟨fun h1=>(by rw [hr] at h1;cases h1),fun j hj=>?_⟩;have hj':=hj;rw [hr] at hj;rcases List.mem_cons.1 hj with rfl | hj
  ·exact wpOp_mono (fun a' w' h'=>⟨fun _=>h'.1,wpAnyP_of_treeT hsel hs hc hn hQ p _ a' w' (inv.set hj' hin) hp h'.1 h'.2⟩) h.1
  rcases List.mem_cons.1 hj with rfl | hj
  ·rw [hl];exact wpOp_mono (fun a' w' h'=>⟨fun _=>h'.1,wpAnyP_of_treeT hsel hs hc hn hQ q _ a' w' (inv.set hj' hkn) hq h'.1 h'.2⟩) h.2.1
  ·obtain rfl:j=m:=by simpa using hj
   rw [hl2];exact wpOp_mono (fun a' w' h'=>⟨fun _=>h'.1,wpAnyP_of_treeT hsel hs hc hn hQ r _ a' w' (inv.set hj' hmn) hq2 h'.1 h'.2⟩) h.2.2
def treeTOk (md:Region.Mode) (ops:Array Oper) (n:Nat) (pl:PlT):Bool :=
 Region.noSelect ops&&decide (n < ops.size)&&Region.sinkB md ops n&&Region.chainB md ops n&&treeTB md ops n pl (Array.replicate ops.size false)&&decide (pl.len=n)
theorem wp_region_treeT {id:Nat} {a:Act} {w:World} (n:Nat) (pl:PlT) (S:World→Prop) (hm:P.follows .mixedOrders=true) (hB:treeTOk .any ops n pl=true)
  (hQ:∀ c (d:Option Tmp) (v:Value) a w,Q (.panic c) (a.put d v) w→Q (.panic c) a w) (hS:S w.drew) (h:wpTreeT P .any ops Q S n pl a w.drew):(Code.region id ops true).wp P Q a w:=by
 simp only [treeTOk,Bool.and_eq_true,decide_eq_true_eq] at hB;obtain ⟨⟨⟨⟨⟨hsel,hn⟩,hs⟩,hc⟩,hp⟩,hl⟩:=hB;have inv0:HeadInv .any ops n (Array.replicate ops.size false) :=
  ⟨by simp,fun j oj _ hl=>(by rw [getD_replicate_false] at hl;cases hl),fun t _ ht=>Go.getD_in (by simpa using ht) (getD_replicate_false _ _)⟩
 have H:=wpAnyP_of_treeT hsel hs hc hn hQ pl _ a w.drew inv0 hp hS h;rw [hl,show n+(ops.size - n)=ops.size by omega] at H;exact wp_region_any hm (wpAny_of_P _ _ _ _ H)
theorem treeT_read {i:Nat} {p:PlT} {o:Oper} {v:Value} {a:Act} {w:World} (ho:ops[i]?=some o) (hy:YieldsIf P ops S o v a) (h:wpTreeT P md ops Q S n p (a.put o.dst v) w):wpTreeT P md ops Q S n (.read i p) a w:=by
 unfold wpTreeT;rw [ho];exact ⟨v,hy,h⟩
theorem treeT_act {i:Nat} {p:PlT} {o:Oper} {a:Act} {w:World} (ho:ops[i]?=some o)
  (h:∀ K':Act→World→Prop,Shut (∀ a w,S w→wpTreeT P md ops Q S n p a w→K' a w)→if Region.wanted o (yielded ops a.tmps)=true then Oper.wp P o a w K' Q else K' (a.put o.dst undef) w):wpTreeT P md ops Q S n (.act i p) a w:=by
 unfold wpTreeT;exact wpOp_step ho (fun K' hK=>h K' (fun a w hS hW=>hK a w ⟨hS,hW⟩))
theorem treeT_two {i j:Nat} {p q:PlT} {o u:Oper} {a:Act} {w:World} (ho:ops[i]?=some o) (hu:ops[j]?=some u)
  (h:∀ K':Act→World→Prop,Shut (∀ a w,S w→wpTreeT P md ops Q S n p a w→K' a w)→if Region.wanted o (yielded ops a.tmps)=true then Oper.wp P o a w K' Q else K' (a.put o.dst undef) w)
  (g:∀ K':Act→World→Prop,Shut (∀ a w,S w→wpTreeT P md ops Q S n q a w→K' a w)→if Region.wanted u (yielded ops a.tmps)=true then Oper.wp P u a w K' Q else K' (a.put u.dst undef) w):wpTreeT P md ops Q S n (.two i p j q) a w:=by
 unfold wpTreeT;exact ⟨wpOp_step ho (fun K' hK=>h K' (fun a w hS hW=>hK a w ⟨hS,hW⟩)),wpOp_step hu (fun K' hK=>g K' (fun a w hS hW=>hK a w ⟨hS,hW⟩))⟩
theorem treeT_tail {a:Act} {w:World} {l:List Oper} (hl:ops.toList.drop n=l) (h:wpList P ops Q l a w):wpTreeT P md ops Q S n .tail a w:=by
 subst hl;exact h
theorem treeT_three {i j k:Nat} {p q r:PlT} {o u z:Oper} {a:Act} {w:World} (ho:ops[i]?=some o) (hu:ops[j]?=some u) (hz:ops[k]?=some z)
  (h:∀ K':Act→World→Prop,Shut (∀ a w,S w→wpTreeT P md ops Q S n p a w→K' a w)→if Region.wanted o (yielded ops a.tmps)=true then Oper.wp P o a w K' Q else K' (a.put o.dst undef) w)
  (g:∀ K':Act→World→Prop,Shut (∀ a w,S w→wpTreeT P md ops Q S n q a w→K' a w)→if Region.wanted u (yielded ops a.tmps)=true then Oper.wp P u a w K' Q else K' (a.put u.dst undef) w)
  (f:∀ K':Act→World→Prop,Shut (∀ a w,S w→wpTreeT P md ops Q S n r a w→K' a w)→if Region.wanted z (yielded ops a.tmps)=true then Oper.wp P z a w K' Q else K' (a.put z.dst undef) w):wpTreeT P md ops Q S n (.three i p j q k r) a w:=by
 unfold wpTreeT;exact ⟨wpOp_step ho (fun K' hK=>h K' (fun a w hS hW=>hK a w ⟨hS,hW⟩)),wpOp_step hu (fun K' hK=>g K' (fun a w hS hW=>hK a w ⟨hS,hW⟩)),wpOp_step hz (fun K' hK=>f K' (fun a w hS hW=>hK a w ⟨hS,hW⟩))⟩
end
end
section
open Go.RowKit
set_option maxRecDepth 100000
theorem max_inI {x y:Int} (hx:InI x) (hy:InI y):InI (Fl.bin [77,97,120] 1 x y).1:=by
 rw [Fl.bin_max];unfold InI at *
 repeat' split
 all_goals (try simp only [])
 all_goals omega
def clipF (f t:Int) (xs:List Int):Int × Int:=Fl.bin [77,105,110] 1 (Fl.bin [77,97,120] 1 (xs.getD 0 0) f).1 t
def castF (a b:Int) (xs:List Int):Int × Int:=Fl.cst a b (xs.getD 0 0)
def whereF (xs:List Int):Int × Int:=(if xs.getD 0 0=0 then xs.getD 2 0 else xs.getD 1 0,0)
def Bit (xs:List Int):Prop:=xs.getD 0 0=0∨xs.getD 0 0=1
theorem share3 {G:Prop} {P R:World→Nat→Nat→Prop} (h:(∀ a b c,P a b c→R a b c)→G) (k:∀ a b c,P a b c→R a b c):G:=h k
theorem keepE {w:World} {b:Nat} {cs:Array Value} {t:TypeId} (h:BoxN w b cs t) {p:Addr} (x:Value) (hn:b≠p.block):BoxN (w.setCell p x) b cs t:=(Below.heap_setCell _ _ _ _ hn).trans h
structure Two (W2:World) (u v:Value) (t:TypeId) (W:World) (p q:Nat):Prop where
 below:Below W2.heap.size W2 W
 one:BoxN W p #[u] t
 two:BoxN W q #[v] t
theorem two_of {W2 W:World} {u v z:Value} {t:TypeId} {p q:Nat} (hB:Below W2.heap.size W2 W) (hp:BoxN W p #[z] t) (hq:BoxN W q #[z] t) (h1:W2.heap.size≤p) (h2:W2.heap.size≤q) (hne:p≠q) :
  Two W2 u v t ((W.setCell ⟨p,0,none⟩ u).setCell ⟨q,0,none⟩ v) p q :=
 ⟨(hB.setCell (p:=⟨p,0,none⟩) h1 _).setCell (p:=⟨q,0,none⟩) h2 _,keepE (hp.set 0 u) _ hne,(keepE hq _ (Ne.symm hne)).set 0 v⟩
attribute [local irreducible] Fl.un Fl.bin Fl.cst bitsP intP
theorem eg_pl1:∀ args w,(callFunc 76 args).run Tryz.prog w=.ok (.enter 76 args) w:=enters_of Tryz.func76 (by kernel_rfl) rfl
set_option maxHeartbeats 4000000 in
theorem pl1_any {W:World} {v:Value} {xs:List Int} (hv:IntsIn W v xs) (hl:xs.length=3) (hR:Bit xs) :
  Calls Tryz.prog 76 #[v] W fun e w'=>e=.returned (.tuple #[.int .i64 (whereF xs).1,.int .i64 (whereF xs).2])∧Below W.heap.size W w':=by
 obtain ⟨b,off,cap,rfl,hb,g0,x0⟩:=ints_cell hv (k:=0) (by omega);obtain ⟨b',off',cap',hv',hb',g1,x1⟩:=ints_cell hv (k:=1) (by omega);obtain ⟨e1,-,-⟩:=Value.slice.inj hv';obtain ⟨e1,e2⟩:b=b'∧off=off':=by simpa using e1
 subst e1 e2;clear hv' hb';obtain ⟨b',off',cap',hv',hb',g2,x2⟩:=ints_cell hv (k:=2) (by omega);obtain ⟨e1,-,-⟩:=Value.slice.inj hv';obtain ⟨e1,e2⟩:b=b'∧off=off':=by simpa using e1
 subst e1 e2;clear hv' hb';rw [Nat.add_zero] at g0;unfold Bit at hR;unfold whereF;generalize xs.getD 2 0=z2 at *;generalize xs.getD 1 0=z1 at *;generalize xs.getD 0 0=z0 at *;rw [hl];clear hv x0 x1 x2 hl;rcases hR with rfl | rfl
 ·rw [if_pos rfl];go_enter Tryz.func76,Tryz.ntmps76
  go_wp2
  go_ret2
  exact ⟨rfl,Below.refl _ _⟩
 ·rw [if_neg (by decide)];go_enter Tryz.func76,Tryz.ntmps76
  go_wp2
  go_ret2
  exact ⟨rfl,Below.refl _ _⟩
theorem eg_pl2:∀ args w,(callFunc 78 args).run Tryz.prog w=.ok (.enter 78 args) w:=enters_of Tryz.func78 (by kernel_rfl) rfl
set_option maxHeartbeats 4000000 in
theorem pl2_any {f t:Int} (hf:InI f) (ht:InI t) {bn bt:Nat} {W:World} {v:Value} {xs:List Int} (h0:W.cell? ⟨bn,0,none⟩=some (.int .i64 f)) (h1:W.cell? ⟨bt,0,none⟩=some (.int .i64 t)) (hn:bn < W.heap.size) (hbt:bt < W.heap.size) (hv:IntsIn W v xs) (hl:1≤xs.length) :
  Calls Tryz.prog 78 #[v,.pointer (some ⟨bn,0,none⟩),.pointer (some ⟨bt,0,none⟩)] W fun e w'=>e=.returned (.tuple #[.int .i64 (clipF f t xs).1,.int .i64 (clipF f t xs).2])∧Below W.heap.size W w':=by
 obtain ⟨b,off,cap,rfl,hb,g0,x0⟩:=ints_cell hv (k:=0) (by omega);rw [Nat.add_zero] at g0;unfold clipF;generalize xs.getD 0 0=z0 at *;have hm:=max_inI x0 hf;have HU:=hid (fun (W:World)=>Nm.binary_any ⟨#[77,97,120]⟩ 1 z0 f x0.1 x0.2 hf.1 hf.2 W);generalize hy:(Fl.bin [77,97,120] 1 z0 f).1=y at *;have HV:=hid (fun (W:World)=>Nm.binary_any ⟨#[77,105,110]⟩ 1 y t hm.1 hm.2 ht.1 ht.2 W);have HYy:=hid hy;have HS:Hid (∀ W',Below W.heap.size W W'→W'.cell? ⟨bn,0,none⟩=some (.int .i64 f)∧W'.cell? ⟨bt,0,none⟩=some (.int .i64 t)∧W'.cell? ⟨b,off,none⟩=some (.int .i64 z0)):=hid fun W' h=>⟨(h.cell (p:=⟨bn,0,none⟩) hn).trans h0,(h.cell (p:=⟨bt,0,none⟩) hbt).trans h1,(h.cell (p:=⟨b,off,none⟩) hb).trans g0⟩;have hl0:0 < xs.length:=by omega
 have hli:(0:Int) < (xs.length:Int):=by omega
 clear x0 h0 h1 hv g0 hy hm hf ht;go_enter Tryz.func78,Tryz.ntmps78
 go_wp2_with fail
 refine wp_region_plan 9 [0,1,2,3,4,5,6,7,8] (fun W'=>Below W.heap.size W W') (by kernel_rfl) (by kernel_rfl) (fun _ d _ _ _ h=>by cases d<;>exact h) (Below.refl _ _).drew ?_;have B0:Hid (Below W.heap.size W W.drew):=hid (Below.refl _ _).drew;generalize W.drew=wD at B0 ⊢
 repeat
  refine plan_read (v:=?_) rfl rfl (Or.inl ⟨by rfl,?_⟩) ?_;rotate_left
  ·intro W' hSw;obtain ⟨s0,s1,s2⟩:=HS.out W' hSw;go_simp
   try with_reducible rfl
  try simp only [Act.put,List.getElem_toArray,List.getElem_cons_zero,List.getElem_cons_succ,List.setIfInBounds_toArray,List.set_cons_zero,List.set_cons_succ]
 refine plan_act rfl rfl (fun K' hK=>?_);go_simp
 refine (HU.out _).mono ?_;rintro e w2 ⟨rfl,B⟩;rw [show (⟨#[77,97,120]⟩:ByteArray).toList=[77,97,120] from by rw [ByteArray.toList_eq],HYy.out];have B1:=hid (B0.out.trans (B.mono B0.out.size));refine hK.out _ _ B1.out ?_;clear hK K' B HU;generalize (Fl.bin [77,97,120] 1 z0 f).2=u at *
 repeat
  refine plan_read (v:=?_) rfl rfl (Or.inl ⟨by rfl,?_⟩) ?_;rotate_left
  ·intro W' hSw;go_simp
   try with_reducible rfl
  try simp only [Act.put,List.getElem_toArray,List.getElem_cons_zero,List.getElem_cons_succ,List.setIfInBounds_toArray,List.set_cons_zero,List.set_cons_succ]
 refine plan_tail rfl ?_;simp only [List.toList_toArray,List.drop_succ_cons,List.drop_zero];obtain ⟨s0,s1,s2⟩:=HS.out w2 B1.out;go_wp2_with fail
 refine (HV.out _).mono ?_;rintro e w3 ⟨rfl,B⟩;rw [show (⟨#[77,105,110]⟩:ByteArray).toList=[77,105,110] from by rw [ByteArray.toList_eq]];have B2:=hid (B1.out.trans (B.mono B1.out.size));generalize hr:Fl.bin [77,105,110] 1 y t=r;have HR:=hid hr;clear B hr HV;go_wp2
 go_ret2
 rw [HR.out];exact ⟨rfl,B2.out⟩
theorem eg_pl3:∀ args w,(callFunc 79 args).run Tryz.prog w=.ok (.enter 79 args) w:=enters_of Tryz.func79 (by kernel_rfl) rfl
set_option maxHeartbeats 4000000 in
theorem pl3_any (a t:Int) {bn bt:Nat} {W:World} {v:Value} {xs:List Int} (h0:W.cell? ⟨bn,0,none⟩=some (.int .i64 a)) (h1:W.cell? ⟨bt,0,none⟩=some (.int .i64 t)) (hn:bn < W.heap.size) (hbt:bt < W.heap.size) (hv:IntsIn W v xs) (hl:1≤xs.length) :
  Calls Tryz.prog 79 #[v,.pointer (some ⟨bn,0,none⟩),.pointer (some ⟨bt,0,none⟩)] W fun e w'=>e=.returned (.tuple #[.int .i64 (castF a t xs).1,.int .i64 (castF a t xs).2])∧Below W.heap.size W w':=by
 obtain ⟨b,off,cap,rfl,hb,g0,x0⟩:=ints_cell hv (k:=0) (by omega);rw [Nat.add_zero] at g0;unfold castF;generalize xs.getD 0 0=z0 at *;have HU:=hid (fun (W:World)=>Nm.cast_any a t z0 x0.1 x0.2 W);have HS:Hid (∀ W',Below W.heap.size W W'→W'.cell? ⟨bn,0,none⟩=some (.int .i64 a)∧W'.cell? ⟨bt,0,none⟩=some (.int .i64 t)∧W'.cell? ⟨b,off,none⟩=some (.int .i64 z0)):=hid fun W' h=>⟨(h.cell (p:=⟨bn,0,none⟩) hn).trans h0,(h.cell (p:=⟨bt,0,none⟩) hbt).trans h1,(h.cell (p:=⟨b,off,none⟩) hb).trans g0⟩;have hl0:0 < xs.length:=by omega
 have hli:(0:Int) < (xs.length:Int):=by omega
 clear x0 h0 h1 hv g0;go_enter Tryz.func79,Tryz.ntmps79
 go_wp2_with fail
 refine wp_region_plan 8 [0,1,2,3,4,5,6,7] (fun W'=>Below W.heap.size W W') (by kernel_rfl) (by kernel_rfl) (fun _ d _ _ _ h=>by cases d<;>exact h) (Below.refl _ _).drew ?_;have B0:Hid (Below W.heap.size W W.drew):=hid (Below.refl _ _).drew;generalize W.drew=wD at B0 ⊢
 repeat
  refine plan_read (v:=?_) rfl rfl (Or.inl ⟨by rfl,?_⟩) ?_;rotate_left
  ·intro W' hSw;obtain ⟨s0,s1,s2⟩:=HS.out W' hSw;go_simp
   try with_reducible rfl
  try simp only [Act.put,List.getElem_toArray,List.getElem_cons_zero,List.getElem_cons_succ,List.setIfInBounds_toArray,List.set_cons_zero,List.set_cons_succ]
 refine plan_act rfl rfl (fun K' hK=>?_);go_simp
 refine (HU.out _).mono ?_;rintro e w2 ⟨rfl,B⟩;have B1:=hid (B0.out.trans (B.mono B0.out.size));refine hK.out _ _ B1.out ?_;clear hK K' B HU;generalize hr:Fl.cst a t z0=r;have HR:=hid hr;clear hr
 repeat
  refine plan_read (v:=?_) rfl rfl (Or.inl ⟨by rfl,?_⟩) ?_;rotate_left
  ·intro W' hSw;go_simp
   try with_reducible rfl
  try simp only [Act.put,List.getElem_toArray,List.getElem_cons_zero,List.getElem_cons_succ,List.setIfInBounds_toArray,List.set_cons_zero,List.set_cons_succ]
 refine plan_tail rfl ?_;simp only [List.toList_toArray,List.drop_succ_cons,List.drop_zero];go_wp2
 go_ret2
 rw [HR.out];exact ⟨rfl,B1.out⟩
set_option maxHeartbeats 8000000 in
theorem placed_Clip {w:World} {vn vv:Value} {n:Nd} {ts:List Tn} (hn:NodeV w vn n) (hs:SlIn 3 rdTensor w vv ts) (hl:n.op.toList=[67,108,105,112]) :
  Calls Tryz.prog 40 #[vn,vv] w fun e w'=>∃ fn,e=.returned (.tuple #[fn,.bool true])∧PlaceC fn w' (clipF (bitsP n.attrs ⟨#[109,105,110]⟩ 4286578688) (bitsP n.attrs ⟨#[109,97,120]⟩ 2139095040)) 1∧Below w.heap.size w w':=by
 have hb1:InI (bitsP n.attrs ⟨#[109,105,110]⟩ 4286578688):=bits_okP hn (by unfold InI;decide);have hb2:InI (bitsP n.attrs ⟨#[109,97,120]⟩ 2139095040):=bits_okP hn (by unfold InI;decide);have HNV:=hid hn;obtain ⟨vin,vat,rfl,hm⟩:=hn;obtain ⟨a1,c1,rfl⟩:=hm.is.form;obtain ⟨a2,c2,rfl⟩:=hm.ia.form;obtain ⟨a3,c3,rfl⟩:=hs.form;clear hm hs;unfold Nd.val at HNV ⊢;have HB1:=hid ((Below.refl w.heap.size w).alloc (Nat.le_refl _) (Obj.cells #[.string n.op,.string n.name,.slice a1 n.ins.length c1,.string n.out,.slice a2 n.attrs.length c2] 25));have HN1:=hid (BoxN.new w #[.string n.op,.string n.name,.slice a1 n.ins.length c1,.string n.out,.slice a2 n.attrs.length c2] 25);have k0:=HN1.out.cell 0 rfl;go_enter Tryz.func40,Tryz.ntmps40
 go_wp2_with fail
 clear k0;generalize World.alloc w _=W1 at HB1 HN1 ⊢;have HS:Hid (∀ W',Below W1.heap.size W1 W'→W'.cell? ⟨w.heap.size,0,none⟩=some (.string n.op)∧W'.cell? ⟨w.heap.size,1,none⟩=some (.string n.name)∧W'.cell? ⟨w.heap.size,2,none⟩=some (.slice a1 n.ins.length c1)∧W'.cell? ⟨w.heap.size,3,none⟩=some (.string n.out)∧W'.cell? ⟨w.heap.size,4,none⟩=some (.slice a2 n.attrs.length c2)∧True):=hid fun W' h=>by
  obtain ⟨e0,e1,e2,e3,e4⟩:=(HN1.out.below' h).five;exact ⟨e0,e1,e2,e3,e4,trivial⟩
 have HC1:Hid (∀ (W:World),Below W1.heap.size W1 W→Calls Tryz.prog 77 #[.agg #[.string n.op,.string n.name,.slice a1 n.ins.length c1,.string n.out,.slice a2 n.attrs.length c2],.string ⟨#[109,105,110]⟩,.int .i64 4286578688] W fun e w'=>e=.returned (.int .i64 ((bitsP n.attrs ⟨#[109,105,110]⟩ 4286578688)))∧Below W.heap.size W w'):=hid fun W h=>sbits_any (HNV.out.below (HB1.out.trans (h.mono HB1.out.size))) ⟨#[109,105,110]⟩ 4286578688;have HC2:Hid (∀ (W:World),Below W1.heap.size W1 W→Calls Tryz.prog 77 #[.agg #[.string n.op,.string n.name,.slice a1 n.ins.length c1,.string n.out,.slice a2 n.attrs.length c2],.string ⟨#[109,97,120]⟩,.int .i64 2139095040] W fun e w'=>e=.returned (.int .i64 ((bitsP n.attrs ⟨#[109,97,120]⟩ 2139095040)))∧Below W.heap.size W w'):=hid fun W h=>sbits_any (HNV.out.below (HB1.out.trans (h.mono HB1.out.size))) ⟨#[109,97,120]⟩ 2139095040
 rename_i hK1
 have HK1:=hid hK1;clear hK1;apply share3 (P:=fun W p q=>Hid (Two W1 (.int .i64 (bitsP n.attrs ⟨#[109,105,110]⟩ 4286578688)) (.int .i64 (bitsP n.attrs ⟨#[109,97,120]⟩ 2139095040)) 2 W p q))
 ·intro hrest;have HRest:=hid hrest;clear hrest;refine wp_region_treeT 6 (PlT.reads [0,2] (.three 1 (.three 3 (.two 4 (.act 5 .tail) 5 (.act 4 .tail)) 4 (.two 3 (.act 5 .tail) 5 (.act 3 .tail)) 5 (.two 3 (.act 4 .tail) 4 (.act 3 .tail))) 4 (.two 1 (.two 3 (.act 5 .tail) 5 (.act 3 .tail)) 5 (.act 1 (.act 3 .tail))) 5 (.two 1 (.two 3 (.act 4 .tail) 4 (.act 3 .tail)) 4 (.act 1 (.act 3 .tail))))) (fun W'=>Below W1.heap.size W1 W') (by kernel_rfl) (by kernel_rfl) (fun _ d _ _ _ h=>by cases d<;>exact h) (Below.refl _ _).drew ?_;simp only [PlT.reads];have B0:Hid (Below W1.heap.size W1 W1.drew):=hid (Below.refl _ _).drew;generalize W1.drew=wD at B0 ⊢
  repeat
   refine treeT_read (v:=?_) rfl (Or.inl ⟨by rfl,?_⟩) ?_;rotate_left
   ·intro W' hSw;obtain ⟨e0,e1,e2,e3,e4,e5⟩:=HS.out W' hSw;go_simp
    try with_reducible rfl
   try simp only [Act.put,List.getElem_toArray,List.getElem_cons_zero,List.getElem_cons_succ,List.setIfInBounds_toArray,List.set_cons_zero,List.set_cons_succ]
  refine treeT_three rfl rfl rfl (fun K' hK=>?_) (fun K' hK=>?_) (fun K' hK=>?_)
  ·go_simp
   refine (HC1.out _ B0.out).mono ?_;rintro e wx1 ⟨rfl,Bx⟩;have BX1:=hid (B0.out.trans (Bx.mono B0.out.size));refine hK.out _ _ BX1.out ?_;clear hK K' Bx;refine treeT_three rfl rfl rfl (fun K' hK=>?_) (fun K' hK=>?_) (fun K' hK=>?_)
   ·go_simp
    refine (HC2.out _ BX1.out).mono ?_;rintro e wx2 ⟨rfl,Bx⟩;have BX2:=hid (BX1.out.trans (Bx.mono BX1.out.size));refine hK.out _ _ BX2.out ?_;clear hK K' Bx;refine treeT_two rfl rfl (fun K' hK=>?_) (fun K' hK=>?_)
    ·go_simp
     have HBP3:=hid (BoxN.new wx2 #[.int .i64 0] 2);have BX3:Hid (Below W1.heap.size W1 (wx2.alloc (.cells #[.int .i64 0] 2))):=hid (BX2.out.alloc BX2.out.size _);have HleP3:Hid (W1.heap.size≤wx2.heap.size):=hid BX2.out.size;refine hK.out _ _ BX3.out ?_;clear hK K';generalize wx2.alloc (.cells #[.int .i64 0] 2)=wx3 at HBP3 BX3  ⊢;generalize wx2.heap.size=P3 at HBP3 HleP3  ⊢;refine treeT_act rfl (fun K' hK=>?_);go_simp
     have HBP4:=hid (BoxN.new wx3 #[.int .i64 0] 2);have BX4:Hid (Below W1.heap.size W1 (wx3.alloc (.cells #[.int .i64 0] 2))):=hid (BX3.out.alloc BX3.out.size _);have HleP4:Hid (W1.heap.size≤wx3.heap.size):=hid BX3.out.size;have HltP4:Hid (P3 < wx3.heap.size):=hid HBP3.out.lt;have HBP3:=hid (HBP3.out.below' ((Below.refl _ wx3).alloc (Nat.le_refl _) (.cells #[.int .i64 0] 2)));refine hK.out _ _ BX4.out ?_;clear hK K';generalize wx3.alloc (.cells #[.int .i64 0] 2)=wx4 at HBP4 BX4 HBP3 ⊢;generalize wx3.heap.size=P4 at HBP4 HleP4 HltP4 ⊢;refine treeT_tail rfl ?_;simp only [List.toList_toArray,List.drop_succ_cons,List.drop_zero];have hne:P3≠P4:=by have:=HltP4.out;omega
     have hne2:P4≠P3:=Ne.symm hne;have f0:=HBP3.out.frozen 0;have f1:=HBP4.out.frozen 0;have r0:=HBP3.out.cell 0 rfl;have r1:=HBP4.out.cell 0 rfl;have HA:=hid (two_of (u:=(.int .i64 (bitsP n.attrs ⟨#[109,105,110]⟩ 4286578688))) (v:=(.int .i64 (bitsP n.attrs ⟨#[109,97,120]⟩ 2139095040))) BX4.out HBP3.out HBP4.out HleP3.out HleP4.out hne);go_wp2_with fail
     generalize World.setCell _ _ _=W3 at HA ⊢;clear f0 f1 r0 r1;exact HRest.out _ _ _ HA
    ·go_simp
     have HBP3:=hid (BoxN.new wx2 #[.int .i64 0] 2);have BX3:Hid (Below W1.heap.size W1 (wx2.alloc (.cells #[.int .i64 0] 2))):=hid (BX2.out.alloc BX2.out.size _);have HleP3:Hid (W1.heap.size≤wx2.heap.size):=hid BX2.out.size;refine hK.out _ _ BX3.out ?_;clear hK K';generalize wx2.alloc (.cells #[.int .i64 0] 2)=wx3 at HBP3 BX3  ⊢;generalize wx2.heap.size=P3 at HBP3 HleP3  ⊢;refine treeT_act rfl (fun K' hK=>?_);go_simp
     have HBP4:=hid (BoxN.new wx3 #[.int .i64 0] 2);have BX4:Hid (Below W1.heap.size W1 (wx3.alloc (.cells #[.int .i64 0] 2))):=hid (BX3.out.alloc BX3.out.size _);have HleP4:Hid (W1.heap.size≤wx3.heap.size):=hid BX3.out.size;have HltP4:Hid (P3 < wx3.heap.size):=hid HBP3.out.lt;have HBP3:=hid (HBP3.out.below' ((Below.refl _ wx3).alloc (Nat.le_refl _) (.cells #[.int .i64 0] 2)));refine hK.out _ _ BX4.out ?_;clear hK K';generalize wx3.alloc (.cells #[.int .i64 0] 2)=wx4 at HBP4 BX4 HBP3 ⊢;generalize wx3.heap.size=P4 at HBP4 HleP4 HltP4 ⊢;refine treeT_tail rfl ?_;simp only [List.toList_toArray,List.drop_succ_cons,List.drop_zero];have hne:P4≠P3:=by have:=HltP4.out;omega
     have hne2:P3≠P4:=Ne.symm hne;have f0:=HBP4.out.frozen 0;have f1:=HBP3.out.frozen 0;have r0:=HBP4.out.cell 0 rfl;have r1:=HBP3.out.cell 0 rfl;have HA:=hid (two_of (u:=(.int .i64 (bitsP n.attrs ⟨#[109,105,110]⟩ 4286578688))) (v:=(.int .i64 (bitsP n.attrs ⟨#[109,97,120]⟩ 2139095040))) BX4.out HBP4.out HBP3.out HleP4.out HleP3.out hne);go_wp2_with fail
     generalize World.setCell _ _ _=W3 at HA ⊢;clear f0 f1 r0 r1;exact HRest.out _ _ _ HA
   ·go_simp
    have HBP2:=hid (BoxN.new wx1 #[.int .i64 0] 2);have BX2:Hid (Below W1.heap.size W1 (wx1.alloc (.cells #[.int .i64 0] 2))):=hid (BX1.out.alloc BX1.out.size _);have HleP2:Hid (W1.heap.size≤wx1.heap.size):=hid BX1.out.size;refine hK.out _ _ BX2.out ?_;clear hK K';generalize wx1.alloc (.cells #[.int .i64 0] 2)=wx2 at HBP2 BX2  ⊢;generalize wx1.heap.size=P2 at HBP2 HleP2  ⊢;refine treeT_two rfl rfl (fun K' hK=>?_) (fun K' hK=>?_)
    ·go_simp
     refine (HC2.out _ BX2.out).mono ?_;rintro e wx3 ⟨rfl,Bx⟩;have BX3:=hid (BX2.out.trans (Bx.mono BX2.out.size));have HBP2:=hid (HBP2.out.below' Bx);refine hK.out _ _ BX3.out ?_;clear hK K' Bx;refine treeT_act rfl (fun K' hK=>?_);go_simp
     have HBP4:=hid (BoxN.new wx3 #[.int .i64 0] 2);have BX4:Hid (Below W1.heap.size W1 (wx3.alloc (.cells #[.int .i64 0] 2))):=hid (BX3.out.alloc BX3.out.size _);have HleP4:Hid (W1.heap.size≤wx3.heap.size):=hid BX3.out.size;have HltP4:Hid (P2 < wx3.heap.size):=hid HBP2.out.lt;have HBP2:=hid (HBP2.out.below' ((Below.refl _ wx3).alloc (Nat.le_refl _) (.cells #[.int .i64 0] 2)));refine hK.out _ _ BX4.out ?_;clear hK K';generalize wx3.alloc (.cells #[.int .i64 0] 2)=wx4 at HBP4 BX4 HBP2 ⊢;generalize wx3.heap.size=P4 at HBP4 HleP4 HltP4 ⊢;refine treeT_tail rfl ?_;simp only [List.toList_toArray,List.drop_succ_cons,List.drop_zero];have hne:P2≠P4:=by have:=HltP4.out;omega
     have hne2:P4≠P2:=Ne.symm hne;have f0:=HBP2.out.frozen 0;have f1:=HBP4.out.frozen 0;have r0:=HBP2.out.cell 0 rfl;have r1:=HBP4.out.cell 0 rfl;have HA:=hid (two_of (u:=(.int .i64 (bitsP n.attrs ⟨#[109,105,110]⟩ 4286578688))) (v:=(.int .i64 (bitsP n.attrs ⟨#[109,97,120]⟩ 2139095040))) BX4.out HBP2.out HBP4.out HleP2.out HleP4.out hne);go_wp2_with fail
     generalize World.setCell _ _ _=W3 at HA ⊢;clear f0 f1 r0 r1;exact HRest.out _ _ _ HA
    ·go_simp
     have HBP3:=hid (BoxN.new wx2 #[.int .i64 0] 2);have BX3:Hid (Below W1.heap.size W1 (wx2.alloc (.cells #[.int .i64 0] 2))):=hid (BX2.out.alloc BX2.out.size _);have HleP3:Hid (W1.heap.size≤wx2.heap.size):=hid BX2.out.size;have HltP3:Hid (P2 < wx2.heap.size):=hid HBP2.out.lt;have HBP2:=hid (HBP2.out.below' ((Below.refl _ wx2).alloc (Nat.le_refl _) (.cells #[.int .i64 0] 2)));refine hK.out _ _ BX3.out ?_;clear hK K';generalize wx2.alloc (.cells #[.int .i64 0] 2)=wx3 at HBP3 BX3 HBP2 ⊢;generalize wx2.heap.size=P3 at HBP3 HleP3 HltP3 ⊢;refine treeT_act rfl (fun K' hK=>?_);go_simp
     refine (HC2.out _ BX3.out).mono ?_;rintro e wx4 ⟨rfl,Bx⟩;have BX4:=hid (BX3.out.trans (Bx.mono BX3.out.size));have HBP2:=hid (HBP2.out.below' Bx);have HBP3:=hid (HBP3.out.below' Bx);refine hK.out _ _ BX4.out ?_;clear hK K' Bx;refine treeT_tail rfl ?_;simp only [List.toList_toArray,List.drop_succ_cons,List.drop_zero];have hne:P2≠P3:=by have:=HltP3.out;omega
     have hne2:P3≠P2:=Ne.symm hne;have f0:=HBP2.out.frozen 0;have f1:=HBP3.out.frozen 0;have r0:=HBP2.out.cell 0 rfl;have r1:=HBP3.out.cell 0 rfl;have HA:=hid (two_of (u:=(.int .i64 (bitsP n.attrs ⟨#[109,105,110]⟩ 4286578688))) (v:=(.int .i64 (bitsP n.attrs ⟨#[109,97,120]⟩ 2139095040))) BX4.out HBP2.out HBP3.out HleP2.out HleP3.out hne);go_wp2_with fail
     generalize World.setCell _ _ _=W3 at HA ⊢;clear f0 f1 r0 r1;exact HRest.out _ _ _ HA
   ·go_simp
    have HBP2:=hid (BoxN.new wx1 #[.int .i64 0] 2);have BX2:Hid (Below W1.heap.size W1 (wx1.alloc (.cells #[.int .i64 0] 2))):=hid (BX1.out.alloc BX1.out.size _);have HleP2:Hid (W1.heap.size≤wx1.heap.size):=hid BX1.out.size;refine hK.out _ _ BX2.out ?_;clear hK K';generalize wx1.alloc (.cells #[.int .i64 0] 2)=wx2 at HBP2 BX2  ⊢;generalize wx1.heap.size=P2 at HBP2 HleP2  ⊢;refine treeT_two rfl rfl (fun K' hK=>?_) (fun K' hK=>?_)
    ·go_simp
     refine (HC2.out _ BX2.out).mono ?_;rintro e wx3 ⟨rfl,Bx⟩;have BX3:=hid (BX2.out.trans (Bx.mono BX2.out.size));have HBP2:=hid (HBP2.out.below' Bx);refine hK.out _ _ BX3.out ?_;clear hK K' Bx;refine treeT_act rfl (fun K' hK=>?_);go_simp
     have HBP4:=hid (BoxN.new wx3 #[.int .i64 0] 2);have BX4:Hid (Below W1.heap.size W1 (wx3.alloc (.cells #[.int .i64 0] 2))):=hid (BX3.out.alloc BX3.out.size _);have HleP4:Hid (W1.heap.size≤wx3.heap.size):=hid BX3.out.size;have HltP4:Hid (P2 < wx3.heap.size):=hid HBP2.out.lt;have HBP2:=hid (HBP2.out.below' ((Below.refl _ wx3).alloc (Nat.le_refl _) (.cells #[.int .i64 0] 2)));refine hK.out _ _ BX4.out ?_;clear hK K';generalize wx3.alloc (.cells #[.int .i64 0] 2)=wx4 at HBP4 BX4 HBP2 ⊢;generalize wx3.heap.size=P4 at HBP4 HleP4 HltP4 ⊢;refine treeT_tail rfl ?_;simp only [List.toList_toArray,List.drop_succ_cons,List.drop_zero];have hne:P4≠P2:=by have:=HltP4.out;omega
     have hne2:P2≠P4:=Ne.symm hne;have f0:=HBP4.out.frozen 0;have f1:=HBP2.out.frozen 0;have r0:=HBP4.out.cell 0 rfl;have r1:=HBP2.out.cell 0 rfl;have HA:=hid (two_of (u:=(.int .i64 (bitsP n.attrs ⟨#[109,105,110]⟩ 4286578688))) (v:=(.int .i64 (bitsP n.attrs ⟨#[109,97,120]⟩ 2139095040))) BX4.out HBP4.out HBP2.out HleP4.out HleP2.out hne);go_wp2_with fail
     generalize World.setCell _ _ _=W3 at HA ⊢;clear f0 f1 r0 r1;exact HRest.out _ _ _ HA
    ·go_simp
     have HBP3:=hid (BoxN.new wx2 #[.int .i64 0] 2);have BX3:Hid (Below W1.heap.size W1 (wx2.alloc (.cells #[.int .i64 0] 2))):=hid (BX2.out.alloc BX2.out.size _);have HleP3:Hid (W1.heap.size≤wx2.heap.size):=hid BX2.out.size;have HltP3:Hid (P2 < wx2.heap.size):=hid HBP2.out.lt;have HBP2:=hid (HBP2.out.below' ((Below.refl _ wx2).alloc (Nat.le_refl _) (.cells #[.int .i64 0] 2)));refine hK.out _ _ BX3.out ?_;clear hK K';generalize wx2.alloc (.cells #[.int .i64 0] 2)=wx3 at HBP3 BX3 HBP2 ⊢;generalize wx2.heap.size=P3 at HBP3 HleP3 HltP3 ⊢;refine treeT_act rfl (fun K' hK=>?_);go_simp
     refine (HC2.out _ BX3.out).mono ?_;rintro e wx4 ⟨rfl,Bx⟩;have BX4:=hid (BX3.out.trans (Bx.mono BX3.out.size));have HBP2:=hid (HBP2.out.below' Bx);have HBP3:=hid (HBP3.out.below' Bx);refine hK.out _ _ BX4.out ?_;clear hK K' Bx;refine treeT_tail rfl ?_;simp only [List.toList_toArray,List.drop_succ_cons,List.drop_zero];have hne:P3≠P2:=by have:=HltP3.out;omega
     have hne2:P2≠P3:=Ne.symm hne;have f0:=HBP3.out.frozen 0;have f1:=HBP2.out.frozen 0;have r0:=HBP3.out.cell 0 rfl;have r1:=HBP2.out.cell 0 rfl;have HA:=hid (two_of (u:=(.int .i64 (bitsP n.attrs ⟨#[109,105,110]⟩ 4286578688))) (v:=(.int .i64 (bitsP n.attrs ⟨#[109,97,120]⟩ 2139095040))) BX4.out HBP3.out HBP2.out HleP3.out HleP2.out hne);go_wp2_with fail
     generalize World.setCell _ _ _=W3 at HA ⊢;clear f0 f1 r0 r1;exact HRest.out _ _ _ HA
  ·go_simp
   have HBP1:=hid (BoxN.new wD #[.int .i64 0] 2);have BX1:Hid (Below W1.heap.size W1 (wD.alloc (.cells #[.int .i64 0] 2))):=hid (B0.out.alloc B0.out.size _);have HleP1:Hid (W1.heap.size≤wD.heap.size):=hid B0.out.size;refine hK.out _ _ BX1.out ?_;clear hK K';generalize wD.alloc (.cells #[.int .i64 0] 2)=wx1 at HBP1 BX1  ⊢;generalize wD.heap.size=P1 at HBP1 HleP1  ⊢;refine treeT_two rfl rfl (fun K' hK=>?_) (fun K' hK=>?_)
   ·go_simp
    refine (HC1.out _ BX1.out).mono ?_;rintro e wx2 ⟨rfl,Bx⟩;have BX2:=hid (BX1.out.trans (Bx.mono BX1.out.size));have HBP1:=hid (HBP1.out.below' Bx);refine hK.out _ _ BX2.out ?_;clear hK K' Bx;refine treeT_two rfl rfl (fun K' hK=>?_) (fun K' hK=>?_)
    ·go_simp
     refine (HC2.out _ BX2.out).mono ?_;rintro e wx3 ⟨rfl,Bx⟩;have BX3:=hid (BX2.out.trans (Bx.mono BX2.out.size));have HBP1:=hid (HBP1.out.below' Bx);refine hK.out _ _ BX3.out ?_;clear hK K' Bx;refine treeT_act rfl (fun K' hK=>?_);go_simp
     have HBP4:=hid (BoxN.new wx3 #[.int .i64 0] 2);have BX4:Hid (Below W1.heap.size W1 (wx3.alloc (.cells #[.int .i64 0] 2))):=hid (BX3.out.alloc BX3.out.size _);have HleP4:Hid (W1.heap.size≤wx3.heap.size):=hid BX3.out.size;have HltP4:Hid (P1 < wx3.heap.size):=hid HBP1.out.lt;have HBP1:=hid (HBP1.out.below' ((Below.refl _ wx3).alloc (Nat.le_refl _) (.cells #[.int .i64 0] 2)));refine hK.out _ _ BX4.out ?_;clear hK K';generalize wx3.alloc (.cells #[.int .i64 0] 2)=wx4 at HBP4 BX4 HBP1 ⊢;generalize wx3.heap.size=P4 at HBP4 HleP4 HltP4 ⊢;refine treeT_tail rfl ?_;simp only [List.toList_toArray,List.drop_succ_cons,List.drop_zero];have hne:P1≠P4:=by have:=HltP4.out;omega
     have hne2:P4≠P1:=Ne.symm hne;have f0:=HBP1.out.frozen 0;have f1:=HBP4.out.frozen 0;have r0:=HBP1.out.cell 0 rfl;have r1:=HBP4.out.cell 0 rfl;have HA:=hid (two_of (u:=(.int .i64 (bitsP n.attrs ⟨#[109,105,110]⟩ 4286578688))) (v:=(.int .i64 (bitsP n.attrs ⟨#[109,97,120]⟩ 2139095040))) BX4.out HBP1.out HBP4.out HleP1.out HleP4.out hne);go_wp2_with fail
     generalize World.setCell _ _ _=W3 at HA ⊢;clear f0 f1 r0 r1;exact HRest.out _ _ _ HA
    ·go_simp
     have HBP3:=hid (BoxN.new wx2 #[.int .i64 0] 2);have BX3:Hid (Below W1.heap.size W1 (wx2.alloc (.cells #[.int .i64 0] 2))):=hid (BX2.out.alloc BX2.out.size _);have HleP3:Hid (W1.heap.size≤wx2.heap.size):=hid BX2.out.size;have HltP3:Hid (P1 < wx2.heap.size):=hid HBP1.out.lt;have HBP1:=hid (HBP1.out.below' ((Below.refl _ wx2).alloc (Nat.le_refl _) (.cells #[.int .i64 0] 2)));refine hK.out _ _ BX3.out ?_;clear hK K';generalize wx2.alloc (.cells #[.int .i64 0] 2)=wx3 at HBP3 BX3 HBP1 ⊢;generalize wx2.heap.size=P3 at HBP3 HleP3 HltP3 ⊢;refine treeT_act rfl (fun K' hK=>?_);go_simp
     refine (HC2.out _ BX3.out).mono ?_;rintro e wx4 ⟨rfl,Bx⟩;have BX4:=hid (BX3.out.trans (Bx.mono BX3.out.size));have HBP1:=hid (HBP1.out.below' Bx);have HBP3:=hid (HBP3.out.below' Bx);refine hK.out _ _ BX4.out ?_;clear hK K' Bx;refine treeT_tail rfl ?_;simp only [List.toList_toArray,List.drop_succ_cons,List.drop_zero];have hne:P1≠P3:=by have:=HltP3.out;omega
     have hne2:P3≠P1:=Ne.symm hne;have f0:=HBP1.out.frozen 0;have f1:=HBP3.out.frozen 0;have r0:=HBP1.out.cell 0 rfl;have r1:=HBP3.out.cell 0 rfl;have HA:=hid (two_of (u:=(.int .i64 (bitsP n.attrs ⟨#[109,105,110]⟩ 4286578688))) (v:=(.int .i64 (bitsP n.attrs ⟨#[109,97,120]⟩ 2139095040))) BX4.out HBP1.out HBP3.out HleP1.out HleP3.out hne);go_wp2_with fail
     generalize World.setCell _ _ _=W3 at HA ⊢;clear f0 f1 r0 r1;exact HRest.out _ _ _ HA
   ·go_simp
    have HBP2:=hid (BoxN.new wx1 #[.int .i64 0] 2);have BX2:Hid (Below W1.heap.size W1 (wx1.alloc (.cells #[.int .i64 0] 2))):=hid (BX1.out.alloc BX1.out.size _);have HleP2:Hid (W1.heap.size≤wx1.heap.size):=hid BX1.out.size;have HltP2:Hid (P1 < wx1.heap.size):=hid HBP1.out.lt;have HBP1:=hid (HBP1.out.below' ((Below.refl _ wx1).alloc (Nat.le_refl _) (.cells #[.int .i64 0] 2)));refine hK.out _ _ BX2.out ?_;clear hK K';generalize wx1.alloc (.cells #[.int .i64 0] 2)=wx2 at HBP2 BX2 HBP1 ⊢;generalize wx1.heap.size=P2 at HBP2 HleP2 HltP2 ⊢;refine treeT_act rfl (fun K' hK=>?_);go_simp
    refine (HC1.out _ BX2.out).mono ?_;rintro e wx3 ⟨rfl,Bx⟩;have BX3:=hid (BX2.out.trans (Bx.mono BX2.out.size));have HBP1:=hid (HBP1.out.below' Bx);have HBP2:=hid (HBP2.out.below' Bx);refine hK.out _ _ BX3.out ?_;clear hK K' Bx;refine treeT_act rfl (fun K' hK=>?_);go_simp
    refine (HC2.out _ BX3.out).mono ?_;rintro e wx4 ⟨rfl,Bx⟩;have BX4:=hid (BX3.out.trans (Bx.mono BX3.out.size));have HBP1:=hid (HBP1.out.below' Bx);have HBP2:=hid (HBP2.out.below' Bx);refine hK.out _ _ BX4.out ?_;clear hK K' Bx;refine treeT_tail rfl ?_;simp only [List.toList_toArray,List.drop_succ_cons,List.drop_zero];have hne:P1≠P2:=by have:=HltP2.out;omega
    have hne2:P2≠P1:=Ne.symm hne;have f0:=HBP1.out.frozen 0;have f1:=HBP2.out.frozen 0;have r0:=HBP1.out.cell 0 rfl;have r1:=HBP2.out.cell 0 rfl;have HA:=hid (two_of (u:=(.int .i64 (bitsP n.attrs ⟨#[109,105,110]⟩ 4286578688))) (v:=(.int .i64 (bitsP n.attrs ⟨#[109,97,120]⟩ 2139095040))) BX4.out HBP1.out HBP2.out HleP1.out HleP2.out hne);go_wp2_with fail
    generalize World.setCell _ _ _=W3 at HA ⊢;clear f0 f1 r0 r1;exact HRest.out _ _ _ HA
  ·go_simp
   have HBP1:=hid (BoxN.new wD #[.int .i64 0] 2);have BX1:Hid (Below W1.heap.size W1 (wD.alloc (.cells #[.int .i64 0] 2))):=hid (B0.out.alloc B0.out.size _);have HleP1:Hid (W1.heap.size≤wD.heap.size):=hid B0.out.size;refine hK.out _ _ BX1.out ?_;clear hK K';generalize wD.alloc (.cells #[.int .i64 0] 2)=wx1 at HBP1 BX1  ⊢;generalize wD.heap.size=P1 at HBP1 HleP1  ⊢;refine treeT_two rfl rfl (fun K' hK=>?_) (fun K' hK=>?_)
   ·go_simp
    refine (HC1.out _ BX1.out).mono ?_;rintro e wx2 ⟨rfl,Bx⟩;have BX2:=hid (BX1.out.trans (Bx.mono BX1.out.size));have HBP1:=hid (HBP1.out.below' Bx);refine hK.out _ _ BX2.out ?_;clear hK K' Bx;refine treeT_two rfl rfl (fun K' hK=>?_) (fun K' hK=>?_)
    ·go_simp
     refine (HC2.out _ BX2.out).mono ?_;rintro e wx3 ⟨rfl,Bx⟩;have BX3:=hid (BX2.out.trans (Bx.mono BX2.out.size));have HBP1:=hid (HBP1.out.below' Bx);refine hK.out _ _ BX3.out ?_;clear hK K' Bx;refine treeT_act rfl (fun K' hK=>?_);go_simp
     have HBP4:=hid (BoxN.new wx3 #[.int .i64 0] 2);have BX4:Hid (Below W1.heap.size W1 (wx3.alloc (.cells #[.int .i64 0] 2))):=hid (BX3.out.alloc BX3.out.size _);have HleP4:Hid (W1.heap.size≤wx3.heap.size):=hid BX3.out.size;have HltP4:Hid (P1 < wx3.heap.size):=hid HBP1.out.lt;have HBP1:=hid (HBP1.out.below' ((Below.refl _ wx3).alloc (Nat.le_refl _) (.cells #[.int .i64 0] 2)));refine hK.out _ _ BX4.out ?_;clear hK K';generalize wx3.alloc (.cells #[.int .i64 0] 2)=wx4 at HBP4 BX4 HBP1 ⊢;generalize wx3.heap.size=P4 at HBP4 HleP4 HltP4 ⊢;refine treeT_tail rfl ?_;simp only [List.toList_toArray,List.drop_succ_cons,List.drop_zero];have hne:P4≠P1:=by have:=HltP4.out;omega
     have hne2:P1≠P4:=Ne.symm hne;have f0:=HBP4.out.frozen 0;have f1:=HBP1.out.frozen 0;have r0:=HBP4.out.cell 0 rfl;have r1:=HBP1.out.cell 0 rfl;have HA:=hid (two_of (u:=(.int .i64 (bitsP n.attrs ⟨#[109,105,110]⟩ 4286578688))) (v:=(.int .i64 (bitsP n.attrs ⟨#[109,97,120]⟩ 2139095040))) BX4.out HBP4.out HBP1.out HleP4.out HleP1.out hne);go_wp2_with fail
     generalize World.setCell _ _ _=W3 at HA ⊢;clear f0 f1 r0 r1;exact HRest.out _ _ _ HA
    ·go_simp
     have HBP3:=hid (BoxN.new wx2 #[.int .i64 0] 2);have BX3:Hid (Below W1.heap.size W1 (wx2.alloc (.cells #[.int .i64 0] 2))):=hid (BX2.out.alloc BX2.out.size _);have HleP3:Hid (W1.heap.size≤wx2.heap.size):=hid BX2.out.size;have HltP3:Hid (P1 < wx2.heap.size):=hid HBP1.out.lt;have HBP1:=hid (HBP1.out.below' ((Below.refl _ wx2).alloc (Nat.le_refl _) (.cells #[.int .i64 0] 2)));refine hK.out _ _ BX3.out ?_;clear hK K';generalize wx2.alloc (.cells #[.int .i64 0] 2)=wx3 at HBP3 BX3 HBP1 ⊢;generalize wx2.heap.size=P3 at HBP3 HleP3 HltP3 ⊢;refine treeT_act rfl (fun K' hK=>?_);go_simp
     refine (HC2.out _ BX3.out).mono ?_;rintro e wx4 ⟨rfl,Bx⟩;have BX4:=hid (BX3.out.trans (Bx.mono BX3.out.size));have HBP1:=hid (HBP1.out.below' Bx);have HBP3:=hid (HBP3.out.below' Bx);refine hK.out _ _ BX4.out ?_;clear hK K' Bx;refine treeT_tail rfl ?_;simp only [List.toList_toArray,List.drop_succ_cons,List.drop_zero];have hne:P3≠P1:=by have:=HltP3.out;omega
     have hne2:P1≠P3:=Ne.symm hne;have f0:=HBP3.out.frozen 0;have f1:=HBP1.out.frozen 0;have r0:=HBP3.out.cell 0 rfl;have r1:=HBP1.out.cell 0 rfl;have HA:=hid (two_of (u:=(.int .i64 (bitsP n.attrs ⟨#[109,105,110]⟩ 4286578688))) (v:=(.int .i64 (bitsP n.attrs ⟨#[109,97,120]⟩ 2139095040))) BX4.out HBP3.out HBP1.out HleP3.out HleP1.out hne);go_wp2_with fail
     generalize World.setCell _ _ _=W3 at HA ⊢;clear f0 f1 r0 r1;exact HRest.out _ _ _ HA
   ·go_simp
    have HBP2:=hid (BoxN.new wx1 #[.int .i64 0] 2);have BX2:Hid (Below W1.heap.size W1 (wx1.alloc (.cells #[.int .i64 0] 2))):=hid (BX1.out.alloc BX1.out.size _);have HleP2:Hid (W1.heap.size≤wx1.heap.size):=hid BX1.out.size;have HltP2:Hid (P1 < wx1.heap.size):=hid HBP1.out.lt;have HBP1:=hid (HBP1.out.below' ((Below.refl _ wx1).alloc (Nat.le_refl _) (.cells #[.int .i64 0] 2)));refine hK.out _ _ BX2.out ?_;clear hK K';generalize wx1.alloc (.cells #[.int .i64 0] 2)=wx2 at HBP2 BX2 HBP1 ⊢;generalize wx1.heap.size=P2 at HBP2 HleP2 HltP2 ⊢;refine treeT_act rfl (fun K' hK=>?_);go_simp
    refine (HC1.out _ BX2.out).mono ?_;rintro e wx3 ⟨rfl,Bx⟩;have BX3:=hid (BX2.out.trans (Bx.mono BX2.out.size));have HBP1:=hid (HBP1.out.below' Bx);have HBP2:=hid (HBP2.out.below' Bx);refine hK.out _ _ BX3.out ?_;clear hK K' Bx;refine treeT_act rfl (fun K' hK=>?_);go_simp
    refine (HC2.out _ BX3.out).mono ?_;rintro e wx4 ⟨rfl,Bx⟩;have BX4:=hid (BX3.out.trans (Bx.mono BX3.out.size));have HBP1:=hid (HBP1.out.below' Bx);have HBP2:=hid (HBP2.out.below' Bx);refine hK.out _ _ BX4.out ?_;clear hK K' Bx;refine treeT_tail rfl ?_;simp only [List.toList_toArray,List.drop_succ_cons,List.drop_zero];have hne:P2≠P1:=by have:=HltP2.out;omega
    have hne2:P1≠P2:=Ne.symm hne;have f0:=HBP2.out.frozen 0;have f1:=HBP1.out.frozen 0;have r0:=HBP2.out.cell 0 rfl;have r1:=HBP1.out.cell 0 rfl;have HA:=hid (two_of (u:=(.int .i64 (bitsP n.attrs ⟨#[109,105,110]⟩ 4286578688))) (v:=(.int .i64 (bitsP n.attrs ⟨#[109,97,120]⟩ 2139095040))) BX4.out HBP2.out HBP1.out HleP2.out HleP1.out hne);go_wp2_with fail
    generalize World.setCell _ _ _=W3 at HA ⊢;clear f0 f1 r0 r1;exact HRest.out _ _ _ HA
 ·intro W3 p q HA;refine HK1.out _ _ ?_;have HB3:=HB1.out.trans (HA.out.below.mono HB1.out.size);go_wp2_with fail
  go_ret2
  refine ⟨_,rfl,⟨78,_,rfl,eg_pl2,fun W v xs hW hx hlx=>?_⟩,HB3⟩;exact pl2_any hb1 hb2 ((HA.out.one.below' hW).cell 0 rfl) ((HA.out.two.below' hW).cell 0 rfl) (HA.out.one.below' hW).lt (HA.out.two.below' hW).lt hx (by omega)
set_option maxHeartbeats 8000000 in
theorem placed_Cast {w:World} {vn vv:Value} {n:Nd} {ts:List Tn} {x:Tn} (hi:ts[0]?=some x) (hn:NodeV w vn n) (hs:SlIn 3 rdTensor w vv ts) (hl:n.op.toList=[67,97,115,116]) :
  Calls Tryz.prog 40 #[vn,vv] w fun e w'=>∃ fn,e=.returned (.tuple #[fn,.bool true])∧PlaceC fn w' (castF x.1 (intP n.attrs ⟨#[116,111]⟩ 0)) 1∧Below w.heap.size w w':=by
 have HNV:=hid hn;obtain ⟨vin,vat,rfl,hm⟩:=hn;obtain ⟨a1,c1,rfl⟩:=hm.is.form;obtain ⟨a2,c2,rfl⟩:=hm.ia.form;obtain ⟨b,off,cap,vd,vx,rfl,hb,u0,-,-,-,-,-⟩:=tensor_at hs hi;have hts:(0:Int) < (ts.length:Int):=by have:=(List.getElem?_eq_some_iff.1 hi).1;omega
 have hts0:0 < ts.length:=(List.getElem?_eq_some_iff.1 hi).1;rw [Nat.zero_mul,Nat.add_zero] at u0;clear hi;clear hm hs;unfold Nd.val at HNV ⊢;have HB1:=hid ((Below.refl w.heap.size w).alloc (Nat.le_refl _) (Obj.cells #[.string n.op,.string n.name,.slice a1 n.ins.length c1,.string n.out,.slice a2 n.attrs.length c2] 25));have HN1:=hid (BoxN.new w #[.string n.op,.string n.name,.slice a1 n.ins.length c1,.string n.out,.slice a2 n.attrs.length c2] 25);have k0:=HN1.out.cell 0 rfl;go_enter Tryz.func40,Tryz.ntmps40
 go_wp2_with fail
 clear k0;generalize World.alloc w _=W1 at HB1 HN1 ⊢;have HS:Hid (∀ W',Below W1.heap.size W1 W'→W'.cell? ⟨w.heap.size,0,none⟩=some (.string n.op)∧W'.cell? ⟨w.heap.size,1,none⟩=some (.string n.name)∧W'.cell? ⟨w.heap.size,2,none⟩=some (.slice a1 n.ins.length c1)∧W'.cell? ⟨w.heap.size,3,none⟩=some (.string n.out)∧W'.cell? ⟨w.heap.size,4,none⟩=some (.slice a2 n.attrs.length c2)∧W'.cell? ⟨b,off,none⟩=some (.int .i64 x.1)):=hid fun W' h=>by
  obtain ⟨e0,e1,e2,e3,e4⟩:=(HN1.out.below' h).five;exact ⟨e0,e1,e2,e3,e4,((HB1.out.trans (h.mono HB1.out.size)).cell (p:=⟨b,off,none⟩) hb).trans u0⟩
 have HC1:Hid (∀ (W:World),Below W1.heap.size W1 W→Calls Tryz.prog 49 #[.agg #[.string n.op,.string n.name,.slice a1 n.ins.length c1,.string n.out,.slice a2 n.attrs.length c2],.string ⟨#[116,111]⟩,.int .i64 0] W fun e w'=>e=.returned (.int .i64 (intP n.attrs ⟨#[116,111]⟩ 0))∧Below W.heap.size W w'):=hid fun W h=>sint_any (HNV.out.below (HB1.out.trans (h.mono HB1.out.size))) ⟨#[116,111]⟩ 0
 rename_i hK1
 have HK1:=hid hK1;clear hK1;apply share3 (P:=fun W p q=>Hid (Two W1 (.int .i64 x.1) (.int .i64 (intP n.attrs ⟨#[116,111]⟩ 0)) 3 W p q))
 ·intro hrest;have HRest:=hid hrest;clear hrest;refine wp_region_treeT 8 (PlT.reads [0,1,2,3,4] (.three 5 (.two 6 (.act 7 .tail) 7 (.act 6 .tail)) 6 (.two 5 (.act 7 .tail) 7 (.act 5 .tail)) 7 (.two 5 (.act 6 .tail) 6 (.act 5 .tail)))) (fun W'=>Below W1.heap.size W1 W') (by kernel_rfl) (by kernel_rfl) (fun _ d _ _ _ h=>by cases d<;>exact h) (Below.refl _ _).drew ?_;simp only [PlT.reads];have B0:Hid (Below W1.heap.size W1 W1.drew):=hid (Below.refl _ _).drew;generalize W1.drew=wD at B0 ⊢
  repeat
   refine treeT_read (v:=?_) rfl (Or.inl ⟨by rfl,?_⟩) ?_;rotate_left
   ·intro W' hSw;obtain ⟨e0,e1,e2,e3,e4,e5⟩:=HS.out W' hSw;go_simp
    try with_reducible rfl
   try simp only [Act.put,List.getElem_toArray,List.getElem_cons_zero,List.getElem_cons_succ,List.setIfInBounds_toArray,List.set_cons_zero,List.set_cons_succ]
  refine treeT_three rfl rfl rfl (fun K' hK=>?_) (fun K' hK=>?_) (fun K' hK=>?_)
  ·go_simp
   refine (HC1.out _ B0.out).mono ?_;rintro e wx1 ⟨rfl,Bx⟩;have BX1:=hid (B0.out.trans (Bx.mono B0.out.size));refine hK.out _ _ BX1.out ?_;clear hK K' Bx;refine treeT_two rfl rfl (fun K' hK=>?_) (fun K' hK=>?_)
   ·go_simp
    have HBP2:=hid (BoxN.new wx1 #[.int .i64 0] 3);have BX2:Hid (Below W1.heap.size W1 (wx1.alloc (.cells #[.int .i64 0] 3))):=hid (BX1.out.alloc BX1.out.size _);have HleP2:Hid (W1.heap.size≤wx1.heap.size):=hid BX1.out.size;refine hK.out _ _ BX2.out ?_;clear hK K';generalize wx1.alloc (.cells #[.int .i64 0] 3)=wx2 at HBP2 BX2  ⊢;generalize wx1.heap.size=P2 at HBP2 HleP2  ⊢;refine treeT_act rfl (fun K' hK=>?_);go_simp
    have HBP3:=hid (BoxN.new wx2 #[.int .i64 0] 3);have BX3:Hid (Below W1.heap.size W1 (wx2.alloc (.cells #[.int .i64 0] 3))):=hid (BX2.out.alloc BX2.out.size _);have HleP3:Hid (W1.heap.size≤wx2.heap.size):=hid BX2.out.size;have HltP3:Hid (P2 < wx2.heap.size):=hid HBP2.out.lt;have HBP2:=hid (HBP2.out.below' ((Below.refl _ wx2).alloc (Nat.le_refl _) (.cells #[.int .i64 0] 3)));refine hK.out _ _ BX3.out ?_;clear hK K';generalize wx2.alloc (.cells #[.int .i64 0] 3)=wx3 at HBP3 BX3 HBP2 ⊢;generalize wx2.heap.size=P3 at HBP3 HleP3 HltP3 ⊢;refine treeT_tail rfl ?_;simp only [List.toList_toArray,List.drop_succ_cons,List.drop_zero];have hne:P2≠P3:=by have:=HltP3.out;omega
    have hne2:P3≠P2:=Ne.symm hne;have f0:=HBP2.out.frozen 0;have f1:=HBP3.out.frozen 0;have r0:=HBP2.out.cell 0 rfl;have r1:=HBP3.out.cell 0 rfl;have HA:=hid (two_of (u:=(.int .i64 x.1)) (v:=(.int .i64 (intP n.attrs ⟨#[116,111]⟩ 0))) BX3.out HBP2.out HBP3.out HleP2.out HleP3.out hne);go_wp2_with fail
    generalize World.setCell _ _ _=W3 at HA ⊢;clear f0 f1 r0 r1;exact HRest.out _ _ _ HA
   ·go_simp
    have HBP2:=hid (BoxN.new wx1 #[.int .i64 0] 3);have BX2:Hid (Below W1.heap.size W1 (wx1.alloc (.cells #[.int .i64 0] 3))):=hid (BX1.out.alloc BX1.out.size _);have HleP2:Hid (W1.heap.size≤wx1.heap.size):=hid BX1.out.size;refine hK.out _ _ BX2.out ?_;clear hK K';generalize wx1.alloc (.cells #[.int .i64 0] 3)=wx2 at HBP2 BX2  ⊢;generalize wx1.heap.size=P2 at HBP2 HleP2  ⊢;refine treeT_act rfl (fun K' hK=>?_);go_simp
    have HBP3:=hid (BoxN.new wx2 #[.int .i64 0] 3);have BX3:Hid (Below W1.heap.size W1 (wx2.alloc (.cells #[.int .i64 0] 3))):=hid (BX2.out.alloc BX2.out.size _);have HleP3:Hid (W1.heap.size≤wx2.heap.size):=hid BX2.out.size;have HltP3:Hid (P2 < wx2.heap.size):=hid HBP2.out.lt;have HBP2:=hid (HBP2.out.below' ((Below.refl _ wx2).alloc (Nat.le_refl _) (.cells #[.int .i64 0] 3)));refine hK.out _ _ BX3.out ?_;clear hK K';generalize wx2.alloc (.cells #[.int .i64 0] 3)=wx3 at HBP3 BX3 HBP2 ⊢;generalize wx2.heap.size=P3 at HBP3 HleP3 HltP3 ⊢;refine treeT_tail rfl ?_;simp only [List.toList_toArray,List.drop_succ_cons,List.drop_zero];have hne:P3≠P2:=by have:=HltP3.out;omega
    have hne2:P2≠P3:=Ne.symm hne;have f0:=HBP3.out.frozen 0;have f1:=HBP2.out.frozen 0;have r0:=HBP3.out.cell 0 rfl;have r1:=HBP2.out.cell 0 rfl;have HA:=hid (two_of (u:=(.int .i64 x.1)) (v:=(.int .i64 (intP n.attrs ⟨#[116,111]⟩ 0))) BX3.out HBP3.out HBP2.out HleP3.out HleP2.out hne);go_wp2_with fail
    generalize World.setCell _ _ _=W3 at HA ⊢;clear f0 f1 r0 r1;exact HRest.out _ _ _ HA
  ·go_simp
   have HBP1:=hid (BoxN.new wD #[.int .i64 0] 3);have BX1:Hid (Below W1.heap.size W1 (wD.alloc (.cells #[.int .i64 0] 3))):=hid (B0.out.alloc B0.out.size _);have HleP1:Hid (W1.heap.size≤wD.heap.size):=hid B0.out.size;refine hK.out _ _ BX1.out ?_;clear hK K';generalize wD.alloc (.cells #[.int .i64 0] 3)=wx1 at HBP1 BX1  ⊢;generalize wD.heap.size=P1 at HBP1 HleP1  ⊢;refine treeT_two rfl rfl (fun K' hK=>?_) (fun K' hK=>?_)
   ·go_simp
    refine (HC1.out _ BX1.out).mono ?_;rintro e wx2 ⟨rfl,Bx⟩;have BX2:=hid (BX1.out.trans (Bx.mono BX1.out.size));have HBP1:=hid (HBP1.out.below' Bx);refine hK.out _ _ BX2.out ?_;clear hK K' Bx;refine treeT_act rfl (fun K' hK=>?_);go_simp
    have HBP3:=hid (BoxN.new wx2 #[.int .i64 0] 3);have BX3:Hid (Below W1.heap.size W1 (wx2.alloc (.cells #[.int .i64 0] 3))):=hid (BX2.out.alloc BX2.out.size _);have HleP3:Hid (W1.heap.size≤wx2.heap.size):=hid BX2.out.size;have HltP3:Hid (P1 < wx2.heap.size):=hid HBP1.out.lt;have HBP1:=hid (HBP1.out.below' ((Below.refl _ wx2).alloc (Nat.le_refl _) (.cells #[.int .i64 0] 3)));refine hK.out _ _ BX3.out ?_;clear hK K';generalize wx2.alloc (.cells #[.int .i64 0] 3)=wx3 at HBP3 BX3 HBP1 ⊢;generalize wx2.heap.size=P3 at HBP3 HleP3 HltP3 ⊢;refine treeT_tail rfl ?_;simp only [List.toList_toArray,List.drop_succ_cons,List.drop_zero];have hne:P1≠P3:=by have:=HltP3.out;omega
    have hne2:P3≠P1:=Ne.symm hne;have f0:=HBP1.out.frozen 0;have f1:=HBP3.out.frozen 0;have r0:=HBP1.out.cell 0 rfl;have r1:=HBP3.out.cell 0 rfl;have HA:=hid (two_of (u:=(.int .i64 x.1)) (v:=(.int .i64 (intP n.attrs ⟨#[116,111]⟩ 0))) BX3.out HBP1.out HBP3.out HleP1.out HleP3.out hne);go_wp2_with fail
    generalize World.setCell _ _ _=W3 at HA ⊢;clear f0 f1 r0 r1;exact HRest.out _ _ _ HA
   ·go_simp
    have HBP2:=hid (BoxN.new wx1 #[.int .i64 0] 3);have BX2:Hid (Below W1.heap.size W1 (wx1.alloc (.cells #[.int .i64 0] 3))):=hid (BX1.out.alloc BX1.out.size _);have HleP2:Hid (W1.heap.size≤wx1.heap.size):=hid BX1.out.size;have HltP2:Hid (P1 < wx1.heap.size):=hid HBP1.out.lt;have HBP1:=hid (HBP1.out.below' ((Below.refl _ wx1).alloc (Nat.le_refl _) (.cells #[.int .i64 0] 3)));refine hK.out _ _ BX2.out ?_;clear hK K';generalize wx1.alloc (.cells #[.int .i64 0] 3)=wx2 at HBP2 BX2 HBP1 ⊢;generalize wx1.heap.size=P2 at HBP2 HleP2 HltP2 ⊢;refine treeT_act rfl (fun K' hK=>?_);go_simp
    refine (HC1.out _ BX2.out).mono ?_;rintro e wx3 ⟨rfl,Bx⟩;have BX3:=hid (BX2.out.trans (Bx.mono BX2.out.size));have HBP1:=hid (HBP1.out.below' Bx);have HBP2:=hid (HBP2.out.below' Bx);refine hK.out _ _ BX3.out ?_;clear hK K' Bx;refine treeT_tail rfl ?_;simp only [List.toList_toArray,List.drop_succ_cons,List.drop_zero];have hne:P1≠P2:=by have:=HltP2.out;omega
    have hne2:P2≠P1:=Ne.symm hne;have f0:=HBP1.out.frozen 0;have f1:=HBP2.out.frozen 0;have r0:=HBP1.out.cell 0 rfl;have r1:=HBP2.out.cell 0 rfl;have HA:=hid (two_of (u:=(.int .i64 x.1)) (v:=(.int .i64 (intP n.attrs ⟨#[116,111]⟩ 0))) BX3.out HBP1.out HBP2.out HleP1.out HleP2.out hne);go_wp2_with fail
    generalize World.setCell _ _ _=W3 at HA ⊢;clear f0 f1 r0 r1;exact HRest.out _ _ _ HA
  ·go_simp
   have HBP1:=hid (BoxN.new wD #[.int .i64 0] 3);have BX1:Hid (Below W1.heap.size W1 (wD.alloc (.cells #[.int .i64 0] 3))):=hid (B0.out.alloc B0.out.size _);have HleP1:Hid (W1.heap.size≤wD.heap.size):=hid B0.out.size;refine hK.out _ _ BX1.out ?_;clear hK K';generalize wD.alloc (.cells #[.int .i64 0] 3)=wx1 at HBP1 BX1  ⊢;generalize wD.heap.size=P1 at HBP1 HleP1  ⊢;refine treeT_two rfl rfl (fun K' hK=>?_) (fun K' hK=>?_)
   ·go_simp
    refine (HC1.out _ BX1.out).mono ?_;rintro e wx2 ⟨rfl,Bx⟩;have BX2:=hid (BX1.out.trans (Bx.mono BX1.out.size));have HBP1:=hid (HBP1.out.below' Bx);refine hK.out _ _ BX2.out ?_;clear hK K' Bx;refine treeT_act rfl (fun K' hK=>?_);go_simp
    have HBP3:=hid (BoxN.new wx2 #[.int .i64 0] 3);have BX3:Hid (Below W1.heap.size W1 (wx2.alloc (.cells #[.int .i64 0] 3))):=hid (BX2.out.alloc BX2.out.size _);have HleP3:Hid (W1.heap.size≤wx2.heap.size):=hid BX2.out.size;have HltP3:Hid (P1 < wx2.heap.size):=hid HBP1.out.lt;have HBP1:=hid (HBP1.out.below' ((Below.refl _ wx2).alloc (Nat.le_refl _) (.cells #[.int .i64 0] 3)));refine hK.out _ _ BX3.out ?_;clear hK K';generalize wx2.alloc (.cells #[.int .i64 0] 3)=wx3 at HBP3 BX3 HBP1 ⊢;generalize wx2.heap.size=P3 at HBP3 HleP3 HltP3 ⊢;refine treeT_tail rfl ?_;simp only [List.toList_toArray,List.drop_succ_cons,List.drop_zero];have hne:P3≠P1:=by have:=HltP3.out;omega
    have hne2:P1≠P3:=Ne.symm hne;have f0:=HBP3.out.frozen 0;have f1:=HBP1.out.frozen 0;have r0:=HBP3.out.cell 0 rfl;have r1:=HBP1.out.cell 0 rfl;have HA:=hid (two_of (u:=(.int .i64 x.1)) (v:=(.int .i64 (intP n.attrs ⟨#[116,111]⟩ 0))) BX3.out HBP3.out HBP1.out HleP3.out HleP1.out hne);go_wp2_with fail
    generalize World.setCell _ _ _=W3 at HA ⊢;clear f0 f1 r0 r1;exact HRest.out _ _ _ HA
   ·go_simp
    have HBP2:=hid (BoxN.new wx1 #[.int .i64 0] 3);have BX2:Hid (Below W1.heap.size W1 (wx1.alloc (.cells #[.int .i64 0] 3))):=hid (BX1.out.alloc BX1.out.size _);have HleP2:Hid (W1.heap.size≤wx1.heap.size):=hid BX1.out.size;have HltP2:Hid (P1 < wx1.heap.size):=hid HBP1.out.lt;have HBP1:=hid (HBP1.out.below' ((Below.refl _ wx1).alloc (Nat.le_refl _) (.cells #[.int .i64 0] 3)));refine hK.out _ _ BX2.out ?_;clear hK K';generalize wx1.alloc (.cells #[.int .i64 0] 3)=wx2 at HBP2 BX2 HBP1 ⊢;generalize wx1.heap.size=P2 at HBP2 HleP2 HltP2 ⊢;refine treeT_act rfl (fun K' hK=>?_);go_simp
    refine (HC1.out _ BX2.out).mono ?_;rintro e wx3 ⟨rfl,Bx⟩;have BX3:=hid (BX2.out.trans (Bx.mono BX2.out.size));have HBP1:=hid (HBP1.out.below' Bx);have HBP2:=hid (HBP2.out.below' Bx);refine hK.out _ _ BX3.out ?_;clear hK K' Bx;refine treeT_tail rfl ?_;simp only [List.toList_toArray,List.drop_succ_cons,List.drop_zero];have hne:P2≠P1:=by have:=HltP2.out;omega
    have hne2:P1≠P2:=Ne.symm hne;have f0:=HBP2.out.frozen 0;have f1:=HBP1.out.frozen 0;have r0:=HBP2.out.cell 0 rfl;have r1:=HBP1.out.cell 0 rfl;have HA:=hid (two_of (u:=(.int .i64 x.1)) (v:=(.int .i64 (intP n.attrs ⟨#[116,111]⟩ 0))) BX3.out HBP2.out HBP1.out HleP2.out HleP1.out hne);go_wp2_with fail
    generalize World.setCell _ _ _=W3 at HA ⊢;clear f0 f1 r0 r1;exact HRest.out _ _ _ HA
 ·intro W3 p q HA;refine HK1.out _ _ ?_;have HB3:=HB1.out.trans (HA.out.below.mono HB1.out.size);go_wp2_with fail
  go_ret2
  refine ⟨_,rfl,⟨79,_,rfl,eg_pl3,fun W v xs hW hx hlx=>?_⟩,HB3⟩;exact pl3_any x.1 _ ((HA.out.one.below' hW).cell 0 rfl) ((HA.out.two.below' hW).cell 0 rfl) (HA.out.one.below' hW).lt (HA.out.two.below' hW).lt hx (by omega)
set_option maxHeartbeats 4000000 in
theorem placed_Where {w:World} {vn vv:Value} {n:Nd} {ts:List Tn} (hn:NodeV w vn n) (hs:SlIn 3 rdTensor w vv ts) (hl:n.op.toList=[87,104,101,114,101]) :
  Calls Tryz.prog 40 #[vn,vv] w fun e w'=>∃ fn,e=.returned (.tuple #[fn,.bool true])∧PlaceR fn w' whereF 3 Bit∧Below w.heap.size w w':=by
 obtain ⟨vin,vat,rfl,hm⟩:=hn;obtain ⟨a1,c1,rfl⟩:=hm.is.form;obtain ⟨a2,c2,rfl⟩:=hm.ia.form;obtain ⟨a3,c3,rfl⟩:=hs.form;clear hm hs;unfold Nd.val;have HB1:=hid ((Below.refl w.heap.size w).alloc (Nat.le_refl _) (Obj.cells #[.string n.op,.string n.name,.slice a1 n.ins.length c1,.string n.out,.slice a2 n.attrs.length c2] 25));have HN1:=hid (BoxN.new w #[.string n.op,.string n.name,.slice a1 n.ins.length c1,.string n.out,.slice a2 n.attrs.length c2] 25);have k0:=HN1.out.cell 0 rfl;go_enter Tryz.func40,Tryz.ntmps40
 go_wp2_with fail
 go_ret2
 refine ⟨_,rfl,⟨76,#[],rfl,eg_pl1,fun W v xs hW hx hlx hR=>?_⟩,HB1.out⟩;exact pl1_any hx hlx hR
end
section
open Go.RowKit
set_option maxRecDepth 100000
attribute [local irreducible] Fl.un Fl.bin
set_option maxHeartbeats 36000000 in
theorem g_placed_Identity {w:World} {vn vv:Value} {n:Nd} {ts:List Tn} {x:Tn} (hn:NodeV w vn n) (hs:SlIn 3 rdTensor w vv ts) (hi:ts[0]?=some x) (hl:n.op.toList=[73,100,101,110,116,105,116,121]∨n.op.toList=[78,101,103]∨n.op.toList=[65,98,115]∨n.op.toList=[82,101,108,117]∨n.op.toList=[83,113,114,116]∨n.op.toList=[70,108,111,111,114]∨n.op.toList=[69,120,112]∨n.op.toList=[83,105,103,109,111,105,100]∨n.op.toList=[84,97,110,104]) :
  Calls Tryz.prog 40 #[vn,vv] w fun e w'=>∃ fn,e=.returned (.tuple #[fn,.bool true])∧PlaceC fn w' (fun xs=>Fl.un n.op.toList x.1 (xs.getD 0 0)) 1∧Below w.heap.size w w':=by
 rcases hl with hl | hl | hl | hl | hl | hl | hl | hl | hl
 all_goals
  obtain ⟨vin,vat,rfl,hm⟩:=hn;obtain ⟨a1,c1,rfl⟩:=hm.is.form;obtain ⟨a2,c2,rfl⟩:=hm.ia.form;obtain ⟨b,off,cap,vd,vx,rfl,hb,u0,-,-,-,-,-⟩:=tensor_at hs hi;have hts:(0:Int) < (ts.length:Int):=by have:=(List.getElem?_eq_some_iff.1 hi).1;omega
  rw [Nat.zero_mul,Nat.add_zero] at u0;clear hm hs hi;unfold Nd.val;have u0':=cell_alloc u0 (Obj.cells #[.string n.op,.string n.name,.slice a1 n.ins.length c1,.string n.out,.slice a2 n.attrs.length c2] 25);clear u0;have HB1:=hid ((Below.refl w.heap.size w).alloc (Nat.le_refl _) (Obj.cells #[.string n.op,.string n.name,.slice a1 n.ins.length c1,.string n.out,.slice a2 n.attrs.length c2] 25));have HN1:=hid (BoxN.new w #[.string n.op,.string n.name,.slice a1 n.ins.length c1,.string n.out,.slice a2 n.attrs.length c2] 25);have k0:=HN1.out.cell 0 rfl;go_enter Tryz.func40,Tryz.ntmps40
  go_wp2_with fail
  go_ret2
  have hBB:Below (w.alloc (Obj.cells #[.string n.op,.string n.name,.slice a1 n.ins.length c1,.string n.out,.slice a2 n.attrs.length c2] 25)).heap.size (w.alloc (Obj.cells #[.string n.op,.string n.name,.slice a1 n.ins.length c1,.string n.out,.slice a2 n.attrs.length c2] 25)) ((w.alloc (Obj.cells #[.string n.op,.string n.name,.slice a1 n.ins.length c1,.string n.out,.slice a2 n.attrs.length c2] 25)).alloc (Obj.cells #[.int .i64 x.1] 3)):=(Below.refl _ _).alloc (Nat.le_refl _) _;have HT2:BoxN ((w.alloc (Obj.cells #[.string n.op,.string n.name,.slice a1 n.ins.length c1,.string n.out,.slice a2 n.attrs.length c2] 25)).alloc (Obj.cells #[.int .i64 x.1] 3)) (w.heap.size+1) #[.int .i64 x.1] 3:=boxn_newE (by simp);refine ⟨_,rfl,⟨81,_,rfl,eg_pl4,fun W v xs hW hx hlx=>?_⟩,HB1.out.trans (hBB.mono HB1.out.size)⟩;exact pl4_any n.op x.1 (((HN1.out.below' hBB).below' hW).cell 0 rfl) ((HT2.below' hW).cell 0 rfl) ((HN1.out.below' hBB).below' hW).lt (HT2.below' hW).lt hx (by omega)
theorem placed_Identity {w:World} {vn vv:Value} {n:Nd} {ts:List Tn} {x:Tn} (hn:NodeV w vn n) (hs:SlIn 3 rdTensor w vv ts) (hi:ts[0]?=some x) (hl:n.op.toList=[73,100,101,110,116,105,116,121]) :
  Calls Tryz.prog 40 #[vn,vv] w fun e w'=>∃ fn,e=.returned (.tuple #[fn,.bool true])∧PlaceC fn w' (fun xs=>Fl.un n.op.toList x.1 (xs.getD 0 0)) 1∧Below w.heap.size w w' :=
 g_placed_Identity hn hs hi (Or.inl hl)
theorem placed_Neg {w:World} {vn vv:Value} {n:Nd} {ts:List Tn} {x:Tn} (hn:NodeV w vn n) (hs:SlIn 3 rdTensor w vv ts) (hi:ts[0]?=some x) (hl:n.op.toList=[78,101,103]) :
  Calls Tryz.prog 40 #[vn,vv] w fun e w'=>∃ fn,e=.returned (.tuple #[fn,.bool true])∧PlaceC fn w' (fun xs=>Fl.un n.op.toList x.1 (xs.getD 0 0)) 1∧Below w.heap.size w w' :=
 g_placed_Identity hn hs hi (Or.inr (Or.inl hl))
theorem placed_Abs {w:World} {vn vv:Value} {n:Nd} {ts:List Tn} {x:Tn} (hn:NodeV w vn n) (hs:SlIn 3 rdTensor w vv ts) (hi:ts[0]?=some x) (hl:n.op.toList=[65,98,115]) :
  Calls Tryz.prog 40 #[vn,vv] w fun e w'=>∃ fn,e=.returned (.tuple #[fn,.bool true])∧PlaceC fn w' (fun xs=>Fl.un n.op.toList x.1 (xs.getD 0 0)) 1∧Below w.heap.size w w' :=
 g_placed_Identity hn hs hi (Or.inr (Or.inr (Or.inl hl)))
theorem placed_Relu {w:World} {vn vv:Value} {n:Nd} {ts:List Tn} {x:Tn} (hn:NodeV w vn n) (hs:SlIn 3 rdTensor w vv ts) (hi:ts[0]?=some x) (hl:n.op.toList=[82,101,108,117]) :
  Calls Tryz.prog 40 #[vn,vv] w fun e w'=>∃ fn,e=.returned (.tuple #[fn,.bool true])∧PlaceC fn w' (fun xs=>Fl.un n.op.toList x.1 (xs.getD 0 0)) 1∧Below w.heap.size w w' :=
 g_placed_Identity hn hs hi (Or.inr (Or.inr (Or.inr (Or.inl hl))))
theorem placed_Sqrt {w:World} {vn vv:Value} {n:Nd} {ts:List Tn} {x:Tn} (hn:NodeV w vn n) (hs:SlIn 3 rdTensor w vv ts) (hi:ts[0]?=some x) (hl:n.op.toList=[83,113,114,116]) :
  Calls Tryz.prog 40 #[vn,vv] w fun e w'=>∃ fn,e=.returned (.tuple #[fn,.bool true])∧PlaceC fn w' (fun xs=>Fl.un n.op.toList x.1 (xs.getD 0 0)) 1∧Below w.heap.size w w' :=
 g_placed_Identity hn hs hi (Or.inr (Or.inr (Or.inr (Or.inr (Or.inl hl)))))
theorem placed_Floor {w:World} {vn vv:Value} {n:Nd} {ts:List Tn} {x:Tn} (hn:NodeV w vn n) (hs:SlIn 3 rdTensor w vv ts) (hi:ts[0]?=some x) (hl:n.op.toList=[70,108,111,111,114]) :
  Calls Tryz.prog 40 #[vn,vv] w fun e w'=>∃ fn,e=.returned (.tuple #[fn,.bool true])∧PlaceC fn w' (fun xs=>Fl.un n.op.toList x.1 (xs.getD 0 0)) 1∧Below w.heap.size w w' :=
 g_placed_Identity hn hs hi (Or.inr (Or.inr (Or.inr (Or.inr (Or.inr (Or.inl hl))))))
theorem placed_Exp {w:World} {vn vv:Value} {n:Nd} {ts:List Tn} {x:Tn} (hn:NodeV w vn n) (hs:SlIn 3 rdTensor w vv ts) (hi:ts[0]?=some x) (hl:n.op.toList=[69,120,112]) :
  Calls Tryz.prog 40 #[vn,vv] w fun e w'=>∃ fn,e=.returned (.tuple #[fn,.bool true])∧PlaceC fn w' (fun xs=>Fl.un n.op.toList x.1 (xs.getD 0 0)) 1∧Below w.heap.size w w' :=
 g_placed_Identity hn hs hi (Or.inr (Or.inr (Or.inr (Or.inr (Or.inr (Or.inr (Or.inl hl)))))))
theorem placed_Sigmoid {w:World} {vn vv:Value} {n:Nd} {ts:List Tn} {x:Tn} (hn:NodeV w vn n) (hs:SlIn 3 rdTensor w vv ts) (hi:ts[0]?=some x) (hl:n.op.toList=[83,105,103,109,111,105,100]) :
  Calls Tryz.prog 40 #[vn,vv] w fun e w'=>∃ fn,e=.returned (.tuple #[fn,.bool true])∧PlaceC fn w' (fun xs=>Fl.un n.op.toList x.1 (xs.getD 0 0)) 1∧Below w.heap.size w w' :=
 g_placed_Identity hn hs hi (Or.inr (Or.inr (Or.inr (Or.inr (Or.inr (Or.inr (Or.inr (Or.inl hl))))))))
theorem placed_Tanh {w:World} {vn vv:Value} {n:Nd} {ts:List Tn} {x:Tn} (hn:NodeV w vn n) (hs:SlIn 3 rdTensor w vv ts) (hi:ts[0]?=some x) (hl:n.op.toList=[84,97,110,104]) :
  Calls Tryz.prog 40 #[vn,vv] w fun e w'=>∃ fn,e=.returned (.tuple #[fn,.bool true])∧PlaceC fn w' (fun xs=>Fl.un n.op.toList x.1 (xs.getD 0 0)) 1∧Below w.heap.size w w' :=
 g_placed_Identity hn hs hi (Or.inr (Or.inr (Or.inr (Or.inr (Or.inr (Or.inr (Or.inr (Or.inr hl))))))))
end
end Go.Proofs.YtijhdmidffenbaaGreatDoor
