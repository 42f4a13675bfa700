import Derived.Test.YtkkeehnldcdccaaGreatDoorNe11
import Derived.Test.YtkkeehnldcdccaaGreatDoorNe12
set_option linter.unusedVariables false
set_option linter.unusedSimpArgs false
set_option maxRecDepth 100000
set_option maxHeartbeats 8000000
namespace Go.Proofs.YtkkeehnldcdccaaGreatDoor
open Go.Lib (hid)
open Go.RowKit
section
structure aX(w:World)(n:Nd)(ins:List Vl)(vin vat vv:Value):Prop where
 node:Fg w n vin vat
 ins:BJ 3 AM w vv ins
theorem aX.below{w w':World}{n:Nd}{ins:List Vl}{vin vat vv:Value}(h:aX w n ins vin vat vv)(hB:Below w.heap.size w w'):aX w' n ins vin vat vv:=⟨h.node.below hB,h.ins.below (AZ hB) hB⟩
def BF(w:World)(v:Value)(n:Nd)(ins:List Vl):Prop:=∃vin vat vv,v=.agg #[.string n.op,.string n.name,vin,.string n.out,vat,vv]∧aX w n ins vin vat vv
theorem Ac.six{W:World}{b:Nat}{x0 x1 x2 x3 x4 x5:Value}{t:TypeId}(h:Ac W b #[x0,x1,x2,x3,x4,x5] t):W.cell? ⟨b,0,none⟩=some x0∧W.cell? ⟨b,1,none⟩=some x1∧W.cell? ⟨b,2,none⟩=some x2∧W.cell? ⟨b,3,none⟩=some x3∧W.cell? ⟨b,4,none⟩=some x4∧W.cell? ⟨b,5,none⟩=some x5:=⟨h.cell 0 rfl,h.cell 1 rfl,h.cell 2 rfl,h.cell 3 rfl,h.cell 4 rfl,h.cell 5 rfl⟩
theorem Ov{r:Nat}:∀(l acc ks:List Int),DB r acc l=some ks→(∀z∈acc,0≤z∧z<(r:Int))→(∀z∈ks,0≤z∧z<(r:Int))∧ks.length=acc.length+l.length:=by
 intro l
 induction l with
 | nil=>intro acc ks h ha;unfold DB at h;obtain rfl:=Option.some.inj h;exact⟨ha,rfl⟩
 | cons a l ih=>
  intro acc ks h ha;unfold DB at h;split at h
  ·cases h
  ·rename_i k hk
   split at h
   ·cases h
   ·obtain⟨h1,h2⟩:=ih _ _ h (fun z hz=>by
     rcases List.mem_append.1 hz with hz|hz
     ·exact ha z hz
     ·obtain rfl:z=k:=by simpa using hz
      exact FC hk)
    exact⟨h1,by rw[h2];simp;omega⟩
theorem A8{r:Nat}{l ks:List Int}(h:By l r=some ks):(∀z∈ks,0≤z∧z<(r:Int))∧ks.length=l.length:=by
 obtain⟨h1,h2⟩:=Ov l [] ks h (by simp);exact⟨h1,by simpa using h2⟩
def AF:ByteArray:=⟨#[97,120,101,115]⟩
def AB:ByteArray:=⟨#[97,120,105,115]⟩
def CT:ByteArray:=⟨#[107,101,101,112,100,105,109,115]⟩
def Ig:ByteArray:=⟨#[65,114,103,77,97,120]⟩
theorem EQ:Ig.toList=([65,114,103,77,97,120]:List UInt8):=by rw[ByteArray.toList_eq];rfl
def Ih(x gone:List Int)(keep:Bool)(i:Nat):List Int:=if gone.contains (i:Int)=true then(if keep=true then [1]else [])else [x.getD i 0]
def Bg(x gone:List Int)(keep:Bool)(k:Nat):List Int:=(List.range k).flatMap (Ih x gone keep)
theorem Cx{x gone:List Int}{keep:Bool}{k:Nat}:Bg x gone keep (k+1)=Bg x gone keep k++Ih x gone keep k:=by
 unfold Bg;rw[List.range_succ,List.flatMap_append];simp
theorem FG{x gone:List Int}{keep:Bool}{i:Nat}(h:gone.contains (i:Int)=false):Ih x gone keep i=[x.getD i 0]:=if_neg (by rw[h];decide)
theorem Kv{x gone:List Int}{i:Nat}(h:gone.contains (i:Int)=true):Ih x gone true i=[1]:=(if_pos h).trans (if_pos rfl)
theorem Ii{x gone:List Int}{i:Nat}(h:gone.contains (i:Int)=true):Ih x gone false i=[]:=(if_pos h).trans (if_neg (by decide))
theorem ER(x gone:List Int)(keep:Bool)(k:Nat):(Bg x gone keep k).length≤k:=by
 induction k with
 | zero=>simp[Bg]
 | succ k ih=>
  rw[Cx,List.length_append];have:(Ih x gone keep k).length≤1:=by
   unfold Ih;split
   ·split<;>simp
   ·simp
  omega
def D6(n:Nd)(r:Nat):List Int:=if n.op=Ig then [AH n.attrs AB 0]else Af n.attrs AF (Cn r)
def A7(n:Nd)(x:List Int):Option (List Int):=
 match By (D6 n x.length) x.length with
 | none=>none
 | some gone=>if AH n.attrs CT 1=0∨AH n.attrs CT 1=1 then some (Bg x gone (decide (AH n.attrs CT 1=1)) x.length)else none
theorem FH{n:Nd}{x:List Int}(h:By (D6 n x.length) x.length=none):A7 n x=none:=by unfold A7;rw[h]
theorem FI{n:Nd}{x gone:List Int}(h:By (D6 n x.length) x.length=some gone)(hk:¬(AH n.attrs CT 1=0∨AH n.attrs CT 1=1)):A7 n x=none:=by unfold A7;rw[h];exact if_neg hk
theorem FJ{n:Nd}{x gone:List Int}{keep:Int}(h:By (D6 n x.length) x.length=some gone)(he:AH n.attrs CT 1=keep)(hk:keep=0∨keep=1):A7 n x=some (Bg x gone (decide (keep=1)) x.length):=by subst he;unfold A7;rw[h];exact if_pos hk
theorem Ij:Bf 0:=by unfold Bf;decide
theorem FK:Bf 1:=by unfold Bf;decide
attribute [local irreducible] Cn Af AH By Ag BI Bg Ih
theorem Ow{w:World}{v vx:Value}{n:Nd}{ins:List Vl}{x:List Int}(h:BF w v n ins)(hx:Aa w vx x) :
  Calls Tryz.prog 48 #[v,vx] w fun e w'=>AY w (A7 n x) e w':=by
 obtain⟨i0,hi,hz0,hz1,hz2⟩:=info_parts AI;have HU:=hid (fun(W:World) (h:x.length*8≤140737488351232)=>Ku x.length h W);have HY:=hid (fun(W:World)=>Ao W);have HNo:=hid (fun(W:World)=>Aw W);have HCo:=hid (fun(W:World) (u:Value) (ks:List Int) (h:Aa W u ks) (x:Int)=>Ew h x);obtain⟨vin,vat,vv,rfl,hm⟩:=h;obtain⟨a1,c1,rfl⟩:=hm.node.is.form;obtain⟨a2,c2,rfl⟩:=hm.node.ia.form;obtain⟨a3,c3,rfl⟩:=hm.ins.form;obtain⟨a4,c4,rfl⟩:=hx.shape;have hxl:=hx.wf.1;have HM:=hid hm;have HX:=hid hx;clear hm hx;go_enter Tryz.func48,Tryz.ntmps48
 go_wp2_with fail
 have hB1:Hid (Below w.heap.size w (w.alloc (Obj.cells #[.string n.op,.string n.name,.slice a1 n.ins.length c1,.string n.out,.slice a2 n.attrs.length c2,.slice a3 ins.length c3] 55))):=hid ((Below.refl _ w).alloc (Nat.le_refl _) _);have hA1:=hid (Ac.new w #[.string n.op,.string n.name,.slice a1 n.ins.length c1,.string n.out,.slice a2 n.attrs.length c2,.slice a3 ins.length c3] 55);generalize w.alloc _=W1 at hB1 hA1⊢;have HND:Hid (∀W,Below W1.heap.size W1 W→Ba W (.agg #[.string n.op,.string n.name,.slice a1 n.ins.length c1,.string n.out,.slice a2 n.attrs.length c2]) n):=hid fun W hW=>⟨_,_,rfl,(HM.out.below (hB1.out.trans (hW.mono hB1.out.size))).node⟩;have HInts:Hid (∀(W:World) (vo:Value),Below W1.heap.size W1 W→Aa W vo (Cn x.length)→Calls Tryz.prog 109 #[.agg #[.string n.op,.string n.name,.slice a1 n.ins.length c1,.string n.out,.slice a2 n.attrs.length c2],.string ⟨#[97,120,101,115]⟩,vo] W fun e w'=>∃v',e=.returned v'∧BI w' W.heap.size v' (Af n.attrs AF (Cn x.length))∧Below W.heap.size W w'):=hid fun W vo hW ho=>by unfold BI;exact CR (HND.out W hW) AF ho
 have HInt:Hid (∀(W:World),Below W1.heap.size W1 W→Calls Tryz.prog 45 #[.agg #[.string n.op,.string n.name,.slice a1 n.ins.length c1,.string n.out,.slice a2 n.attrs.length c2],.string ⟨#[97,120,105,115]⟩,.int .i64 0] W fun e w'=>e=.returned (.int .i64 (AH n.attrs AB 0))∧Below W.heap.size W w'):=hid fun W hW=>DC (HND.out W hW) AB 0;have HKeep:Hid (∀(W:World),Below W1.heap.size W1 W→Calls Tryz.prog 45 #[.agg #[.string n.op,.string n.name,.slice a1 n.ins.length c1,.string n.out,.slice a2 n.attrs.length c2],.string ⟨#[107,101,101,112,100,105,109,115]⟩,.int .i64 1] W fun e w'=>e=.returned (.int .i64 (AH n.attrs CT 1))∧Below W.heap.size W w'):=hid fun W hW=>DC (HND.out W hW) CT 1;have HF:Hid (∀W',Below W1.heap.size W1 W'→Ac W' w.heap.size #[.string n.op,.string n.name,.slice a1 n.ins.length c1,.string n.out,.slice a2 n.attrs.length c2,.slice a3 ins.length c3] 55):=hid fun W' h=>hA1.out.below' h;go_wp2_with fail
 refine Ae 6 [0,1,2,3,4,5] (fun W'=>Below W1.heap.size W1 W') (by kernel_rfl) (by kernel_rfl) (fun _ d _ _ _ h=>by cases d<;>exact h) (Below.refl _ _).drew ?_;have B0:Hid (Below W1.heap.size W1 W1.drew):=hid (Below.refl _ _).drew
 repeat
  refine Ah (v:=?_) rfl rfl (Or.inl ⟨by rfl,?_⟩) ?_;rotate_left
  ·intro w' hSw;obtain⟨k0,k1,k2,k3,k4,k5⟩:=(HF.out w' hSw).six;go_simp
   try with_reducible rfl
  try simp only[Act.put,List.getElem_toArray,List.getElem_cons_zero,List.getElem_cons_succ,List.setIfInBounds_toArray,List.set_cons_zero,List.set_cons_succ]
 refine Av rfl rfl (fun K' hK=>?_);go_simp
 refine(HU.out _ hxl).mono ?_;rintro e w2⟨B2,v2,rfl,hr2⟩;have HB2:=hid (B0.out.trans (B2.mono B0.out.size));have HI2:Hid (Aa w2 v2 (Cn x.length)):=hid (hr2.ints (by rw[CE];exact hxl) (Fa _ (by omega)));refine hK.out _ _ HB2.out ?_;clear hK K' B2 hr2;refine Av rfl rfl (fun K' hK=>?_);go_simp
 refine(HInts.out _ _ HB2.out HI2.out).mono ?_;rintro e w3⟨v3,rfl,hr3,B3⟩;have HB3:=hid (HB2.out.trans (B3.mono HB2.out.size));have HR3:=hid hr3;refine hK.out _ _ HB3.out ?_;clear hK K' B3 hr3 HB2 HI2 B0;refine Aq rfl ?_;simp only[List.toList_toArray,List.drop_succ_cons,List.drop_zero];have hok:=BS (HND.out _ HB3.out) (nm:=AF) (other:=Cn x.length) (by rw[CE];exact hxl) (Fa _ (by omega));have HI3:Hid (Aa w3 v3 (Af n.attrs AF (Cn x.length))):=hid (HR3.out.ints hok.1 hok.2);obtain⟨a5,c5,rfl⟩:=HI3.out.shape;clear hok;obtain⟨k0,k1,k2,k3,k4,k5⟩:=(HF.out w3 HB3.out).six;have HAx:=hid (fun(W:World) (u:Value) (L:List Int) (h:Aa W u L)=>Ib (r:=x.length) h h.wf.1 (by omega));by_cases hop:n.op=Ig
 ·have hob:(n.op.toList==([65,114,103,77,97,120]:List UInt8))=true:=by rw[hop,EQ];simp
  have HRd:Hid (D6 n x.length=[AH n.attrs AB 0]):=hid (if_pos hop);have HIP:=hid (C7 (HND.out _ HB3.out) (nm:=AB) Ij);clear hop;go_wp2_with fail
  clear k0 k1 k2 k3 k4 k5;refine(HInt.out _ HB3.out).mono ?_;rintro e w4⟨rfl,B4⟩;have HB4:=hid (HB3.out.trans (B4.mono HB3.out.size));clear B4 HI3 HR3;generalize AH n.attrs AB 0=z at HRd HIP⊢;have HL5:Hid (Aa (w4.alloc (.cells #[.int .i64 z] 2)) (.slice (some ⟨w4.heap.size,0,none⟩) 1 1) [z]):=hid (.row w4.heap.size 0 1 [z] (by simp) (Nat.le_refl _) (by simp) (fun j hj=>by
   obtain rfl:j=0:=by simp at hj;omega
   exact(Ac.new w4 #[.int .i64 z] 2).cell 0 rfl) (by simp) (fun y hy=>(show y=z by simpa using hy) ▸ HIP.out))
  have HB5:Hid (Below W1.heap.size W1 (w4.alloc (.cells #[.int .i64 z] 2))):=hid (HB4.out.alloc HB4.out.size _);go_wp2_with fail
  generalize w4.alloc _=W5 at HL5 HB5⊢;have hA:Calls Tryz.prog 111 #[.slice (some ⟨w4.heap.size,0,none⟩) 1 1,.int .i64 (x.length:Int)] W5 fun e w'=>AY W5 (By (D6 n x.length) x.length) e w':=by rw[HRd.out];exact HAx.out W5 _ _ HL5.out
  have HLb:Hid (Below W1.heap.size W1 W5):=HB5;have HA5:=hid hA;clear hA HL5 HB4 HB5 HRd HIP;refine HA5.out.mono ?_;clear HA5;rintro e w6⟨B6,hc6⟩;have HB6:=hid (HLb.out.trans (B6.mono HLb.out.size));clear B6 HLb;have HBw6:=hid (hB1.out.trans (HB6.out.mono hB1.out.size));have HRA:=hid (fun h=>FH (n:=n) (x:=x) h);have HRK:=hid (fun gone h=>FI (n:=n) (x:=x) (gone:=gone) h);have HRG:=hid (fun gone keep h=>FJ (n:=n) (x:=x) (gone:=gone) (keep:=keep) h);have HPr:=hid (fun gone h=>A8 (r:=x.length) (l:=D6 n x.length) (ks:=gone) h);have HRl:Hid ((D6 n x.length).length *8≤140737488351232):=hid (by
   unfold D6;split
   ·simp
   ·exact(BS (HND.out _ HB6.out) (nm:=AF) (other:=Cn x.length) (by rw[CE];exact hxl) (Fa _ (by omega))).1)
  generalize D6 n x.length=L at*;generalize hax:By L x.length=ax at*;cases ax with
  | none=>
   obtain rfl:e=Em 4:=hc6;have e:=hid (HRA.out rfl);exact⟨rfl,AY.no e.out HBw6.out⟩
  | some gone=>
   obtain⟨v6,rfl,hr6⟩:∃v,e=.returned v∧Ag w6 _ v gone:=hc6;have HR6:=hid hr6;obtain⟨a6,c6,rfl⟩:=hr6.form;obtain⟨hp1,hp2⟩:=HPr.out gone rfl;have HI6:Hid (Aa w6 (.slice a6 gone.length c6) gone):=hid (hr6.ints (by rw[hp2];exact HRl.out) (fun z hz=>DO (hp1 z hz) (by omega)));have HRK:=hid (HRK.out gone rfl);have HRG:=hid (fun keep=>HRG.out gone keep rfl);clear hr6 hp1 hp2 hax HR6 HRA HPr HRl;obtain⟨k0,k1,k2,k3,k4,k5⟩:=(HF.out w6 HB6.out).six;go_wp2_with fail
   clear k0 k1 k2 k3 k4 k5;refine(HKeep.out _ HB6.out).mono ?_;rintro e w7⟨rfl,B7⟩;have HB7:=hid (HBw6.out.trans (B7.mono HBw6.out.size));have HI7:Hid (Aa w7 (.slice a6 gone.length c6) gone):=hid (HI6.out.below B7);clear B7 HI6 HB6;generalize hkp:AH n.attrs CT 1=kp at*;have HRG:=hid (HRG.out kp rfl);by_cases hk:kp=0∨kp=1
   ·have HG:=hid (HRG.out hk);have HX7:=hid (HX.out.below HB7.out);clear HRG HRK hkp;obtain⟨kb,hkb⟩:∃kb,decide (kp=1)=kb:=⟨_,rfl⟩;rw[hkb]at HG;have hk1:(kp==1)=kb:=by rw[←hkb];rfl
    have hk0:(kp==0)=!kb:=by
     rcases hk with rfl|rfl
     ·rw[←hkb];rfl
     ·rw[←hkb];rfl
    clear hk hkb;cases kb
    all_goals
     go_wp2_with fail
     refine(HY.out _).mono ?_;rintro e w'⟨rfl,rfl⟩;go_wp2_with fail
    ·go_loopw [8,41] (fun ov i wr=>∃(k:Nat),k≤x.length∧i=.int .i64 (k:Int)∧Hid (Ag wr w'.heap.size ov (Bg x gone false k))∧Hid (Below w'.heap.size w' wr)) (fun _ i _=>x.length-(intOf i).toNat)
     case atStart=>exact⟨0,Nat.zero_le _,rfl,hid (by rw[show Bg x gone false 0=[] by unfold Bg;rfl];exact Ag.nil _ _),hid (Below.refl _ _)⟩
     case round=>
      obtain⟨k,hk,rfl,hO,hW⟩:=hrel;obtain⟨ao,co,hov⟩:=hO.out.form;subst hov;have hsw:=hW.out.size;have hwl:=ER x gone false k;have HNx:=hid (Cx (x:=x) (gone:=gone) (keep:=false) (k:=k));by_cases hkz:k<x.length
      ·have hki:(k:Int)<(x.length:Int):=by omega
       obtain⟨b,off,rfl,-,hb,c0,-⟩:=Ai HX7.out hkz;have c0:=(hW.out.cell (p:=⟨b,off+k,none⟩) hb).trans c0;have hC:=HCo.out wr _ gone (HI7.out.below hW.out) (k:Int);have HC1:=hid (FG (x:=x) (gone:=gone) (keep:=false) (i:=k));have HC2:=hid (Ii (x:=x) (gone:=gone) (i:=k));generalize x.getD k 0=z at*;generalize Bg x gone false k=zs at*;cases hct:gone.contains (k:Int)with
       | false=>
        rw[hct]at hC;have hC:=hid hC;have HC1:=hid (HC1.out hct);clear hct;go_wp2_with fail
        refine hC.out.mono ?_;rintro e w''⟨rfl,rfl⟩;go_wp2_with (at_builtin;refine wpList_append_own _ rfl _ _ 29 rfl w'.heap.size 3 i0 (.int .i64 0) 1 8 Tryz.underlying29 hi hz0 hz1 hz2 rfl (by decide) _ _ _ rfl (hO.out.own.alloc _) ⟨w''.heap.size,0,none⟩ 1 1 (#[.int .i64 z]:Array Value).toList rfl rfl (World.news_of_block (heap_alloc_new w'' _)) (by simp[Value.oneCell']) ?A3 ?A4 ?A5 ?_)
        case A3=>unfold maxLen;omega
        case A4=>omega
        case A5=>first|(simp;omega)|omega
        intro v' w4 hown' hgrow _;have hb4:Hid (Below w'.heap.size w' w4):=hid ((hW.out.alloc hsw _).grown hgrow (by simp;omega) fun g hg=>(hO.out.own.lt g hg).1);have ho4:Hid (Ag w4 w'.heap.size v' (Bg x gone false (k+1))):=hid (by rw[HNx.out,HC1.out];exact hO.out.push hown');clear hown' hgrow;go_wp2_with fail
        go_roundw
        case rel=>exact⟨k+1,by omega,by go_num,ho4,hb4⟩
        case measure=>simp[intOf];omega
       | true=>
        rw[hct]at hC;have hC:=hid hC;have HC2:=hid (HC2.out hct);clear hct;go_wp2_with fail
        refine hC.out.mono ?_;rintro e w''⟨rfl,rfl⟩;have ho4:Hid (Ag w'' w'.heap.size (.slice ao zs.length co) (Bg x gone false (k+1))):=hid (by rw[HNx.out,HC2.out,List.append_nil];exact hO.out);go_wp2_with fail
        go_roundw
        case rel=>exact⟨k+1,by omega,by go_num,ho4,hW⟩
        case measure=>simp[intOf];omega
      ·have hki:¬(k:Int)<(x.length:Int):=by omega
       obtain rfl:k=x.length:=by omega
       generalize Bg x gone false x.length=zs at*;go_wp2
       go_ret
       exact AY.yes HG.out (HB7.out.trans (hW.out.mono HB7.out.size)) (hO.out.base HB7.out.size)
    ·go_loopw [8,41] (fun ov i wr=>∃(k:Nat),k≤x.length∧i=.int .i64 (k:Int)∧Hid (Ag wr w'.heap.size ov (Bg x gone true k))∧Hid (Below w'.heap.size w' wr)) (fun _ i _=>x.length-(intOf i).toNat)
     case atStart=>exact⟨0,Nat.zero_le _,rfl,hid (by rw[show Bg x gone true 0=[] by unfold Bg;rfl];exact Ag.nil _ _),hid (Below.refl _ _)⟩
     case round=>
      obtain⟨k,hk,rfl,hO,hW⟩:=hrel;obtain⟨ao,co,hov⟩:=hO.out.form;subst hov;have hsw:=hW.out.size;have hwl:=ER x gone true k;have HNx:=hid (Cx (x:=x) (gone:=gone) (keep:=true) (k:=k));by_cases hkz:k<x.length
      ·have hki:(k:Int)<(x.length:Int):=by omega
       obtain⟨b,off,rfl,-,hb,c0,-⟩:=Ai HX7.out hkz;have c0:=(hW.out.cell (p:=⟨b,off+k,none⟩) hb).trans c0;have hC:=HCo.out wr _ gone (HI7.out.below hW.out) (k:Int);have HC1:=hid (FG (x:=x) (gone:=gone) (keep:=true) (i:=k));have HC2:=hid (Kv (x:=x) (gone:=gone) (i:=k));generalize x.getD k 0=z at*;generalize Bg x gone true k=zs at*;cases hct:gone.contains (k:Int)with
       | false=>
        rw[hct]at hC;have hC:=hid hC;have HC1:=hid (HC1.out hct);clear hct;go_wp2_with fail
        refine hC.out.mono ?_;rintro e w''⟨rfl,rfl⟩;go_wp2_with (at_builtin;refine wpList_append_own _ rfl _ _ 29 rfl w'.heap.size 3 i0 (.int .i64 0) 1 8 Tryz.underlying29 hi hz0 hz1 hz2 rfl (by decide) _ _ _ rfl (hO.out.own.alloc _) ⟨w''.heap.size,0,none⟩ 1 1 (#[.int .i64 z]:Array Value).toList rfl rfl (World.news_of_block (heap_alloc_new w'' _)) (by simp[Value.oneCell']) ?A3 ?A4 ?A5 ?_)
        case A3=>unfold maxLen;omega
        case A4=>omega
        case A5=>first|(simp;omega)|omega
        intro v' w4 hown' hgrow _;have hb4:Hid (Below w'.heap.size w' w4):=hid ((hW.out.alloc hsw _).grown hgrow (by simp;omega) fun g hg=>(hO.out.own.lt g hg).1);have ho4:Hid (Ag w4 w'.heap.size v' (Bg x gone true (k+1))):=hid (by rw[HNx.out,HC1.out];exact hO.out.push hown');clear hown' hgrow;go_wp2_with fail
        go_roundw
        case rel=>exact⟨k+1,by omega,by go_num,ho4,hb4⟩
        case measure=>simp[intOf];omega
       | true=>
        rw[hct]at hC;have hC:=hid hC;have HC2:=hid (HC2.out hct);clear hct;go_wp2_with fail
        refine hC.out.mono ?_;rintro e w''⟨rfl,rfl⟩;go_wp2_with (at_builtin;refine wpList_append_own _ rfl _ _ 29 rfl w'.heap.size 3 i0 (.int .i64 0) 1 8 Tryz.underlying29 hi hz0 hz1 hz2 rfl (by decide) _ _ _ rfl (hO.out.own.alloc _) ⟨w''.heap.size,0,none⟩ 1 1 (#[.int .i64 1]:Array Value).toList rfl rfl (World.news_of_block (heap_alloc_new w'' _)) (by simp[Value.oneCell']) ?A3 ?A4 ?A5 ?_)
        case A3=>unfold maxLen;omega
        case A4=>omega
        case A5=>first|(simp;omega)|omega
        intro v' w4 hown' hgrow _;have hb4:Hid (Below w'.heap.size w' w4):=hid ((hW.out.alloc hsw _).grown hgrow (by simp;omega) fun g hg=>(hO.out.own.lt g hg).1);have ho4:Hid (Ag w4 w'.heap.size v' (Bg x gone true (k+1))):=hid (by rw[HNx.out,HC2.out];exact hO.out.push hown');clear hown' hgrow;go_wp2_with fail
        go_roundw
        case rel=>exact⟨k+1,by omega,by go_num,ho4,hb4⟩
        case measure=>simp[intOf];omega
      ·have hki:¬(k:Int)<(x.length:Int):=by omega
       obtain rfl:k=x.length:=by omega
       generalize Bg x gone true x.length=zs at*;go_wp2
       go_ret
       exact AY.yes HG.out (HB7.out.trans (hW.out.mono HB7.out.size)) (hO.out.base HB7.out.size)
   ·have e:=hid (HRK.out hk);have hk0:(kp==0)=false:=by simp;omega
    have hk1:(kp==1)=false:=by simp;omega
    clear hk;go_wp2_with fail
    refine(HNo.out _).mono ?_;rintro e w'⟨rfl,rfl⟩;exact⟨rfl,AY.no e.out HB7.out⟩
 ·have hob:(n.op.toList==([65,114,103,77,97,120]:List UInt8))=false:=by simpa using fun c=>hop (AP (c.trans EQ.symm))
  have HRd:Hid (D6 n x.length=Af n.attrs AF (Cn x.length)):=hid (if_neg hop);clear hop;go_wp2_with fail
  clear k0 k1 k2 k3 k4 k5;have hA:Calls Tryz.prog 111 #[.slice a5 (Af n.attrs AF (Cn x.length)).length c5,.int .i64 (x.length:Int)] w3 fun e w'=>AY w3 (By (D6 n x.length) x.length) e w':=by rw[HRd.out];exact HAx.out w3 _ _ HI3.out
  have HLb:=HB3;have HA5:=hid hA;clear hA HR3 HI3 HRd;refine HA5.out.mono ?_;clear HA5;rintro e w6⟨B6,hc6⟩;have HB6:=hid (HLb.out.trans (B6.mono HLb.out.size));clear B6 HLb;have HBw6:=hid (hB1.out.trans (HB6.out.mono hB1.out.size));have HRA:=hid (fun h=>FH (n:=n) (x:=x) h);have HRK:=hid (fun gone h=>FI (n:=n) (x:=x) (gone:=gone) h);have HRG:=hid (fun gone keep h=>FJ (n:=n) (x:=x) (gone:=gone) (keep:=keep) h);have HPr:=hid (fun gone h=>A8 (r:=x.length) (l:=D6 n x.length) (ks:=gone) h);have HRl:Hid ((D6 n x.length).length *8≤140737488351232):=hid (by
   unfold D6;split
   ·simp
   ·exact(BS (HND.out _ HB6.out) (nm:=AF) (other:=Cn x.length) (by rw[CE];exact hxl) (Fa _ (by omega))).1)
  generalize D6 n x.length=L at*;generalize hax:By L x.length=ax at*;cases ax with
  | none=>
   obtain rfl:e=Em 4:=hc6;have e:=hid (HRA.out rfl);exact⟨rfl,AY.no e.out HBw6.out⟩
  | some gone=>
   obtain⟨v6,rfl,hr6⟩:∃v,e=.returned v∧Ag w6 _ v gone:=hc6;have HR6:=hid hr6;obtain⟨a6,c6,rfl⟩:=hr6.form;obtain⟨hp1,hp2⟩:=HPr.out gone rfl;have HI6:Hid (Aa w6 (.slice a6 gone.length c6) gone):=hid (hr6.ints (by rw[hp2];exact HRl.out) (fun z hz=>DO (hp1 z hz) (by omega)));have HRK:=hid (HRK.out gone rfl);have HRG:=hid (fun keep=>HRG.out gone keep rfl);clear hr6 hp1 hp2 hax HR6 HRA HPr HRl;obtain⟨k0,k1,k2,k3,k4,k5⟩:=(HF.out w6 HB6.out).six;go_wp2_with fail
   clear k0 k1 k2 k3 k4 k5;refine(HKeep.out _ HB6.out).mono ?_;rintro e w7⟨rfl,B7⟩;have HB7:=hid (HBw6.out.trans (B7.mono HBw6.out.size));have HI7:Hid (Aa w7 (.slice a6 gone.length c6) gone):=hid (HI6.out.below B7);clear B7 HI6 HB6;generalize hkp:AH n.attrs CT 1=kp at*;have HRG:=hid (HRG.out kp rfl);by_cases hk:kp=0∨kp=1
   ·have HG:=hid (HRG.out hk);have HX7:=hid (HX.out.below HB7.out);clear HRG HRK hkp;obtain⟨kb,hkb⟩:∃kb,decide (kp=1)=kb:=⟨_,rfl⟩;rw[hkb]at HG;have hk1:(kp==1)=kb:=by rw[←hkb];rfl
    have hk0:(kp==0)=!kb:=by
     rcases hk with rfl|rfl
     ·rw[←hkb];rfl
     ·rw[←hkb];rfl
    clear hk hkb;cases kb
    all_goals
     go_wp2_with fail
     refine(HY.out _).mono ?_;rintro e w'⟨rfl,rfl⟩;go_wp2_with fail
    ·go_loopw [8,41] (fun ov i wr=>∃(k:Nat),k≤x.length∧i=.int .i64 (k:Int)∧Hid (Ag wr w'.heap.size ov (Bg x gone false k))∧Hid (Below w'.heap.size w' wr)) (fun _ i _=>x.length-(intOf i).toNat)
     case atStart=>exact⟨0,Nat.zero_le _,rfl,hid (by rw[show Bg x gone false 0=[] by unfold Bg;rfl];exact Ag.nil _ _),hid (Below.refl _ _)⟩
     case round=>
      obtain⟨k,hk,rfl,hO,hW⟩:=hrel;obtain⟨ao,co,hov⟩:=hO.out.form;subst hov;have hsw:=hW.out.size;have hwl:=ER x gone false k;have HNx:=hid (Cx (x:=x) (gone:=gone) (keep:=false) (k:=k));by_cases hkz:k<x.length
      ·have hki:(k:Int)<(x.length:Int):=by omega
       obtain⟨b,off,rfl,-,hb,c0,-⟩:=Ai HX7.out hkz;have c0:=(hW.out.cell (p:=⟨b,off+k,none⟩) hb).trans c0;have hC:=HCo.out wr _ gone (HI7.out.below hW.out) (k:Int);have HC1:=hid (FG (x:=x) (gone:=gone) (keep:=false) (i:=k));have HC2:=hid (Ii (x:=x) (gone:=gone) (i:=k));generalize x.getD k 0=z at*;generalize Bg x gone false k=zs at*;cases hct:gone.contains (k:Int)with
       | false=>
        rw[hct]at hC;have hC:=hid hC;have HC1:=hid (HC1.out hct);clear hct;go_wp2_with fail
        refine hC.out.mono ?_;rintro e w''⟨rfl,rfl⟩;go_wp2_with (at_builtin;refine wpList_append_own _ rfl _ _ 29 rfl w'.heap.size 3 i0 (.int .i64 0) 1 8 Tryz.underlying29 hi hz0 hz1 hz2 rfl (by decide) _ _ _ rfl (hO.out.own.alloc _) ⟨w''.heap.size,0,none⟩ 1 1 (#[.int .i64 z]:Array Value).toList rfl rfl (World.news_of_block (heap_alloc_new w'' _)) (by simp[Value.oneCell']) ?A3 ?A4 ?A5 ?_)
        case A3=>unfold maxLen;omega
        case A4=>omega
        case A5=>first|(simp;omega)|omega
        intro v' w4 hown' hgrow _;have hb4:Hid (Below w'.heap.size w' w4):=hid ((hW.out.alloc hsw _).grown hgrow (by simp;omega) fun g hg=>(hO.out.own.lt g hg).1);have ho4:Hid (Ag w4 w'.heap.size v' (Bg x gone false (k+1))):=hid (by rw[HNx.out,HC1.out];exact hO.out.push hown');clear hown' hgrow;go_wp2_with fail
        go_roundw
        case rel=>exact⟨k+1,by omega,by go_num,ho4,hb4⟩
        case measure=>simp[intOf];omega
       | true=>
        rw[hct]at hC;have hC:=hid hC;have HC2:=hid (HC2.out hct);clear hct;go_wp2_with fail
        refine hC.out.mono ?_;rintro e w''⟨rfl,rfl⟩;have ho4:Hid (Ag w'' w'.heap.size (.slice ao zs.length co) (Bg x gone false (k+1))):=hid (by rw[HNx.out,HC2.out,List.append_nil];exact hO.out);go_wp2_with fail
        go_roundw
        case rel=>exact⟨k+1,by omega,by go_num,ho4,hW⟩
        case measure=>simp[intOf];omega
      ·have hki:¬(k:Int)<(x.length:Int):=by omega
       obtain rfl:k=x.length:=by omega
       generalize Bg x gone false x.length=zs at*;go_wp2
       go_ret
       exact AY.yes HG.out (HB7.out.trans (hW.out.mono HB7.out.size)) (hO.out.base HB7.out.size)
    ·go_loopw [8,41] (fun ov i wr=>∃(k:Nat),k≤x.length∧i=.int .i64 (k:Int)∧Hid (Ag wr w'.heap.size ov (Bg x gone true k))∧Hid (Below w'.heap.size w' wr)) (fun _ i _=>x.length-(intOf i).toNat)
     case atStart=>exact⟨0,Nat.zero_le _,rfl,hid (by rw[show Bg x gone true 0=[] by unfold Bg;rfl];exact Ag.nil _ _),hid (Below.refl _ _)⟩
     case round=>
      obtain⟨k,hk,rfl,hO,hW⟩:=hrel;obtain⟨ao,co,hov⟩:=hO.out.form;subst hov;have hsw:=hW.out.size;have hwl:=ER x gone true k;have HNx:=hid (Cx (x:=x) (gone:=gone) (keep:=true) (k:=k));by_cases hkz:k<x.length
      ·have hki:(k:Int)<(x.length:Int):=by omega
       obtain⟨b,off,rfl,-,hb,c0,-⟩:=Ai HX7.out hkz;have c0:=(hW.out.cell (p:=⟨b,off+k,none⟩) hb).trans c0;have hC:=HCo.out wr _ gone (HI7.out.below hW.out) (k:Int);have HC1:=hid (FG (x:=x) (gone:=gone) (keep:=true) (i:=k));have HC2:=hid (Kv (x:=x) (gone:=gone) (i:=k));generalize x.getD k 0=z at*;generalize Bg x gone true k=zs at*;cases hct:gone.contains (k:Int)with
       | false=>
        rw[hct]at hC;have hC:=hid hC;have HC1:=hid (HC1.out hct);clear hct;go_wp2_with fail
        refine hC.out.mono ?_;rintro e w''⟨rfl,rfl⟩;go_wp2_with (at_builtin;refine wpList_append_own _ rfl _ _ 29 rfl w'.heap.size 3 i0 (.int .i64 0) 1 8 Tryz.underlying29 hi hz0 hz1 hz2 rfl (by decide) _ _ _ rfl (hO.out.own.alloc _) ⟨w''.heap.size,0,none⟩ 1 1 (#[.int .i64 z]:Array Value).toList rfl rfl (World.news_of_block (heap_alloc_new w'' _)) (by simp[Value.oneCell']) ?A3 ?A4 ?A5 ?_)
        case A3=>unfold maxLen;omega
        case A4=>omega
        case A5=>first|(simp;omega)|omega
        intro v' w4 hown' hgrow _;have hb4:Hid (Below w'.heap.size w' w4):=hid ((hW.out.alloc hsw _).grown hgrow (by simp;omega) fun g hg=>(hO.out.own.lt g hg).1);have ho4:Hid (Ag w4 w'.heap.size v' (Bg x gone true (k+1))):=hid (by rw[HNx.out,HC1.out];exact hO.out.push hown');clear hown' hgrow;go_wp2_with fail
        go_roundw
        case rel=>exact⟨k+1,by omega,by go_num,ho4,hb4⟩
        case measure=>simp[intOf];omega
       | true=>
        rw[hct]at hC;have hC:=hid hC;have HC2:=hid (HC2.out hct);clear hct;go_wp2_with fail
        refine hC.out.mono ?_;rintro e w''⟨rfl,rfl⟩;go_wp2_with (at_builtin;refine wpList_append_own _ rfl _ _ 29 rfl w'.heap.size 3 i0 (.int .i64 0) 1 8 Tryz.underlying29 hi hz0 hz1 hz2 rfl (by decide) _ _ _ rfl (hO.out.own.alloc _) ⟨w''.heap.size,0,none⟩ 1 1 (#[.int .i64 1]:Array Value).toList rfl rfl (World.news_of_block (heap_alloc_new w'' _)) (by simp[Value.oneCell']) ?A3 ?A4 ?A5 ?_)
        case A3=>unfold maxLen;omega
        case A4=>omega
        case A5=>first|(simp;omega)|omega
        intro v' w4 hown' hgrow _;have hb4:Hid (Below w'.heap.size w' w4):=hid ((hW.out.alloc hsw _).grown hgrow (by simp;omega) fun g hg=>(hO.out.own.lt g hg).1);have ho4:Hid (Ag w4 w'.heap.size v' (Bg x gone true (k+1))):=hid (by rw[HNx.out,HC2.out];exact hO.out.push hown');clear hown' hgrow;go_wp2_with fail
        go_roundw
        case rel=>exact⟨k+1,by omega,by go_num,ho4,hb4⟩
        case measure=>simp[intOf];omega
      ·have hki:¬(k:Int)<(x.length:Int):=by omega
       obtain rfl:k=x.length:=by omega
       generalize Bg x gone true x.length=zs at*;go_wp2
       go_ret
       exact AY.yes HG.out (HB7.out.trans (hW.out.mono HB7.out.size)) (hO.out.base HB7.out.size)
   ·have e:=hid (HRK.out hk);have hk0:(kp==0)=false:=by simp;omega
    have hk1:(kp==1)=false:=by simp;omega
    clear hk;go_wp2_with fail
    refine(HNo.out _).mono ?_;rintro e w'⟨rfl,rfl⟩;exact⟨rfl,AY.no e.out HB7.out⟩
end
def UA(g:Nat)(lb:Array Value)(p:Vl→Bool)(w:World):Prop:=
 ∀(W:World) (x:Vl) (vd:Value),Below w.heap.size w W→AM W [.string x.name,.int .i64 x.typ,vd] x→Calls Tryz.prog g (#[.agg #[.string x.name,.int .i64 x.typ,vd]]++lb) W fun e w'=>e=.returned (.bool (p x))∧Below W.heap.size W w'
theorem Qu(b off cap:Nat)(l:List Vl)(hlen:l.length≤1048576)(w:World)(hr:Hid (BJ 3 AM w (.slice (some ⟨b,off,none⟩) l.length cap) l))(g:Nat)(lb:Array Value)(eg:∀args w,(callFunc g args).run Tryz.prog w=.ok (.enter g args) w)(p:Vl→Bool)(hp:Hid (UA g lb p w)) :
  Calls Tryz.prog 163 #[.slice (some ⟨b,off,none⟩) l.length cap,.func (.func g) #[] lb] w fun e w'=>e=.returned (.int .i64 (CX p l))∧Below w.heap.size w w':=by
 go_enter Tryz.func163,Tryz.ntmps163
 go_wp2
 go_loopg [5,8] l.length (fun gg _ s8 wr=>∃k:Nat,k≤l.length∧l.length-k≤gg∧s8=.int .i64 (k:Int)∧Hid (Below w.heap.size w wr)∧Hid ((l.take k).any p=false))
 case atStart=>exact⟨0,Nat.zero_le _,by omega,rfl,hid (Below.refl _ _),hid (by simp)⟩
 case round=>
  obtain⟨k,hk,hg,rfl,hB,hany⟩:=hrel;by_cases hkl:k<l.length
  ·have hki:(k:Int)<(l.length:Int):=by omega
   obtain⟨x,hx⟩:∃x,l[k]?=some x:=⟨_,List.getElem?_eq_getElem hkl⟩;obtain⟨b',off',cap',vd,hv,hb,c0,c1,c2,h1,h2,h3⟩:=Bm hr.out hx;obtain⟨hv1,_,rfl⟩:=Value.slice.inj hv;obtain⟨rfl,rfl⟩:b'=b∧off'=off:=by simpa using hv1.symm
   have c0:=(hB.out.cell (p:=⟨b',off'+k*3,none⟩) hb).trans c0;have c1:=(hB.out.cell (p:=⟨b',off'+k*3+1,none⟩) hb).trans c1;have c2:=(hB.out.cell (p:=⟨b',off'+k*3+2,none⟩) hb).trans c2;have hcall:=hid (hp.out _ x vd hB.out ⟨vd,rfl,h1,h2,h3.below hB.out⟩);have HA:=hid hx;clear hx h1 h2 h3 hv hv1;cases hq:p x with
   | true=>
    have e:=hid (Hz HA.out hany.out hq);rw[hq]at hcall;clear hq;go_wp2_with (go_at_fn g;refine hcall.out.mono ?_;rintro e w'⟨rfl,hB2⟩)
    go_ret
    exact⟨Ab (An e.out.symm),hB.out.trans (hB2.mono hB.out.size)⟩
   | false=>
    have e:=hid (CY HA.out hany.out hq);rw[hq]at hcall;clear hq;go_wp2_with (go_at_fn g;refine hcall.out.mono ?_;rintro e w'⟨rfl,hB2⟩)
    go_roundg (l.length-(k+1))
    case measure=>omega
    case rel=>exact⟨k+1,by omega,by omega,by go_num,hid (hB.out.trans (hB2.mono hB.out.size)),e⟩
  ·have hki:¬(k:Int)<(l.length:Int):=by omega
   obtain rfl:k=l.length:=by omega
   have e:Hid (CX p l=-1):=hid (El (by have:=hany.out;rwa [List.take_length]at this));go_wp2
   go_ret
   exact⟨Ab (An e.out.symm),hB.out⟩
theorem M3(a0:Option Addr)(cap:Nat)(fn:Value)(p:Vl→Bool)(w:World) :
  Calls Tryz.prog 163 #[.slice a0 0 cap,fn] w fun e w'=>e=.returned (.int .i64 (CX p []))∧Below w.heap.size w w':=by
 have e:CX p []=-1:=rfl;rw[e];go_enter Tryz.func163,Tryz.ntmps163
 go_wp2
 go_rounds 1
 go_ret
 exact⟨rfl,Below.refl _ _⟩
theorem Qv{w:World}{v:Value}{l:List Vl}(h:BJ 3 AM w v l)(g:Nat)(lb:Array Value)(eg:∀args w,(callFunc g args).run Tryz.prog w=.ok (.enter g args) w)(p:Vl→Bool)(hp:UA g lb p w) :
  Calls Tryz.prog 163 #[v,.func (.func g) #[] lb] w fun e w'=>e=.returned (.int .i64 (CX p l))∧Below w.heap.size w w':=by
 have h0:=h;cases h with
 | empty a0 cap=>exact M3 a0 cap _ p w
 | row b off cap _ _ _ _ _ hlen=>exact Qu b off cap l (by omega) w (hid h0) g lb eg p (hid hp)
theorem Lw{w:World}{v:Value}{l:List Vl}(h:BJ 3 AM w v l)(g:Nat)(lb:Array Value)(eg:∀args w,(callFunc g args).run Tryz.prog w=.ok (.enter g args) w)(p:Vl→Bool)(hp:UA g lb p w) :
  Calls Tryz.prog 106 #[v,.func (.func g) #[] lb] w fun e w'=>e=.returned (.bool (l.any p))∧Below w.heap.size w w':=by
 have H:=hid (Qv h g lb eg p hp);have hg:=hid (H7 p l);go_enter Tryz.func106,Tryz.ntmps106
 go_wp2_with (go_at_call 163;refine H.out.mono ?_;rintro e w'⟨rfl,hB⟩)
 go_ret
 refine⟨Ab (Ar ?_),hB⟩;have:=hg.out
 simpa using this
end Go.Proofs.YtkkeehnldcdccaaGreatDoor
