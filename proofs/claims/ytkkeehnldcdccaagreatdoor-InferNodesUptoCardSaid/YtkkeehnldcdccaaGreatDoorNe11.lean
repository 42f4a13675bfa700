import Derived.Test.YtkkeehnldcdccaaGreatDoorNe10
set_option linter.unusedVariables false
set_option linter.unusedSimpArgs false
set_option maxRecDepth 100000
set_option maxHeartbeats 4000000
namespace Go.Proofs.YtkkeehnldcdccaaGreatDoor
open Go.Lib (hid)
open Go.RowKit
section
theorem RM{w:World}{v:Value}{ats:List At}(h:Bw w v ats){a:At}(ha:a∈ats):∃vd vx vi,Er w a vd vx vi:=by
 obtain⟨j,hj⟩:=List.getElem?_of_mem ha;obtain⟨b,off,cap,_,_,hr⟩:=h.rows j a hj;obtain⟨vd,vx,vi,_,hn⟩:=hr j a hj;exact⟨vd,vx,vi,hn⟩
theorem BS{w:World}{v:Value}{n:Nd}(h:Ba w v n){nm:ByteArray}{other:List Int}(h1:other.length*8≤140737488351232)(h2:∀z∈other,Bf z):(Af n.attrs nm other).length *8≤140737488351232∧∀z∈Af n.attrs nm other,Bf z:=by
 obtain⟨vin,vat,rfl,hn⟩:=h;unfold Af;split
 ·exact⟨h1,h2⟩
 ·rename_i a ha
  obtain⟨vd,vx,vi,hN⟩:=RM hn.ia (List.mem_of_find?_eq_some ha);exact⟨hN.ii.wf.1,hN.ii.wf.2⟩
theorem C7{w:World}{v:Value}{n:Nd}(h:Ba w v n){nm:ByteArray}{other:Int}(h1:Bf other):Bf (AH n.attrs nm other):=by
 obtain⟨vin,vat,rfl,hn⟩:=h;unfold AH;split
 ·exact h1
 ·rename_i a ha
  obtain⟨vd,vx,vi,hN⟩:=RM hn.ia (List.mem_of_find?_eq_some ha);exact hN.wi
def BI(w:World)(B:Nat)(v:Value)(zs:List Int):Prop:=w.ownsRow B 2 1 v zs.length (zs.map (Value.int .i64))
theorem BI.nil(w:World)(B:Nat):BI w B (.slice none 0 0) []:=World.ownsRow_nil _ _ _ _
theorem BI.form{w:World}{B:Nat}{v:Value}{zs:List Int}(h:BI w B v zs):∃a c,v=.slice a zs.length c:=Bh h
theorem BI.below{w w':World}{B:Nat}{v:Value}{zs:List Int}(h:BI w B v zs)(hB:Below w.heap.size w w'):BI w' B v zs:=AJ h hB
theorem BI.ints{w:World}{B:Nat}{v:Value}{zs:List Int}(h:BI w B v zs)(hl:zs.length*8≤140737488351232)(hw:∀z∈zs,Bf z):Aa w v zs:=
 Aa.of_owns (B:=B) (t:=2) h (by omega) hw
theorem BI.own{w:World}{B:Nat}{v:Value}{zs:List Int}(h:BI w B v zs):w.ownsRow B 2 1 v zs.length (zs.map (Value.int .i64)):=h
theorem BI.push{w w':World}{B:Nat}{v v':Value}{zs:List Int}{x:Int}(h:BI w B v zs)(hr:w'.ownsRow B 2 1 v' (zs.length+1) (zs.map (Value.int .i64)++[.int .i64 x])):BI w' B v' (zs++[x]):=by
 unfold BI;rw[List.length_append,List.map_append];exact hr
def Cn(n:Nat):List Int:=(List.range n).map fun(i:Nat)=>(i:Int)
theorem Kt(k:Nat):Cn (k+1)=Cn k++[(k:Int)]:=by unfold Cn;rw[List.range_succ,List.map_append];rfl
theorem CE(k:Nat):(Cn k).length=k:=by unfold Cn;simp
theorem Fa(k:Nat)(h:k≤1125899906842624):∀z∈Cn k,Bf z:=fun z hz=>by
 unfold Cn at hz;obtain⟨i,hi,rfl⟩:=List.mem_map.1 hz;have:=List.mem_range.1 hi;unfold Bf;omega
attribute [local irreducible] Cn
theorem Ku(n:Nat)(hn:n*8≤140737488351232)(w:World) :
  Calls Tryz.prog 110 #[.int .i64 (n:Int)] w fun e w'=>Below w.heap.size w w'∧∃v,e=.returned v∧BI w' w.heap.size v (Cn n):=by
 obtain⟨i0,hi,hz0,hz1,hz2⟩:=info_parts Dp;go_enter Tryz.func110,Tryz.ntmps110
 go_wp2_with fail
 go_loopw [3,6] (fun ov i wr=>∃(k:Nat),k≤n∧i=.int .i64 (k:Int)∧Hid (BI wr w.heap.size ov (Cn k))∧Hid (Below w.heap.size w wr)) (fun _ i _=>n-(intOf i).toNat)
 case atStart=>exact⟨0,Nat.zero_le _,rfl,hid (by rw[show Cn 0=[] by unfold Cn;rfl];exact BI.nil _ _),hid (Below.refl _ _)⟩
 case round=>
  obtain⟨k,hk,rfl,hO,hW⟩:=hrel;obtain⟨ao,co,rfl⟩:=hO.out.form;have hsw:=hW.out.size;have hlen:=CE k;have HN:=hid (Kt k);by_cases hkz:k<n
  ·have hki:(k:Int)<(n:Int):=by omega
   generalize Cn k=zs at*;have HLn:=hid hlen;have hl2:zs.length≤k:=by omega
   clear hlen;go_wp2_with (at_builtin;refine wpList_append_own _ rfl _ _ 39 rfl w.heap.size 2 i0 (.int .i64 0) 1 8 Tryz.underlying39 hi hz0 hz1 hz2 rfl (by decide) _ _ _ rfl (hO.out.own.alloc _) ⟨wr.heap.size,0,none⟩ 1 1 (#[.int .i64 (k:Int)]:Array Value).toList rfl rfl (World.news_of_block (heap_alloc_new wr _)) (by simp[Value.oneCell']) ?A3 ?A4 ?A5 ?_)
   case A3=>unfold maxLen;omega
   case A4=>omega
   case A5=>simp;omega
   intro v' w4 hown' hgrow _;have hb4:Hid (Below w.heap.size w w4):=hid ((hW.out.alloc hsw _).grown hgrow (by simp;omega) fun g hg=>(hO.out.own.lt g hg).1);have ho4:Hid (BI w4 w.heap.size v' (Cn (k+1))):=hid (by rw[HN.out];exact hO.out.push hown');clear hown' hgrow;go_wp2_with fail
   go_roundw
   case rel=>exact⟨k+1,by omega,by go_num,ho4,hb4⟩
   case measure=>simp[intOf];omega
  ·have hki:¬(k:Int)<(n:Int):=by omega
   obtain rfl:k=n:=by omega
   have hO':=hO.out;rw[hlen]at hO';have HO':=hid hO';clear hO';go_wp2
   go_ret
   exact⟨hW.out,_,rfl,HO'.out⟩
def AN(l:List Int)(count lo hi:Int):Option (List Int):=if(l.all fun x=>decide (lo≤x)&&decide (x≤hi))=true∧(l.length:Int)=count then some l else none
theorem Om{l:List Int}{count lo hi:Int}{k:Nat}(hk:k<l.length)(h:(decide (lo≤l.getD k 0)&&decide (l.getD k 0≤hi))=false):AN l count lo hi=none:=by
 unfold AN;rw[if_neg];rintro⟨h1,_⟩;have:=List.all_eq_true.1 h1 _ (Am hk);rw[h]at this;cases this
theorem On{l:List Int}{count lo hi:Int}(h:(l.all fun x=>decide (lo≤x)&&decide (x≤hi))=true):AN l count lo hi=if(l.length:Int)=count then some l else none:=by
 unfold AN;by_cases e:(l.length:Int)=count
 ·rw[if_pos ⟨h,e⟩,if_pos e]
 ·rw[if_neg (fun c=>e c.2),if_neg e]
theorem Oo{l:List Int}{k:Nat}{p:Int→Bool}(hk:k<l.length)(h:(l.take k).all p=true)(g:p (l.getD k 0)=true):(l.take (k+1)).all p=true:=by
 rw[List.take_add_one,Fz hk,List.all_append,h]
 simpa using g
theorem II{l:List Int}{k:Nat}(hk:k<l.length):l.take (k+1)=l.take k++[l.getD k 0]:=by
 rw[List.take_add_one,Fz hk];rfl
attribute [local irreducible] AN Af Ag
theorem CZ{w:World}{v vo:Value}{n:Nd}(h:Ba w v n)(nm:ByteArray){other:List Int}(ho:Aa w vo other)(count lo hi:Int) :
  Calls Tryz.prog 115 #[v,.string nm,vo,.int .i64 count,.int .i64 lo,.int .i64 hi] w fun e w'=>AY w (AN (Af n.attrs nm other) count lo hi) e w':=by
 obtain⟨i0,hi0,hz0,hz1,hz2⟩:=info_parts AI;have HI:=hid (fun(W:World) (u:Value) (hu:Ba W u n) (ho:Aa W vo other)=>CR hu nm ho);have HY:=hid (fun(W:World)=>Ao W);have HNo:=hid (fun(W:World)=>Aw W);have hok:=BS h (nm:=nm) ho.wf.1 ho.wf.2;obtain⟨vin,vat,rfl,hn⟩:=h;obtain⟨a1,c1,rfl⟩:=hn.is.form;obtain⟨a2,c2,rfl⟩:=hn.ia.form;obtain⟨a3,c3,rfl⟩:=ho.shape;have HN:=hid hn;have HOt:=hid ho;clear hn ho;unfold Nd.val;go_enter Tryz.func115,Tryz.ntmps115
 go_wp2_with fail
 have hB1:Hid (Below w.heap.size w (w.alloc (Obj.cells #[Value.string n.op,.string n.name,.slice a1 n.ins.length c1,.string n.out,.slice a2 n.attrs.length c2] 25))):=hid ((Below.refl _ w).alloc (Nat.le_refl _) _);generalize w.alloc _=W1 at hB1⊢;have hI:=HI.out W1 _ ⟨_,_,rfl,HN.out.below hB1.out⟩ (HOt.out.below hB1.out);unfold Nd.val at hI;refine hI.mono ?_;rintro e w2⟨v2,rfl,hr2,B2⟩;clear hI HI HN HOt;obtain⟨zs,hzs⟩:∃zs,Af n.attrs nm other=zs:=⟨_,rfl⟩;have HZ:=hid hzs;rw[hzs]at hok hr2;clear hzs;have HB2:=hid (hB1.out.trans (B2.mono hB1.out.size));have HIn:Hid (Aa w2 v2 zs):=hid (BI.ints (B:=W1.heap.size) hr2 hok.1 hok.2);have hlen:=hok.1;clear hr2 B2 hok;obtain⟨az,cz,rfl⟩:=HIn.out.shape;go_wp2_with fail
 go_loopw [14,23] (fun ov i wr=>∃(k:Nat),k≤zs.length∧i=.int .i64 (k:Int)∧Hid (((zs.take k).all fun x=>decide (lo≤x)&&decide (x≤hi))=true)∧Hid (Ag wr w2.heap.size ov (zs.take k))∧Hid (Below w2.heap.size w2 wr)) (fun _ i _=>zs.length-(intOf i).toNat)
 case atStart=>exact⟨0,Nat.zero_le _,rfl,hid (by simp),hid (by rw[List.take_zero];exact Ag.nil _ _),hid (Below.refl _ _)⟩
 case round=>
  obtain⟨k,hk,rfl,hT,hO,hW⟩:=hrel;obtain⟨ao,co,hov⟩:=hO.out.form;subst hov;have hBw:=hid (HB2.out.trans (hW.out.mono HB2.out.size));have hsw:=hBw.out.size;have hsw2:=hW.out.size;have htk:(zs.take k).length=k:=by rw[List.length_take];omega
  rw[htk];by_cases hkz:k<zs.length
  ·have hki:(k:Int)<(zs.length:Int):=by omega
   obtain⟨b,off,rfl,-,hb,c0,-⟩:=Ai HIn.out hkz;have c0:=(hW.out.cell (p:=⟨b,off+k,none⟩) hb).trans c0;have H1:=hid (Om (count:=count) (lo:=lo) (hi:=hi) hkz);have H2:=hid (Oo (p:=fun x=>decide (lo≤x)&&decide (x≤hi)) hkz hT.out);have H3:=hid (II hkz);generalize zs.getD k 0=z at*;by_cases h1:lo≤z
   ·by_cases h2:z≤hi
    ·have H2:=hid (H2.out (by simp[h1,h2]));go_wp2_with fail
     refine(HY.out _).mono ?_;rintro e w'⟨rfl,rfl⟩;have HO2:Hid (w'.ownsRow w2.heap.size 3 1 (.slice ao k co) k ((zs.take k).map (Value.int .i64))):=hid (by have:=hO.out.own;rwa [htk]at this);have HTk:=hid htk;clear htk;go_wp2_with (at_builtin;refine wpList_append_own _ rfl _ _ 29 rfl w2.heap.size 3 i0 (.int .i64 0) 1 8 Tryz.underlying29 hi0 hz0 hz1 hz2 rfl (by decide) _ _ _ rfl (HO2.out.alloc _) ⟨w'.heap.size,0,none⟩ 1 1 (#[.int .i64 z]:Array Value).toList rfl rfl (World.news_of_block (heap_alloc_new w' _)) (by simp[Value.oneCell']) ?A3 ?A4 ?A5 ?_)
     case A3=>unfold maxLen;omega
     case A4=>omega
     case A5=>simp;omega
     intro v' w4 hown' hgrow _;have hb4:Hid (Below w2.heap.size w2 w4):=hid ((hW.out.alloc hW.out.size _).grown hgrow (by simp;have:=hW.out.size;omega) fun g hg=>(HO2.out.lt g hg).1);have ho4:Hid (Ag w4 w2.heap.size v' (zs.take (k+1))):=hid (by
      rw[H3.out];refine hO.out.push ?_;rw[HTk.out,List.map_take];exact hown')
     clear hown' hgrow;go_wp2_with fail
     go_roundw
     case rel=>exact⟨k+1,by omega,by go_num,H2,ho4,hb4⟩
     case measure=>simp[intOf];omega
    ·have e:=hid (H1.out (by simp[h1,h2]));go_wp2_with fail
     refine(HNo.out _).mono ?_;rintro e w'⟨rfl,rfl⟩;exact⟨rfl,AY.no (by rw[HZ.out];exact e.out) hBw.out⟩
   ·have e:=hid (H1.out (by simp[h1]));go_wp2_with fail
    refine(HNo.out _).mono ?_;rintro e w'⟨rfl,rfl⟩;exact⟨rfl,AY.no (by rw[HZ.out];exact e.out) hBw.out⟩
  ·have hki:¬(k:Int)<(zs.length:Int):=by omega
   obtain rfl:k=zs.length:=by omega
   have he:=hid (On (count:=count) (by have:=hT.out;rwa [List.take_length]at this));have HOz:Hid (Ag wr w2.heap.size (.slice ao zs.length co) zs):=hid (by have:=hO.out;rwa [List.take_length]at this);by_cases hc:(zs.length:Int)=count
   ·have e:=hid (he.out.trans (if_pos hc));have hcb:((zs.length:Int)==count)=true:=by simpa using hc
    clear hc;go_wp2_with fail
    refine(HY.out _).mono ?_;rintro e w'⟨rfl,rfl⟩;go_wp2
    go_ret
    exact AY.yes (by rw[HZ.out];exact e.out) hBw.out (HOz.out.base HB2.out.size)
   ·have e:=hid (he.out.trans (if_neg hc));have hcb:((zs.length:Int)==count)=false:=by simpa using hc
    clear hc;go_wp2_with fail
    refine(HNo.out _).mono ?_;rintro e w'⟨rfl,rfl⟩;exact⟨rfl,AY.no (by rw[HZ.out];exact e.out) hBw.out⟩
end
section
attribute [local irreducible] AN Af Ag
theorem CF{w:World}{v vo:Value}{n:Nd}(h:Ba w v n)(nm:ByteArray){other:List Int}(ho:Aa w vo other)(count lo hi:Int) :
  Calls Tryz.prog 137 #[v,.string nm,vo,.int .i64 count,.int .i64 lo,.int .i64 hi] w fun e w'=>Eg w (AN (Af n.attrs nm other) count lo hi) e w':=by
 obtain⟨i0,hi0,hz0,hz1,hz2⟩:=info_parts AI;have HI:=hid (fun(W:World) (u:Value) (hu:Ba W u n) (ho:Aa W vo other)=>IH hu nm ho);have hok:=BS h (nm:=nm) ho.wf.1 ho.wf.2;obtain⟨vin,vat,rfl,hn⟩:=h;obtain⟨a1,c1,rfl⟩:=hn.is.form;obtain⟨a2,c2,rfl⟩:=hn.ia.form;obtain⟨a3,c3,rfl⟩:=ho.shape;have HN:=hid hn;have HOt:=hid ho;clear hn ho;unfold Nd.val;go_enter Tryz.func137,Tryz.ntmps137
 go_wp2_with fail
 have hB1:Hid (Below w.heap.size w (w.alloc (Obj.cells #[Value.string n.op,.string n.name,.slice a1 n.ins.length c1,.string n.out,.slice a2 n.attrs.length c2] 25))):=hid ((Below.refl _ w).alloc (Nat.le_refl _) _);generalize w.alloc _=W1 at hB1⊢;have hI:=HI.out W1 _ ⟨_,_,rfl,HN.out.below hB1.out⟩ (HOt.out.below hB1.out);unfold Nd.val at hI;refine hI.mono ?_;rintro e w2⟨v2,rfl,hr2,B2⟩;clear hI HI HN HOt;obtain⟨zs,hzs⟩:∃zs,Af n.attrs nm other=zs:=⟨_,rfl⟩;have HZ:=hid hzs;rw[hzs]at hok hr2;clear hzs;have HB2:=hid (hB1.out.trans (B2.mono hB1.out.size));have HIn:Hid (Aa w2 v2 zs):=hid (BI.ints (B:=W1.heap.size) hr2 hok.1 hok.2);have hlen:=hok.1;have HOK:=hid hok.2;clear hr2 B2 hok;obtain⟨az,cz,rfl⟩:=HIn.out.shape;go_wp2_with fail
 go_loopw [15,16] (fun ov i wr=>∃(k:Nat),k≤zs.length∧i=.int .i64 (k:Int)∧Hid (((zs.take k).all fun x=>decide (lo≤x)&&decide (x≤hi))=true)∧Hid (Ag wr w2.heap.size ov (zs.take k))∧Hid (Below w2.heap.size w2 wr)) (fun _ i _=>zs.length-(intOf i).toNat)
 case atStart=>exact⟨0,Nat.zero_le _,rfl,hid (by simp),hid (by rw[List.take_zero];exact Ag.nil _ _),hid (Below.refl _ _)⟩
 case round=>
  obtain⟨k,hk,rfl,hT,hO,hW⟩:=hrel;obtain⟨ao,co,hov⟩:=hO.out.form;subst hov;have hBw:=hid (HB2.out.trans (hW.out.mono HB2.out.size));have hsw:=hBw.out.size;have hsw2:=hW.out.size;have htk:(zs.take k).length=k:=by rw[List.length_take];omega
  rw[htk];by_cases hkz:k<zs.length
  ·have hki:(k:Int)<(zs.length:Int):=by omega
   obtain⟨b,off,rfl,-,hb,c0,-⟩:=Ai HIn.out hkz;have c0:=(hW.out.cell (p:=⟨b,off+k,none⟩) hb).trans c0;have H1:=hid (Om (count:=count) (lo:=lo) (hi:=hi) hkz);have H2:=hid (Oo (p:=fun x=>decide (lo≤x)&&decide (x≤hi)) hkz hT.out);have H3:=hid (II hkz);generalize zs.getD k 0=z at*;by_cases h1:lo≤z
   ·have h1':¬z<lo:=by omega
    by_cases h2:z≤hi
    ·have h2':¬hi<z:=by omega
     have H2:=hid (H2.out (by simp[h1,h2]));have HO2:Hid (wr.ownsRow w2.heap.size 3 1 (.slice ao k co) k ((zs.take k).map (Value.int .i64))):=hid (by have:=hO.out.own;rwa [htk]at this);have HTk:=hid htk;clear htk;go_wp2_with (at_builtin;refine wpList_append_own _ rfl _ _ 29 rfl w2.heap.size 3 i0 (.int .i64 0) 1 8 Tryz.underlying29 hi0 hz0 hz1 hz2 rfl (by decide) _ _ _ rfl (HO2.out.alloc _) ⟨wr.heap.size,0,none⟩ 1 1 (#[.int .i64 z]:Array Value).toList rfl rfl (World.news_of_block (heap_alloc_new wr _)) (by simp[Value.oneCell']) ?A3 ?A4 ?A5 ?_)
     case A3=>unfold maxLen;omega
     case A4=>omega
     case A5=>first|(simp;omega)|omega
     intro v' w4 hown' hgrow _;have hb4:Hid (Below w2.heap.size w2 w4):=hid ((hW.out.alloc hW.out.size _).grown hgrow (by simp;have:=hW.out.size;omega) fun g hg=>(HO2.out.lt g hg).1);have ho4:Hid (Ag w4 w2.heap.size v' (zs.take (k+1))):=hid (by
      rw[H3.out];refine hO.out.push ?_;rw[HTk.out,List.map_take];exact hown')
     clear hown' hgrow;go_wp2_with fail
     go_roundw
     case rel=>exact⟨k+1,by omega,by go_num,H2,ho4,hb4⟩
     case measure=>simp[intOf];omega
    ·have h2':hi<z:=by omega
     have e:=hid (H1.out (by simp[h1,h2]));go_wp2
     go_ret2
     exact Eg.no (by rw[HZ.out];exact e.out) hBw.out (Ag.nil _ _) (.empty none 0)
   ·have h1':z<lo:=by omega
    have e:=hid (H1.out (by simp[h1]));go_wp2
    go_ret2
    exact Eg.no (by rw[HZ.out];exact e.out) hBw.out (Ag.nil _ _) (.empty none 0)
  ·have hki:¬(k:Int)<(zs.length:Int):=by omega
   obtain rfl:k=zs.length:=by omega
   have he:=hid (On (count:=count) (by have:=hT.out;rwa [List.take_length]at this));have HOz:Hid (Ag wr w2.heap.size (.slice ao zs.length co) zs):=hid (by have:=hO.out;rwa [List.take_length]at this);by_cases hc:(zs.length:Int)=count
   ·have e:=hid (he.out.trans (if_pos hc));have hcb:((zs.length:Int)==count)=true:=by simpa using hc
    clear hc;go_wp2
    go_ret2
    exact Eg.yes (by rw[HZ.out];exact e.out) hBw.out (HOz.out.base HB2.out.size)
   ·have e:=hid (he.out.trans (if_neg hc));have hcb:((zs.length:Int)==count)=false:=by simpa using hc
    clear hc;go_wp2
    go_ret2
    exact Eg.no (by rw[HZ.out];exact e.out) hBw.out (HOz.out.base HB2.out.size) (HOz.out.ints hlen HOK.out)
def Gg(w:World)(o:Int×List Int)(e:Ending)(w':World):Prop:=Below w.heap.size w w'∧((o.1≠0∧e=Em o.1)∨(o.1=0∧∃v,e=.returned v∧Ag w' w.heap.size v o.2))
theorem Gg.no{w w':World}{o:Int×List Int}{c:Int}(h:o.1=c)(hc:c≠0)(hB:Below w.heap.size w w'):Gg w o (Em c) w':=⟨hB,Or.inl ⟨by rw[h];exact hc,by rw[h]⟩⟩
theorem Gg.yes{w w':World}{o:Int×List Int}{v:Value}(h:o.1=0)(hB:Below w.heap.size w w')(hr:Ag w' w.heap.size v o.2):Gg w o (.returned v) w':=⟨hB,Or.inr ⟨h,v,rfl,hr⟩⟩
attribute [local irreducible] Vb.Bx
theorem C0{w:World}{va vb:Value}{xa xb:List Int}(ha:Aa w va xa)(hb:Aa w vb xb) :
  Calls Tryz.prog 46 #[va,vb] w fun e w'=>Gg w (Vb.Bx xa xb) e w':=by
 have HB:=hid (Vb.Lv ha hb);have HY:=hid (fun(W:World)=>Of W);have HNo:=hid (fun(W:World) (c:Int) (h:c≠0)=>RH c h W);go_enter Tryz.func46,Tryz.ntmps46
 go_wp2_with fail
 refine HB.out.mono ?_;rintro e w2⟨B2,hc⟩;have HB2:=hid B2;clear B2;rcases hc with⟨h0,rfl⟩| ⟨h0,v,rfl,hr⟩
 ·have H0:=hid h0;clear h0;go_wp2_with fail
  refine(HNo.out _ _ H0.out).mono ?_;rintro e w'⟨rfl,rfl⟩;exact⟨rfl,Gg.no rfl H0.out HB2.out⟩
 ·have H0:=hid h0;have HR:Hid (Ag w2 w.heap.size v (Vb.Bx xa xb).2):=hid (by unfold Ag;exact hr);clear h0 hr;go_wp2_with fail
  refine(HY.out _).mono ?_;rintro e w'⟨rfl,rfl⟩;go_wp2
  go_ret
  exact Gg.yes H0.out HB2.out HR.out
end
section
open Go.RowKit Go.ChangeShapes Go.WideShapes Go.Deep
theorem WH:Tryz.prog.cellsOf 9=1:=by kernel_rfl
theorem WI:Tryz.prog.cellsOf 3=1:=by kernel_rfl
theorem WJ:Tryz.prog.cellsOf 2=1:=by kernel_rfl
theorem Aa.of_sl{w:World}{v:Value}{zs:List Int}(h:BJ 1 LR w v zs):Aa w v zs:=by
 cases h with
 | empty a0 cap=>exact .empty a0 cap
 | row b off cap _ h0 hc hb hr hlen=>
  refine .row b off cap zs h0 hc hb (fun j hj=>?_) (by omega) (fun z hz=>?_)
  ·obtain⟨cs,_,⟨rfl,_⟩,h3⟩:=hr j _ (List.getElem?_eq_getElem hj);have:=h3 0 _ rfl;rw[Nat.mul_one]at this
   simpa[List.getD,List.getElem?_eq_getElem hj]using this
  ·obtain⟨j,hj⟩:=List.getElem?_of_mem hz;obtain⟨cs,_,⟨_,h2⟩,_⟩:=hr j z hj;exact h2
theorem Bi.of_sl{w:World}{v:Value}{ss:List ByteArray}(h:BJ 1 RE w v ss):Bi w v ss:=by
 cases h with
 | empty a0 cap=>exact .empty a0 cap
 | row b off cap _ h0 hc hb hr hlen=>
  refine .row b off cap ss h0 hc hb (fun j s hj=>?_) (by omega);obtain⟨cs,_,⟨rfl,_⟩,h3⟩:=hr j _ hj;have:=h3 0 _ rfl
  rwa [Nat.mul_one]at this
def Ux:Rd At:=fun w cs a=>∃vd vx vi,cs=[.string a.name,.int .i64 a.kind,.int .i64 a.f,.int .i64 a.i,.string a.s,.int .i64 a.typ,vd,vx,vi]∧Er w a vd vx vi
theorem Bw.of_sl{w:World}{v:Value}{l:List At}(h:BJ 9 Ux w v l):Bw w v l:=by
 cases h with
 | empty a0 cap=>exact .empty a0 cap
 | row b off cap _ h0 hc hb hr hlen=>
  refine .row b off cap l h0 hc hb (fun j a hj=>?_) (by omega);obtain⟨cs,_,⟨vd,vx,vi,rfl,h2⟩,h3⟩:=hr j _ hj;exact⟨vd,vx,vi,⟨h3 0 _ rfl,h3 1 _ rfl,h3 2 _ rfl,h3 3 _ rfl,h3 4 _ rfl,h3 5 _ rfl,h3 6 _ rfl,h3 7 _ rfl,h3 8 _ rfl⟩,h2⟩
theorem C1:F5 Tryz.prog 9 1 RE:=Ue Tryz.underlying9 WH
theorem M2:F5 Tryz.prog 3 1 LR:=NR Tryz.underlying3 WI
theorem Qs:F5 Tryz.prog 2 1 LR:=NR Tryz.underlying2 WJ
theorem L9:F5 Tryz.prog 29 1 (SE 1 LR):=Et Tryz.underlying29 (by kernel_rfl) (by decide) M2
theorem Ma:F5 Tryz.prog 39 1 (SE 1 LR):=Et Tryz.underlying39 (by kernel_rfl) (by decide) Qs
theorem SY:F5 Tryz.prog 22 1 (SE 1 RE):=Et Tryz.underlying22 (by kernel_rfl) (by decide) C1
theorem DS{x y:Value}{l:List Value}(h:List.take 1 (x::l)=[y]):x=y:=by simpa using h
def Uy:Rd (Int×List Int×List Int):=fun w cs t=>∃vd vx,cs=[.int .i64 t.1,vd,vx]∧Bf t.1∧Aa w vd t.2.1∧Aa w vx t.2.2
theorem Oq:F5 Tryz.prog 41 3 Uy:=by
 refine⟨by kernel_rfl,fun {H} enc W fuel cs x h hlt hb=>?_⟩;obtain⟨xs,n,_,rfl,hl,hlen,hf⟩:=DataW.trod_struct Tryz.underlying41 h;rw[show Tryz.prog.cellsOf 41=3 by kernel_rfl]at hl
 match cs,hl with
 | [c0,c1,c2],_=>
  obtain⟨a0,e0,i0⟩:=Be hf hlen hlt hb (i:=0) rfl M2;obtain⟨a1,v1,e1,i1⟩:=Be hf hlen hlt hb (i:=1) rfl L9;obtain⟨a2,v2,e2,i2⟩:=Be hf hlen hlt hb (i:=2) rfl Ma;obtain rfl:=DS e0;obtain rfl:=DS e1;obtain rfl:=DS e2;exact⟨(a0,a1,a2),_,_,rfl,i0,Aa.of_sl i1,Aa.of_sl i2⟩
end
section
open Go.RowKit Go.ChangeShapes Go.WideShapes Go.Deep
structure Vl where
 name:ByteArray
 typ:Int
 dims:List Int
structure Nm where
 name:ByteArray
 typ:Int
 dims:List Int
 data:List Int
structure Gr where
 name:ByteArray
 nodes:List Nd
 ins:List Vl
 outs:List Vl
 inits:List Nm
def AM:Rd Vl:=fun w cs v=>∃vd,cs=[.string v.name,.int .i64 v.typ,vd]∧v.name.size≤1048576∧Bf v.typ∧Aa w vd v.dims
theorem AZ{w w':World}(hB:Below w.heap.size w w'):∀cs x,AM w cs x→AM w' cs x:=fun cs x ⟨vd,h1,h2,h3,h4⟩=>⟨vd,h1,h2,h3,h4.below hB⟩
theorem Bm{w:World}{v:Value}{l:List Vl}(h:BJ 3 AM w v l){j:Nat}{x:Vl}(hj:l[j]?=some x):∃b off cap vd,v=.slice (some ⟨b,off,none⟩) l.length cap∧b<w.heap.size∧w.cell? ⟨b,off+j*3,none⟩=some (.string x.name)∧w.cell? ⟨b,off+j*3+1,none⟩=some (.int .i64 x.typ)∧w.cell? ⟨b,off+j*3+2,none⟩=some vd∧x.name.size≤1048576∧Bf x.typ∧Aa w vd x.dims:=by
 obtain⟨b,off,cap,cs,rfl,hb,_,_,⟨vd,rfl,h1,h2,h3⟩,hc⟩:=h.rows j x hj;exact⟨b,off,cap,vd,rfl,hb,hc 0 _ rfl,hc 1 _ rfl,hc 2 _ rfl,h1,h2,h3⟩
theorem Qt:F5 Tryz.prog 31 3 AM:=by
 refine⟨by kernel_rfl,fun {H} enc W fuel cs x h hlt hb=>?_⟩;obtain⟨xs,n,_,rfl,hl,hlen,hf⟩:=DataW.trod_struct Tryz.underlying31 h;rw[show Tryz.prog.cellsOf 31=3 by kernel_rfl]at hl
 match cs,hl with
 | [c0,c1,c2],_=>
  obtain⟨a0,e0,i0⟩:=Be hf hlen hlt hb (i:=0) rfl C1;obtain⟨a1,e1,i1⟩:=Be hf hlen hlt hb (i:=1) rfl M2;obtain⟨a2,v2,e2,i2⟩:=Be hf hlen hlt hb (i:=2) rfl L9;obtain rfl:=DS e0;obtain rfl:=DS e1;obtain rfl:=DS e2;exact⟨⟨a0,a1,a2⟩,_,rfl,i0,i1,Aa.of_sl i2⟩
theorem Ot:F5 Tryz.prog 26 1 (SE 3 AM):=Et Tryz.underlying26 (by kernel_rfl) (by decide) Qt
end
end Go.Proofs.YtkkeehnldcdccaaGreatDoor
