import Derived.BigQuiet
import Derived.Deep.QuietTactic
import Derived.Deep.LoopGhost
import Derived.Test.YtkkeehnldcdccaaGreatDoorNe31
import Derived.Test.YtkkeehnldcdccaaGreatDoorNe32
set_option linter.unusedVariables false
set_option linter.unusedSimpArgs false
set_option maxRecDepth 100000
set_option maxHeartbeats 16000000
namespace Go.Proofs.YtkkeehnldcdccaaGreatDoor
open Go.Lib (hid)
open Go.RowKit
section
theorem Ff.base{w w' w0:World}{o:Int×List Int}{e:Ending}(h:Ff w o e w')(hB:Below w0.heap.size w0 w):Ff w0 o e w':=⟨hB.trans (h.1.mono hB.size),h.2⟩
theorem JQ{P:Program}{w:World}{t ty e:TypeId}{i:TypeInfo}{z:Value}{size bytes:Nat}(ht:P.underlying t=some (.slice e))(hi:P.info? e=some i)(hz:i.zero=some z)
  (hsize:i.size=size) (hby:i.bytes=bytes) (hzs:z.cells.size=size) (hsz:0<size) {base n:Nat} {v:Value} {xs:List Value} (hown:w.ownsRow base e size v n xs) {xv:Value} {m:Nat} {news:List Value} (hx:G0 w xv m size bytes news)
  (h63:n+m≤maxLen) (hbytes:(n+m)*bytes≤140737488355328) (hbase:base≤w.heap.size) :
  ∃v' w',(Builtin.append_ #[t,t] ty #[v,xv]).run P w=.ok v' w'∧w'.ownsRow base e size v' (n+m) (xs++news)∧w.grownBy w' v.ownBlock:=by
 rcases hx with⟨a0,cap,rfl,rfl,rfl⟩| ⟨b,off,cap,rfl,hl,hn,h1,_,_⟩
 ·cases a0 with
  | none=>
   refine⟨v,w,?_,by simpa using hown,⟨rfl,rfl,rfl,Nat.le_refl _,fun _ _ _=>rfl⟩⟩;rcases hown.2 with⟨rfl,rfl⟩| ⟨g,cp,cur,rfl,_,_,hnc,_⟩
   ·simp[Builtin.append_,run_underlying ht,sizeOf,typeInfo,hi,Builtin.lenOf,Builtin.firstCells]
   ·simp[Builtin.append_,run_underlying ht,sizeOf,typeInfo,hi,Builtin.lenOf,Builtin.firstCells,hnc,storeCells]
  | some ad=>
   obtain⟨v',w',hr,h2,h3,_,h5⟩:=run_append_own_at (P:=P) w base t ty e i z size bytes ht hi hz hsize hby hzs hsz v n xs hown ad 0 cap [] (by simp) (fun j u hu=>by simp at hu) (fun u hu=>by simp at hu) h63 hbytes hbase;exact⟨v',w',hr,h2,h3⟩
 ·obtain⟨v',w',hr,h2,h3,_,h5⟩:=run_append_own_at (P:=P) w base t ty e i z size bytes ht hi hz hsize hby hzs hsz v n xs hown ⟨b,off,none⟩ m cap news hl hn h1 h63 hbytes hbase;exact⟨v',w',hr,h2,h3⟩
theorem VN{ops:Array Oper}{rest:List Oper}{o:Oper}{a:Act}{Q:Exit→Act→World→Prop}{w W:World}{B:Nat}{v xv:Value}{out zs:List Int}{s x:Operand}
  (hO:Ag w B v out) (hx:Aa w xv zs) (hW:Below W.heap.size W w) (hk:(out.length+zs.length)*8≤140737488351232) (hB:W.heap.size≤B) (hw:B≤w.heap.size)
  (hgd:o.guard=none) (ho:o.op=.call { callee:=.builtin .append,args:=#[s,x],argTypes:=#[29,29] }) (hs:a.eval s=v) (hy:a.eval x=xv)
  (h:∀v' w',Hid (Ag w' B v' (out++zs))→Hid (Below W.heap.size W w')→wpList Tryz.prog ops Q rest (a.put o.dst v') w'):wpList Tryz.prog ops Q (o::rest) a w:=by
 obtain⟨i0,hi,hz0,hz1,hz2⟩:=info_parts AI;refine wpList_plain hgd fun K hK=>?_;obtain⟨v',w',hr,h2,h3⟩:=JQ (P:=Tryz.prog) (ty:=o.type) (t:=29) Tryz.underlying29 hi hz0 hz1 hz2 rfl (by decide) hO.own hx.news (by unfold maxLen;omega) (by omega) hw;unfold Oper.wp execOp;simp only[ho,resolve,invoke,builtin,Sem.run_bind,Sem.run_pure,Result.andThen_ok,List.map_toArray,List.map_cons,List.map_nil,hs,hy,hr];refine hK _ _ (h v' w' (hid ?_) (hid (hW.grown h3 (Nat.le_trans hB hw) fun g hg=>Nat.le_trans hB (hO.own.lt g hg).1)));unfold Ag;rw[List.length_append,List.map_append];exact h2
theorem Eg.formI{w w':World}{x:Option (List Int)}{e:Ending}(h:Eg w x e w')(hg:∀zs,x=some zs→zs.length*8≤140737488351232∧∀z∈zs,Bf z):∃a c zs b,e=.returned (.tuple #[.slice a zs.length c,.bool b])∧Hid (Below w.heap.size w w')∧Hid (Aa w' (.slice a zs.length c) zs)∧Hid (x=if b=true then some zs else none):=by
 have h2:=h.2;cases x with
 | none=>
  obtain⟨v,zs,rfl,hr,hi⟩:=h2;obtain⟨a,c,rfl⟩:=hr.form;exact⟨a,c,zs,false,rfl,hid h.1,hid hi,hid rfl⟩
 | some zs=>
  obtain⟨v,rfl,hr⟩:=h2;obtain⟨a,c,rfl⟩:=hr.form;exact⟨a,c,zs,true,rfl,hid h.1,hid (hr.ints (hg _ rfl).1 (hg _ rfl).2),hid rfl⟩
def Uc(x l:List Int)(k:Nat):Bool:=(l.take k).all fun z=>decide (x.getD z.toNat 0=1)
theorem VO(x l:List Int):Uc x l 0=true:=by simp[Uc]
theorem VP{x l:List Int}{k:Nat}(h:k<l.length):Uc x l (k+1)=(Uc x l k&&decide (x.getD (l.getD k 0).toNat 0=1)):=by
 unfold Uc;rw[List.take_succ_eq_append_getElem h,List.all_append,show l.getD k 0=l[k] by simp[List.getD,h]];simp only[List.all_cons,List.all_nil,Bool.and_true]
theorem NG{n:Nd}{x l:List Int}{b:Bool}(h:By (Af n.attrs AF []) x.length=if b=true then some l else none):Bn n x=if(b&&Uc x l l.length)=true then some (Bg x l false x.length)else none:=by
 cases b with
 | false=>exact KX h
 | true=>
  have h:By (Af n.attrs AF []) x.length=some l:=h;rw[Pw h (A8 h).1];have e:Uc x l l.length=true↔∀z∈l,x.getD z.toNat 0=1:=by
   unfold Uc;rw[List.take_length,List.all_eq_true];simp
  by_cases c:∀z∈l,x.getD z.toNat 0=1
  ·rw[if_pos c,if_pos (by rw[e.2 c];rfl)]
  ·rw[if_neg c,if_neg (by rw[Bool.true_and];exact fun q=>c (e.1 q))]
theorem MC{i:Nat}:∀ {l:List Int},l.Nodup→DW l (i+1)=DW l i+if l.contains (i:Int)=true then 1 else 0
 | [],_=>rfl
 | a::l,h=>by
  obtain⟨h1,h2⟩:=List.nodup_cons.1 h;have ih:=MC (i:=i) h2;rw[Fy,Fy,ih,List.contains_cons];by_cases e:(i:Int)=a
  ·subst e;have hc:l.contains (i:Int)=false:=by
    cases q:l.contains (i:Int)with
    | false=>rfl
    | true=>exact absurd (List.contains_iff_mem.1 q) h1
   rw[hc,if_pos (show(i:Int)<((i+1:Nat):Int) by omega),if_neg (show ¬(i:Int)<(i:Int) by omega),beq_self_eq_true,Bool.true_or,if_pos rfl,if_neg Bool.false_ne_true];omega
  ·have e2:((i:Int)==a)=false:=by simpa using e
   rw[e2,Bool.false_or];have:(a<((i+1:Nat):Int))↔(a<(i:Int)):=by omega
   simp only[this];exact(Nat.add_assoc _ _ _).symm
theorem VQ(x:List Int):Dt x []=[]:=rfl
theorem TK{n:Nd}{r:Nat}{zs:List Int}(hr:r≤100)(h:Gs n r=some zs):∀z∈zs,0≤z∧z<(r:Int):=by
 unfold Gs at h;cases hp:AN (Af n.attrs EH (Cn r).reverse) r 0 100 with
 | none=>rw[hp]at h;cases h
 | some p=>
  rw[hp]at h;dsimp only at h;split at h
  ·rename_i c
   cases h
   have pk:=AT hp;intro z hz;have:=(MB (r:=r) (l:=zs) hr (by omega)).2 ⟨fun z hz=>(pk.2 z hz),c⟩;have:=this.1 z hz;omega
  ·cases h
def ZZ:List (List UInt8×Nat):=[([82,101,115,104,97,112,101],10),([83,108,105,99,101],13),([67,111,110,99,97,116],8),([80,97,100],17),([69,120,112,97,110,100],11),([84,114,97,110,115,112,111,115,101],12),([71,97,116,104,101,114],9),([83,113,117,101,101,122,101],14),([85,110,115,113,117,101,101,122,101],15),([70,108,97,116,116,101,110],16)]
attribute [local irreducible] AH Af Bq By AN AC A9 Bv BY BV Ej Cb Gs Bn Dm Jt Vb.Bx Ag Dt Bg AK DW Uc Dd
theorem Q6{w:World}{v vv:Value}{n:Nd}{ins:List Vl}{x:Vl}(h:Ba w v n)(hs:BJ 3 AM w vv ins)(hx:ins[0]?=some x)(hall:∀u∈ins,Sm u.dims)(hop:(n.op.toList,AC n.op.toList)∈ZZ)(hg:AC n.op.toList=9→1<ins.length)(hax:(Af n.attrs AF []).length *8+48≤140737488351232) :
  Calls Tryz.prog 76 #[v,vv] w fun e w'=>Ff w (A9 n ins) e w':=by
 have hz0:=C7 (nm:=AB) (other:=0) h Ij;obtain⟨a1,c1,a2,c2,rfl,HN⟩:=Cr h;obtain⟨a3,c3,rfl⟩:=hs.form;obtain⟨bi,oi,vd,hai,gi,d0,HX⟩:=Di hs hx;have hi0:(0:Int)<(ins.length:Int):=by have:=(List.getElem?_eq_some_iff.1 hx).1;omega
 have HS:=hid hs;have HX0:=hid hx;have HAll:=hid hall;have hsm:=hall _ (List.mem_of_getElem? hx);have HSm:=hid hsm;have HG:=hid hg;have HAx:=hid hax;have HZ0:=hid hz0;obtain⟨ax,cx,rfl⟩:=HX.shape;have hxl:=HX.wf.1;have HX:=hid HX;have d0:w.cell? ⟨bi,oi+2,none⟩=some (.slice ax x.dims.length cx):=by simpa using d0
 subst hai;clear h hs hall hsm hg hax hx hz0;go_enter Tryz.func76,Tryz.ntmps76
 obtain⟨W1,hW1⟩:∃W1,w.alloc (Obj.cells #[.string n.op,.string n.name,.slice a1 n.ins.length c1,.string n.out,.slice a2 n.attrs.length c2] 25)=W1:=⟨_,rfl⟩;obtain⟨HB1,HF,HN⟩:=HN.out W1 hW1;obtain⟨f0,f1,f2,f3,f4⟩:=HF.out _ (Below.refl _ _);have d0:=(HB1.out.cell gi).trans d0;have HX1:=hid (HX.out.below HB1.out);simp only[ZZ,List.mem_cons,List.not_mem_nil,or_false,Prod.mk.injEq]at hop;rcases hop with⟨hop,hk⟩| ⟨hop,hk⟩| ⟨hop,hk⟩| ⟨hop,hk⟩| ⟨hop,hk⟩| ⟨hop,hk⟩| ⟨hop,hk⟩| ⟨hop,hk⟩| ⟨hop,hk⟩| ⟨hop,hk⟩
 iterate 3
  ·go_wp2_with fail
   first
   | refine(ND (HN.out _ (Below.refl _ _)) HX1.out HSm.out).mono ?_
   | refine(Q1 (HN.out _ (Below.refl _ _)) HX1.out HSm.out).mono ?_
   | refine(Pv (HN.out _ (Below.refl _ _)) (HS.out.below (AZ HB1.out) HB1.out) HX0.out HAll.out).mono ?_
   rintro e w2 h2;obtain⟨o,E,h2⟩:∃o,Hid (A9 n ins=AX o)∧Hw W1 o e w2:=by
    refine⟨_,hid ?_,h2⟩;unfold A9;rw[hk];simp only[gv HX0.out]
   obtain⟨v2,b2,rfl,B2,S2,I2⟩:=h2.uni;clear h2;go_wp2_with fail
   refine(CQ S2.out I2.out).mono ?_;rintro e w3 h3;obtain⟨a5,k5,c5,rfl,B3,-⟩:=h3.form;have H3:=hid (h3.base (HB1.out.trans (B2.out.mono HB1.out.size)));clear h3;go_wp2_with fail
   go_ret2
   rw[E.out];exact H3.out
 ·--Pad
  have E:Hid (A9 n ins=AX (Ej n x.dims)):=hid (by unfold A9;rw[hk];simp only[gv HX0.out]);go_wp2_with fail
  refine(TE (HN.out _ (Below.refl _ _)) HX1.out HSm.out).mono ?_;rintro e w2⟨B2,h2⟩;obtain⟨u2,v2,b2,rfl,S2,I2⟩:∃u v b,e=.returned (.tuple #[u,v,.bool b])∧Hid (b=(Ej n x.dims).isSome)∧Hid (∀zs,Ej n x.dims=some zs→Aa w2 v zs):=by
   cases hp:Ej n x.dims with
   | none=>rw[hp]at h2;obtain⟨u,v,rfl⟩:=h2;exact⟨u,v,false,rfl,hid rfl,hid fun _ e=>by cases e⟩
   | some zs=>rw[hp]at h2;obtain⟨u,v,rfl,hi⟩:=h2;exact⟨u,v,true,rfl,hid rfl,hid fun _ e=>by cases e;exact hi⟩
  have B2:=hid B2;clear h2;go_wp2_with fail
  refine(CQ S2.out I2.out).mono ?_;rintro e w3 h3;obtain⟨a5,k5,c5,rfl,B3,-⟩:=h3.form;have H3:=hid (h3.base (HB1.out.trans (B2.out.mono HB1.out.size)));clear h3;go_wp2_with fail
  go_ret2
  rw[E.out];exact H3.out
 ·--Expand
  have E:Hid (A9 n ins=LG n x.dims):=hid (by unfold A9;rw[hk];simp only[gv HX0.out]);go_wp2_with fail
  obtain⟨s,hse⟩:∃s,Af n.attrs BK []=s:=⟨_,rfl⟩;have HSe:=hid hse;refine(Gq (HN.out _ (Below.refl _ _)) BK (.empty none 0) hse).mono ?_;rintro e w2⟨a5,c5,rfl,HI,B2⟩;obtain⟨f0,f1,f2,f3,f4⟩:=HF.out _ B2;have hsl:=HI.wf.1;clear hse HI;go_wp2_with fail
  have hn:=CF (HN.out _ B2) BK (.empty none 0) (s.length:Int) 1 9223372036854775807;rw[HSe.out]at hn;refine hn.mono ?_;rintro e w3 h3;obtain⟨a6,c6,zs,b,rfl,B3,HR,HE⟩:=h3.form;have HB3:=hid (HB1.out.trans ((B2.trans (B3.out.mono B2.size)).mono HB1.out.size));clear h3 hn B2 f0 f1 f2 f3 f4;cases b with
  | false=>
   have E:=hid (E.out.trans (Vm HSe.out HE.out));go_wp2_with fail
   go_ret2
   exact Ff.no (by rw[E.out]) (by decide) HB3.out
  | true=>
   have HE:=hid (HE.out.trans (if_pos rfl));have E:=hid (E.out.trans (Sa HSe.out HE.out));have pk:=AT HE.out;have HI:=hid (HR.out.ints (by omega) fun z hz=>by have:=pk.2 z hz;unfold Bf;omega);clear pk;go_wp2_with fail
   refine(GL (HX.out.below HB3.out) HI.out).mono ?_;rintro e w4⟨h4,-⟩;obtain⟨a7,k7,c7,rfl,B4,-⟩:=h4.form;have H4:=hid (h4.base HB3.out);clear h4;go_wp2_with fail
   go_ret2
   rw[E.out];exact H4.out
 ·--Transpose
  have E:Hid (A9 n ins=AX (Cb n x.dims)):=hid (by unfold A9;rw[hk];simp only[gv HX0.out]);go_wp2_with fail
  refine(Q5 (HN.out _ (Below.refl _ _)) HSm.out.1).mono ?_;rintro e w2⟨a5,c5,zs,b,rfl,B2,HP,HI⟩;have HB2:=hid (HB1.out.trans (B2.out.mono HB1.out.size));have ET:=hid (Q4 (n:=n) (x:=x.dims) HSm.out.1);clear f0 f1 f2 f3 f4;cases b with
  | false=>
   have E:=hid (E.out.trans (show AX (Cb n x.dims)=AX none by rw[ET.out,HP.out];rfl));go_wp2_with fail
   refine wp_loop_rounds 1 ?_;rw[rounds_succ];go_wp2_with fail
   all_goals
    refine(CQ (x:=none) rfl (fun _ e=>by cases e)).mono ?_;rintro e w3 h3;obtain⟨a6,k6,c6,rfl,B3,-⟩:=h3.form;have H3:=hid (h3.base HB2.out);clear h3;go_wp2_with fail
    go_ret2
    rw[E.out];exact H3.out
  | true=>
   obtain⟨hzl,hzi⟩:=HI.out rfl;have ET:=hid (ET.out.trans (show(Gs n x.dims.length).map (Dt x.dims)=some (Dt x.dims zs) by rw[HP.out];rfl));have E:=hid (E.out.trans (show AX (Cb n x.dims)=AX (some (Dt x.dims zs)) by rw[ET.out]));have HGd:=hid (Pf HSm.out ET.out);have HJ:=hid hzi;clear HI;have HZL:=hid hzl;have hz6:=HSm.out.1;have HR:Hid (∀z∈zs,0≤z∧z<(x.dims.length:Int)):=hid (TK (by omega) HP.out);clear hzl hzi;go_wp2_with fail
   go_loopw [12,13] (fun ov i wr=>∃(k:Nat),k≤zs.length∧i=.int .i64 (k:Int)∧Hid (Ag wr w2.heap.size ov (Dt x.dims (zs.take k)))∧Hid (Below w2.heap.size w2 wr)) (fun _ i _=>zs.length-(intOf i).toNat)
   case atStart=>exact⟨0,Nat.zero_le _,rfl,hid (by rw[List.take_zero,VQ];exact Ag.nil _ _),hid (Below.refl _ _)⟩
   case round=>
    obtain⟨k,hkl,rfl,hO,hW⟩:=hrel;obtain⟨ao,co,hov⟩:=hO.out.form;have hpl:(Dt x.dims (zs.take k)).length=k:=by rw[KV,List.length_take];omega
    rw[hpl]at hov;subst hov;have HPL:=hid hpl;clear hpl;have hsw:=hW.out.size;by_cases hk2:k<zs.length
    ·have hki:(k:Int)<(zs.length:Int):=by omega
     have hk7:k≤6:=by have:=HZL.out;omega
     obtain⟨b5,o5,ha5,-,g5,u5,-⟩:=Ai (k:=k) HJ.out hk2;subst ha5;have u5:=(hW.out.cell g5).trans u5;have hr:=HR.out _ (Am (zs:=zs) hk2);obtain⟨j,hj⟩:∃j:Nat,zs.getD k 0=(j:Int):=⟨(zs.getD k 0).toNat,by omega⟩;have HN2:=hid (Mh (x:=x.dims) (l:=zs) hk2);have hjx:j<x.dims.length:=by omega
     have hji:(j:Int)<(x.dims.length:Int):=by omega
     obtain⟨b6,o6,ha6,-,g6,u6,-⟩:=Ai (k:=j) HX.out hjx;subst ha6;have u6:=((HB2.out.trans (hW.out.mono HB2.out.size)).cell g6).trans u6;have HN2:Hid (Dt x.dims (zs.take (k+1))=Dt x.dims (zs.take k)++[x.dims.getD j 0]):=hid (by rw[HN2.out,hj,Int.toNat_natCast]);rw[hj]at u5;clear hj hr;generalize x.dims.getD j 0=xj at*;go_wp2_with (at_builtin;refine Ps (W:=w2) (B:=w2.heap.size) hO.out HPL.out hW.out (by omega) (Nat.le_refl _) hsw rfl rfl rfl rfl ?_)
     intro v' w4 ho4 hb4;go_wp2_with fail
     go_roundw
     case rel=>exact⟨k+1,by omega,by go_num,hid (by rw[HN2.out];exact ho4.out),hb4⟩
     case measure=>simp[intOf];omega
    ·have hki:¬(k:Int)<(zs.length:Int):=by omega
     obtain rfl:k=zs.length:=by omega
     have hO2:=hO.out;rw[List.take_length]at hO2;have HI2:=hid (hO2.ints HGd.out.1 HGd.out.2);have hpl2:=HPL.out;rw[List.take_length]at hpl2;have HPL2:=hid hpl2;have HBr:=hid (HB2.out.trans (hW.out.mono HB2.out.size));clear hO2 hpl2;go_wp2_with fail
     refine(CQ (x:=some (Dt x.dims zs)) rfl (fun _ e=>by cases e;exact HI2.out)).mono ?_;rintro e w3 h3;obtain⟨a6,k6,c6,rfl,B3,-⟩:=h3.form;have H3:=hid (h3.base HBr.out);clear h3;go_wp2_with fail
     go_ret2
     rw[E.out];exact H3.out
 ·--Gather
  obtain⟨y,hy⟩:∃y,ins[1]?=some y:=⟨_,List.getElem?_eq_getElem (HG.out hk)⟩;have hi1:(1:Int)<(ins.length:Int):=by have:=HG.out hk;omega
  have E:Hid (A9 n ins=LH n x.dims y.dims):=hid (by unfold A9;rw[hk];simp only[gv HX0.out,gv hy]);obtain⟨b1,o1,ve,e1,-,d1,HY⟩:=Di HS.out hy;obtain⟨rfl,rfl⟩:bi=b1∧oi=o1:=by simpa using e1
  obtain⟨ay,cy,rfl⟩:=HY.shape;have HYm:=hid (HAll.out _ (List.mem_of_getElem? hy));have HY:=hid HY;have d1:w.cell? ⟨bi,oi+5,none⟩=some (.slice ay y.dims.length cy):=d1;have HD1:=hid d1;clear hy e1 d1;go_wp2_with fail
  clear f0 f1 f2 f3 f4;refine(DD (HN.out _ (Below.refl _ _)) AB 0).mono ?_;rintro e w2⟨rfl,B2⟩;have HB2:=hid (HB1.out.trans (B2.mono HB1.out.size));have HZ0:=HZ0.out;have EN:=hid (fun h=>E.out.trans (Vn (n:=n) (x:=x.dims) (y:=y.dims) h));have EY:=hid (fun a h=>E.out.trans (Sb (n:=n) (x:=x.dims) (y:=y.dims) (a:=a) h));generalize AH n.attrs AB 0=z at*;have hx6:=HSm.out.1;have HAx:=hid (Gz z x.dims.length HZ0 (by omega) w2);clear B2 HZ0;go_wp2_with fail
  refine HAx.out.mono ?_;rintro e w3⟨rfl,rfl⟩;cases ha:Bq z x.dims.length with
  | none=>
   have G:=hid (EN.out ha);unfold GR;dsimp only;go_wp2_with fail
   go_ret2
   exact Ff.no (by rw[G.out]) (by decide) HB2.out
  | some q=>
   have hq:=FC ha;obtain⟨a,rfl⟩:∃a:Nat,q=(a:Int):=⟨q.toNat,by omega⟩;have E:=EY.out a ha;rw[List.append_assoc]at E;have E:=hid E;have HGa:Hid (∀q∈x.dims.take a++(y.dims++x.dims.drop (a+1)),Bf q):=hid (fun q hq=>by
    rcases List.mem_append.1 hq with hq|hq
    ·exact HX.out.wf.2 _ (List.mem_of_mem_take hq)
    ·rcases List.mem_append.1 hq with hq|hq
     ·exact HY.out.wf.2 _ hq
     ·exact HX.out.wf.2 _ (List.mem_of_mem_drop hq))
   have hal:a<x.dims.length:=by omega
   clear ha EN EY hq HAx;have hac:a≤cx:=by have:=HX.out.capI.2;omega
   have hxc:=HX.out.capI.2;have HX2:=hid (HX.out.below HB2.out);have HT:=hid (HX2.out.take (k:=a) (by omega));have HDr:=hid (Ds (k:=a+1) HX2.out (by omega));have HY2:=hid (HY.out.below HB2.out);have hy6:=HYm.out.1;have d1:=(HB2.out.cell gi).trans HD1.out;have htl:(x.dims.take a).length=a:=by rw[List.length_take];omega
   have HTL:=hid htl;have hwa:wrap64 ((a:Int)+1)=(a:Int)+1:=by unfold wrap64;omega
   clear htl;unfold GR;dsimp only;go_wp2_with (at_builtin;refine VN (W:=w3) (B:=w3.heap.size) (Ag.nil _ _) HT.out (Below.refl _ _) (by have:=HTL.out;simp;omega) (Nat.le_refl _) (Nat.le_refl _) rfl rfl rfl rfl ?_)
   intro v4 w4 ho4 hb4;have d1:=(hb4.out.cell (Al d1)).trans d1;have HY4:=hid (HY2.out.below hb4.out);have HDr4:=hid (HDr.out.below hb4.out);have hs4:=hb4.out.size;go_wp2_with (at_builtin;refine VN (W:=w3) (B:=w3.heap.size) ho4.out HY4.out hb4.out (by have:=HTL.out;omega) (Nat.le_refl _) hs4 rfl rfl rfl rfl ?_)
   intro v5 w5 ho5 hb5;have HDr5:=hid (HDr.out.below hb5.out);have hs5:=hb5.out.size;clear d1;go_wp2_with (at_builtin;refine VN (W:=w3) (B:=w3.heap.size) ho5.out HDr5.out hb5.out (by have:=HTL.out;simp only[List.length_append,List.length_drop];omega) (Nat.le_refl _) hs5 rfl rfl rfl rfl ?_)
   all_goals
    intro v6 w6 ho6 hb6;have HI6:=hid (ho6.out.ints (by have:=HTL.out;simp only[List.length_append,List.length_drop];omega) HGa.out);have HB6:=hid (HB2.out.trans (hb6.out.mono HB2.out.size));go_wp2_with fail
    go_ret2
    exact Ff.yes E.out HB6.out HI6.out
 ·--Squeeze
  have E:Hid (A9 n ins=AX (Bn n x.dims)):=hid (by unfold A9;rw[hk];simp only[gv HX0.out]);have hx6:=HSm.out.1;go_wp2_with fail
  clear f0 f1 f2 f3 f4;obtain⟨l,hle⟩:∃l,Af n.attrs AF []=l:=⟨_,rfl⟩;have HLe:=hid hle;refine(Gq (HN.out _ (Below.refl _ _)) AF (.empty none 0) hle).mono ?_;rintro e w2⟨a5,c5,rfl,HI,B2⟩;have hll:=HI.wf.1;have HI:=hid HI;have HB2:=hid (HB1.out.trans (B2.mono HB1.out.size));clear hle B2;go_wp2_with fail
  refine(GA (r:=x.dims.length) HI.out hll (by omega)).mono ?_;rintro e w3 h3;obtain⟨a6,c6,zs,b,rfl,B3,HJ,HE⟩:=h3.formI (fun zs e=>by
   have p:=A8 e;exact⟨by omega,fun z hz=>by have:=p.1 z hz;unfold Bf;omega⟩)
  have HB3:=hid (HB2.out.trans (B3.out.mono HB2.out.size));have HSq:=hid (NG (n:=n) (x:=x.dims) (l:=zs) (b:=b) (by rw[HLe.out];exact HE.out));have HPr:=hid (fun(h:b=true)=>(A8 (HE.out.trans (if_pos h))).1);have hzl:=HJ.out.wf.1;clear h3 HE HI;go_wp2_with fail
  go_loopw [21,22] (fun ov i wr=>∃(k:Nat) (ok:Bool),k≤zs.length∧i=.int .i64 (k:Int)∧ov=.bool ok∧Hid (ok=(b&&Uc x.dims zs k))∧Hid (Below w3.heap.size w3 wr)) (fun _ i _=>zs.length-(intOf i).toNat)
  case atStart=>exact⟨0,b,Nat.zero_le _,rfl,rfl,hid (by rw[VO,Bool.and_true]),hid (Below.refl _ _)⟩
  case round=>
   obtain⟨k,ok,hkl,rfl,rfl,hO,hW⟩:=hrel;have HBr:=hid (HB3.out.trans (hW.out.mono HB3.out.size));by_cases hk2:k<zs.length
   ·have hki:(k:Int)<(zs.length:Int):=by omega
    have HN2:=hid (VP (x:=x.dims) (l:=zs) hk2);cases ok with
    | false=>
     have G:Hid (false=(b&&Uc x.dims zs (k+1))):=hid (by
      have:=hO.out;rw[HN2.out,←Bool.and_assoc,←this,Bool.false_and])
     go_wp2_with fail
     go_roundw
     case rel=>exact⟨k+1,false,by omega,by go_num,rfl,G,hW⟩
     case measure=>simp[intOf];omega
    | true=>
     have hb:b=true:=by cases b with |true=>rfl|false=>have:=hO.out;simp at this
     have hr:=HPr.out hb _ (Am (zs:=zs) hk2);obtain⟨b5,o5,ha5,-,g5,u5,-⟩:=Ai (k:=k) HJ.out hk2;subst ha5;have u5:=(hW.out.cell g5).trans u5;obtain⟨j,hj⟩:∃j:Nat,zs.getD k 0=(j:Int):=⟨(zs.getD k 0).toNat,by omega⟩;have hjx:j<x.dims.length:=by omega
     have hji:(j:Int)<(x.dims.length:Int):=by omega
     obtain⟨b6,o6,ha6,-,g6,u6,-⟩:=Ai (k:=j) HX.out hjx;subst ha6;have u6:=(HBr.out.cell g6).trans u6;have G:Hid (decide (x.dims.getD j 0=1)=(b&&Uc x.dims zs (k+1))):=hid (by
      have:=hO.out;rw[HN2.out,←Bool.and_assoc,←this,Bool.true_and,hj,Int.toNat_natCast])
     rw[hj]at u5;clear hj hr hb;generalize x.dims.getD j 0=xj at*;go_wp2_with fail
     go_roundw
     case rel=>exact⟨k+1,decide (xj=1),by omega,by go_num,by first|rfl|simp,G,hW⟩
     case measure=>simp[intOf];omega
   ·have hki:¬(k:Int)<(zs.length:Int):=by omega
    obtain rfl:k=zs.length:=by omega
    have HJr:=hid (HJ.out.below hW.out);go_wp2_with fail
    refine(Js false (HX.out.below HBr.out) HJr.out).mono ?_;rintro e w4⟨B4,v4,rfl,hr4⟩;have HB4:=hid (HBr.out.trans (B4.mono HBr.out.size));have HI4:=hid (hr4.ints (by have:=ER x.dims zs false x.dims.length;omega) (Nb HX.out.wf.2 _ (Nat.le_refl _)));have HSq:=hid (HSq.out.trans (by rw[←hO.out]));clear B4 hr4;go_wp2_with fail
    refine(CQ (x:=Bn n x.dims) (by rw[HSq.out];cases ok<;>rfl) (fun ws e=>by
     rw[HSq.out]at e;cases ok with
     | false=>cases e
     | true=>cases e;exact HI4.out)).mono ?_
    rintro e w5 h5;obtain⟨a7,k7,c7,rfl,B5,-⟩:=h5.form;have H5:=hid (h5.base HB4.out);clear h5;go_wp2_with fail
    go_ret2
    rw[E.out];exact H5.out
 ·--Unsqueeze
  have E:Hid (A9 n ins=AX (Dd n x.dims)):=hid (by unfold A9;rw[hk];simp only[gv HX0.out]);have hx6:=HSm.out.1;go_wp2_with fail
  clear f0 f1 f2 f3 f4;have hax:=HAx.out;obtain⟨l,hle⟩:∃l,Af n.attrs AF []=l:=⟨_,rfl⟩;have HLe:=hid hle;refine(Gq (HN.out _ (Below.refl _ _)) AF (.empty none 0) hle).mono ?_;rintro e w2⟨a5,c5,rfl,HI,B2⟩;have hll:=HI.wf.1;have HI:=hid HI;have HB2:=hid (HB1.out.trans (B2.mono HB1.out.size));rw[hle]at hax;clear hle B2;obtain⟨N,hN⟩:∃N,x.dims.length+l.length=N:=⟨_,rfl⟩;have hNi:(x.dims.length:Int)+(l.length:Int)=(N:Int):=by omega
  have HAxs:=hid (GA (r:=N) HI.out hll (by omega));go_wp2_with fail
  refine HAxs.out.mono ?_;rintro e w3 h3;obtain⟨a6,c6,zs,b,rfl,B3,HJ,HE⟩:=h3.formI (fun zs e=>by
   have p:=A8 e;exact⟨by omega,fun z hz=>by have:=p.1 z hz;unfold Bf;omega⟩)
  have HB3:=hid (HB2.out.trans (B3.out.mono HB2.out.size));have HN2:=hid hN;clear h3 HI HAxs hN hax;cases b with
  | false=>
   have E:=hid (E.out.trans (show AX (Dd n x.dims)=AX none by rw[RW (x:=x.dims) HLe.out (by rw[HN2.out];exact HE.out)]));go_wp2_with fail
   refine wp_loop_rounds 1 ?_;rw[rounds_succ];go_wp2_with fail
   all_goals
    refine(CQ (x:=none) rfl (fun _ e=>by cases e)).mono ?_;rintro e w4 h4;obtain⟨a7,k7,c7,rfl,B4,-⟩:=h4.form;have H4:=hid (h4.base HB3.out);clear h4;go_wp2_with fail
    go_ret2
    rw[E.out];exact H4.out
  | true=>
   have HE:=hid (HE.out.trans (if_pos rfl));obtain⟨Z,hz,hzl,hzg⟩:=VL (x:=x.dims) HLe.out (by rw[HN2.out];exact HE.out) (A8 HE.out).2 (by rw[HN2.out];exact(A8 HE.out).1);have E:=hid (E.out.trans (show AX (Dd n x.dims)=AX (some Z) by rw[hz]));have HGd:=hid (R9 HSm.out HAx.out hz);rw[HN2.out]at hzl hzg;have HZL:=hid hzl;have HZG:=hid hzg;have HNd:=hid (DU HE.out);have HPr:=hid (A8 HE.out).1;have hNl:N≤17592186044414:=by omega
   have HLl:=hid (A8 HE.out).2;clear hz hzl hzg HE;go_wp2_with fail
   go_loopw [26,27,28] (fun ov kv i wr=>∃(k m:Nat),k≤N∧i=.int .i64 (k:Int)∧kv=.int .i64 (m:Int)∧m≤k∧Hid (m+DW zs k=k)∧Hid (Ag wr w3.heap.size ov (Z.take k))∧Hid (Below w3.heap.size w3 wr)) (fun _ _ i _=>N-(intOf i).toNat)
   case atStart=>exact⟨0,0,Nat.zero_le _,rfl,rfl,Nat.le_refl _,hid (by rw[Ep (fun b hb=>(HPr.out b hb).1)]),hid (by rw[List.take_zero];exact Ag.nil _ _),hid (Below.refl _ _)⟩
   case round=>
    obtain⟨k,m,hkN,rfl,rfl,hmk,hC,hO,hW⟩:=hrel;obtain⟨ao,co,hov⟩:=hO.out.form;have hpl:(Z.take k).length=k:=by rw[List.length_take,HZL.out];omega
    rw[hpl]at hov;subst hov;have HPL:=hid hpl;have HBr:=hid (HB3.out.trans (hW.out.mono HB3.out.size));have hsw:=hW.out.size;clear hpl;by_cases hk2:k<N
    ·have hki:(k:Int)<(N:Int):=by omega
     have HT:Hid (Z.take (k+1)=Z.take k++[Z.getD k 0]):=hid (by
      have h:k<Z.length:=by rw[HZL.out];exact hk2
      rw[List.take_succ_eq_append_getElem h];simp[List.getD,h])
     have HV:=hid (HZG.out k hk2);have HCn:=hid (MC (i:=k) HNd.out);have HL2:=hid (fun hc=>TG (l:=zs) (N:=N) (i:=k) HNd.out HPr.out hk2 hc);go_wp2_with fail
     refine(Km (HJ.out.below hW.out) (k:Int)).mono ?_;rintro e w4⟨rfl,rfl⟩;obtain⟨ct,hct⟩:∃ct,zs.contains (k:Int)=ct:=⟨_,rfl⟩;rw[hct]at HV HCn HL2⊢;clear hct;cases ct with
     | true=>
      have G:Hid (m+DW zs (k+1)=k+1):=hid (by have:=hC.out;have:=HCn.out;rw[if_pos rfl]at this;omega);have HT:Hid (Z.take (k+1)=Z.take k++[1]):=hid (by rw[HT.out,HV.out,if_pos rfl]);go_wp2_with (at_builtin;refine Ps (W:=w3) (B:=w3.heap.size) hO.out HPL.out hW.out (by omega) (Nat.le_refl _) hsw rfl rfl rfl rfl ?_)
      intro v' w5 ho5 hb5;go_wp2_with fail
      go_roundw
      case rel=>exact⟨k+1,m,by omega,by go_num,rfl,by omega,G,hid (by rw[HT.out];exact ho5.out),hb5⟩
      case measure=>simp[intOf];omega
     | false=>
      have hm:m<x.dims.length:=by have:=HL2.out rfl;have:=hC.out;have:=HN2.out;have:=HLl.out;omega
      have G:Hid (m+1+DW zs (k+1)=k+1):=hid (by have:=hC.out;have:=HCn.out;rw[if_neg Bool.false_ne_true]at this;omega);have HT:Hid (Z.take (k+1)=Z.take k++[x.dims.getD m 0]):=hid (by
       rw[HT.out,HV.out,if_neg Bool.false_ne_true,show k-DW zs k=m by have:=hC.out;omega])
      have hmi:(m:Int)<(x.dims.length:Int):=by omega
      obtain⟨b6,o6,ha6,-,g6,u6,-⟩:=Ai (k:=m) HX.out hm;subst ha6;have u6:=(HBr.out.cell g6).trans u6;have hm6:m≤6:=by omega
      generalize x.dims.getD m 0=xm at*;go_wp2_with (at_builtin;refine Ps (W:=w3) (B:=w3.heap.size) hO.out HPL.out hW.out (by omega) (Nat.le_refl _) hsw rfl rfl rfl rfl ?_)
      intro v' w5 ho5 hb5;go_wp2_with fail
      go_roundw
      case rel=>exact⟨k+1,m+1,by omega,by go_num,by go_num,by omega,G,hid (by rw[HT.out];exact ho5.out),hb5⟩
      case measure=>simp[intOf];omega
    ·have hki:¬(k:Int)<(N:Int):=by omega
     obtain rfl:k=N:=by omega
     have hO2:=hO.out;rw[show Z.take k=Z from List.take_of_length_le (by rw[HZL.out];exact Nat.le_refl _)]at hO2;have HI2:=hid (hO2.ints HGd.out.1 HGd.out.2);clear hO2;go_wp2_with fail
     refine(CQ (x:=some Z) rfl (fun _ e=>by cases e;exact HI2.out)).mono ?_;rintro e w4 h4;obtain⟨a7,k7,c7,rfl,B4,-⟩:=h4.form;have H4:=hid (h4.base HBr.out);clear h4;go_wp2_with fail
     go_ret2
     rw[E.out];exact H4.out
 ·--Flatten
  have E:Hid (A9 n ins=AX (Dm n x.dims)):=hid (by unfold A9;rw[hk];simp only[gv HX0.out]);have hx6:=HSm.out.1;go_wp2_with fail
  clear f0 f1 f2 f3 f4;refine(TF (r:=x.dims.length) (HN.out _ (Below.refl _ _)) (by omega)).mono ?_;rintro e w2⟨B2,k,b,rfl,hkr,hA⟩;have HB2:=hid (HB1.out.trans (B2.mono HB1.out.size));have HA:=hid hA;clear B2 hA;cases b with
  | false=>
   have E:=hid (E.out.trans (show AX (Dm n x.dims)=(4,[]) by rw[Sn,HA.out];rfl));go_wp2_with fail
   go_ret2
   exact Ff.no (by rw[E.out]) (by decide) HB2.out
  | true=>
   have E:=hid (E.out.trans (show AX (Dm n x.dims)=(0,[(AK (x.dims.take k)).1,(AK (x.dims.drop k)).1]) by rw[Sn,HA.out];rfl));have hxc:=HX.out.capI.2;have hkc:k≤cx:=by omega
   have HX2:=hid (HX.out.below HB2.out);have HT:=hid (HX2.out.take (k:=k) hkr);have HDr:=hid (Ds (k:=k) HX2.out hkr);have q1:=Nk (x.dims.take k);have q2:=Nk (x.dims.drop k);go_wp2_with fail
   refine(Cj HT.out).mono ?_;rintro e w3⟨rfl,rfl⟩;obtain⟨u,hu⟩:∃u,AK (x.dims.take k)=u:=⟨_,rfl⟩;obtain⟨p,hp⟩:∃p,AK (x.dims.drop k)=p:=⟨_,rfl⟩;have HU:=hid hu;have HP:=hid hp;rw[hu]at q1 E⊢;rw[hp]at q2 E;clear hu hp;have HDs:Hid ((cx=k∧Aa w2 (.slice ax (x.dims.length-k) 0) (x.dims.drop k))∨(¬cx=k∧Aa w2 (.slice (Option.map (fun x=>x.add k) ax) (x.dims.length-k) (cx-k)) (x.dims.drop k))):=hid (by
    have h:=HDr.out;by_cases c:cx=k
    ·rw[if_pos c]at h;exact Or.inl ⟨c,by rwa [show cx-k=0 by omega]at h⟩
    ·rw[if_neg c]at h;exact Or.inr ⟨c,h⟩)
   clear HDr HT HX2;go_wp2_with fail
   all_goals
    obtain⟨c1,hd⟩| ⟨c1,hd⟩:=HDs.out
    all_goals first|omega|skip
    all_goals
     have hd:=hid hd
     with_reducible refine(Cj hd.out).mono ?_
     rintro e w4⟨rfl,rfl⟩;rw[HP.out];go_wp2_with fail
     go_ret2
     have hb:=hid ((Db (W:=w2.alloc (.cells #[.int .i64 u.1,.int .i64 p.1] 3)) (B:=0) (zs:=[u.1,p.1]) (Ac.new _ _ _) (Nat.zero_le _) rfl (by simp)).ints (by simp) (by simpa using⟨q1,q2⟩));exact Ff.yes E.out (HB2.out.trans (((Below.refl w2.heap.size w2).alloc (Nat.le_refl _) _).mono HB2.out.size)) hb.out
end
theorem below_drewN{B:Nat}{a w:World}(h:Below B a w)(q:Nat):Below B a (w.drewN q):=⟨h.os,h.tape,h.output,h.size,h.block⟩
end Go.Proofs.YtkkeehnldcdccaaGreatDoor
