import Derived.ArgAppend
import Derived.BigQuiet
import Derived.Deep.QuietTactic
import Derived.Test.YtkkeehnldcdccaaGreatDoorNe33
import Derived.Test.YtkkeehnldcdccaaGreatDoorNe40
set_option linter.unusedVariables false
set_option linter.unusedSimpArgs false
set_option maxRecDepth 100000
set_option maxHeartbeats 4000000
namespace Go.Proofs.YtkkeehnldcdccaaGreatDoor
open Go.RowKit
open Go.Lib (hid)
theorem Gu.parts{w:World}{v:Value}{fs:List Fm}(h:Gu w v fs):∃ao:Option Addr,v=.slice ao fs.length fs.length∧(ao=none→fs.length=0∧fs.length=0)∧(∀b,ao=some b→∀j u,(fs.flatMap Fm.cells)[j]?=some u→w.cell? (b.add j)=some u)∧fs.length≤100:=by
 cases h with
 | empty=>exact⟨none,rfl,fun _=>⟨rfl,rfl⟩,fun b h=>(by cases h),by simp⟩
 | row b _ h0 hb hr hlen=>
  refine⟨_,rfl,fun h=>(by cases h),fun b' h j u hu=>?_,hlen⟩;obtain rfl:=Option.some.inj h;have hj:j/3<fs.length:=by
   have:=(List.getElem?_eq_some_iff.1 hu).1;have e:(fs.flatMap Fm.cells).length=fs.length*3:=by
    clear hu hr hlen h0 h this
    induction fs with
    | nil=>rfl
    | cons f fs ih=>rw[List.flatMap_cons,List.length_append,ih];simp[Fm.cells];omega
   omega
  obtain⟨f,hf⟩:∃f,fs[j/3]?=some f:=⟨_,List.getElem?_eq_getElem hj⟩;obtain⟨h1,h2,h3⟩:=hr _ f hf;rw[MZ];have hm:j%3=0∨j%3=1∨j%3=2:=by omega
  have hd:j=j/3*3+j%3:=by omega
  have key:∀i (x:Value),f.cells[i]?=some x→j%3=i→x=u:=fun i x hx hi=>by
   have:=NK hf hx;rw[←hi,←hd,hu]at this;exact(Option.some.inj this).symm
  rcases hm with hm|hm|hm
  ·rw[←key 0 _ rfl hm,show 0+j=0+j/3*3 by omega];exact h1
  ·rw[←key 1 _ rfl hm,show 0+j=0+j/3*3+1 by omega];exact h2
  ·rw[←key 2 _ rfl hm,show 0+j=0+j/3*3+2 by omega];exact h3
theorem TV:(Tryz.prog.info? 138).map (fun i=>(i.zero,i.size,i.bytes))=some (some (.agg #[.string ⟨#[]⟩,.int .i64 0,.bool false]),3,32):=by kernel_rfl
def DX:Fm:=⟨⟨#[116,104,101,110]⟩,3,false⟩
def DY(a:At)(f:Fm):Bool:=decide (f.name=a.name)
def C4(a:At)(f:Fm):Bool:=decide (f.name=a.name)&& !decide (f.kind=a.kind)
def DG(fs:List Fm)(ats:List At)(i:Nat)(a:At):Int:=
 if fs.any (C4 a)=true then 4 else if fs.any (DY a)=false then 5 else if(ats.take i).any (fun b=>decide (b.name=a.name))=true then 4 else if a.kind=1∧Cz 1 a.f=false then 4 else 0
def Cm(fs:List Fm)(ats:List At):Nat→List At→Int
 | _,[]=>0
 | k,a::t=>if DG fs ats k a=0 then Cm fs ats (k+1) t else DG fs ats k a
theorem Ri{fs:List Fm}{ats:List At}{k:Nat}{a:At}(h:ats[k]?=some a)(g:DG fs ats k a≠0):Cm fs ats k (ats.drop k)=DG fs ats k a:=by
 obtain⟨hlt,e⟩:=List.getElem?_eq_some_iff.1 h;rw[List.drop_eq_getElem_cons hlt,e];unfold Cm;rw[if_neg g]
theorem Jy{fs:List Fm}{ats:List At}{k:Nat}{a:At}(h:ats[k]?=some a)(g:DG fs ats k a=0):Cm fs ats k (ats.drop k)=Cm fs ats (k+1) (ats.drop (k+1)):=by
 obtain⟨hlt,e⟩:=List.getElem?_eq_some_iff.1 h
 conv=>lhs;rw[List.drop_eq_getElem_cons hlt,e]
 conv=>lhs;unfold Cm
 rw[if_pos g]
theorem Rj{fs:List Fm}{ats:List At}:Cm fs ats ats.length (ats.drop ats.length)=0:=by
 rw[List.drop_length];unfold Cm;rfl
def C5(ats:List At)(f:Fm):Int:=if f.must=true∧(Az ats f.name f.kind).isSome=false then 4 else 0
def CM(ats:List At):List Fm→Int
 | []=>0
 | f::t=>if C5 ats f=0 then CM ats t else C5 ats f
theorem Rk{ats:List At}{fs:List Fm}{k:Nat}{f:Fm}(h:fs[k]?=some f)(g:C5 ats f≠0):CM ats (fs.drop k)=C5 ats f:=by
 obtain⟨hlt,e⟩:=List.getElem?_eq_some_iff.1 h;rw[List.drop_eq_getElem_cons hlt,e];unfold CM;rw[if_neg g]
theorem EU{ats:List At}{fs:List Fm}{k:Nat}{f:Fm}(h:fs[k]?=some f)(g:C5 ats f=0):CM ats (fs.drop k)=CM ats (fs.drop (k+1)):=by
 obtain⟨hlt,e⟩:=List.getElem?_eq_some_iff.1 h
 conv=>lhs;rw[List.drop_eq_getElem_cons hlt,e]
 conv=>lhs;unfold CM
 rw[if_pos g]
theorem Rl{ats:List At}{fs:List Fm}:CM ats (fs.drop fs.length)=0:=by
 rw[List.drop_length];unfold CM;rfl
def BP(ats:List At)(fs:List Fm):Int:=if Cm fs ats 0 ats=0 then CM ats fs else Cm fs ats 0 ats
theorem EV{ats:List At}{fs:List Fm}{k:Nat}{a:At}{x:Int}(hE:Cm fs ats 0 ats=Cm fs ats k (ats.drop k))(ha:ats[k]?=some a)(e:DG fs ats k a=x)(hx:x≠0):BP ats fs=x:=by
 have h1:Cm fs ats 0 ats=x:=by rw[hE,Ri ha (by rw[e];exact hx),e]
 unfold BP;rw[if_neg (by rw[h1];exact hx),h1]
theorem Iu{ats:List At}{fs:List Fm}{k:Nat}{f:Fm}{x:Int}(h0:Cm fs ats 0 ats=0)(hE:CM ats fs=CM ats (fs.drop k))(hf:fs[k]?=some f)(e:C5 ats f=x)(hx:x≠0):BP ats fs=x:=by
 unfold BP;rw[if_pos h0,hE,Rk hf (by rw[e];exact hx),e]
theorem NL{ats:List At}{fs:List Fm}(h0:Cm fs ats 0 ats=0)(hE:CM ats fs=0):BP ats fs=0:=by
 unfold BP;rw[if_pos h0,hE]
theorem PE{fs:List Fm}{ats:List At}{i:Nat}{a:At}(h:fs.any (C4 a)=true):DG fs ats i a=4:=by unfold DG;rw[if_pos h]
theorem Rm{fs:List Fm}{ats:List At}{i:Nat}{a:At}(h:fs.any (C4 a)=false)(g:fs.any (DY a)=false):DG fs ats i a=5:=by unfold DG;rw[if_neg (by rw[h];decide),if_pos g]
theorem PF{fs:List Fm}{ats:List At}{i:Nat}{a:At}(h:fs.any (C4 a)=false)(g:fs.any (DY a)=true)(t:(ats.take i).any (fun b=>decide (b.name=a.name))=true):DG fs ats i a=4:=by unfold DG;rw[if_neg (by rw[h];decide),if_neg (by rw[g];decide),if_pos t]
theorem PG{fs:List Fm}{ats:List At}{i:Nat}{a:At}(h:fs.any (C4 a)=false)(g:fs.any (DY a)=true)(t:(ats.take i).any (fun b=>decide (b.name=a.name))=false)(f:a.kind=1∧Cz 1 a.f=false):DG fs ats i a=4:=by unfold DG;rw[if_neg (by rw[h];decide),if_neg (by rw[g];decide),if_neg (by rw[t];decide),if_pos f]
theorem Le{fs:List Fm}{ats:List At}{i:Nat}{a:At}(h:fs.any (C4 a)=false)(g:fs.any (DY a)=true)(t:(ats.take i).any (fun b=>decide (b.name=a.name))=false)(f:¬(a.kind=1∧Cz 1 a.f=false)):DG fs ats i a=0:=by unfold DG;rw[if_neg (by rw[h];decide),if_neg (by rw[g];decide),if_neg (by rw[t];decide),if_neg f]
theorem GN{p:Fm→Bool}{fs:List Fm}{k:Nat}{f:Fm}(hf:fs[k]?=some f):(fs.take (k+1)).any p=((fs.take k).any p||p f):=by
 rw[List.take_add_one,List.any_append,hf];simp
theorem We{p:Fm→Bool}{fs:List Fm}{k:Nat}{f:Fm}(hf:fs[k]?=some f)(h:p f=true):fs.any p=true:=List.any_eq_true.2 ⟨f,List.mem_of_getElem? hf,h⟩
theorem Lf{ats:List At}{f:Fm}(h:f.must=true)(g:(Az ats f.name f.kind).isSome=false):C5 ats f=4:=by unfold C5;rw[if_pos ⟨h,g⟩]
theorem Lg{ats:List At}{f:Fm}(h:f.must=false):C5 ats f=0:=by unfold C5;rw[if_neg (fun c=>by rw[h]at c;exact absurd c.1 (by decide))]
theorem Lh{ats:List At}{f:Fm}(g:(Az ats f.name f.kind).isSome=true):C5 ats f=0:=by unfold C5;rw[if_neg (fun c=>by rw[g]at c;exact absurd c.2 (by decide))]
section
attribute [local irreducible] DG Cm C5 CM BP Cz Az
theorem Rn{a:At}{f:Fm}(h:f.name.toList=a.name.toList):DY a f=true:=by unfold DY;simp[AP h]
theorem PH{a:At}{f:Fm}(h:¬f.name.toList=a.name.toList):DY a f=false:=by unfold DY;simp[IC h]
theorem Ro{a:At}{f:Fm}(h:¬f.name.toList=a.name.toList):C4 a f=false:=by unfold C4;simp[IC h]
theorem Rp{a:At}{f:Fm}(h:f.kind=a.kind):C4 a f=false:=by unfold C4;simp[h]
theorem Rq{a:At}{f:Fm}(h:f.name.toList=a.name.toList)(g:¬f.kind=a.kind):C4 a f=true:=by unfold C4;simp[AP h,g]
theorem PI:∀gs:List Fm,(gs.flatMap Fm.cells).length=gs.length*3
 | []=>rfl
 | f::fs=>by rw[List.flatMap_cons,List.length_append,PI fs];simp[Fm.cells];omega
theorem Wf{w:World}{B:Nat}{vl:Value}{fs:List Fm}(h0:0<fs.length)(h:w.ownsRow B 138 3 vl fs.length (fs.flatMap Fm.cells)):∃g cap,vl=.slice (some ⟨g,0,none⟩) fs.length cap∧g<w.heap.size∧Lc w g 0 fs:=by
 obtain⟨g,cap,rfl,_,hlt⟩:=h.form h0;refine⟨g,cap,rfl,hlt,fun j f hj=>?_⟩;have hcell:∀(i:Nat) u,f.cells[i]?=some u→w.cell? ⟨g,0+j*3+i,none⟩=some u:=fun i u hu=>by
  have:=h.cells (g:=g) rfl _ u (NK hj hu);rw[MZ]at this;rw[show 0+j*3+i=0+(j*3+i) by omega];exact this
 exact⟨hcell 0 _ rfl,hcell 1 _ rfl,hcell 2 _ rfl⟩
theorem Rr{w:World}{v vl:Value}{n:Nd}{gs:List Fm}(h:Ba w v n)(hl:Gu w vl gs) :
  Calls Tryz.prog 57 #[v,vl] w fun e w'=>e=.returned (.int .i64 (BP n.attrs (gs++[DX])))∧Below w.heap.size w w':=by
 obtain⟨i0,hi,hz0,hz1,hz2⟩:=info_parts TV;obtain⟨fs,hfs⟩:∃fs,fs=gs++[DX]:=⟨_,rfl⟩;rw[←hfs];have HF:=hid hfs;clear hfs;obtain⟨vin,vat,rfl,hn⟩:=h;obtain⟨a1,c1,rfl⟩:=hn.is.form;obtain⟨a2,c2,rfl⟩:=hn.ia.form;have hal:=hn.ia.len;have hb1:Below w.heap.size w (w.alloc (Obj.cells #[.string n.op,.string n.name,.slice a1 n.ins.length c1,.string n.out,.slice a2 n.attrs.length c2] 25)):=(Below.refl _ w).alloc (Nat.le_refl _) _;have HB1:=hid hb1;have HL1:=hid (hl.below hb1);have HN:=hid hn;obtain⟨ao,rfl,hx1,hx2,hg100⟩:=hl.parts;clear hx1 hx2;clear hn hb1 hl;unfold Nd.val;go_enter Tryz.func57,Tryz.ntmps57
 go_wp2_with fail
 have HA1:=hid (Ac.new w #[.string n.op,.string n.name,.slice a1 n.ins.length c1,.string n.out,.slice a2 n.attrs.length c2] 25);generalize w.alloc _=w1 at HB1 HL1 HA1⊢;refine(AS _ _ _).mono ?_;rintro e w2⟨rfl,B2⟩;have HB2:=hid (HB1.out.trans (B2.mono HB1.out.size));have HL2:=hid (HL1.out.below B2);have HA2:=hid (HA1.out.below' B2);clear B2 HB1 HL1 HA1;have HP:Hid (∀o,Gu (w2.alloc o) (.slice ao gs.length gs.length) gs):=hid fun o=>HL2.out.below ((Below.refl _ _).alloc (Nat.le_refl _) _);have HP2:Hid (∀o,(ao=none→gs.length=0∧gs.length=0)∧(∀b,ao=some b→∀j u,(gs.flatMap Fm.cells)[j]?=some u→(w2.alloc o).cell? (b.add j)=some u)):=hid fun o=>by
  obtain⟨ao',hv,h1,h2,_⟩:=(HP.out o).parts;obtain⟨rfl,_,_⟩:=Value.slice.inj hv;exact⟨h1,h2⟩
 have HFL:=hid (PI gs);have HPn:=hid (HP2.out (.cells #[] 0)).1;go_wp2_with (at_builtin;go_must (refine wpList_append_grows _ rfl _ _ 85 rfl 138 i0 (.agg #[.string ⟨#[]⟩,.int .i64 0,.bool false]) 3 32 Tryz.underlying85 hi hz0 hz1 hz2 rfl (by decide) ao gs.length gs.length (gs.flatMap Fm.cells) rfl HPn.out HFL.out (HP2.out _).2 ⟨w2.heap.size,0,none⟩ 1 1 (#[.string ⟨#[116,104,101,110]⟩,.int .i64 3,.bool false]:Array Value).toList rfl rfl (World.news_of_block (heap_alloc_new w2 _)) (by simp[Value.oneCell']) (by omega) (by unfold maxLen;omega) (by omega) ?_))
 intro vl w3 hown hgrow;have hB3:Below w.heap.size w w3:=(HB2.out.alloc HB2.out.size _).grown hgrow (by simp only[World.size_alloc];have:=HB2.out.size;omega) (fun k h=>by cases h);have hA3:=HA2.out.below' (((Below.refl _ w2).alloc (Nat.le_refl _) _).grown hgrow (by simp only[World.size_alloc];omega) (fun k h=>by cases h));have hfl:fs.length=gs.length+1:=by rw[HF.out];simp
 obtain⟨g,cap,rfl,hg3,hR3⟩:=Wf (fs:=fs) (by omega) (by rw[hfl,HF.out];simpa[DX,Fm.cells]using hown);have HB3:=hid hB3;have HA3:=hid hA3;have HR3:=hid hR3;have HFN:Hid (fs.length≤101):=hid (by omega);clear hB3 hA3 hR3 hfl hgrow hown HA2 HB2 HP HP2 HPn HL2 HFL hi hz0 hz1 hz2;go_wp2
 go_loopw [5] (fun i wr=>∃k:Nat,k≤n.attrs.length∧i=.int .i64 (k:Int)∧Hid (Cm fs n.attrs 0 n.attrs=Cm fs n.attrs k (n.attrs.drop k))∧Hid (Below w3.heap.size w3 wr)) (fun i _=>n.attrs.length-(intOf i).toNat)
 case atStart=>exact⟨0,Nat.zero_le _,rfl,hid rfl,hid (Below.refl _ _)⟩
 case round=>
  obtain⟨k,hk,rfl,hE,hW⟩:=hrel;have p4:wr.cell? ⟨w.heap.size,4,none⟩=some (.slice a2 n.attrs.length c2):=(HA3.out.below' hW.out).cell 4 rfl;by_cases hkl:k<n.attrs.length
  ·have hki:(k:Int)<(n.attrs.length:Int):=by omega
   obtain⟨a,ha⟩:∃a,n.attrs[k]?=some a:=⟨_,List.getElem?_eq_getElem hkl⟩;obtain⟨ba,oa,capa,hv,hba,hrd⟩:=HN.out.ia.rows k a ha;obtain⟨rfl,hle,rfl⟩:=Value.slice.inj hv;clear hle;obtain⟨vd,vx,vi,hc9,hn9⟩:=hrd k a ha;obtain⟨c0,c1,c2,c3,c4,c5,c6,c7,c8⟩:=hc9.below hba (HB3.out.trans (hW.out.mono HB3.out.size));obtain⟨ad,cd,rfl⟩:=hn9.id.shape;obtain⟨ax,cx,rfl⟩:=hn9.ix.shape;obtain⟨ai,ci,rfl⟩:=hn9.ii.shape;have HRD:=hid hrd;have HA:=hid ha;clear hv hrd hc9 hn9 ha;go_wp2
   have HX:=hid (Ac.new wr #[.string a.name,.int .i64 a.kind,.int .i64 a.f,.int .i64 a.i,.string a.s,.int .i64 a.typ,.slice ad a.dims.length cd,.slice ax a.data.length cx,.slice ai a.ints.length ci] 43);have HW1:Hid (Below w3.heap.size w3 (wr.alloc (.cells #[.string a.name,.int .i64 a.kind,.int .i64 a.f,.int .i64 a.i,.string a.s,.int .i64 a.typ,.slice ad a.dims.length cd,.slice ax a.data.length cx,.slice ai a.ints.length ci] 43))):=hid (hW.out.alloc hW.out.size _);generalize hW1:wr.alloc _=W1 at HX HW1⊢;clear hW1 hW p4 c0 c1 c2 c3 c4 c5 c6 c7 c8;generalize wr.heap.size=B at HX⊢;go_loopw [7,8] (fun kn i wr=>∃(j:Nat) (kb:Bool),j≤fs.length∧i=.int .i64 (j:Int)∧kn=.bool kb∧Hid (kb=(fs.take j).any (DY a))∧Hid ((fs.take j).any (C4 a)=false)∧Hid (Below W1.heap.size W1 wr)) (fun _ i _=>fs.length-(intOf i).toNat)
   case atStart=>exact⟨0,false,Nat.zero_le _,rfl,rfl,hid (by simp),hid (by simp),hid (Below.refl _ _)⟩
   case round=>
    obtain⟨j,kb,hj,rfl,rfl,hKB,hCL,hW2⟩:=hrel;have hBX:Ac wr B #[.string a.name,.int .i64 a.kind,.int .i64 a.f,.int .i64 a.i,.string a.s,.int .i64 a.typ,.slice ad a.dims.length cd,.slice ax a.data.length cx,.slice ai a.ints.length ci] 43:=HX.out.below' hW2.out;have e0:=hBX.cell 0 rfl;have e1:=hBX.cell 1 rfl;have e2:=hBX.cell 2 rfl;have hB5:Below w3.heap.size w3 wr:=HW1.out.trans (hW2.out.mono HW1.out.size);have HB5:=hid hB5;have HB6:=hid (HB3.out.trans (hB5.mono HB3.out.size));clear hBX;have hfn:=HFN.out;by_cases hjl:j<fs.length
    ·have hji:(j:Int)<(fs.length:Int):=by omega
     obtain⟨f,hf⟩:∃f,fs[j]?=some f:=⟨_,List.getElem?_eq_getElem hjl⟩;obtain⟨f0,f1,f2⟩:=(HR3.out.below hg3 hB5) j f hf;simp only[Nat.zero_add]at f0 f1 f2;have HFJ:=hid hf;clear hf hB5;by_cases hnm:f.name.toList=a.name.toList
     ·have hnb:(f.name.toList==a.name.toList)=true:=by simpa using hnm
      by_cases hkd:f.kind=a.kind
      ·have hkb:(f.kind==a.kind)=true:=by simpa using hkd
       have HK':Hid (true=(fs.take (j+1)).any (DY a)):=hid (by rw[GN HFJ.out,Rn hnm];simp);have HC':Hid ((fs.take (j+1)).any (C4 a)=false):=hid (by rw[GN HFJ.out,hCL.out,Rp hkd];rfl);clear hnm hkd;go_wp2
       go_quiet (fail)
       go_wp2
       go_quiet (fail)
       go_wp2
       go_roundw
       case rel=>exact⟨j+1,true,by omega,by go_num,rfl,HK',HC',hid (below_drewN hW2.out _)⟩
       case measure=>simp[intOf];omega
      ·have hkb:(f.kind==a.kind)=false:=by simpa using hkd
       have HR:=hid (EV hE.out HA.out (PE (We HFJ.out (Rq hnm hkd))) (by decide));clear hnm hkd;go_wp2
       go_quiet (fail)
       go_wp2
       go_quiet (fail)
       go_wp2
       go_ret
       exact⟨Ab (congrArg (Value.int .i64) HR.out).symm,by first|exact below_drewN HB6.out _|exact below_drewN (below_drewN HB6.out _) _⟩
     ·have hnb:(f.name.toList==a.name.toList)=false:=by simpa using hnm
      have HK':Hid (kb=(fs.take (j+1)).any (DY a)):=hid (by rw[GN HFJ.out,PH hnm,←hKB.out];simp);have HC':Hid ((fs.take (j+1)).any (C4 a)=false):=hid (by rw[GN HFJ.out,hCL.out,Ro hnm];rfl);clear hnm;go_wp2
      go_quiet (fail)
      go_wp2
      go_roundw
      case rel=>exact⟨j+1,kb,by omega,by go_num,rfl,HK',HC',hid (below_drewN hW2.out _)⟩
      case measure=>simp[intOf];omega
    ·have hji:¬(j:Int)<(fs.length:Int):=by omega
     obtain rfl:j=fs.length:=by omega
     have HCA:Hid (fs.any (C4 a)=false):=hid (by have:=hCL.out;rwa [List.take_length]at this);have HSA:Hid (kb=fs.any (DY a)):=hid (by have:=hKB.out;rwa [List.take_length]at this);clear hKB hCL hB5;cases kb with
     | false=>
      have HR:=hid (EV hE.out HA.out (Rm HCA.out HSA.out.symm) (by decide));go_wp2
      go_ret
      exact⟨Ab (congrArg (Value.int .i64) HR.out).symm,HB6.out⟩
     | true=>
      go_wp2
      generalize hwq:wr=W2 at*;clear hwq e0 e1 e2;go_loopw [9] (fun i wr=>∃j:Nat,j≤k∧i=.int .i64 (j:Int)∧Hid ((n.attrs.take j).any (fun b=>decide (b.name=a.name))=false)∧Hid (Below W2.heap.size W2 wr)) (fun i _=>k-(intOf i).toNat)
      case atStart=>exact⟨0,Nat.zero_le _,rfl,hid (by simp),hid (Below.refl _ _)⟩
      case round=>
       obtain⟨j,hj2,rfl,hTW,hW3⟩:=hrel;have hB7:Below w3.heap.size w3 wr:=HB5.out.trans (hW3.out.mono HB5.out.size);have p4:wr.cell? ⟨w.heap.size,4,none⟩=some (.slice (some ⟨ba,oa,none⟩) n.attrs.length c2):=(HA3.out.below' hB7).cell 4 rfl;have hBX:Ac wr B #[.string a.name,.int .i64 a.kind,.int .i64 a.f,.int .i64 a.i,.string a.s,.int .i64 a.typ,.slice ad a.dims.length cd,.slice ax a.data.length cx,.slice ai a.ints.length ci] 43:=HX.out.below' (hW2.out.trans (hW3.out.mono hW2.out.size));have e0:=hBX.cell 0 rfl;have e1:=hBX.cell 1 rfl;have e2:=hBX.cell 2 rfl;have HB7:=hid hB7;have HB8:=hid (HB3.out.trans (hB7.mono HB3.out.size));clear hBX hB7;by_cases hjk:j<k
       ·have hji2:(j:Int)<(k:Int):=by omega
        obtain⟨b,hb⟩:∃b,n.attrs[j]?=some b:=⟨_,List.getElem?_eq_getElem (by omega)⟩;obtain⟨xd,xx,xi,hc9,hn9⟩:=HRD.out j b hb;have d0:=(hc9.below hba HB8.out).c0;have HBJ:=hid hb;clear hc9 hn9 hb;by_cases hnm:b.name.toList=a.name.toList
        ·have hnb:(b.name.toList==a.name.toList)=true:=by simpa using hnm
         have HR:=hid (EV hE.out HA.out (PF HCA.out HSA.out.symm (List.any_eq_true.2 ⟨b,List.mem_of_getElem? (i:=j) (by rw[List.getElem?_take];simp[hjk,HBJ.out]),by simp[AP hnm]⟩)) (by decide));clear hnm;go_wp2
         go_quiet (fail)
         go_wp2
         go_ret
         exact⟨Ab (congrArg (Value.int .i64) HR.out).symm,below_drewN HB8.out _⟩
        ·have hnb:(b.name.toList==a.name.toList)=false:=by simpa using hnm
         have HT':Hid ((n.attrs.take (j+1)).any (fun b=>decide (b.name=a.name))=false):=hid (CY HBJ.out hTW.out (by simp[IC hnm]));clear hnm;go_wp2
         go_quiet (fail)
         go_wp2
         go_roundw
         case rel=>exact⟨j+1,by omega,by go_num,HT',hid (below_drewN hW3.out _)⟩
         case measure=>simp[intOf];omega
       ·have hji2:¬(j:Int)<(k:Int):=by omega
        obtain rfl:j=k:=by omega
        by_cases hk1:a.kind=1
        ·have hkb:(a.kind==1)=true:=by simpa using hk1
         go_wp2_with fail
         refine(Fl.Gt _ _ _).mono ?_;rintro e w5⟨rfl,rfl⟩;cases hck:Cz 1 a.f with
         | false=>
          have HR:=hid (EV hE.out HA.out (PG HCA.out HSA.out.symm hTW.out ⟨hk1,hck⟩) (by decide));clear hck;go_wp2
          go_ret
          exact⟨Ab (congrArg (Value.int .i64) HR.out).symm,HB8.out⟩
         | true=>
          have HG:=hid (Jy HA.out (Le HCA.out HSA.out.symm hTW.out (fun h=>by rw[hck]at h;exact absurd h.2 (by decide))));clear hck;go_wp2
          go_roundw
          case rel=>exact⟨j+1,by omega,by go_num,hid (hE.out.trans HG.out),HB7⟩
          case measure=>simp[intOf];omega
        ·have hkb:(a.kind==1)=false:=by simpa using hk1
         have HG:=hid (Jy HA.out (Le HCA.out HSA.out.symm hTW.out (fun h=>hk1 h.1)));go_wp2
         go_roundw
         case rel=>exact⟨j+1,by omega,by go_num,hid (hE.out.trans HG.out),HB7⟩
         case measure=>simp[intOf];omega
  ·have hki:¬(k:Int)<(n.attrs.length:Int):=by omega
   obtain rfl:k=n.attrs.length:=by omega
   have HE0:Hid (Cm fs n.attrs 0 n.attrs=0):=hid (hE.out.trans Rj);clear hE;go_wp2
   generalize hwq:wr=W2 at*;clear hwq p4;go_loopw [10] (fun i wr=>∃j:Nat,j≤fs.length∧i=.int .i64 (j:Int)∧Hid (CM n.attrs fs=CM n.attrs (fs.drop j))∧Hid (Below w3.heap.size w3 wr)) (fun i _=>fs.length-(intOf i).toNat)
   case atStart=>exact⟨0,Nat.zero_le _,rfl,hid rfl,hW⟩
   case round=>
    obtain⟨j,hj,rfl,hE,hW3⟩:=hrel;have hfn:=HFN.out;by_cases hjl:j<fs.length
    ·have hji:(j:Int)<(fs.length:Int):=by omega
     obtain⟨f,hf⟩:∃f,fs[j]?=some f:=⟨_,List.getElem?_eq_getElem hjl⟩;have HFJ:=hid hf;have HS:Hid (∀W',Below w3.heap.size w3 W'→Ac W' w.heap.size #[Value.string n.op,Value.string n.name,Value.slice a1 n.ins.length c1,Value.string n.out,Value.slice a2 n.attrs.length c2] 25∧W'.cell? ⟨g,j*3,none⟩=some (.string f.name)∧W'.cell? ⟨g,j*3+1,none⟩=some (.int .i64 f.kind)∧W'.cell? ⟨g,j*3+2,none⟩=some (.bool f.must)):=hid fun W' h=>by
      have:=(HR3.out.below hg3 h) j f HFJ.out;simp only[Nat.zero_add]at this;exact⟨HA3.out.below' h,this⟩
     obtain⟨a0,ha0⟩:∃a0,(Az n.attrs f.name f.kind).getD At.zero=a0:=⟨_,rfl⟩;obtain⟨okb,hok⟩:∃okb,(Az n.attrs f.name f.kind).isSome=okb:=⟨_,rfl⟩;have HC:Hid (∀W,Below w3.heap.size w3 W→Calls Tryz.prog 66 #[.agg #[Value.string n.op,Value.string n.name,Value.slice a1 n.ins.length c1,Value.string n.out,Value.slice a2 n.attrs.length c2],.string f.name,.int .i64 f.kind] W fun e w'=>Below W.heap.size W w'∧∃va,e=.returned (.tuple #[va,.bool okb])∧F7 w' va a0):=hid fun W h=>by
      rw[←ha0,←hok];have:=GB ⟨_,_,rfl,HN.out.below (HB3.out.trans (h.mono HB3.out.size))⟩ f.name f.kind;unfold Nd.val at this;exact this
     have HOK:=hid hok;clear hf hok ha0;go_wp2_with fail
     refine Gh 17 (Pl.reads [0,1,2,3,4,5,6,7,8,9,10] (.two 11 (Pl.reads [12,13,14] (.act 15 (.act 16 .tail))) 15 (.act 11 (Pl.reads [12,13,14] (.act 16 .tail))))) (fun W'=>Below w3.heap.size w3 W') (by kernel_rfl) (by kernel_rfl) (fun _ d _ _ _ h=>by cases d<;>exact h) hW3.out.drew ?_;simp only[Pl.reads];have B0:Hid (Below w3.heap.size w3 wr.drew):=hid hW3.out.drew;generalize wr.drew=wD at B0⊢
     repeat
      refine GD (v:=?_) rfl (Or.inl ⟨by rfl,?_⟩) ?_;rotate_left
      ·intro w' hSw;obtain⟨s1,f0,f1,f2⟩:=HS.out w' hSw;obtain⟨e0,e1,e2,e3,e4⟩:=s1.five;clear s1;go_simp
       try with_reducible rfl
      try simp only[Act.put,List.getElem_toArray,List.getElem_cons_zero,List.getElem_cons_succ,List.setIfInBounds_toArray,List.set_cons_zero,List.set_cons_succ]
     refine Ou rfl rfl (fun K' hK=>?_) (fun K' hK=>?_)
     ·go_simp
      refine(HC.out _ B0.out).mono ?_;rintro e w5⟨B,va,rfl,vd,vx,vi,rfl,hna⟩;obtain⟨ad,cd,rfl⟩:=hna.id.shape;obtain⟨ax,cx,rfl⟩:=hna.ix.shape;obtain⟨ai,ci,rfl⟩:=hna.ii.shape;clear hna;unfold At.val;have B1:=hid (B0.out.trans (B.mono B0.out.size));refine hK.out _ _ B1.out ?_;clear hK K' B
      repeat
       refine GD (v:=?_) rfl (Or.inl ⟨by rfl,?_⟩) ?_;rotate_left
       ·intro w' hSw;obtain⟨s1,f0,f1,f2⟩:=HS.out w' hSw;obtain⟨e0,e1,e2,e3,e4⟩:=s1.five;clear s1;go_simp
        try with_reducible rfl
       try simp only[Act.put,List.getElem_toArray,List.getElem_cons_zero,List.getElem_cons_succ,List.setIfInBounds_toArray,List.set_cons_zero,List.set_cons_succ]
      refine Fr rfl (fun K' hK=>?_);go_simp
      have HP:=hid (Ac.new w5 #[Value.string ⟨#[]⟩,Value.int .i64 0,Value.int .i64 0,Value.int .i64 0,Value.string ⟨#[]⟩,Value.int .i64 0,Value.slice none 0 0,Value.slice none 0 0,Value.slice none 0 0] 43);have HQ6:Hid (Below w3.heap.size w3 (w5.alloc (.cells #[Value.string ⟨#[]⟩,Value.int .i64 0,Value.int .i64 0,Value.int .i64 0,Value.string ⟨#[]⟩,Value.int .i64 0,Value.slice none 0 0,Value.slice none 0 0,Value.slice none 0 0] 43))):=hid (B1.out.alloc B1.out.size _);refine hK.out _ _ HQ6.out ?_;clear hK K';have hP:w3.heap.size≤w5.heap.size:=B1.out.size;generalize w5.alloc _=w6 at HP HQ6⊢;generalize w5.heap.size=P at HP hP⊢;obtain⟨t0,t1,t2,t3,t4,t5,t6,t7,t8⟩:=HP.out.thaw9;obtain⟨r0,r1,r2,r3,r4,r5,r6,r7,r8⟩:=HP.out.nine;have hQ7:=Ck (v0:=.string a0.name) (v1:=.int .i64 a0.kind) (v2:=.int .i64 a0.f) (v3:=.int .i64 a0.i) (v4:=.string a0.s) (v5:=.int .i64 a0.typ) (v6:=.slice ad a0.dims.length cd) (v7:=.slice ax a0.data.length cx) (v8:=.slice ai a0.ints.length ci) HQ6.out hP;have HQ7:=hid hQ7;have hf2:=((HS.out _ hQ7).2.2.2);have HF2:=hid hf2;clear hf2 hQ7;refine Fr rfl (fun K' hK=>?_);go_simp
      refine hK.out _ (EZ w6 P _ _ _ _ _ _ _ _ _) HQ7.out ?_;generalize EZ w6 P _ _ _ _ _ _ _ _ _=w7 at HQ7 HF2⊢;clear hK K' t0 t1 t2 t3 t4 t5 t6 t7 t8 r0 r1 r2 r3 r4 r5 r6 r7 r8 HP HQ6 HC HS B0;refine GE rfl ?_;simp only[List.toList_toArray,List.drop_succ_cons,List.drop_zero];have f2:=HF2.out;obtain⟨mb,hmb⟩:∃mb,f.must=mb:=⟨_,rfl⟩;rw[hmb]at f2;have HMB:=hid hmb;clear hmb HF2;cases mb with
      | false=>
       have HN':=hid (hE.out.trans (EU HFJ.out (Lg HMB.out)));go_wp2
       go_roundw
       case rel=>exact⟨j+1,by omega,by go_num,HN',HQ7⟩
       case measure=>simp[intOf];omega
      | true=>
       cases okb with
       | false=>
        have HR:=hid (Iu HE0.out hE.out HFJ.out (Lf HMB.out HOK.out) (by decide));go_wp2
        go_ret
        exact⟨Ab (congrArg (Value.int .i64) HR.out).symm,HB3.out.trans (HQ7.out.mono HB3.out.size)⟩
       | true=>
        have HN':=hid (hE.out.trans (EU HFJ.out (Lh HOK.out)));go_wp2
        go_roundw
        case rel=>exact⟨j+1,by omega,by go_num,HN',HQ7⟩
        case measure=>simp[intOf];omega
     ·go_simp
      have HP0:=hid (Ac.new wD #[Value.string ⟨#[]⟩,Value.int .i64 0,Value.int .i64 0,Value.int .i64 0,Value.string ⟨#[]⟩,Value.int .i64 0,Value.slice none 0 0,Value.slice none 0 0,Value.slice none 0 0] 43);have B1:Hid (Below w3.heap.size w3 (wD.alloc (.cells #[Value.string ⟨#[]⟩,Value.int .i64 0,Value.int .i64 0,Value.int .i64 0,Value.string ⟨#[]⟩,Value.int .i64 0,Value.slice none 0 0,Value.slice none 0 0,Value.slice none 0 0] 43))):=hid (B0.out.alloc B0.out.size _);refine hK.out _ _ B1.out ?_;clear hK K';have hP:w3.heap.size≤wD.heap.size:=B0.out.size;generalize wD.alloc _=w4 at HP0 B1⊢;generalize wD.heap.size=P at HP0 hP⊢;refine Fr rfl (fun K' hK=>?_);go_simp
      refine(HC.out _ B1.out).mono ?_;rintro e w6⟨B,va,rfl,vd,vx,vi,rfl,hna⟩;obtain⟨ad,cd,rfl⟩:=hna.id.shape;obtain⟨ax,cx,rfl⟩:=hna.ix.shape;obtain⟨ai,ci,rfl⟩:=hna.ii.shape;clear hna;unfold At.val;have HQ6:=hid (B1.out.trans (B.mono B1.out.size));have HP:=hid (HP0.out.below' B);refine hK.out _ _ HQ6.out ?_;clear hK K' B HP0
      repeat
       refine GD (v:=?_) rfl (Or.inl ⟨by rfl,?_⟩) ?_;rotate_left
       ·intro w' hSw;obtain⟨s1,f0,f1,f2⟩:=HS.out w' hSw;obtain⟨e0,e1,e2,e3,e4⟩:=s1.five;clear s1;go_simp
        try with_reducible rfl
       try simp only[Act.put,List.getElem_toArray,List.getElem_cons_zero,List.getElem_cons_succ,List.setIfInBounds_toArray,List.set_cons_zero,List.set_cons_succ]
      obtain⟨t0,t1,t2,t3,t4,t5,t6,t7,t8⟩:=HP.out.thaw9;obtain⟨r0,r1,r2,r3,r4,r5,r6,r7,r8⟩:=HP.out.nine;have hQ7:=Ck (v0:=.string a0.name) (v1:=.int .i64 a0.kind) (v2:=.int .i64 a0.f) (v3:=.int .i64 a0.i) (v4:=.string a0.s) (v5:=.int .i64 a0.typ) (v6:=.slice ad a0.dims.length cd) (v7:=.slice ax a0.data.length cx) (v8:=.slice ai a0.ints.length ci) HQ6.out hP;have HQ7:=hid hQ7;have hf2:=((HS.out _ hQ7).2.2.2);have HF2:=hid hf2;clear hf2 hQ7;refine Fr rfl (fun K' hK=>?_);go_simp
      refine hK.out _ (EZ w6 P _ _ _ _ _ _ _ _ _) HQ7.out ?_;generalize EZ w6 P _ _ _ _ _ _ _ _ _=w7 at HQ7 HF2⊢;clear hK K' t0 t1 t2 t3 t4 t5 t6 t7 t8 r0 r1 r2 r3 r4 r5 r6 r7 r8 HP HQ6 HC HS B0;refine GE rfl ?_;simp only[List.toList_toArray,List.drop_succ_cons,List.drop_zero];have f2:=HF2.out;obtain⟨mb,hmb⟩:∃mb,f.must=mb:=⟨_,rfl⟩;rw[hmb]at f2;have HMB:=hid hmb;clear hmb HF2;cases mb with
      | false=>
       have HN':=hid (hE.out.trans (EU HFJ.out (Lg HMB.out)));go_wp2
       go_roundw
       case rel=>exact⟨j+1,by omega,by go_num,HN',HQ7⟩
       case measure=>simp[intOf];omega
      | true=>
       cases okb with
       | false=>
        have HR:=hid (Iu HE0.out hE.out HFJ.out (Lf HMB.out HOK.out) (by decide));go_wp2
        go_ret
        exact⟨Ab (congrArg (Value.int .i64) HR.out).symm,HB3.out.trans (HQ7.out.mono HB3.out.size)⟩
       | true=>
        have HN':=hid (hE.out.trans (EU HFJ.out (Lh HOK.out)));go_wp2
        go_roundw
        case rel=>exact⟨j+1,by omega,by go_num,HN',HQ7⟩
        case measure=>simp[intOf];omega
    ·have hji:¬(j:Int)<(fs.length:Int):=by omega
     obtain rfl:j=fs.length:=by omega
     have HR:=hid (NL HE0.out (hE.out.trans Rl));go_wp2
     go_ret
     exact⟨Ab (congrArg (Value.int .i64) HR.out).symm,HB3.out.trans (hW3.out.mono HB3.out.size)⟩
end
end Go.Proofs.YtkkeehnldcdccaaGreatDoor
