import Derived.Test.YtkkeehnldcdccaaGreatDoorNe30
set_option linter.unusedVariables false
set_option linter.unusedSimpArgs false
set_option maxRecDepth 100000
set_option maxHeartbeats 4000000
namespace Go.Proofs.YtkkeehnldcdccaaGreatDoor
open Go.RowKit
open Go.Lib (hid)
theorem NE{x y g h:List Int}{keep:Bool}:∀ {k:Nat},(∀i,i<k→Ih x g keep i=Ih y h keep i)→Bg x g keep k=Bg y h keep k
 | 0,_=>rfl
 | k+1,e=>by rw[Cx,Cx,NE fun i hi=>e i (by omega),e k (by omega)]
theorem So{x:List Int}{keep:Bool}:∀ {k:Nat},k≤x.length→Bg x [] keep k=x.take k
 | 0,_=>by simp[Bg]
 | k+1,h=>by
  rw[Cx,So (by omega),List.take_add_one,Fz (by omega)]
  rfl
theorem Is{x:List Int}{k i:Nat}(h:k<x.length):(x.take k++x.drop (k+1)).getD i 0=if i<k then x.getD i 0 else x.getD (i+1) 0:=by
 simp only[List.getD];by_cases c:i<k
 ·rw[if_pos c,List.getElem?_append_left (by simp;omega),List.getElem?_take_of_lt c]
 ·rw[if_neg c,List.getElem?_append_right (by simp;omega),List.getElem?_drop]
  congr 2
  simp;omega
theorem VJ{l:List Int}{i:Nat}(h:∀b∈l,b<(i:Int)):l.contains (i:Int)=false:=by
 cases e:l.contains (i:Int)with
 | false=>rfl
 | true=>
  have:=h _ (List.contains_iff_mem.1 e);omega
theorem VK{x l:List Int}{k:Nat}(hk:k<x.length)(hl:∀b∈l,b<(k:Int)):Bg (x.take k++x.drop (k+1)) l false (x.length-1)=Bg x ((k:Int)::l) false x.length:=by
 have h1:Bg (x.take k++x.drop (k+1)) l false k=Bg x ((k:Int)::l) false k:=NE fun i hi=>by
  unfold Ih;rw[Is hk,if_pos hi];have e:((k:Int)::l).contains (i:Int)=l.contains (i:Int):=by
   rw[List.contains_cons,show((i:Int)==(k:Int))=false by rw[beq_eq_false_iff_ne];omega,Bool.false_or]
  rw[e]
 have h2:Bg x ((k:Int)::l) false (k+1)=Bg x ((k:Int)::l) false k:=by
  rw[Cx,Ii (by simp),List.append_nil]
 have h3:∀j,k+j≤x.length-1→Bg (x.take k++x.drop (k+1)) l false (k+j)=Bg x ((k:Int)::l) false (k+1+j):=fun j=>by
  induction j with
  | zero=>
   intro _;show Bg (x.take k++x.drop (k+1)) l false k=Bg x ((k:Int)::l) false (k+1);rw[h1,h2]
  | succ j ih=>
   intro hj;rw[←Nat.add_assoc,←Nat.add_assoc,Cx,Cx,ih (by omega)];rw[FG (VJ fun b hb=>by have:=hl b hb;omega),FG (VJ fun b hb=>by
    rcases List.mem_cons.1 hb with rfl|hb
    ·omega
    ·have:=hl b hb;omega)]
   rw[Is hk,if_neg (by omega),show k+1+j=k+j+1 by omega]
 have:=h3 (x.length-1-k) (by omega);rw[show k+(x.length-1-k)=x.length-1 by omega,show k+1+(x.length-1-k)=x.length by omega]at this;exact this
theorem Sp:∀ {d x:List Int},d.Pairwise (fun a b=>b<a)→(∀b∈d,0≤b∧b<(x.length:Int))→P0 x d=if ∀b∈d,x.getD b.toNat 0=1 then some (Bg x d false x.length)else none
 | [],x,_,_=>by rw[if_pos (by simp),So (Nat.le_refl _),List.take_length];rfl
 | a::l,x,hp,hr=>by
  obtain⟨h0,h1⟩:=hr a (by simp);obtain⟨k,rfl⟩:∃k:Nat,a=(k:Int):=⟨a.toNat,by omega⟩;obtain⟨hp1,hp2⟩:=List.pairwise_cons.1 hp;have hk:k<x.length:=by omega
  rw[P0,Int.toNat_natCast];by_cases c:x.getD k 0=1
  ·rw[if_pos c,Sp hp2 (fun b hb=>by
    have h2:=hr b (List.mem_cons_of_mem _ hb);have h3:=hp1 b hb;simp;omega)]
   have hlen:(x.take k++x.drop (k+1)).length=x.length-1:=by simp;omega
   rw[hlen,VK hk hp1];have hiff:(∀b∈l,(x.take k++x.drop (k+1)).getD b.toNat 0=1)↔∀b∈(k:Int)::l,x.getD b.toNat 0=1:=by
    constructor
    ·intro h b hb;rcases List.mem_cons.1 hb with rfl|hb
     ·exact c
     ·have:=h b hb;have h3:=hp1 b hb;have h2:=hr b (List.mem_cons_of_mem _ hb)
      rwa [Is hk,if_pos (by omega)]at this
    ·intro h b hb;have h3:=hp1 b hb;have h2:=hr b (List.mem_cons_of_mem _ hb);rw[Is hk,if_pos (by omega)];exact h b (List.mem_cons_of_mem _ hb)
   by_cases g:∀b∈(k:Int)::l,x.getD b.toNat 0=1
   ·rw[if_pos g,if_pos (hiff.2 g)]
   ·rw[if_neg g,if_neg (fun e=>g (hiff.1 e))]
  ·rw[if_neg c,if_neg (fun e=>c (by have:=e (k:Int) (by simp);simpa using this))]
theorem Xw{x g h:List Int}{keep:Bool}{k:Nat}(e:∀z,z∈g↔z∈h):Bg x g keep k=Bg x h keep k:=NE fun i _=>by
 unfold Ih;have:g.contains (i:Int)=h.contains (i:Int):=by
  rw[Bool.eq_iff_iff,List.contains_iff_mem,List.contains_iff_mem];exact e _
 rw[this]
theorem NF{l:List Int}(z:Int):z∈F0 l↔z∈l:=List.mem_mergeSort
theorem Pw{n:Nd}{x l:List Int}(h:By (Af n.attrs AF []) x.length=some l)(hr:∀b∈l,0≤b∧b<(x.length:Int)) :
  Bn n x=if ∀b∈l,x.getD b.toNat 0=1 then some (Bg x l false x.length)else none:=by
 rw[Jp h,List.drop_zero,Sp (List.pairwise_reverse.2 (KW (DU h))) (fun b hb=>hr b (Ek (List.mem_reverse.1 hb)))];rw[Xw (h:=l) (fun z=>by rw[List.mem_reverse];exact NF z)];have hiff:(∀b∈(F0 l).reverse,x.getD b.toNat 0=1)↔∀b∈l,x.getD b.toNat 0=1:=
  ⟨fun e b hb=>e b (List.mem_reverse.2 ((NF b).2 hb)),fun e b hb=>e b (Ek (List.mem_reverse.1 hb))⟩
 by_cases g:∀b∈l,x.getD b.toNat 0=1
 ·rw[if_pos g,if_pos (hiff.2 g)]
 ·rw[if_neg g,if_neg (fun e=>g (hiff.1 e))]
def DW(l:List Int)(i:Nat):Nat:=(l.filter fun b=>decide (b<(i:Int))).length
theorem Fy(a:Int)(l:List Int)(i:Nat):DW (a::l) i=(if a<(i:Int)then 1 else 0)+DW l i:=by
 unfold DW;rw[List.filter_cons];split
 ·rename_i h
  rw[if_pos (by simpa using h),List.length_cons];omega
 ·rename_i h
  rw[if_neg (by simpa using h)];omega
theorem Ep{l:List Int}{i:Nat}(h:∀b∈l,(i:Int)≤b):DW l i=0:=by
 unfold DW;rw[List.length_eq_zero_iff,List.filter_eq_nil_iff];intro b hb;have:=h b hb;simp;omega
theorem Mz{l m:List Int}(h:l.Perm m)(i:Nat):DW l i=DW m i:=(h.filter _).length_eq
theorem I0:∀ {l:List Int} {lo i:Nat},l.Pairwise (fun a b=>a<b)→(∀b∈l,(lo:Int)≤b)→lo≤i→DW l i≤i-lo
 | [],lo,i,_,_,_=>by simp[DW]
 | a::l,lo,i,hp,hr,hi=>by
  obtain⟨hp1,hp2⟩:=List.pairwise_cons.1 hp;have ha:=hr a (by simp);rw[Fy];by_cases c:a<(i:Int)
  ·rw[if_pos c];have:=I0 (l:=l) (lo:=lo+1) (i:=i) hp2 (fun b hb=>by have:=hp1 b hb;omega) (by omega);omega
  ·rw[if_neg c,Ep (fun b hb=>by have:=hp1 b hb;omega)];omega
theorem Xx{x:List Int}{k i:Nat}(h:k≤x.length):(x.take k++1::x.drop k).getD i 0=if i<k then x.getD i 0 else if i=k then 1 else x.getD (i-1) 0:=by
 simp only[List.getD];by_cases c:i<k
 ·rw[if_pos c,List.getElem?_append_left (by simp;omega),List.getElem?_take_of_lt c]
 ·rw[if_neg c,List.getElem?_append_right (by simp;omega)];have e:(x.take k).length=k:=by simp;omega
  rw[e];by_cases d:i=k
  ·rw[if_pos d,d,Nat.sub_self];rfl
  ·rw[if_neg d,show i-k=(i-k-1)+1 by omega,List.getElem?_cons_succ,List.getElem?_drop,show k+(i-k-1)=i-1 by omega]
theorem Sq:∀ {l x:List Int},(∀b∈l,0≤b)→(Hv x l).length=x.length+l.length
 | [],x,_=>rfl
 | a::l,x,h=>by
  rw[Hv,Sq fun b hb=>h b (List.mem_cons_of_mem _ hb)];simp;omega
theorem Sr:∀ {l x:List Int},l.Pairwise (fun a b=>a<b)→(∀b∈l,0≤b)→(∀(j:Nat) b,l[j]?=some b→b≤(x.length:Int)+(j:Int))→∀i,(Hv x l).getD i 0=if l.contains (i:Int)=true then 1 else x.getD (i-DW l i) 0
 | [],x,_,_,_,i=>by simp[Hv,DW]
 | a::l,x,hp,h0,hr,i=>by
  obtain⟨hp1,hp2⟩:=List.pairwise_cons.1 hp;have ha0:=h0 a (by simp);have ha1:=hr 0 a rfl;obtain⟨k,rfl⟩:∃k:Nat,a=(k:Int):=⟨a.toNat,by omega⟩;have hk:k≤x.length:=by omega
  rw[Hv,Int.toNat_natCast,Sr hp2 (fun b hb=>h0 b (List.mem_cons_of_mem _ hb)) (fun j b hb=>by
   have:=hr (j+1) b (by simpa using hb);simp;omega) i]
  rw[List.contains_cons,Fy];by_cases c:l.contains (i:Int)=true
  ·rw[if_pos c,if_pos (by rw[c,Bool.or_true])]
  ·rw[if_neg c,Xx hk];have hc:l.contains (i:Int)=false:=by simpa using c
   by_cases d:i=k
   ·subst d;rw[Ep (fun b hb=>by have:=hp1 b hb;omega),Nat.sub_zero,if_neg (Nat.lt_irrefl _),if_pos rfl,if_pos (by simp)]
   ·have e:((i:Int)==(k:Int))=false:=by rw[beq_eq_false_iff_ne];omega
    rw[e,hc,Bool.or_false,if_neg Bool.false_ne_true];by_cases g:i<k
    ·rw[Ep (fun b hb=>by have:=hp1 b hb;omega),Nat.sub_zero,if_pos g,if_neg (by omega)]
     rfl
    ·have hm:=I0 (l:=l) (lo:=k+1) (i:=i) hp2 (fun b hb=>by have:=hp1 b hb;omega) (by omega);rw[if_neg (by omega),if_neg (by omega),if_pos (by omega)]
     congr 1
     omega
theorem VL{n:Nd}{x s l:List Int}(es:Af n.attrs AF []=s)(h:By s (x.length+s.length)=some l)(hl:l.length=s.length)(hr:∀b∈l,0≤b∧b<((x.length+s.length:Nat):Int)) :
  ∃Z:List Int,Dd n x=some Z∧Z.length=x.length+s.length∧∀i,i<x.length+s.length→Z.getD i 0=if l.contains (i:Int)=true then 1 else x.getD (i-DW l i) 0:=by
 have hn:=DU h;have hu:=KW hn;have hsr:∀b∈F0 l,0≤b∧b<((x.length+s.length:Nat):Int):=fun b hb=>hr b (Ek hb);have hlen:=GJ l;refine⟨Hv x (F0 l),by rw[O5 es h,List.drop_zero],by rw[Sq fun b hb=>(hsr b hb).1];omega,fun i hi=>?_⟩;rw[Sr hu (fun b hb=>(hsr b hb).1) (fun j b hb=>?_) i]
 ·have e:(F0 l).contains (i:Int)=l.contains (i:Int):=by
   rw[Bool.eq_iff_iff,List.contains_iff_mem,List.contains_iff_mem];exact NF _
  rw[e,show DW (F0 l) i=DW l i from Mz (List.mergeSort_perm l _) i]
 ·have hj:=(List.getElem?_eq_some_iff.1 hb).1;have:=QO (R:=x.length+s.length) hu hsr ((F0 l).length -1-j) j (by omega);have e:(F0 l).getD j 0=b:=by simp[List.getD,hb]
  rw[e]at this;omega
theorem TG{l:List Int}{N i:Nat}(hn:l.Nodup)(hr:∀b∈l,0≤b∧b<(N:Int))(hi:i<N)(hc:l.contains (i:Int)=false):i-DW l i+l.length<N∧DW l i≤i:=by
 have hu:=KW hn;have hp:=List.mergeSort_perm l (fun x y=>decide (x≤y));have h1:=I0 (l:=F0 l) (lo:=0) (i:=i) hu (fun b hb=>by have:=hr b (Ek hb);omega) (by omega);have h2:∀ {m:List Int} {i N:Nat},m.Pairwise (fun a b=>a<b)→(∀b∈m,b<(N:Int))→(∀b∈m,b≠(i:Int))→i<N→m.length≤DW m i+(N-1-i):=fun {m}=>by
  induction m with
  | nil=>intros;simp
  | cons a m ih=>
   intro i N hp hb hne hi;obtain⟨hp1,hp2⟩:=List.pairwise_cons.1 hp;rw[Fy,List.length_cons];by_cases c:a<(i:Int)
   ·rw[if_pos c];have:=ih hp2 (fun b h=>hb b (List.mem_cons_of_mem _ h)) (fun b h=>hne b (List.mem_cons_of_mem _ h)) hi;omega
   ·have ha:=hne a (by simp);have hlt:=hb a (by simp);obtain⟨k,rfl⟩:∃k:Nat,a=(k:Int):=⟨a.toNat,by omega⟩;rw[if_neg c,Ep (fun b h=>by have:=hp1 b h;omega)];have:=ih (i:=k) (N:=N) hp2 (fun b h=>hb b (List.mem_cons_of_mem _ h)) (fun b h=>by have:=hp1 b h;omega) (by omega);rw[Ep (fun b h=>by have:=hp1 b h;omega)]at this;omega
 have h3:=h2 (m:=F0 l) (i:=i) (N:=N) hu (fun b hb=>(hr b (Ek hb)).2) (fun b hb e=>by
  subst e;rw[List.contains_iff_mem.2 (Ek hb)]at hc;cases hc) hi
 rw[show DW (F0 l) i=DW l i from Mz hp i]at h1 h3;rw[GJ]at h3;omega
theorem Lb{α:Type} [BEq α] [LawfulBEq α]:∀ {xs ys:List α},xs.Nodup→(∀x∈xs,x∈ys)→ys.length=xs.length→xs.Perm ys
 | [],ys,_,_,h=>by rw[List.eq_nil_of_length_eq_zero h]
 | x::xs,ys,hn,hs,hl=>by
  have hx:=hs x (by simp);have hn':=List.nodup_cons.1 hn;have ih:=Lb (xs:=xs) (ys:=ys.erase x) hn'.2 (fun y hy=>by
   have hne:y≠x:=fun e=>hn'.1 (e ▸ hy);exact(List.mem_erase_of_ne hne).2 (hs y (by simp[hy]))) (by rw[List.length_erase_of_mem hx];simp at hl;omega)
  exact(ih.cons x).trans (List.perm_cons_erase hx).symm
theorem MA(r:Nat):(Cn r).Nodup:=by
 unfold Cn;refine List.Pairwise.map _ (fun a b h=>?_) List.nodup_range;exact fun e=>h (Int.ofNat_inj.1 e)
theorem It{r:Nat}{z:Int}:z∈Cn r↔0≤z∧z<(r:Int):=by
 unfold Cn;rw[List.mem_map];constructor
 ·rintro⟨k,hk,rfl⟩;have:=List.mem_range.1 hk;omega
 ·intro h;exact⟨z.toNat,List.mem_range.2 (by omega),by omega⟩
theorem Ss{x:List Int}:∀ {l ks:List Int},QN x ks l=if(∀z∈l,z∉ks)∧l.Nodup then some (Dt x (ks++l))else none
 | [],ks=>by rw[if_pos (by simp),List.append_nil];rfl
 | p::l,ks=>by
  rw[QN];by_cases c:ks.contains p=true
  ·rw[if_pos c,if_neg (fun e=>e.1 p (by simp) (List.contains_iff_mem.1 c))]
  ·have hc:p∉ks:=fun e=>c (List.contains_iff_mem.2 e);rw[if_neg c,Ss];have hiff:((∀z∈l,z∉ks++[p])∧l.Nodup)↔((∀z∈p::l,z∉ks)∧(p::l).Nodup):=by
    rw[List.nodup_cons];constructor
    ·rintro⟨h1,h2⟩;refine⟨fun z hz=>?_,fun e=>h1 p e (by simp),h2⟩;rcases List.mem_cons.1 hz with rfl|hz
     ·exact hc
     ·exact fun e=>h1 z hz (by simp[e])
    ·rintro⟨h1,h2,h3⟩;refine⟨fun z hz e=>?_,h3⟩;rcases List.mem_append.1 e with e|e
     ·exact h1 z (by simp[hz]) e
     ·obtain rfl:z=p:=by simpa using e
      exact h2 hz
   by_cases g:(∀z∈p::l,z∉ks)∧(p::l).Nodup
   ·rw[if_pos g,if_pos (hiff.2 g),List.append_assoc];rfl
   ·rw[if_neg g,if_neg (fun e=>g (hiff.1 e))]
theorem MB{l:List Int}{r:Nat}(hr:r≤100)(hl:l.length=r):((∀z∈l,0≤z∧z≤(r:Int)-1)∧l.Nodup)↔((∀z∈l,0≤z∧z≤100)∧∀i,i<r→(i:Int)∈l):=by
 have hu:(Cn r).length=r:=CE r;constructor
 ·rintro⟨h1,h2⟩;have hp:=Lb (ys:=Cn r) h2 (fun z hz=>It.2 (by have:=h1 z hz;omega)) (by omega);exact⟨fun z hz=>by have:=h1 z hz;omega,fun i hi=>hp.mem_iff.2 (It.2 (by omega))⟩
 ·rintro⟨h1,h2⟩;have hp:=Lb (xs:=Cn r) (ys:=l) (MA r) (fun z hz=>by
   have:=It.1 hz;have h3:=h2 z.toNat (by omega)
   rwa [Int.toNat_of_nonneg this.1]at h3) (by omega)
  exact⟨fun z hz=>by have:=It.1 (hp.mem_iff.2 hz);omega,hp.nodup_iff.1 (MA r)⟩
theorem Px{l:List Int}{c lo hi:Int}:AN l c lo hi=if(∀z∈l,lo≤z∧z≤hi)∧(l.length:Int)=c then some l else none:=by
 unfold AN;have e:(l.all fun x=>decide (lo≤x)&&decide (x≤hi))=true↔∀z∈l,lo≤z∧z≤hi:=by
  rw[List.all_eq_true];simp
 by_cases g:(∀z∈l,lo≤z∧z≤hi)∧(l.length:Int)=c
 ·rw[if_pos g,if_pos ⟨e.2 g.1,g.2⟩]
 ·rw[if_neg g,if_neg (fun h=>g ⟨e.1 h.1,h.2⟩)]
theorem TH{n:Nd}{x:List Int}(hx:x.length≤6):Cb n x=match AN (Af n.attrs EH (Cn x.length).reverse) x.length 0 100 with |none=>none|some p=>if ∀i,i<x.length→(i:Int)∈p then some (Dt x p)else none:=by
 unfold Cb;generalize Af n.attrs EH (Cn x.length).reverse=l;rw[Px,Px];by_cases hl:(l.length:Int)=(x.length:Int)
 ·have hb:=MB (l:=l) (r:=x.length) (by omega) (by omega);by_cases g1:∀z∈l,0≤z∧z≤(x.length:Int)-1
  ·rw[if_pos ⟨g1,hl⟩];have g2:∀z∈l,0≤z∧z≤100:=fun z hz=>by have:=g1 z hz;omega
   rw[if_pos ⟨g2,hl⟩];dsimp only;rw[Ss];by_cases g3:l.Nodup
   ·rw[if_pos ⟨by simp,g3⟩,if_pos (hb.1 ⟨g1,g3⟩).2,List.nil_append]
   ·rw[if_neg (fun h=>g3 h.2),if_neg (fun h=>g3 (hb.2 ⟨g2,h⟩).2)]
  ·rw[if_neg (fun h=>g1 h.1)];by_cases g2:∀z∈l,0≤z∧z≤100
   ·rw[if_pos ⟨g2,hl⟩];dsimp only;rw[if_neg (fun h=>g1 (hb.2 ⟨g2,h⟩).1)]
   ·rw[if_neg (fun h=>g2 h.1)]
 ·rw[if_neg (fun h=>hl h.2),if_neg (fun h=>hl h.2)]
section
def I1(ps:List Int)(i:Int)(k:Nat):Bool:=(ps.take k).any fun p=>p==i
theorem TI(ps:List Int)(i:Int):I1 ps i 0=false:=by simp[I1]
theorem TJ{ps:List Int}{i:Int}{k:Nat}(h:k<ps.length):I1 ps i (k+1)=(I1 ps i k||(ps.getD k 0==i)):=by
 unfold I1;rw[List.take_succ_eq_append_getElem h,List.any_append];simp[List.getD,h]
theorem Py{ps:List Int}{i:Int}:I1 ps i ps.length=true↔i∈ps:=by
 unfold I1;rw[List.take_length];simp
theorem Q3{w:World}{pv:Value}{ps:List Int}{r:Nat}(hp:Aa w pv ps)(hl:ps.length=r) :
  Calls Tryz.prog 177 #[pv,.int .i64 (r:Int)] w fun e w'=>e=.returned (.bool (decide (∀i,i<r→(i:Int)∈ps)))∧w=w':=by
 obtain⟨a1,c1,rfl⟩:=hp.shape;have H:=hid hp;have hpl:=hp.wf.1;clear hp;subst hl;go_enter Tryz.func177,Tryz.ntmps177
 go_wp2_with fail
 go_loop [5] (fun i=>∃k:Nat,k≤ps.length∧i=.int .i64 (k:Int)∧Hid (∀i,i<k→(i:Int)∈ps)) (fun i=>ps.length-(intOf i).toNat)
 case atStart=>exact⟨0,Nat.zero_le _,rfl,hid fun i h=>by omega⟩
 case round=>
  obtain⟨k,hk,rfl,hm⟩:=hrel;by_cases hkl:k<ps.length
  case neg=>
   obtain rfl:k=ps.length:=by omega
   have e:=hid (decide_eq_true hm.out);go_wp2_with fail
   go_ret
   exact⟨Ab (Ar e.out.symm),rfl⟩
  have hki:(k:Int)<(ps.length:Int):=by omega
  go_wp2_with fail
  go_loop [6,7] (fun f j=>∃m:Nat,m≤ps.length∧f=.bool (I1 ps (k:Int) m)∧j=.int .i64 (m:Int)) (fun _ j=>ps.length-(intOf j).toNat)
  case atStart=>exact⟨0,Nat.zero_le _,by rw[TI],rfl⟩
  case round=>
   obtain⟨m,hml,rfl,rfl⟩:=hrel;by_cases hmk:m<ps.length
   ·have hmi:(m:Int)<(ps.length:Int):=by omega
    obtain⟨b,o,hab,-,-,hcx,-⟩:=Ai (k:=m) H.out hmk;subst hab;have hnx:=hid (TJ (i:=(k:Int)) hmk);generalize ps.getD m 0=z at*;cases hmb:I1 ps (k:Int) m
    all_goals
     rw[hmb]at hnx
     first
     | have hn2:Hid (I1 ps (k:Int) (m+1)=(z==(k:Int))):=hid (by rw[hnx.out,Bool.false_or])
     | have hn2:Hid (I1 ps (k:Int) (m+1)=true):=hid (by rw[hnx.out,Bool.true_or])
     clear hmb hnx;go_wp2_with fail
     go_round
     case rel=>exact⟨m+1,by omega,by rw[hn2.out],by go_num⟩
     case measure=>simp[intOf];omega
   ·obtain rfl:m=ps.length:=by omega
    by_cases hmem:(k:Int)∈ps
    ·rw[Py.2 hmem];have hm2:=hid (fun i (h:i<k+1)=>if e:i=k then by rw[e];exact hmem else hm.out i (by omega));clear hmem;go_wp2_with fail
     go_round
     case rel=>exact⟨k+1,by omega,by go_num,hm2⟩
     case measure=>simp[intOf];omega
    ·have e:=hid (decide_eq_false (fun h:∀i,i<ps.length→(i:Int)∈ps=>hmem (h k hkl)));have hmf:I1 ps (k:Int) ps.length=false:=by
      cases h:I1 ps (k:Int) ps.length
      ·rfl
      ·exact absurd (Py.1 h) hmem
     rw[hmf];clear hmem hmf;go_wp2_with fail
     go_ret
     exact⟨Ab (Ar e.out.symm),rfl⟩
def Gs(n:Nd)(r:Nat):Option (List Int):=match AN (Af n.attrs EH (Cn r).reverse) r 0 100 with |none=>none|some p=>if ∀i,i<r→(i:Int)∈p then some p else none
theorem Q4{n:Nd}{x:List Int}(hx:x.length≤6):Cb n x=(Gs n x.length).map (Dt x):=by
 rw[TH hx];unfold Gs;cases AN (Af n.attrs EH (Cn x.length).reverse) x.length 0 100 with
 | none=>rfl
 | some p=>dsimp only;split<;>rfl
attribute [local irreducible] Af AN Ag
theorem VM{r k:Nat}(h:k<r):((Cn r).drop k).reverse=((Cn r).drop (k+1)).reverse++[(k:Int)]:=by
 have e:Cn r=(List.range r).map (fun i:Nat=>(i:Int)):=rfl;have hl:k<((List.range r).map (fun i:Nat=>(i:Int))).length:=by simpa using h
 rw[e,List.drop_eq_getElem_cons hl,List.reverse_cons,List.getElem_map,List.getElem_range]
theorem Q5{w:World}{v:Value}{n:Nd}{r:Nat}(h:Ba w v n)(hr:r≤6) :
  Calls Tryz.prog 139 #[v,.int .i64 (r:Int)] w fun e w'=>∃a c zs b,e=.returned (.tuple #[.slice a zs.length c,.bool b])∧Hid (Below w.heap.size w w')∧Hid (Gs n r=if b=true then some zs else none)∧Hid (b=true→zs.length=r∧Aa w' (.slice a zs.length c) zs):=by
 obtain⟨a1,c1,a2,c2,rfl,HN⟩:=Cr h;clear h;go_enter Tryz.func139,Tryz.ntmps139
 go_wp2_with fail
 generalize hW1:w.alloc _=W1;obtain⟨HB1,HF,HN⟩:=HN.out W1 hW1;clear hW1;go_loopw [6,7] (fun ov i wr=>∃(k:Nat),k≤r∧i=.int .i64 ((k:Int)-1)∧Hid (BI wr W1.heap.size ov ((Cn r).drop k).reverse)∧Hid (Below W1.heap.size W1 wr)) (fun _ i _=>(intOf i+1).toNat)
 case atStart=>exact⟨r,Nat.le_refl _,rfl,hid (by rw[show(Cn r).drop r=[] by unfold Cn;simp];exact BI.nil _ _),hid (Below.refl _ _)⟩
 case round=>
  obtain⟨k,hk,rfl,hO,hW⟩:=hrel;obtain⟨ao,co,hov⟩:=hO.out.form;cases k with
  | succ j=>
   have hL:((Cn r).drop (j+1)).reverse.length=r-(j+1):=by unfold Cn;simp
   rw[hL]at hov;subst hov;have HL:=hid hL;have HD:=hid (VM (r:=r) (k:=j) (by omega));have ej:((j+1:Nat):Int)-1=(j:Int):=by omega
   rw[ej];have hj0:(0:Int)≤(j:Int):=by omega
   have hsw:=hW.out.size;clear hL;go_wp2_with (at_builtin;refine X7 (W:=W1) (B:=W1.heap.size) hO.out HL.out hW.out (by omega) (Nat.le_refl _) hsw rfl rfl rfl rfl ?_)
   intro v' w4 ho4 hb4;go_wp2_with fail
   go_roundw
   case rel=>exact⟨j,by omega,by go_num,hid (by rw[HD.out];exact ho4.out),hb4⟩
   case measure=>simp[intOf]
  | zero=>
   have hL:((Cn r).drop 0).reverse.length=r:=by unfold Cn;simp
   rw[hL]at hov;subst hov;have hrl:(Cn r).reverse.length=r:=hL;have HI:Hid (Aa wr (.slice ao r co) (Cn r).reverse):=hid (BI.ints hO.out (by rw[hrl];omega) (fun z hz=>by have:=It.1 (List.mem_reverse.1 hz);unfold Bf;omega));clear hL hrl hO;obtain⟨k0,k1,k2,k3,k4⟩:=HF.out _ hW.out;go_wp2_with fail
   clear k0 k1 k2 k3 k4;refine(CF (HN.out _ hW.out) EH HI.out r 0 100).mono ?_;rintro e w5 h5;obtain⟨a5,c5,zs,b,rfl,B5,HR5,HE5⟩:=h5.form;have HB5:=hid (HB1.out.trans ((hW.out.trans (B5.out.mono hW.out.size)).mono HB1.out.size));clear h5;cases b with
   | false=>
    have N:Hid (Gs n r=none):=hid (by unfold Gs;rw[HE5.out];rfl);go_wp2_with fail
    go_ret2
    exact⟨_,_,zs,false,rfl,HB5,N,hid (by simp)⟩
   | true=>
    have pk:=AT (HE5.out.trans (if_pos rfl));have HI5:=hid (HR5.out.ints (by omega) fun z hz=>Cg (by have:=pk.2 z hz;omega));have hzl:zs.length=r:=by omega
    have HZ:=hid hzl;have N:Hid (Gs n r=if ∀i,i<r→(i:Int)∈zs then some zs else none):=hid (by unfold Gs;rw[HE5.out];rfl);clear pk hzl;go_wp2_with fail
    refine(Q3 HI5.out HZ.out).mono ?_;rintro e w6⟨rfl,rfl⟩;go_wp2_with fail
    go_ret2
    exact⟨_,_,zs,decide (∀i,i<r→(i:Int)∈zs),rfl,HB5,hid (by rw[N.out];by_cases c:∀i,i<r→(i:Int)∈zs<;>simp[c]),hid fun _=>⟨HZ.out,HI5.out⟩⟩
end
end Go.Proofs.YtkkeehnldcdccaaGreatDoor
