import Derived.Laws.AppendOwn
import Derived.Deep.AppendLies
import Derived.Test.YtkkeehnldcdccaaGreatDoorShelfin
import Derived.Test.YtkkeehnldcdccaaGreatDoorNe06
set_option linter.unusedVariables false
set_option linter.unusedSimpArgs false
set_option maxRecDepth 100000
set_option maxHeartbeats 4000000
namespace Go.Proofs.YtkkeehnldcdccaaGreatDoor
open Go.RowKit
open Go.Lib (hid)
def Oc(a:List UInt8):Prop:=∀x∈a,x≠44
theorem Kh{a r:List UInt8}(h:Oc a):Lib.index (a++44::r) [44]=a.length:=by
 rw[Lib.index_one]
 induction a with
 | nil=>rfl
 | cons x a ih=>
  have hx:(x==44)=false:=by simpa using h x (List.mem_cons_self ..)
  have hi:=ih (fun y hy=>h y (List.mem_cons_of_mem _ hy));show Lib.indexByte (x::(a++44::r)) 44=_;unfold Lib.indexByte;rw[hx,hi];have:¬((a.length:Int)== -1)=true:=by simp
  rw[if_neg (by decide),if_neg this];simp
theorem Qo{a:List UInt8}(h:Oc a):Lib.index a [44]=-1:=by
 rw[Lib.index_one]
 induction a with
 | nil=>rfl
 | cons x a ih=>
  have hx:(x==44)=false:=by simpa using h x (List.mem_cons_self ..)
  have hi:=ih (fun y hy=>h y (List.mem_cons_of_mem _ hy));unfold Lib.indexByte;rw[hx,hi]
  rfl
def Fq:List (List UInt8)→List UInt8
 | []=>[]
 | [a]=>a
 | a::b::t=>a++44::Fq (b::t)
theorem Uq{a r:List UInt8}:(a++44::r).drop (a.length+1)=r:=by
 rw[←List.drop_drop];simp
theorem Ki:∀(t:List (List UInt8)) (a:List UInt8),(∀x∈a::t,Oc x)→Lib.count (Fq (a::t)) [44]=t.length
 | [],a,h=>Lib.count_miss (Qo (h a (List.mem_cons_self ..)))
 | b::t,a,h=>by
  show Lib.count (a++44::Fq (b::t)) [44]=_;rw[Lib.count_hit (by simp) (Kh (h a (List.mem_cons_self ..)))];rw[show([44]:List UInt8).length=1 from rfl,Uq,Ki t b (fun x hx=>h x (List.mem_cons_of_mem _ hx))];simp[Nat.add_comm]
theorem Kj:∀(t:List (List UInt8)) (a:List UInt8),(∀x∈a::t,Oc x)→Lib.splitK [44] 0 t.length (Fq (a::t))=a::t
 | [],a,h=>rfl
 | b::t,a,h=>by
  show Lib.splitK [44] 0 (t.length+1) (a++44::Fq (b::t))=_;unfold Lib.splitK;rw[Kh (h a (List.mem_cons_self ..))];have:¬((a.length:Int)== -1)=true:=by simp
  rw[if_neg this,show([44]:List UInt8).length=1 from rfl];simp only[Int.toNat_natCast,Nat.add_zero];rw[Uq,Kj t b (fun x hx=>h x (List.mem_cons_of_mem _ hx))];simp
theorem Od{a b:ByteArray}(h:a.data.toList=b.data.toList):a=b:=by
 cases a;cases b
 simpa using h
theorem H9:∀ {a b:List ByteArray},a.map (·.data.toList)=b.map (·.data.toList)→a=b
 | [],[],_=>rfl
 | [],b::t,h=>by simp at h
 | a::s,[],h=>by simp at h
 | a::s,b::t,h=>by
  simp only[List.map_cons,List.cons.injEq]at h;rw[Od h.1,H9 h.2]
theorem Jc{l:List ByteArray}(h0:l≠[])(h:∀x∈l,Oc x.data.toList){s:ByteArray}(hs:s.data.toList=Fq (l.map (·.data.toList))):Ct s=l:=by
 apply H9;unfold Ct;cases l with
 | nil=>exact absurd rfl h0
 | cons a t=>
  have hd:∀x∈a.data.toList::t.map (·.data.toList),Oc x:=by
   intro x hx;rcases List.mem_cons.1 hx with rfl|hx
   ·exact h a (List.mem_cons_self ..)
   ·obtain⟨y,hy,rfl⟩:=List.mem_map.1 hx;exact h y (List.mem_cons_of_mem _ hy)
  have hc:Lib.countB s ⟨#[44]⟩=(t.map (·.data.toList)).length:=by
   show Lib.count s.data.toList [44]=_;rw[hs];exact Ki _ _ hd
  rw[hc,Lib.splitB_data,hs];exact Kj _ _ hd
theorem Jd:(Tryz.prog.info? 9).map (fun i=>(i.zero,i.size,i.bytes))=some (some (.string ⟨#[]⟩),1,16):=by kernel_rfl
structure Yd(l:List ByteArray)(s:ByteArray):Prop where
 ones:∀x∈l,x∈Es
 join:s.data.toList=Fq (l.map (·.data.toList))
 size:s.size≤l.length*9
theorem Aa.rows{w:World}{v:Value}{zs:List Int}(h:Aa w v zs){k:Nat}(hk:k<zs.length):∃b off cap,v=.slice (some ⟨b,off,none⟩) zs.length cap∧b<w.heap.size∧Ec w b off zs∧Bf (zs.getD k 0):=by
 cases h with
 | empty a0 cap=>simp at hk
 | row b off cap _ h0 hc hb hr hlen hw=>exact⟨b,off,cap,rfl,hb,hr,hw _ (Am hk)⟩
theorem Bh{w:World}{base:Nat}{v:Value}{e:TypeId}{z n:Nat}{xs:List Value}(h:w.ownsRow base e z v n xs):∃a c,v=.slice a n c:=by
 obtain⟨_,h| ⟨g,cap,cur,rfl,_⟩⟩:=h
 ·obtain⟨rfl,rfl⟩:=h;exact⟨_,_,rfl⟩
 ·exact⟨_,_,rfl⟩
theorem SV:∀x∈Es,x.size≤8:=by decide+kernel
theorem Yd.first{x s:ByteArray}(hs:Yd [] s)(hx:x∈Es):Yd [x] (s++x) where
 ones:=by intro y hy;simp at hy;exact hy ▸ hx
 join:=by
  have:=hs.join;rw[ByteArray.data_append,Array.toList_append,this];rfl
 size:=by
  have:=hs.size;have h2:=SV x hx;have h4:s.size=0:=by simpa using this
  rw[ByteArray.size_append,h4];simp;omega
theorem Je{w:World}{b o:Nat}{zs:List Int}(h:Ec w b o zs):∀j u,(zs.map (Value.int .i64))[j]?=some u→w.cell? ((⟨b,o,none⟩:Addr).add j)=some u:=by
 intro j u hu;rw[List.getElem?_map]at hu;by_cases hj:j<zs.length
 ·rw[List.getElem?_eq_getElem hj]at hu;have:=h j hj;simp only[Option.map_some,Option.some.injEq]at hu;rw[←hu];have e:(⟨b,o,none⟩:Addr).add j=⟨b,o+j,none⟩:=by
   unfold Addr.add;split
   ·rename_i h0;subst h0;rfl
   ·rfl
  rw[e,this];simp[List.getD,List.getElem?_eq_getElem hj]
 ·rw[List.getElem?_eq_none (by omega)]at hu;simp at hu
theorem Oe(zs:List Int):∀u∈zs.map (Value.int .i64),u.oneCell'=true:=by
 intro u hu;obtain⟨z,_,rfl⟩:=List.mem_map.1 hu
 rfl
theorem Aa.of_owns{B:Nat}{t:TypeId}{w':World}{v:Value}{zs:List Int}(h:w'.ownsRow B t 1 v zs.length (zs.map (Value.int .i64)))(hlen:zs.length*8≤140737488351232)(hw:∀z∈zs,Bf z):Aa w' v zs:=by
 obtain⟨h1,h2⟩:=h;rcases h2 with⟨rfl,h0⟩| ⟨g,cap,cur,rfl,hb,hg,hn,hc,hs,ht⟩
 ·rw[List.length_eq_zero_iff.1 h0];exact .empty none 0
 ·by_cases h0:zs=[]
  ·subst h0;exact .empty _ cap
  ·refine .row g 0 cap zs h0 hn (Array.getElem?_eq_some_iff.1 hg).1 (fun j hj=>?_) hlen hw;have ht':cur.toList.take zs.length=zs.map (Value.int .i64):=by simpa using ht
   have h2:(cur.toList.take zs.length)[j]?=(zs.map (Value.int .i64))[j]?:=by rw[ht']
   rw[List.getElem?_take_of_lt hj,List.getElem?_map,List.getElem?_eq_getElem hj]at h2;simp only[Option.map_some,Array.getElem?_toList]at h2;have h3:w'.cell? ⟨g,0+j,none⟩=cur[0+j]?:=by simp[World.cell?,hg]
   rw[h3,Nat.zero_add,h2];simp[List.getD,List.getElem?_eq_getElem hj]
def G0(w:World)(xv:Value)(m size bytes:Nat)(news:List Value):Prop:=
 (∃a0 cap,xv=.slice a0 0 cap∧m=0∧news=[])∨
 ∃b off cap,xv=.slice (some ⟨b,off,none⟩) m cap∧news.length=m*size∧(∀j u,news[j]?=some u→w.cell? ((⟨b,off,none⟩:Addr).add j)=some u)∧(∀u∈news,u.oneCell'=true)∧m≤maxLen∧m*bytes≤140737488355328
theorem Aa.news{w:World}{v:Value}{zs:List Int}(h:Aa w v zs):G0 w v zs.length 1 8 (zs.map (Value.int .i64)):=by
 cases h with
 | empty a0 cap=>exact .inl ⟨a0,cap,rfl,rfl,rfl⟩
 | row b off cap _ h0 hc hb hr hlen hw=>exact .inr ⟨b,off,cap,rfl,by simp,Je hr,Oe zs,by unfold maxLen;omega,by omega⟩
theorem Bi.news{w:World}{v:Value}{ss:List ByteArray}(h:Bi w v ss):G0 w v ss.length 1 16 (ss.map Value.string):=by
 cases h with
 | empty a0 cap=>exact .inl ⟨a0,cap,rfl,rfl,rfl⟩
 | row b off cap _ h0 hc hb hr hlen=>
  refine .inr ⟨b,off,cap,rfl,by simp,fun j u hu=>?_,fun u hu=>?_,by unfold maxLen;omega,by omega⟩
  ·rw[List.getElem?_map]at hu;obtain⟨s,hs,rfl⟩:=Option.map_eq_some_iff.1 hu;have e:(⟨b,off,none⟩:Addr).add j=⟨b,off+j,none⟩:=by
    unfold Addr.add;split
    ·rename_i h0;subst h0;rfl
    ·rfl
   rw[e];exact hr j s hs
  ·obtain⟨s,_,rfl⟩:=List.mem_map.1 hu;rfl
theorem JA{P:Program}{w:World}{t ty e:TypeId}{i:TypeInfo}{z:Value}{size bytes:Nat}(ht:P.underlying t=some (.slice e))(hi:P.info? e=some i)(hz:i.zero=some z)
  (hsize:i.size=size) (hby:i.bytes=bytes) (hzs:z.cells.size=size) (hsz:0<size) {xv:Value} {m:Nat} {news:List Value} (hx:G0 w xv m size bytes news) :
  ∃v' w',(Builtin.append_ #[t,t] ty #[.slice none 0 0,xv]).run P w=.ok v' w'∧w'.ownsRow w.heap.size e size v' m news∧Below w.heap.size w w':=by
 rcases hx with⟨a0,cap,rfl,rfl,rfl⟩| ⟨b,off,cap,rfl,hl,hn,h1,h63,hb⟩
 ·cases a0 with
  | none=>
   refine⟨.slice none 0 0,w,?_,World.ownsRow_nil _ _ _ _,Below.refl _ _⟩;simp[Builtin.append_,run_underlying ht,sizeOf,typeInfo,hi,Builtin.lenOf,Builtin.firstCells]
  | some ad=>
   obtain⟨v',w',hr,h2,h3,_,h5⟩:=run_append_own_at (P:=P) w w.heap.size t ty e i z size bytes ht hi hz hsize hby hzs hsz (.slice none 0 0) 0 [] (World.ownsRow_nil _ _ _ _) ad 0 cap [] (by simp) (fun j u hu=>by simp at hu) (fun u hu=>by simp at hu) (by unfold maxLen;omega) (by omega) (Nat.le_refl _);exact⟨v',w',hr,h2,(Below.refl _ w).grown h3 (Nat.le_refl _) (fun g hg=>by simp[Value.ownBlock]at hg)⟩
 ·obtain⟨v',w',hr,h2,h3,_,h5⟩:=run_append_own_at (P:=P) w w.heap.size t ty e i z size bytes ht hi hz hsize hby hzs hsz (.slice none 0 0) 0 [] (World.ownsRow_nil _ _ _ _) ⟨b,off,none⟩ m cap news hl hn h1 (by rw[Nat.zero_add];exact h63) (by rw[Nat.zero_add];exact hb) (Nat.le_refl _);refine⟨v',w',hr,?_,(Below.refl _ w).grown h3 (Nat.le_refl _) (fun g hg=>by simp[Value.ownBlock]at hg)⟩
  simpa using h2
theorem Gb{P:Program}{w:World}{o:Oper}{a:Act}{K:Act→World→Prop}{Q:Exit→Act→World→Prop}(s x:Operand)(t:TypeId)
  (ho:o.op=.call { callee:=.builtin .append,args:=#[s,x],argTypes:=#[t,t] })
  {e:TypeId} {i:TypeInfo} {z:Value} {size bytes:Nat} (ht:P.underlying t=some (.slice e)) (hi:P.info? e=some i) (hz:i.zero=some z)
  (hsize:i.size=size) (hby:i.bytes=bytes) (hzs:z.cells.size=size) (hsz:0<size) {xv:Value} {m:Nat} {news:List Value} (hs:a.eval s=.slice none 0 0) (hx:a.eval x=xv) (hn:G0 w xv m size bytes news)
  (h:∀v' w',w'.ownsRow w.heap.size e size v' m news→Below w.heap.size w w'→K (a.put o.dst v') w'):o.wp P a w K Q:=by
 obtain⟨v',w',hr,h2,h3⟩:=JA (P:=P) (ty:=o.type) ht hi hz hsize hby hzs hsz hn;unfold Oper.wp execOp;simp only[ho,resolve,invoke,builtin,Sem.run_bind,Sem.run_pure,Result.andThen_ok,List.map_toArray,List.map_cons,List.map_nil,hs,hx,hr];exact h v' w' h2 h3
theorem BT{P:Program}{w:World}{ops:Array Oper}{rest:List Oper}{o:Oper}{a:Act}{Q:Exit→Act→World→Prop}(hgd:o.guard=none)(s x:Operand)(t:TypeId)
  (ho:o.op=.call { callee:=.builtin .append,args:=#[s,x],argTypes:=#[t,t] })
  {e:TypeId} {i:TypeInfo} {z:Value} {size bytes:Nat} (ht:P.underlying t=some (.slice e)) (hi:P.info? e=some i) (hz:i.zero=some z)
  (hsize:i.size=size) (hby:i.bytes=bytes) (hzs:z.cells.size=size) (hsz:0<size) {xv:Value} {m:Nat} {news:List Value} (hs:a.eval s=.slice none 0 0) (hx:a.eval x=xv) (hn:G0 w xv m size bytes news)
  (h:∀v' w',w'.ownsRow w.heap.size e size v' m news→Below w.heap.size w w'→wpList P ops Q rest (a.put o.dst v') w'):wpList P ops Q (o::rest) a w:=
 wpList_plain hgd fun K hK=>Gb s x t ho ht hi hz hsize hby hzs hsz hs hx hn fun v' w' h2 h3=>hK _ _ (h v' w' h2 h3)
theorem IF{P:Program}{w:World}{ops:Array Oper}{o:Oper}{a:Act}{K:Act→World→Prop}{Q:Exit→Act→World→Prop}{E:Prop}(hgd:o.guard=none)(s x:Operand)(t:TypeId)
  (ho:o.op=.call { callee:=.builtin .append,args:=#[s,x],argTypes:=#[t,t] })
  {e:TypeId} {i:TypeInfo} {z:Value} {size bytes:Nat} (ht:P.underlying t=some (.slice e)) (hi:P.info? e=some i) (hz:i.zero=some z)
  (hsize:i.size=size) (hby:i.bytes=bytes) (hzs:z.cells.size=size) (hsz:0<size) {xv:Value} {m:Nat} {news:List Value} (hs:a.eval s=.slice none 0 0) (hx:a.eval x=xv) (hn:G0 w xv m size bytes news)
  (h:∀v' w',w'.ownsRow w.heap.size e size v' m news→Below w.heap.size w w'→K (a.put o.dst v') w') :
  if Region.wanted o (yielded ops a.tmps)=true then Oper.wp P o a w K Q else E:=by
 have hw:Region.wanted o (yielded ops a.tmps)=true:=by simp[Region.wanted,hgd]
 rw[if_pos hw];exact Gb s x t ho ht hi hz hsize hby hzs hsz hs hx hn h
theorem AI:(Tryz.prog.info? 3).map (fun i=>(i.zero,i.size,i.bytes))=some (some (.int .i64 0),1,8):=by kernel_rfl
theorem Dp:(Tryz.prog.info? 2).map (fun i=>(i.zero,i.size,i.bytes))=some (some (.int .i64 0),1,8):=by kernel_rfl
theorem SW:(Tryz.prog.info? 43).map (fun i=>(i.zero,i.size,i.bytes))=some (some (.agg #[.string ⟨#[]⟩,.int .i64 0,.int .i64 0,.int .i64 0,.string ⟨#[]⟩,.int .i64 0,.slice none 0 0,.slice none 0 0,.slice none 0 0]),9,136):=by kernel_rfl
theorem Ac.three{W:World}{b:Nat}{x0 x1 x2:Value}{t:TypeId}(h:Ac W b #[x0,x1,x2] t):W.cell? ⟨b,0,none⟩=some x0∧W.cell? ⟨b,1,none⟩=some x1∧W.cell? ⟨b,2,none⟩=some x2:=⟨h.cell 0 rfl,h.cell 1 rfl,h.cell 2 rfl⟩
theorem Ac.thaw3{W:World}{b:Nat}{x0 x1 x2:Value}{t:TypeId}(h:Ac W b #[x0,x1,x2] t):W.frozen? ⟨b,0,none⟩=false∧W.frozen? ⟨b,1,none⟩=false∧W.frozen? ⟨b,2,none⟩=false:=⟨h.frozen 0,h.frozen 1,h.frozen 2⟩
def Ef(W:World)(b:Nat)(v0 v1 v2:Value):World:=((W.setCell ⟨b,0,none⟩ v0).setCell ⟨b,1,none⟩ v1).setCell ⟨b,2,none⟩ v2
theorem Ac.put3{W:World}{b:Nat}{x0 x1 x2:Value}{t:TypeId}(h:Ac W b #[x0,x1,x2] t)(v0 v1 v2:Value):Ac (Ef W b v0 v1 v2) b #[v0,v1,v2] t:=by
 have h0:=h.set 0 v0;rw[show #[x0,x1,x2].setIfInBounds 0 v0=#[v0,x1,x2]from rfl]at h0;have h1:=h0.set 1 v1;rw[show #[v0,x1,x2].setIfInBounds 1 v1=#[v0,v1,x2]from rfl]at h1;have h2:=h1.set 2 v2;rw[show #[v0,v1,x2].setIfInBounds 2 v2=#[v0,v1,v2]from rfl]at h2;exact h2
theorem G7{W:World}{b k:Nat}{v0 v1 v2:Value}(h:k≠b):(Ef W b v0 v1 v2).heap[k]?=W.heap[k]? :=
 (Below.heap_setCell _ _ _ k h).trans ((Below.heap_setCell _ _ _ k h).trans (Below.heap_setCell _ _ _ k h))
theorem Bp{n:Nat}{A W:World}{b:Nat}{v0 v1 v2:Value}(h:Below n A W)(hb:n≤b):Below n A (Ef W b v0 v1 v2):=
 ((h.setCell (p:=⟨b,0,none⟩) hb _).setCell (p:=⟨b,1,none⟩) hb _).setCell (p:=⟨b,2,none⟩) hb _
theorem A6{w w':World}{base:Nat}{e:TypeId}{size:Nat}{v:Value}{n:Nat}{xs:List Value}(h:w.ownsRow base e size v n xs)(hh:∀g,v.ownBlock=some g→w'.heap[g]?=w.heap[g]?):w'.ownsRow base e size v n xs:=by
 refine⟨h.1,?_⟩;rcases h.2 with hn| ⟨g,cap,cur,rfl,hb,hg,rest⟩
 ·exact .inl hn
 ·exact .inr ⟨g,cap,cur,rfl,hb,(hh g rfl).trans hg,rest⟩
theorem AJ{w w':World}{base:Nat}{e:TypeId}{size:Nat}{v:Value}{n:Nat}{xs:List Value}(h:w.ownsRow base e size v n xs)(hB:Below w.heap.size w w'):w'.ownsRow base e size v n xs:=
 A6 h fun g hg=>hB.block g (h.lt g hg).2
theorem Bl{w:World}{b0 b1:Nat}{e:TypeId}{size:Nat}{v:Value}{n:Nat}{xs:List Value}(h:w.ownsRow b1 e size v n xs)(hb:b0≤b1):w.ownsRow b0 e size v n xs:=by
 refine⟨h.1,?_⟩;rcases h.2 with hn| ⟨g,cap,cur,rfl,hg,rest⟩
 ·exact .inl hn
 ·exact .inr ⟨g,cap,cur,rfl,Nat.le_trans hb hg,rest⟩
theorem Dq{w:World}{b0 b1:Nat}{e1 e2:TypeId}{z1 z2 n1 n2:Nat}{v1 v2:Value}{x1 x2:List Value}(h1:w.ownsRow b0 e1 z1 v1 n1 x1)(h2:w.ownsRow b1 e2 z2 v2 n2 x2)(hne:e1≠e2):v1.ownBlock=none∨v1.ownBlock≠v2.ownBlock:=by
 rcases h1.2 with⟨rfl,_⟩| ⟨g,cap,cur,rfl,_,hg,_⟩
 ·exact .inl rfl
 ·right;rcases h2.2 with⟨rfl,_⟩| ⟨g',cap',cur',rfl,_,hg',_⟩
  ·simp[Value.ownBlock]
  ·intro e;simp[Value.ownBlock]at e;subst e;rw[hg]at hg';simp only[Option.some.injEq,Obj.cells.injEq]at hg';exact hne hg'.2.1
theorem Bu{w:World}{b0 b:Nat}{e t:TypeId}{z n:Nat}{v:Value}{x:List Value}{cs:Array Value}(h:w.ownsRow b0 e z v n x)(hb:Ac w b cs t)(hne:e≠t):∀g,v.ownBlock=some g→g≠b:=by
 intro g hg e';subst e';rcases h.2 with⟨rfl,_⟩| ⟨g',cap,cur,rfl,_,hg',_⟩
 ·simp[Value.ownBlock]at hg
 ·simp[Value.ownBlock]at hg;subst hg;rw[show w.heap[g']?=_ from hb]at hg';simp only[Option.some.injEq,Obj.cells.injEq]at hg';exact hne hg'.2.1.symm
abbrev Em(c:Int):Ending:=.panicked [{ v:=.iface 46 (.int .i64 c),recovered:=false }]
theorem Ao(w:World):Calls Tryz.prog 16 #[.bool true] w fun e w'=>e=.returned (.tuple #[])∧w'=w:=by
 go_enter Tryz.func16,Tryz.ntmps16
 go_wp2
 go_end0
 exact⟨rfl,rfl⟩
theorem Aw(w:World):Calls Tryz.prog 16 #[.bool false] w fun e w'=>e=Em 4∧w'=w:=by
 go_enter Tryz.func16,Tryz.ntmps16
 go_wp2
 exact⟨rfl,rfl,rfl⟩
theorem Of(w:World):Calls Tryz.prog 14 #[.int .i64 0] w fun e w'=>e=.returned (.tuple #[])∧w'=w:=by
 go_enter Tryz.func14,Tryz.ntmps14
 go_wp2
 go_end0
 exact⟨rfl,rfl⟩
theorem RH(c:Int)(h:c≠0)(w:World):Calls Tryz.prog 14 #[.int .i64 c] w fun e w'=>e=Em c∧w'=w:=by
 have hz:(c != 0)=true:=by simpa using h
 clear h;go_enter Tryz.func14,Tryz.ntmps14
 go_wp2
 exact⟨rfl,rfl,rfl⟩
def Bq(a:Int)(r:Nat):Option Int:=if-(r:Int)≤a∧a<(r:Int)then some (if a<0 then a+r else a)else none
theorem Gy{a:Int}{r:Nat}(h:¬(-(r:Int)≤a∧a<(r:Int))):Bq a r=none:=if_neg h
theorem Og{a:Int}{r:Nat}(h:-(r:Int)≤a)(h0:a<0):Bq a r=some (a+r):=by
 unfold Bq;rw[if_pos ⟨h,by omega⟩,if_pos h0]
theorem Oh{a:Int}{r:Nat}(h:a<(r:Int))(h0:¬a<0):Bq a r=some a:=by
 unfold Bq;rw[if_pos ⟨by omega,h⟩,if_neg h0]
theorem FC{a k:Int}{r:Nat}(h:Bq a r=some k):0≤k∧k<(r:Int):=by
 unfold Bq at h;split at h
 ·obtain rfl:=Option.some.inj h;split<;>omega
 ·cases h
def FV(x:Option Int)(e:Ending):Prop:=match x with |none=>e=Em 4|some k=>e=.returned (.int .i64 k)
theorem FV.no{x:Option Int}(h:x=none):FV x (Em 4):=by subst h;rfl
theorem FV.yes{x:Option Int}{z:Int}(h:x=some z):FV x (.returned (.int .i64 z)):=by subst h;rfl
theorem Ia(a:Int)(r:Nat)(ha:Bf a)(hr:r≤1125899906842624)(w:World):Calls Tryz.prog 47 #[.int .i64 a,.int .i64 (r:Int)] w fun e w'=>FV (Bq a r) e∧w'=w:=by
 have HY:=hid (Ao w);have HN:=hid (Aw w);obtain⟨a0,a1⟩:=ha;go_enter Tryz.func47,Tryz.ntmps47
 by_cases h1:-(r:Int)≤a
 ·by_cases h2:a<(r:Int)
  ·by_cases h0:a<0
   ·have e:=hid (Og h1 h0);go_wp2_with (go_at_call 16;refine HY.out.mono ?_;rintro e w'⟨rfl,rfl⟩)
    go_ret
    exact⟨FV.yes e.out,rfl⟩
   ·have e:=hid (Oh h2 h0);go_wp2_with (go_at_call 16;refine HY.out.mono ?_;rintro e w'⟨rfl,rfl⟩)
    go_ret
    exact⟨FV.yes e.out,rfl⟩
  ·have e:=hid (Gy (a:=a) (r:=r) (fun c=>h2 c.2));go_wp2_with (go_at_call 16;refine HN.out.mono ?_;rintro e w'⟨rfl,rfl⟩)
   exact⟨rfl,FV.no e.out,rfl⟩
 ·have e:=hid (Gy (a:=a) (r:=r) (fun c=>h1 c.1));go_wp2_with (go_at_call 16;refine HN.out.mono ?_;rintro e w'⟨rfl,rfl⟩)
  exact⟨rfl,FV.no e.out,rfl⟩
def GR(x:Option Int):Value:=match x with |none=>.tuple #[.int .i64 0,.bool false]|some k=>.tuple #[.int .i64 k,.bool true]
theorem Oi{x:Option Int}(h:x=none):(.returned (.tuple #[.int .i64 0,.bool false]):Ending)=.returned (GR x):=by subst h;rfl
theorem L5{x:Option Int}{z:Int}(h:x=some z):(.returned (.tuple #[.int .i64 z,.bool true]):Ending)=.returned (GR x):=by subst h;rfl
theorem Gz(a:Int)(r:Nat)(ha:Bf a)(hr:r≤1125899906842624)(w:World):Calls Tryz.prog 68 #[.int .i64 a,.int .i64 (r:Int)] w fun e w'=>e=.returned (GR (Bq a r))∧w'=w:=by
 obtain⟨a0,a1⟩:=ha;go_enter Tryz.func68,Tryz.ntmps68
 by_cases h1:-(r:Int)≤a
 ·have h1':¬a< -(r:Int):=by omega
  by_cases h2:a<(r:Int)
  ·have h2':¬(r:Int)≤a:=by omega
   by_cases h0:a<0
   ·have e:=hid (Og h1 h0);go_wp2
    go_ret2
    exact⟨L5 e.out,rfl⟩
   ·have e:=hid (Oh h2 h0);go_wp2
    go_ret2
    exact⟨L5 e.out,rfl⟩
  ·have e:=hid (Gy (a:=a) (r:=r) (fun c=>h2 c.2));have h2':(r:Int)≤a:=by omega
   go_wp2
   go_ret2
   exact⟨Oi e.out,rfl⟩
 ·have e:=hid (Gy (a:=a) (r:=r) (fun c=>h1 c.1));have h1':a< -(r:Int):=by omega
  go_wp2
  go_ret2
  exact⟨Oi e.out,rfl⟩
def Ag(w:World)(B:Nat)(v:Value)(zs:List Int):Prop:=w.ownsRow B 3 1 v zs.length (zs.map (Value.int .i64))
theorem Ag.nil(w:World)(B:Nat):Ag w B (.slice none 0 0) []:=World.ownsRow_nil _ _ _ _
theorem Ag.form{w:World}{B:Nat}{v:Value}{zs:List Int}(h:Ag w B v zs):∃a c,v=.slice a zs.length c:=Bh h
theorem Ag.base{w:World}{B B':Nat}{v:Value}{zs:List Int}(h:Ag w B v zs)(hb:B'≤B):Ag w B' v zs:=Bl h hb
theorem Ag.below{w w':World}{B:Nat}{v:Value}{zs:List Int}(h:Ag w B v zs)(hB:Below w.heap.size w w'):Ag w' B v zs:=AJ h hB
theorem Ag.ints{w:World}{B:Nat}{v:Value}{zs:List Int}(h:Ag w B v zs)(hl:zs.length*8≤140737488351232)(hw:∀z∈zs,Bf z):Aa w v zs:=
 Aa.of_owns (B:=B) (t:=3) h (by omega) hw
def AY(w:World)(x:Option (List Int))(e:Ending)(w':World):Prop:=Below w.heap.size w w'∧match x with |none=>e=Em 4|some zs=>∃v,e=.returned v∧Ag w' w.heap.size v zs
theorem AY.no{w w':World}{x:Option (List Int)}(h:x=none)(hB:Below w.heap.size w w'):AY w x (Em 4) w':=by subst h;exact⟨hB,rfl⟩
theorem AY.yes{w w':World}{x:Option (List Int)}{zs:List Int}{v:Value}(h:x=some zs)(hB:Below w.heap.size w w')(hr:Ag w' w.heap.size v zs):AY w x (.returned v) w':=by subst h;exact⟨hB,v,rfl,hr⟩
def Eg(w:World)(x:Option (List Int))(e:Ending)(w':World):Prop:=Below w.heap.size w w'∧match x with |none=>∃v zs,e=.returned (.tuple #[v,.bool false])∧Ag w' w.heap.size v zs∧Aa w' v zs|some zs=>∃v,e=.returned (.tuple #[v,.bool true])∧Ag w' w.heap.size v zs
theorem Eg.no{w w':World}{x:Option (List Int)}{zs:List Int}{v:Value}(h:x=none)(hB:Below w.heap.size w w')(hr:Ag w' w.heap.size v zs)(hi:Aa w' v zs):Eg w x (.returned (.tuple #[v,.bool false])) w':=by subst h;exact⟨hB,v,zs,rfl,hr,hi⟩
theorem Eg.yes{w w':World}{x:Option (List Int)}{zs:List Int}{v:Value}(h:x=some zs)(hB:Below w.heap.size w w')(hr:Ag w' w.heap.size v zs):Eg w x (.returned (.tuple #[v,.bool true])) w':=by subst h;exact⟨hB,v,rfl,hr⟩
def DB(r:Nat):List Int→List Int→Option (List Int)
 | acc,[]=>some acc
 | acc,a::l=>match Bq a r with
  | none=>none
  | some k=>if acc.contains k=true then none else DB r (acc++[k]) l
def By(l:List Int)(r:Nat):Option (List Int):=DB r [] l
theorem L6{r:Nat}{acc l:List Int}{k:Nat}(h:¬k<l.length):DB r acc (l.drop k)=some acc:=by
 rw[List.drop_eq_nil_of_le (by omega)];rfl
theorem Kk{r:Nat}{acc l:List Int}{k:Nat}(hk:k<l.length)(h:Bq (l.getD k 0) r=none):DB r acc (l.drop k)=none:=by
 rw[Bs hk];unfold DB;rw[h]
theorem Jf{r:Nat}{acc l:List Int}{k:Nat}{x:Int}(hk:k<l.length)(h:Bq (l.getD k 0) r=some x)(hc:acc.contains x=true):DB r acc (l.drop k)=none:=by
 rw[Bs hk];unfold DB;rw[h];exact if_pos hc
theorem Kl{r:Nat}{acc l:List Int}{k:Nat}{x:Int}(hk:k<l.length)(h:Bq (l.getD k 0) r=some x)(hc:acc.contains x=false):DB r acc (l.drop k)=DB r (acc++[x]) (l.drop (k+1)):=by
 rw[Bs hk,DB,h];show(if acc.contains x=true then none else DB r (acc++[x]) (l.drop (k+1)))=_;rw[if_neg (by rw[hc];decide)]
theorem Ew{w:World}{v:Value}{zs:List Int}(h:Aa w v zs)(x:Int) :
  Calls Tryz.prog 112 #[v,.int .i64 x] w fun e w'=>e=.returned (.bool (zs.contains x))∧w'=w:=by
 cases h with
 | empty a0 cap=>
  refine(Tryz.slices_Contains_int_empty a0 cap x w).mono ?_;rintro e w'⟨rfl,rfl⟩;exact⟨rfl,rfl⟩
 | row b off cap _ h0 hc hb hr hlen hw=>
  refine(Tryz.slices_Contains_int b off zs.length cap zs x w (Nat.le_refl _) (by omega) (fun j hj=>hr j hj)).mono ?_;rintro e w'⟨rfl,rfl⟩;rw[List.take_length];exact⟨rfl,rfl⟩
end Go.Proofs.YtkkeehnldcdccaaGreatDoor
