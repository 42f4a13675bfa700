import Derived.Test.YtkkeehnldcdccaaGreatDoorRows
import Derived.Deep.Slices
import Derived.Shelf.Abstract
import Derived.Laws.StructEq
import Derived.RangeFuncRecord
import Derived.Test.YtkkeehnldcdccaaGreatDoorNe01
set_option linter.unusedVariables false
set_option linter.unusedSimpArgs false
set_option maxRecDepth 100000
set_option maxHeartbeats 4000000
namespace Go.Proofs.YtkkeehnldcdccaaGreatDoor
open Go.Lib (hid)
open Go.RowKit
section
open Go.RowKit Go.ChangeShapes Go.WideShapes Go.Deep
abbrev Rd(α:Type):=World→List Value→α→Prop
def F5{α:Type}(P:Program)(t:TypeId)(sz:Nat)(R:Rd α):Prop:=
 P.cellsOf t=sz∧∀ {H:Type} (enc:TypeId×Value→H) (W:World) (fuel:Nat) (cs:List Value) (x:DataW H×List MemPlace),
  DataW.trod enc P W 0 (fun _=>true) true fuel t cs=some x→(∀y∈x.2,y.block<W.heap.size)→Rows.uptoBulk x.1≤1048576→∃a,R W cs a
inductive BJ{α:Type}(sz:Nat)(R:Rd α)(w:World):Value→List α→Prop
 | empty (a0:Option Addr) (cap:Nat):BJ sz R w (.slice a0 0 cap) []
 | row (b off cap:Nat) (xs:List α) (h0:xs≠[]) (hc:xs.length≤cap) (hb:b<w.heap.size)
   (hr:∀(j:Nat) x,xs[j]?=some x→∃cs:List Value,cs.length=sz∧R w cs x∧∀(i:Nat) u,cs[i]?=some u→w.cell? ⟨b,off+j*sz+i,none⟩=some u)
   (hlen:xs.length≤1048575):BJ sz R w (.slice (some ⟨b,off,none⟩) xs.length cap) xs
theorem BJ.form{α:Type}{sz:Nat}{R:Rd α}{w:World}{v:Value}{xs:List α}(h:BJ sz R w v xs):∃a cap,v=.slice a xs.length cap:=by
 cases h with
 | empty a0 cap=>exact⟨a0,cap,rfl⟩
 | row b off cap _ h0 hc hb hr hlen=>exact⟨_,cap,rfl⟩
theorem BJ.len{α:Type}{sz:Nat}{R:Rd α}{w:World}{v:Value}{xs:List α}(h:BJ sz R w v xs):xs.length≤1048575:=by
 cases h with
 | empty a0 cap=>exact Nat.zero_le _
 | row b off cap _ h0 hc hb hr hlen=>exact hlen
theorem BJ.cap{α:Type}{sz:Nat}{R:Rd α}{w:World}{a:Option Addr}{l c:Nat}{xs:List α}(h:BJ sz R w (.slice a l c) xs):xs.length≤c:=by
 generalize hv:Value.slice a l c=v at h;cases h with
 | empty a0 cap=>exact Nat.zero_le _
 | row b off cap _ h0 hc hb hr hlen=>obtain⟨_,_,rfl⟩:=Value.slice.inj hv;exact hc
theorem BJ.below{α:Type}{sz:Nat}{R:Rd α}{w w':World}{v:Value}{xs:List α}(hR:∀cs x,R w cs x→R w' cs x)(h:BJ sz R w v xs)(hB:Below w.heap.size w w'):BJ sz R w' v xs:=by
 cases h with
 | empty a0 cap=>exact .empty a0 cap
 | row b off cap _ h0 hc hb hr hlen=>
  refine .row b off cap xs h0 hc (Nat.lt_of_lt_of_le hb hB.size) (fun j x hj=>?_) hlen;obtain⟨cs,h1,h2,h3⟩:=hr j x hj;exact⟨cs,h1,hR _ _ h2,fun i u hu=>(hB.cell (p:=⟨b,off+j*sz+i,none⟩) hb).trans (h3 i u hu)⟩
theorem BJ.rows{α:Type}{sz:Nat}{R:Rd α}{w:World}{v:Value}{xs:List α}(h:BJ sz R w v xs):∀(j:Nat) x,xs[j]?=some x→∃b off cap cs,v=.slice (some ⟨b,off,none⟩) xs.length cap∧b<w.heap.size∧xs.length≤cap∧cs.length=sz∧R w cs x∧∀(i:Nat) u,cs[i]?=some u→w.cell? ⟨b,off+j*sz+i,none⟩=some u:=by
 intro j x hj;cases h with
 | empty a0 cap=>simp at hj
 | row b off cap _ h0 hc hb hr hlen=>
  obtain⟨cs,h1,h2,h3⟩:=hr j x hj;exact⟨b,off,cap,cs,rfl,hb,hc,h1,h2,h3⟩
theorem J1{H:Type}:∀(l:List (DataW H)) (d:DataW H),d∈l→Rows.uptoBulk d≤Rows.uptoBulkAll l
 | a::l,d,h=>by
  rw[Rows.uptoBulkAll];rcases List.mem_cons.1 h with rfl|h
  ·omega
  ·have:=J1 l d h;omega
theorem Ud{H:Type}(d:DataW H):1≤Rows.uptoBulk d:=by
 cases d<;>try(simp only[Rows.uptoBulk];omega)
 rename_i l
 cases l<;>simp only[Rows.uptoBulk]<;>omega
theorem NQ{H:Type}:∀(l:List (DataW H)),l.length≤Rows.uptoBulkAll l
 | []=>Nat.zero_le _
 | a::l=>by
  rw[Rows.uptoBulkAll,List.length_cons];have:=NQ l;have:=Ud a;omega
theorem SD{x:Int}(h:(Lit.int .i64 x).wf=true):Bf x:=by
 simp[Lit.wf,IntKind.min,IntKind.max,IntKind.signed,IntKind.bits]at h;unfold Bf;omega
def LR:Rd Int:=fun _ cs z=>cs=[.int .i64 z]∧Bf z
def RE:Rd ByteArray:=fun _ cs s=>cs=[.string s]∧s.size≤1048576
def SE{α:Type}(sz:Nat)(R:Rd α):Rd (List α):=fun w cs xs=>∃v,cs=[v]∧BJ sz R w v xs
theorem NR{P:Program}{t:TypeId}(ht:P.underlying t=some (.int .i64))(hc:P.cellsOf t=1):F5 P t 1 LR:=
 ⟨hc,fun enc W fuel cs x h _ _=>by
  obtain⟨n,h1,_,h3⟩:=DataW.trod_int ht h;exact⟨n,h1,SD h3⟩⟩
theorem Ue{P:Program}{t:TypeId}(ht:P.underlying t=some .string)(hc:P.cellsOf t=1):F5 P t 1 RE:=
 ⟨hc,fun enc W fuel cs x h _ hb=>by
  obtain⟨s,h1,h2,_⟩:=DataW.trod_string ht h;refine⟨s,h1,?_⟩;rw[h2]at hb;simp only[Rows.uptoBulk]at hb;have:s.size=s.data.toList.length:=Array.length_toList.symm;omega⟩
theorem Fo(b o i:Nat):(⟨b,o,none⟩:Addr).add i=⟨b,o+i,none⟩:=by
 unfold Addr.add;split
 ·rename_i h;subst h;rfl
 ·rfl
theorem Et{α:Type}{P:Program}{t e:TypeId}{sz:Nat}{R:Rd α}(ht:P.underlying t=some (.slice e))(hc:P.cellsOf t=1)(hsz:0<sz)(he:F5 P e sz R):F5 P t 1 (SE sz R):=by
 refine⟨hc,fun {H} enc W fuel cs x h hlt hb=>?_⟩;rcases open_slice ht h with⟨rfl,_⟩| ⟨a,len,cap,m,n,D,Pl,rfl,h0,hl,hm,hmm,rfl,hx⟩
 ·exact⟨[],_,rfl,.empty none 0⟩
 ·simp only[if_true]at hmm;subst hmm;simp only[Rows.uptoBulk]at hb;have hlen:len≤1048575:=by
   have:=NQ ((List.range len).map D);rw[List.length_map,List.length_range]at this;omega
  rw[he.1]at hx hlt;by_cases hz:len=0
  ·subst hz;exact⟨[],_,rfl,.empty _ _⟩
  have each:∀i,i<len→∃y:α×List Value,y.2.length=sz∧R W y.2 y.1∧∀(k:Nat) u,y.2[k]?=some u→W.cell? ((a.add (i*sz)).add k)=some u:=fun i hi=>by
   obtain⟨cs',h1,h2⟩:=hx i (by omega);obtain⟨_,hl',hcell⟩:=World.cells?_some h1;obtain⟨y,hy⟩:=he.2 enc W n cs' (D i,Pl i) h2 (fun y hy=>hlt y (by
    simp only[List.mem_append,List.mem_flatMap,List.mem_range];exact Or.inr ⟨i,by omega,hy⟩)) (by
    have:=J1 ((List.range len).map D) (D i) (List.mem_map.2 ⟨i,List.mem_range.2 hi,rfl⟩);show Rows.uptoBulk (D i)≤_;omega)
   refine⟨(y,cs'),hl',hy,fun k u hu=>?_⟩;have hk:k<sz:=by rw[←hl'];exact(List.getElem?_eq_some_iff.1 hu).1
   rw[hcell k hk];exact hu
  haveI:Inhabited (α×List Value):=⟨(each 0 (by omega)).choose⟩
  obtain⟨X,hX⟩:=choose_lt each;have hspot:a.spot=none:=by
   obtain⟨h1,h2,h3⟩:=hX 0 (by omega);obtain⟨u,hu⟩:∃u,(X 0).2[0]?=some u:=⟨_,List.getElem?_eq_getElem (by omega)⟩;have:=World.cell?_spot (h3 0 u hu)
   simpa[Addr.add]using this
  obtain⟨b,off,spot⟩:=a;simp only at hspot;subst hspot;have hb':b<W.heap.size:=hlt (.cell b off) (List.mem_append_left _ (MemPlace.mem_row.2 ⟨0,Nat.mul_pos (by omega) hsz,by simp⟩));refine⟨(List.range len).map fun i=>(X i).1,_,rfl,?_⟩;have hll:((List.range len).map fun i=>(X i).1).length=len:=by simp
  have:=BJ.row (sz:=sz) (R:=R) (w:=W) b off m ((List.range len).map fun i=>(X i).1) (by intro e;rw[e]at hll;simp at hll;omega) (by rw[hll];exact hl) hb' (fun j x hj=>by
   rw[List.getElem?_map]at hj;obtain⟨i,hi,rfl⟩:=Option.map_eq_some_iff.1 hj;obtain⟨hi1,hi2⟩:=List.getElem?_eq_some_iff.1 hi;simp at hi1 hi2;subst hi2;obtain⟨h1,h2,h3⟩:=hX j hi1;exact⟨(X j).2,h1,h2,fun k u hu=>by
    have:=h3 k u hu;rw[Fo,Fo]at this;exact this⟩) (by rw[hll];exact hlen)
  rw[hll]at this;exact this
theorem Be{α:Type}{P:Program}{fs:Array Field}{H:Type}{enc:TypeId×Value→H}{W:World}{n:Nat}{cs:List Value}{xs:List (DataW H×List MemPlace)}
  (hf:∀(i:Nat) (f:Field),fs[i]?=some f→DataW.trod enc P W 0 (fun _=>true) true n f.type ((cs.drop f.offset).take (P.cellsOf f.type))=xs[i]?) (hl:xs.length=fs.size)
  (hlt:∀y∈xs.flatMap (·.2),y.block<W.heap.size) (hb:Rows.uptoBulk (.agg (xs.map (·.1)):DataW H)≤1048576) {i:Nat} {f:Field} (hi:fs[i]?=some f) {sz:Nat} {R:Rd α} (h:F5 P f.type sz R) :
  ∃a,R W ((cs.drop f.offset).take sz) a:=by
 have hil:i<xs.length:=by rw[hl];exact(Array.getElem?_eq_some_iff.1 hi).1
 have h1:=hf i f hi;rw[List.getElem?_eq_getElem hil,h.1]at h1;refine h.2 enc W n _ _ h1 (fun y hy=>hlt y (List.mem_flatMap.2 ⟨_,List.getElem_mem hil,hy⟩)) ?_;simp only[Rows.uptoBulk]at hb;have:=J1 (xs.map (·.1)) xs[i].1 (List.mem_map.2 ⟨_,List.getElem_mem hil,rfl⟩);omega
theorem Uf{α:Type}{H:Type}{enc:TypeId×Value→H}{P:Program}{W:World}{r:Reach}{b0:Nat}{t:TypeId}{fs:Array Field}{sz:Nat}{R:Rd α}(ht:P.underlying t=some (.struct fs))(h:F5 P t sz R){v:Value}{d:DataW H}{p:List MemPlace}
  (hv:Value.okWide P W r b0 t v) (hd:DataW.Trod enc P W 0 (fun _=>true) true t v d p) (hlt:∀y∈p,y.block<W.heap.size) (hb:Rows.uptoBulk d≤1048576):∃cs a,v=.agg cs∧R W cs.toList a:=by
 obtain⟨cs,rfl,_⟩:=okWide_struct ht hv;obtain⟨fuel,hf⟩:=hd;obtain⟨a,ha⟩:=h.2 enc W fuel _ _ hf hlt hb;exact⟨cs,a,rfl,ha⟩
end
def LS(g:Nat)(lb:Array Value)(p:At→Bool)(w:World):Prop:=
 ∀(W:World) (a:At) (vd vx vi:Value),Below w.heap.size w W→Er W a vd vx vi→Calls Tryz.prog g (#[a.val vd vx vi]++lb) W fun e w'=>e=.returned (.bool (p a))∧Below W.heap.size W w'
theorem P7(b off cap:Nat)(ats:List At)(hlen:ats.length≤1048576)(w:World)(hb:b<w.heap.size)(hr:Hid (GW w b off ats))(g:Nat)(lb:Array Value)(eg:∀args w,(callFunc g args).run Tryz.prog w=.ok (.enter g args) w)(p:At→Bool)(hp:Hid (LS g lb p w)) :
  Calls Tryz.prog 94 #[.slice (some ⟨b,off,none⟩) ats.length cap,.func (.func g) #[] lb] w fun e w'=>e=.returned (.int .i64 (CX p ats))∧Below w.heap.size w w':=by
 go_enter Tryz.func94,Tryz.ntmps94
 go_wp2
 go_loopg [5,8] ats.length (fun gg _ s8 wr=>∃k:Nat,k≤ats.length∧ats.length-k≤gg∧s8=.int .i64 (k:Int)∧Hid (Below w.heap.size w wr)∧Hid ((ats.take k).any p=false))
 case atStart=>exact⟨0,Nat.zero_le _,by omega,rfl,hid (Below.refl _ _),hid (by simp)⟩
 case round=>
  obtain⟨k,hk,hg,rfl,hB,hany⟩:=hrel;by_cases hkl:k<ats.length
  ·have hki:(k:Int)<(ats.length:Int):=by omega
   obtain⟨a,ha⟩:∃a,ats[k]?=some a:=⟨_,List.getElem?_eq_getElem hkl⟩;obtain⟨vd,vx,vi,hc,hn⟩:=hr.out k a ha;obtain⟨c0,c1,c2,c3,c4,c5,c6,c7,c8⟩:=hc.below hb hB.out;have hcall:=hid (hp.out _ a vd vx vi hB.out (hn.below hB.out));have HA:=hid ha;clear ha hc hn;unfold At.val at hcall;cases hq:p a with
   | true=>
    have e:=hid (Hz HA.out hany.out hq);rw[hq]at hcall;clear hq;go_wp2_with (go_at_fn g;refine hcall.out.mono ?_;rintro e w'⟨rfl,hB2⟩)
    go_ret
    exact⟨Ab (An e.out.symm),hB.out.trans (hB2.mono hB.out.size)⟩
   | false=>
    have e:=hid (CY HA.out hany.out hq);rw[hq]at hcall;clear hq;go_wp2_with (go_at_fn g;refine hcall.out.mono ?_;rintro e w'⟨rfl,hB2⟩)
    go_roundg (ats.length-(k+1))
    case measure=>omega
    case rel=>exact⟨k+1,by omega,by omega,by go_num,hid (hB.out.trans (hB2.mono hB.out.size)),e⟩
  ·have hki:¬(k:Int)<(ats.length:Int):=by omega
   obtain rfl:k=ats.length:=by omega
   have e:Hid (CX p ats=-1):=hid (El (by have:=hany.out;rwa [List.take_length]at this));go_wp2
   go_ret
   exact⟨Ab (An e.out.symm),hB.out⟩
theorem MR(a0:Option Addr)(cap:Nat)(fn:Value)(p:At→Bool)(w:World) :
  Calls Tryz.prog 94 #[.slice a0 0 cap,fn] w fun e w'=>e=.returned (.int .i64 (CX p []))∧Below w.heap.size w w':=by
 have e:CX p []=-1:=rfl;rw[e];go_enter Tryz.func94,Tryz.ntmps94
 go_wp2
 go_rounds 1
 go_ret
 exact⟨rfl,Below.refl _ _⟩
theorem GY{w:World}{v:Value}{ats:List At}(h:Bw w v ats)(g:Nat)(lb:Array Value)(eg:∀args w,(callFunc g args).run Tryz.prog w=.ok (.enter g args) w)(p:At→Bool)(hp:LS g lb p w) :
  Calls Tryz.prog 94 #[v,.func (.func g) #[] lb] w fun e w'=>e=.returned (.int .i64 (CX p ats))∧Below w.heap.size w w':=by
 cases h with
 | empty a0 cap=>exact MR a0 cap _ p w
 | row b off cap _ h0 hc hb hr hlen=>exact P7 b off cap ats hlen w hb (hid hr) g lb eg p (hid hp)
theorem Lq{w:World}{v:Value}{ats:List At}(h:Bw w v ats)(g:Nat)(lb:Array Value)(eg:∀args w,(callFunc g args).run Tryz.prog w=.ok (.enter g args) w)(p:At→Bool)(hp:LS g lb p w) :
  Calls Tryz.prog 88 #[v,.func (.func g) #[] lb] w fun e w'=>e=.returned (.bool (ats.any p))∧Below w.heap.size w w':=by
 have H:=hid (GY h g lb eg p hp);have hg:=hid (H7 p ats);go_enter Tryz.func88,Tryz.ntmps88
 go_wp2_with (go_at_call 94;refine H.out.mono ?_;rintro e w'⟨rfl,hB⟩)
 go_ret
 refine⟨Ab (Ar ?_),hB⟩;have:=hg.out
 simpa using this
theorem AP{a b:ByteArray}(h:a.toList=b.toList):a=b:=by
 rw[ByteArray.toList_eq,ByteArray.toList_eq]at h;cases a;cases b
 simp at h;simp[h]
theorem IC{a b:ByteArray}(h:¬a.toList=b.toList):¬a=b:=fun e=>h (by rw[e])
theorem Al{w:World}{x:Addr}{v:Value}(h:w.cell? x=some v):x.block<w.heap.size:=by
 rcases Nat.lt_or_ge x.block w.heap.size with g|g
 ·exact g
 ·rw[World.cell?,Array.getElem?_eq_none g]at h;cases h
theorem Aj{w:World}{x:Addr}{v:Value}(h:w.cell? x=some v)(o:Obj):(w.alloc o).cell? x=some v:=
 (((Below.refl w.heap.size w).alloc (Nat.le_refl _) o).cell (Al h)).trans h
theorem SF(nm:ByteArray)(kd:Int)(w:World) :
  Calls Tryz.prog 95 #[.string nm,.int .i64 kd] w fun e w'=>e=.returned (.func (.func 155) #[] #[.pointer (some ⟨w.heap.size,0,none⟩),.pointer (some ⟨w.heap.size+1,0,none⟩)])∧Below w.heap.size w w'∧w'.cell? ⟨w.heap.size,0,none⟩=some (.string nm)∧w'.cell? ⟨w.heap.size+1,0,none⟩=some (.int .i64 kd):=by
 go_enter Tryz.func95,Tryz.ntmps95
 go_wp2
 go_ret
 refine⟨rfl,((Below.refl _ _).alloc (Nat.le_refl _) _).alloc (by simp) _,Aj ?_ _,?_⟩
 ·rw[World.cell?,World.alloc_heap_new];rfl
 ·have:=World.alloc_heap_new (w.alloc (Obj.cells #[Value.string nm] 9)) (Obj.cells #[Value.int IntKind.i64 kd] 3);simp only[World.size_alloc]at this;rw[World.cell?,this];rfl
theorem P9(nm:ByteArray)(kd:Int)(w:World)(x y:Addr)(h1:w.cell? x=some (.string nm))(h2:w.cell? y=some (.int .i64 kd))(a:At)(vd vx vi:Value) :
  Calls Tryz.prog 155 #[a.val vd vx vi,.pointer (some x),.pointer (some y)] w fun e w'=>e=.returned (.bool (decide (a.name=nm)&&a.kind==kd))∧Below w.heap.size w w':=by
 unfold At.val;have h3:=Aj h1 (.cells #[Value.string a.name,Value.int IntKind.i64 a.kind,Value.int IntKind.i64 a.f,Value.int IntKind.i64 a.i,Value.string a.s,Value.int IntKind.i64 a.typ,vd,vx,vi] 43);have h4:=Aj h2 (.cells #[Value.string a.name,Value.int IntKind.i64 a.kind,Value.int IntKind.i64 a.f,Value.int IntKind.i64 a.i,Value.string a.s,Value.int IntKind.i64 a.typ,vd,vx,vi] 43);go_enter Tryz.func155,Tryz.ntmps155
 go_wp2_with fail
 ·rename_i h
  go_ret
  refine⟨Ab (Ar ?_),(Below.refl _ _).alloc (Nat.le_refl _) _⟩;simp[AP h]
 ·rename_i h
  go_ret
  refine⟨Ab (Ar ?_),(Below.refl _ _).alloc (Nat.le_refl _) _⟩;simp[IC h]
structure Eu(w:World):Prop where
 ones:∀(j:Nat) s,Es[j]?=some s→w.cell? ⟨0,j,none⟩=some (.string s)
 max:∃m,w.cell? ⟨2,0,none⟩=some (.int .i64 m)
theorem Eu.below{w w':World}(h:Eu w)(hB:Below w.heap.size w w'):Eu w':=by
 refine⟨fun j s hj=>?_,?_⟩
 ·have:=h.ones j s hj;exact(hB.cell (Al this)).trans this
 ·obtain⟨m,hm⟩:=h.max;exact⟨m,(hB.cell (Al hm)).trans hm⟩
theorem EX{l:List UInt8}{op:ByteArray}(h:(l==op.toList)=true):(⟨l.toArray⟩:ByteArray).toList=op.toList:=by
 rw[ByteArray.toList_eq];simpa using h
theorem DN{l:List UInt8}{op:ByteArray}(h:(l==op.toList)=false):¬(⟨l.toArray⟩:ByteArray).toList=op.toList:=by
 rw[ByteArray.toList_eq];simpa using h
def Cq(op:ByteArray):Bool:=Es.any fun s=>decide (s=op)
theorem Dk{op:ByteArray}{k:Nat}(h:Es[k]?=some op):Cq op=true:=List.any_eq_true.2 ⟨op,List.mem_of_getElem? h,by simp⟩
def SG(op:ByteArray)(k:Nat):Prop:=∀j s,j<k→Es[j]?=some s→op≠s
theorem SG.next{op:ByteArray}{k:Nat}{s:ByteArray}(h:SG op k)(hs:Es[k]?=some s)(g:¬s.toList=op.toList):SG op (k+1):=fun j t hj ht=>by
 by_cases e:j=k
 ·subst e;rw[hs]at ht;obtain rfl:=Option.some.inj ht;exact fun e=>g (by rw[e])
 ·exact h j t (by omega) ht
theorem SG.all{op:ByteArray}(h:SG op 10):Cq op=false:=List.any_eq_false.2 fun s hs=>by
 obtain⟨k,hk,e⟩:=List.mem_iff_getElem.1 hs;have:=h k s hk (by rw[←e];exact List.getElem?_eq_getElem hk)
 simpa using fun e2=>this e2.symm
theorem LT(op:ByteArray){w:World}(hG:Eu w):Calls Tryz.prog 81 #[.string op] w fun e w'=>e=.returned (.bool (Cq op))∧w=w':=by
  have o0:=hG.ones 0 _ rfl;have o1:=hG.ones 1 _ rfl;have o2:=hG.ones 2 _ rfl;have o3:=hG.ones 3 _ rfl;have o4:=hG.ones 4 _ rfl;have o5:=hG.ones 5 _ rfl;have o6:=hG.ones 6 _ rfl;have o7:=hG.ones 7 _ rfl;have o8:=hG.ones 8 _ rfl;have o9:=hG.ones 9 _ rfl;clear hG;have i0:∀w,(Instr.index 162 (.agg #[.string ⟨#[73,100,101,110,116,105,116,121]⟩,.string ⟨#[78,101,103]⟩,.string ⟨#[65,98,115]⟩,.string ⟨#[78,111,116]⟩,.string ⟨#[82,101,108,117]⟩,.string ⟨#[83,113,114,116]⟩,.string ⟨#[70,108,111,111,114]⟩,.string ⟨#[69,120,112]⟩,.string ⟨#[83,105,103,109,111,105,100]⟩,.string ⟨#[84,97,110,104]⟩]) (.int .i64 0)).run Tryz.prog w=.ok (.string ⟨#[73,100,101,110,116,105,116,121]⟩) w:=fun _=>by kernel_rfl
  have i1:∀w,(Instr.index 162 (.agg #[.string ⟨#[73,100,101,110,116,105,116,121]⟩,.string ⟨#[78,101,103]⟩,.string ⟨#[65,98,115]⟩,.string ⟨#[78,111,116]⟩,.string ⟨#[82,101,108,117]⟩,.string ⟨#[83,113,114,116]⟩,.string ⟨#[70,108,111,111,114]⟩,.string ⟨#[69,120,112]⟩,.string ⟨#[83,105,103,109,111,105,100]⟩,.string ⟨#[84,97,110,104]⟩]) (.int .i64 1)).run Tryz.prog w=.ok (.string ⟨#[78,101,103]⟩) w:=fun _=>by kernel_rfl
  have i2:∀w,(Instr.index 162 (.agg #[.string ⟨#[73,100,101,110,116,105,116,121]⟩,.string ⟨#[78,101,103]⟩,.string ⟨#[65,98,115]⟩,.string ⟨#[78,111,116]⟩,.string ⟨#[82,101,108,117]⟩,.string ⟨#[83,113,114,116]⟩,.string ⟨#[70,108,111,111,114]⟩,.string ⟨#[69,120,112]⟩,.string ⟨#[83,105,103,109,111,105,100]⟩,.string ⟨#[84,97,110,104]⟩]) (.int .i64 2)).run Tryz.prog w=.ok (.string ⟨#[65,98,115]⟩) w:=fun _=>by kernel_rfl
  have i3:∀w,(Instr.index 162 (.agg #[.string ⟨#[73,100,101,110,116,105,116,121]⟩,.string ⟨#[78,101,103]⟩,.string ⟨#[65,98,115]⟩,.string ⟨#[78,111,116]⟩,.string ⟨#[82,101,108,117]⟩,.string ⟨#[83,113,114,116]⟩,.string ⟨#[70,108,111,111,114]⟩,.string ⟨#[69,120,112]⟩,.string ⟨#[83,105,103,109,111,105,100]⟩,.string ⟨#[84,97,110,104]⟩]) (.int .i64 3)).run Tryz.prog w=.ok (.string ⟨#[78,111,116]⟩) w:=fun _=>by kernel_rfl
  have i4:∀w,(Instr.index 162 (.agg #[.string ⟨#[73,100,101,110,116,105,116,121]⟩,.string ⟨#[78,101,103]⟩,.string ⟨#[65,98,115]⟩,.string ⟨#[78,111,116]⟩,.string ⟨#[82,101,108,117]⟩,.string ⟨#[83,113,114,116]⟩,.string ⟨#[70,108,111,111,114]⟩,.string ⟨#[69,120,112]⟩,.string ⟨#[83,105,103,109,111,105,100]⟩,.string ⟨#[84,97,110,104]⟩]) (.int .i64 4)).run Tryz.prog w=.ok (.string ⟨#[82,101,108,117]⟩) w:=fun _=>by kernel_rfl
  have i5:∀w,(Instr.index 162 (.agg #[.string ⟨#[73,100,101,110,116,105,116,121]⟩,.string ⟨#[78,101,103]⟩,.string ⟨#[65,98,115]⟩,.string ⟨#[78,111,116]⟩,.string ⟨#[82,101,108,117]⟩,.string ⟨#[83,113,114,116]⟩,.string ⟨#[70,108,111,111,114]⟩,.string ⟨#[69,120,112]⟩,.string ⟨#[83,105,103,109,111,105,100]⟩,.string ⟨#[84,97,110,104]⟩]) (.int .i64 5)).run Tryz.prog w=.ok (.string ⟨#[83,113,114,116]⟩) w:=fun _=>by kernel_rfl
  have i6:∀w,(Instr.index 162 (.agg #[.string ⟨#[73,100,101,110,116,105,116,121]⟩,.string ⟨#[78,101,103]⟩,.string ⟨#[65,98,115]⟩,.string ⟨#[78,111,116]⟩,.string ⟨#[82,101,108,117]⟩,.string ⟨#[83,113,114,116]⟩,.string ⟨#[70,108,111,111,114]⟩,.string ⟨#[69,120,112]⟩,.string ⟨#[83,105,103,109,111,105,100]⟩,.string ⟨#[84,97,110,104]⟩]) (.int .i64 6)).run Tryz.prog w=.ok (.string ⟨#[70,108,111,111,114]⟩) w:=fun _=>by kernel_rfl
  have i7:∀w,(Instr.index 162 (.agg #[.string ⟨#[73,100,101,110,116,105,116,121]⟩,.string ⟨#[78,101,103]⟩,.string ⟨#[65,98,115]⟩,.string ⟨#[78,111,116]⟩,.string ⟨#[82,101,108,117]⟩,.string ⟨#[83,113,114,116]⟩,.string ⟨#[70,108,111,111,114]⟩,.string ⟨#[69,120,112]⟩,.string ⟨#[83,105,103,109,111,105,100]⟩,.string ⟨#[84,97,110,104]⟩]) (.int .i64 7)).run Tryz.prog w=.ok (.string ⟨#[69,120,112]⟩) w:=fun _=>by kernel_rfl
  have i8:∀w,(Instr.index 162 (.agg #[.string ⟨#[73,100,101,110,116,105,116,121]⟩,.string ⟨#[78,101,103]⟩,.string ⟨#[65,98,115]⟩,.string ⟨#[78,111,116]⟩,.string ⟨#[82,101,108,117]⟩,.string ⟨#[83,113,114,116]⟩,.string ⟨#[70,108,111,111,114]⟩,.string ⟨#[69,120,112]⟩,.string ⟨#[83,105,103,109,111,105,100]⟩,.string ⟨#[84,97,110,104]⟩]) (.int .i64 8)).run Tryz.prog w=.ok (.string ⟨#[83,105,103,109,111,105,100]⟩) w:=fun _=>by kernel_rfl
  have i9:∀w,(Instr.index 162 (.agg #[.string ⟨#[73,100,101,110,116,105,116,121]⟩,.string ⟨#[78,101,103]⟩,.string ⟨#[65,98,115]⟩,.string ⟨#[78,111,116]⟩,.string ⟨#[82,101,108,117]⟩,.string ⟨#[83,113,114,116]⟩,.string ⟨#[70,108,111,111,114]⟩,.string ⟨#[69,120,112]⟩,.string ⟨#[83,105,103,109,111,105,100]⟩,.string ⟨#[84,97,110,104]⟩]) (.int .i64 9)).run Tryz.prog w=.ok (.string ⟨#[84,97,110,104]⟩) w:=fun _=>by kernel_rfl
  go_enter Tryz.func81,Tryz.ntmps81
  go_wp2
  go_loop [4,6] (fun _ i=>∃k:Nat,k≤10∧i=.int .i64 (k:Int)∧Hid (SG op k)) (fun _ i=>10-(intOf i).toNat)
  case atStart=>exact⟨0,Nat.zero_le _,rfl,hid (fun j s hj=>by omega)⟩
  case round=>
    obtain⟨k,hk,rfl,hm⟩:=hrel
    match k,hk,hm with
    | 0,_,hm=>
      go_wp2
      all_goals first
        | (have h:(([73,100,101,110,116,105,116,121]:List UInt8)==op.toList)=true:=by assumption
           go_ret
           exact⟨Ab (Ar (Dk (op:=op) (k:=0) (by rw[←AP (EX h)];rfl)).symm),rfl⟩)
        | (have h:(([73,100,101,110,116,105,116,121]:List UInt8)==op.toList)=false:=by assumption
           go_round
           case rel=>exact⟨1,by omega,rfl,hid (hm.out.next rfl (DN h))⟩
           case measure=>simp[intOf])
    | 1,_,hm=>
      go_wp2
      all_goals first
        | (have h:(([78,101,103]:List UInt8)==op.toList)=true:=by assumption
           go_ret
           exact⟨Ab (Ar (Dk (op:=op) (k:=1) (by rw[←AP (EX h)];rfl)).symm),rfl⟩)
        | (have h:(([78,101,103]:List UInt8)==op.toList)=false:=by assumption
           go_round
           case rel=>exact⟨2,by omega,rfl,hid (hm.out.next rfl (DN h))⟩
           case measure=>simp[intOf])
    | 2,_,hm=>
      go_wp2
      all_goals first
        | (have h:(([65,98,115]:List UInt8)==op.toList)=true:=by assumption
           go_ret
           exact⟨Ab (Ar (Dk (op:=op) (k:=2) (by rw[←AP (EX h)];rfl)).symm),rfl⟩)
        | (have h:(([65,98,115]:List UInt8)==op.toList)=false:=by assumption
           go_round
           case rel=>exact⟨3,by omega,rfl,hid (hm.out.next rfl (DN h))⟩
           case measure=>simp[intOf])
    | 3,_,hm=>
      go_wp2
      all_goals first
        | (have h:(([78,111,116]:List UInt8)==op.toList)=true:=by assumption
           go_ret
           exact⟨Ab (Ar (Dk (op:=op) (k:=3) (by rw[←AP (EX h)];rfl)).symm),rfl⟩)
        | (have h:(([78,111,116]:List UInt8)==op.toList)=false:=by assumption
           go_round
           case rel=>exact⟨4,by omega,rfl,hid (hm.out.next rfl (DN h))⟩
           case measure=>simp[intOf])
    | 4,_,hm=>
      go_wp2
      all_goals first
        | (have h:(([82,101,108,117]:List UInt8)==op.toList)=true:=by assumption
           go_ret
           exact⟨Ab (Ar (Dk (op:=op) (k:=4) (by rw[←AP (EX h)];rfl)).symm),rfl⟩)
        | (have h:(([82,101,108,117]:List UInt8)==op.toList)=false:=by assumption
           go_round
           case rel=>exact⟨5,by omega,rfl,hid (hm.out.next rfl (DN h))⟩
           case measure=>simp[intOf])
    | 5,_,hm=>
      go_wp2
      all_goals first
        | (have h:(([83,113,114,116]:List UInt8)==op.toList)=true:=by assumption
           go_ret
           exact⟨Ab (Ar (Dk (op:=op) (k:=5) (by rw[←AP (EX h)];rfl)).symm),rfl⟩)
        | (have h:(([83,113,114,116]:List UInt8)==op.toList)=false:=by assumption
           go_round
           case rel=>exact⟨6,by omega,rfl,hid (hm.out.next rfl (DN h))⟩
           case measure=>simp[intOf])
    | 6,_,hm=>
      go_wp2
      all_goals first
        | (have h:(([70,108,111,111,114]:List UInt8)==op.toList)=true:=by assumption
           go_ret
           exact⟨Ab (Ar (Dk (op:=op) (k:=6) (by rw[←AP (EX h)];rfl)).symm),rfl⟩)
        | (have h:(([70,108,111,111,114]:List UInt8)==op.toList)=false:=by assumption
           go_round
           case rel=>exact⟨7,by omega,rfl,hid (hm.out.next rfl (DN h))⟩
           case measure=>simp[intOf])
    | 7,_,hm=>
      go_wp2
      all_goals first
        | (have h:(([69,120,112]:List UInt8)==op.toList)=true:=by assumption
           go_ret
           exact⟨Ab (Ar (Dk (op:=op) (k:=7) (by rw[←AP (EX h)];rfl)).symm),rfl⟩)
        | (have h:(([69,120,112]:List UInt8)==op.toList)=false:=by assumption
           go_round
           case rel=>exact⟨8,by omega,rfl,hid (hm.out.next rfl (DN h))⟩
           case measure=>simp[intOf])
    | 8,_,hm=>
      go_wp2
      all_goals first
        | (have h:(([83,105,103,109,111,105,100]:List UInt8)==op.toList)=true:=by assumption
           go_ret
           exact⟨Ab (Ar (Dk (op:=op) (k:=8) (by rw[←AP (EX h)];rfl)).symm),rfl⟩)
        | (have h:(([83,105,103,109,111,105,100]:List UInt8)==op.toList)=false:=by assumption
           go_round
           case rel=>exact⟨9,by omega,rfl,hid (hm.out.next rfl (DN h))⟩
           case measure=>simp[intOf])
    | 9,_,hm=>
      go_wp2
      all_goals first
        | (have h:(([84,97,110,104]:List UInt8)==op.toList)=true:=by assumption
           go_ret
           exact⟨Ab (Ar (Dk (op:=op) (k:=9) (by rw[←AP (EX h)];rfl)).symm),rfl⟩)
        | (have h:(([84,97,110,104]:List UInt8)==op.toList)=false:=by assumption
           go_round
           case rel=>exact⟨10,by omega,rfl,hid (hm.out.next rfl (DN h))⟩
           case measure=>simp[intOf])
    | 10,_,hm=>
      go_wp2
      go_ret
      exact⟨Ab (Ar (hm.out.all).symm),rfl⟩
    | k+11,hk,_=>omega
end Go.Proofs.YtkkeehnldcdccaaGreatDoor
