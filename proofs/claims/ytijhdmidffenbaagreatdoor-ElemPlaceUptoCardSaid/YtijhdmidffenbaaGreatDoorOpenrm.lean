import Derived.Test.YtijhdmidffenbaaGreatDoorViewArm
import Derived.Test.YtijhdmidffenbaaGreatDoorRows
import Derived.Deep.Slices
set_option linter.unusedVariables false
set_option linter.unusedSimpArgs false
namespace Go.Proofs.YtijhdmidffenbaaGreatDoor
open Go.RowKit Go.ChangeShapes Go.WideShapes Go.Deep
abbrev Rd (α:Type):=World→List Value→α→Prop
def Fits {α:Type} (P:Program) (t:TypeId) (sz:Nat) (R:Rd α):Prop :=
 P.cellsOf t=sz∧∀ {H:Type} (enc:TypeId × Value→H) (W:World) (fuel:Nat) (cs:List Value) (x:DataW H × List MemPlace),
  DataW.trod enc P W 0 (fun _=>true) true fuel t cs=some x→(∀ y ∈ x.2,y.block < W.heap.size)→Rows.uptoBulk x.1≤1048576→∃ a,R W cs a
inductive SlIn {α:Type} (sz:Nat) (R:Rd α) (w:World):Value→List α→Prop
 | empty (a0:Option Addr) (cap:Nat):SlIn sz R w (.slice a0 0 cap) []
 | row (b off cap:Nat) (xs:List α) (h0:xs≠[]) (hc:xs.length≤cap) (hb:b < w.heap.size)
   (hr:∀ (j:Nat) x,xs[j]?=some x→∃ cs:List Value,cs.length=sz∧R w cs x∧∀ (i:Nat) u,cs[i]?=some u→w.cell? ⟨b,off+j * sz+i,none⟩=some u)
   (hlen:xs.length≤1048575):SlIn sz R w (.slice (some ⟨b,off,none⟩) xs.length cap) xs
theorem SlIn.form {α:Type} {sz:Nat} {R:Rd α} {w:World} {v:Value} {xs:List α} (h:SlIn sz R w v xs):∃ a cap,v=.slice a xs.length cap:=by
 cases h with
 | empty a0 cap=>exact ⟨a0,cap,rfl⟩
 | row b off cap _ h0 hc hb hr hlen=>exact ⟨_,cap,rfl⟩
theorem SlIn.len {α:Type} {sz:Nat} {R:Rd α} {w:World} {v:Value} {xs:List α} (h:SlIn sz R w v xs):xs.length≤1048575:=by
 cases h with
 | empty a0 cap=>exact Nat.zero_le _
 | row b off cap _ h0 hc hb hr hlen=>exact hlen
theorem SlIn.cap {α:Type} {sz:Nat} {R:Rd α} {w:World} {a:Option Addr} {l c:Nat} {xs:List α} (h:SlIn sz R w (.slice a l c) xs):xs.length≤c:=by
 generalize hv:Value.slice a l c=v at h;cases h with
 | empty a0 cap=>exact Nat.zero_le _
 | row b off cap _ h0 hc hb hr hlen=>obtain ⟨_,_,rfl⟩:=Value.slice.inj hv;exact hc
theorem SlIn.below {α:Type} {sz:Nat} {R:Rd α} {w w':World} {v:Value} {xs:List α} (hR:∀ cs x,R w cs x→R w' cs x) (h:SlIn sz R w v xs) (hB:Below w.heap.size w w'):SlIn sz R w' v xs:=by
 cases h with
 | empty a0 cap=>exact .empty a0 cap
 | row b off cap _ h0 hc hb hr hlen =>
  refine .row b off cap xs h0 hc (Nat.lt_of_lt_of_le hb hB.size) (fun j x hj=>?_) hlen;obtain ⟨cs,h1,h2,h3⟩:=hr j x hj;exact ⟨cs,h1,hR _ _ h2,fun i u hu=>(hB.cell (p:=⟨b,off+j * sz+i,none⟩) hb).trans (h3 i u hu)⟩
theorem SlIn.rows {α:Type} {sz:Nat} {R:Rd α} {w:World} {v:Value} {xs:List α} (h:SlIn sz R w v xs):∀ (j:Nat) x,xs[j]?=some x→∃ b off cap cs,v=.slice (some ⟨b,off,none⟩) xs.length cap∧b < w.heap.size∧xs.length≤cap∧cs.length=sz∧R w cs x∧∀ (i:Nat) u,cs[i]?=some u→w.cell? ⟨b,off+j * sz+i,none⟩=some u:=by
 intro j x hj;cases h with
 | empty a0 cap=>simp at hj
 | row b off cap _ h0 hc hb hr hlen =>
  obtain ⟨cs,h1,h2,h3⟩:=hr j x hj;exact ⟨b,off,cap,cs,rfl,hb,hc,h1,h2,h3⟩
theorem bulk_all {H:Type}:∀ (l:List (DataW H)) (d:DataW H),d ∈ l→Rows.uptoBulk d≤Rows.uptoBulkAll l
 | a :: l,d,h=>by
  rw [Rows.uptoBulkAll];rcases List.mem_cons.1 h with rfl | h
  ·omega
  ·have:=bulk_all l d h;omega
theorem bulk_pos {H:Type} (d:DataW H):1≤Rows.uptoBulk d:=by
 cases d<;>try (simp only [Rows.uptoBulk];omega)
 rename_i l
 cases l<;>simp only [Rows.uptoBulk]<;>omega
theorem bulk_len {H:Type}:∀ (l:List (DataW H)),l.length≤Rows.uptoBulkAll l
 | []=>Nat.zero_le _
 | a :: l=>by
  rw [Rows.uptoBulkAll,List.length_cons];have:=bulk_len l;have:=bulk_pos a;omega
theorem i64_range {x:Int} (h:(Lit.int .i64 x).wf=true):InI x:=by
 simp [Lit.wf,IntKind.min,IntKind.max,IntKind.signed,IntKind.bits] at h;unfold InI;omega
def rdInt:Rd Int:=fun _ cs z=>cs=[.int .i64 z]∧InI z
def rdStr:Rd ByteArray:=fun _ cs s=>cs=[.string s]∧s.size≤1048576
def rdSl {α:Type} (sz:Nat) (R:Rd α):Rd (List α):=fun w cs xs=>∃ v,cs=[v]∧SlIn sz R w v xs
theorem fits_int {P:Program} {t:TypeId} (ht:P.underlying t=some (.int .i64)) (hc:P.cellsOf t=1):Fits P t 1 rdInt :=
 ⟨hc,fun enc W fuel cs x h _ _=>by
  obtain ⟨n,h1,_,h3⟩:=DataW.trod_int ht h;exact ⟨n,h1,i64_range h3⟩⟩
theorem fits_str {P:Program} {t:TypeId} (ht:P.underlying t=some .string) (hc:P.cellsOf t=1):Fits P t 1 rdStr :=
 ⟨hc,fun enc W fuel cs x h _ hb=>by
  obtain ⟨s,h1,h2,_⟩:=DataW.trod_string ht h;refine ⟨s,h1,?_⟩;rw [h2] at hb;simp only [Rows.uptoBulk] at hb;have:s.size=s.data.toList.length:=Array.length_toList.symm;omega⟩
theorem add_some (b o i:Nat):(⟨b,o,none⟩:Addr).add i=⟨b,o+i,none⟩:=by
 unfold Addr.add;split
 ·rename_i h;subst h;rfl
 ·rfl
theorem fits_slice {α:Type} {P:Program} {t e:TypeId} {sz:Nat} {R:Rd α} (ht:P.underlying t=some (.slice e)) (hc:P.cellsOf t=1) (hsz:0 < sz) (he:Fits P e sz R):Fits P t 1 (rdSl sz R):=by
 refine ⟨hc,fun {H} enc W fuel cs x h hlt hb=>?_⟩;rcases open_slice ht h with ⟨rfl,_⟩ | ⟨a,len,cap,m,n,D,Pl,rfl,h0,hl,hm,hmm,rfl,hx⟩
 ·exact ⟨[],_,rfl,.empty none 0⟩
 ·simp only [if_true] at hmm;subst hmm;simp only [Rows.uptoBulk] at hb;have hlen:len≤1048575:=by
   have:=bulk_len ((List.range len).map D);rw [List.length_map,List.length_range] at this;omega
  rw [he.1] at hx hlt;by_cases hz:len=0
  ·subst hz;exact ⟨[],_,rfl,.empty _ _⟩
  have each:∀ i,i < len→∃ y:α × List Value,y.2.length=sz∧R W y.2 y.1∧∀ (k:Nat) u,y.2[k]?=some u→W.cell? ((a.add (i * sz)).add k)=some u:=fun i hi=>by
   obtain ⟨cs',h1,h2⟩:=hx i (by omega);obtain ⟨_,hl',hcell⟩:=World.cells?_some h1;obtain ⟨y,hy⟩:=he.2 enc W n cs' (D i,Pl i) h2 (fun y hy=>hlt y (by
    simp only [List.mem_append,List.mem_flatMap,List.mem_range];exact Or.inr ⟨i,by omega,hy⟩)) (by
    have:=bulk_all ((List.range len).map D) (D i) (List.mem_map.2 ⟨i,List.mem_range.2 hi,rfl⟩);show Rows.uptoBulk (D i)≤_;omega)
   refine ⟨(y,cs'),hl',hy,fun k u hu=>?_⟩;have hk:k < sz:=by rw [←hl'];exact (List.getElem?_eq_some_iff.1 hu).1
   rw [hcell k hk];exact hu
  haveI:Inhabited (α × List Value):=⟨(each 0 (by omega)).choose⟩
  obtain ⟨X,hX⟩:=choose_lt each;have hspot:a.spot=none:=by
   obtain ⟨h1,h2,h3⟩:=hX 0 (by omega);obtain ⟨u,hu⟩:∃ u,(X 0).2[0]?=some u:=⟨_,List.getElem?_eq_getElem (by omega)⟩;have:=World.cell?_spot (h3 0 u hu)
   simpa [Addr.add] using this
  obtain ⟨b,off,spot⟩:=a;simp only at hspot;subst hspot;have hb':b < W.heap.size:=hlt (.cell b off) (List.mem_append_left _ (MemPlace.mem_row.2 ⟨0,Nat.mul_pos (by omega) hsz,by simp⟩));refine ⟨(List.range len).map fun i=>(X i).1,_,rfl,?_⟩;have hll:((List.range len).map fun i=>(X i).1).length=len:=by simp
  have:=SlIn.row (sz:=sz) (R:=R) (w:=W) b off m ((List.range len).map fun i=>(X i).1) (by intro e;rw [e] at hll;simp at hll;omega) (by rw [hll];exact hl) hb' (fun j x hj=>by
   rw [List.getElem?_map] at hj;obtain ⟨i,hi,rfl⟩:=Option.map_eq_some_iff.1 hj;obtain ⟨hi1,hi2⟩:=List.getElem?_eq_some_iff.1 hi;simp at hi1 hi2;subst hi2;obtain ⟨h1,h2,h3⟩:=hX j hi1;exact ⟨(X j).2,h1,h2,fun k u hu=>by
    have:=h3 k u hu;rw [add_some,add_some] at this;exact this⟩) (by rw [hll];exact hlen)
  rw [hll] at this;exact this
theorem fits_field {α:Type} {P:Program} {fs:Array Field} {H:Type} {enc:TypeId × Value→H} {W:World} {n:Nat} {cs:List Value} {xs:List (DataW H × List MemPlace)}
  (hf:∀ (i:Nat) (f:Field),fs[i]?=some f→DataW.trod enc P W 0 (fun _=>true) true n f.type ((cs.drop f.offset).take (P.cellsOf f.type))=xs[i]?) (hl:xs.length=fs.size)
  (hlt:∀ y ∈ xs.flatMap (·.2),y.block < W.heap.size) (hb:Rows.uptoBulk (.agg (xs.map (·.1)):DataW H)≤1048576) {i:Nat} {f:Field} (hi:fs[i]?=some f) {sz:Nat} {R:Rd α} (h:Fits P f.type sz R) :
  ∃ a,R W ((cs.drop f.offset).take sz) a:=by
 have hil:i < xs.length:=by rw [hl];exact (Array.getElem?_eq_some_iff.1 hi).1
 have h1:=hf i f hi;rw [List.getElem?_eq_getElem hil,h.1] at h1;refine h.2 enc W n _ _ h1 (fun y hy=>hlt y (List.mem_flatMap.2 ⟨_,List.getElem_mem hil,hy⟩)) ?_;simp only [Rows.uptoBulk] at hb;have:=bulk_all (xs.map (·.1)) xs[i].1 (List.mem_map.2 ⟨_,List.getElem_mem hil,rfl⟩);omega
theorem open_arg {α:Type} {H:Type} {enc:TypeId × Value→H} {P:Program} {W:World} {r:Reach} {b0:Nat} {t:TypeId} {fs:Array Field} {sz:Nat} {R:Rd α} (ht:P.underlying t=some (.struct fs)) (h:Fits P t sz R) {v:Value} {d:DataW H} {p:List MemPlace}
  (hv:Value.okWide P W r b0 t v) (hd:DataW.Trod enc P W 0 (fun _=>true) true t v d p) (hlt:∀ y ∈ p,y.block < W.heap.size) (hb:Rows.uptoBulk d≤1048576):∃ cs a,v=.agg cs∧R W cs.toList a:=by
 obtain ⟨cs,rfl,_⟩:=okWide_struct ht hv;obtain ⟨fuel,hf⟩:=hd;obtain ⟨a,ha⟩:=h.2 enc W fuel _ _ hf hlt hb;exact ⟨cs,a,rfl,ha⟩
end Go.Proofs.YtijhdmidffenbaaGreatDoor
