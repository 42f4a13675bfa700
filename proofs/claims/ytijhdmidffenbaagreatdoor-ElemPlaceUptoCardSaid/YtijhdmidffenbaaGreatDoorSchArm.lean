import Derived.Test.YtijhdmidffenbaaGreatDoorViewArm
import Derived.Lib.Walk
import Derived.Deep.Draws
set_option linter.unusedVariables false
set_option linter.unusedSimpArgs false
namespace Go.Proofs.YtijhdmidffenbaaGreatDoor
open Go.RowKit
theorem gAt {α:Type} (l:List α) (j:Nat) (h:j < l.length):∃ x,l[j]?=some x:=⟨_,List.getElem?_eq_getElem h⟩
theorem IntsIn.shape {w:World} {v:Value} {zs:List Int} (h:IntsIn w v zs):∃ a cap,v=.slice a zs.length cap:=by
 cases h with
 | empty a0 cap=>exact ⟨a0,cap,rfl⟩
 | row b off cap _ h0 hc hb hr hlen hw=>exact ⟨_,cap,rfl⟩
def gidx {α:Type} (p:α→Bool) (zs:List α):Int:=if zs.any p then (zs.findIdx p:Int) else -1
theorem gidx_at {α:Type} {p:α→Bool} {zs:List α} {k:Nat} {z:α} (hk:zs[k]?=some z) (h:(zs.take k).any p=false) (g:p z=true):gidx p zs=k:=by
 obtain ⟨hlt,e⟩:=List.getElem?_eq_some_iff.1 hk;have ha:zs.any p=true:=List.any_eq_true.2 ⟨_,List.mem_of_getElem? hk,g⟩;unfold gidx;rw [if_pos ha];have h3:zs.findIdx p=k:=by
  rw [List.findIdx_eq hlt];refine ⟨by rw [e];exact g,fun j hj=>?_⟩;have h4:=List.any_eq_false.1 h (zs[j]'(by omega)) (by
   rw [List.mem_take_iff_getElem];exact ⟨j,by omega,rfl⟩)
  simpa using h4
 rw [h3]
theorem gidx_none {α:Type} {p:α→Bool} {zs:List α} (h:zs.any p=false):gidx p zs=-1:=by
 unfold gidx;rw [h];rfl
theorem take_any {α:Type} {p:α→Bool} {zs:List α} {k:Nat} {z:α} (hk:zs[k]?=some z) (h:(zs.take k).any p=false) (g:p z=false):(zs.take (k+1)).any p=false:=by
 rw [List.take_add_one,List.any_append,h,hk]
 simpa using g
theorem gidx_ge {α:Type} (p:α→Bool) (zs:List α):decide (0≤gidx p zs)=zs.any p:=by
 unfold gidx;cases zs.any p
 ·rfl
 ·simp
theorem gidx_find {α:Type} {p:α→Bool} {zs:List α}:(zs.find? p=none∧gidx p zs=-1)∨(∃ (k:Nat) (z:α),zs[k]?=some z∧zs.find? p=some z∧gidx p zs=k∧k < zs.length):=by
 cases h:zs.find? p with
 | none =>
  left;refine ⟨rfl,gidx_none ?_⟩;rw [List.any_eq_false];intro x hx;have:=List.find?_eq_none.1 h x hx
  simpa using this
 | some z =>
  right;have ha:zs.any p=true:=List.any_eq_true.2 ⟨z,List.mem_of_find?_eq_some h,List.find?_some h⟩;have hl:zs.findIdx p < zs.length:=by rw [List.findIdx_lt_length];simpa using ha
  refine ⟨zs.findIdx p,z,?_,rfl,?_,hl⟩
  ·rw [List.getElem?_eq_getElem hl];rw [List.find?_eq_some_iff_getElem] at h;obtain ⟨hp,i,hi,e,hj⟩:=h;have:zs.findIdx p=i:=by
    rw [List.findIdx_eq hi];exact ⟨by rw [e];exact hp,fun j hji=>by simpa using hj j hji⟩
   subst this;rw [e]
  ·unfold gidx;rw [if_pos ha]
def ReadsS (w:World) (b off:Nat) (ss:List ByteArray):Prop:=∀ (j:Nat) s,ss[j]?=some s→w.cell? ⟨b,off+j,none⟩=some (.string s)
inductive StrsIn (w:World):Value→List ByteArray→Prop
 | empty (a0:Option Addr) (cap:Nat):StrsIn w (.slice a0 0 cap) []
 | row (b off cap:Nat) (ss:List ByteArray) (h0:ss≠[]) (hc:ss.length≤cap) (hb:b < w.heap.size) (hr:ReadsS w b off ss) (hlen:ss.length * 16≤140737488351232) :
   StrsIn w (.slice (some ⟨b,off,none⟩) ss.length cap) ss
theorem StrsIn.form {w:World} {v:Value} {ss:List ByteArray} (h:StrsIn w v ss):∃ a cap,v=.slice a ss.length cap:=by
 cases h with
 | empty a0 cap=>exact ⟨a0,cap,rfl⟩
 | row b off cap _ h0 hc hb hr hlen=>exact ⟨_,cap,rfl⟩
theorem StrsIn.len {w:World} {v:Value} {ss:List ByteArray} (h:StrsIn w v ss):ss.length * 16≤140737488351232:=by
 cases h with
 | empty a0 cap=>decide
 | row b off cap _ h0 hc hb hr hlen=>exact hlen
theorem StrsIn.below {w w':World} {v:Value} {ss:List ByteArray} (h:StrsIn w v ss) (hB:Below w.heap.size w w'):StrsIn w' v ss:=by
 cases h with
 | empty a0 cap=>exact .empty a0 cap
 | row b off cap _ h0 hc hb hr hlen=>exact .row b off cap ss h0 hc (Nat.lt_of_lt_of_le hb hB.size) (fun j s hj=>(hB.cell (p:=⟨b,off+j,none⟩) hb).trans (hr j s hj)) hlen
structure At where
 name:ByteArray
 kind:Int
 f:Int
 i:Int
 s:ByteArray
 typ:Int
 dims:List Int
 data:List Int
 ints:List Int
def At.zero:At:=⟨⟨#[]⟩,0,0,0,⟨#[]⟩,0,[],[],[]⟩
structure AttrN (w:World) (a:At) (vd vx vi:Value):Prop where
 id:IntsIn w vd a.dims
 ix:IntsIn w vx a.data
 ii:IntsIn w vi a.ints
 wk:InI a.kind
 wf:InI a.f
 wi:InI a.i
 wt:InI a.typ
 zn:a.name.size≤1048576
 zs:a.s.size≤1048576
def At.val (a:At) (vd vx vi:Value):Value:=.agg #[.string a.name,.int .i64 a.kind,.int .i64 a.f,.int .i64 a.i,.string a.s,.int .i64 a.typ,vd,vx,vi]
def AttrV (w:World) (v:Value) (a:At):Prop:=∃ vd vx vi,v=a.val vd vx vi∧AttrN w a vd vx vi
theorem AttrN.below {w w':World} {a:At} {vd vx vi:Value} (h:AttrN w a vd vx vi) (hB:Below w.heap.size w w'):AttrN w' a vd vx vi :=
 { h with id:=h.id.below hB,ix:=h.ix.below hB,ii:=h.ii.below hB }
theorem AttrV.zero (w:World):AttrV w (.agg #[.string ⟨#[]⟩,.int .i64 0,.int .i64 0,.int .i64 0,.string ⟨#[]⟩,.int .i64 0,.slice none 0 0,.slice none 0 0,.slice none 0 0]) At.zero :=
 ⟨_,_,_,rfl,.empty _ _,.empty _ _,.empty _ _,by unfold At.zero InI;decide,by unfold At.zero InI;decide,by unfold At.zero InI;decide,by unfold At.zero InI;decide,by decide,by decide⟩
structure Cells9 (w:World) (b o:Nat) (a:At) (vd vx vi:Value):Prop where
 c0:w.cell? ⟨b,o,none⟩=some (.string a.name)
 c1:w.cell? ⟨b,o+1,none⟩=some (.int .i64 a.kind)
 c2:w.cell? ⟨b,o+2,none⟩=some (.int .i64 a.f)
 c3:w.cell? ⟨b,o+3,none⟩=some (.int .i64 a.i)
 c4:w.cell? ⟨b,o+4,none⟩=some (.string a.s)
 c5:w.cell? ⟨b,o+5,none⟩=some (.int .i64 a.typ)
 c6:w.cell? ⟨b,o+6,none⟩=some vd
 c7:w.cell? ⟨b,o+7,none⟩=some vx
 c8:w.cell? ⟨b,o+8,none⟩=some vi
theorem Cells9.below {w w':World} {b o:Nat} {a:At} {vd vx vi:Value} (h:Cells9 w b o a vd vx vi) {n:Nat} (hb:b < n) (hB:Below n w w'):Cells9 w' b o a vd vx vi :=
 ⟨(hB.cell (p:=⟨b,o,none⟩) hb).trans h.c0,(hB.cell (p:=⟨b,o+1,none⟩) hb).trans h.c1,(hB.cell (p:=⟨b,o+2,none⟩) hb).trans h.c2,(hB.cell (p:=⟨b,o+3,none⟩) hb).trans h.c3,(hB.cell (p:=⟨b,o+4,none⟩) hb).trans h.c4,
  (hB.cell (p:=⟨b,o+5,none⟩) hb).trans h.c5,(hB.cell (p:=⟨b,o+6,none⟩) hb).trans h.c6,(hB.cell (p:=⟨b,o+7,none⟩) hb).trans h.c7,(hB.cell (p:=⟨b,o+8,none⟩) hb).trans h.c8⟩
def ReadsA (w:World) (b off:Nat) (ats:List At):Prop:=∀ (j:Nat) a,ats[j]?=some a→∃ vd vx vi,Cells9 w b (off+j * 9) a vd vx vi∧AttrN w a vd vx vi
inductive AttrsIn (w:World):Value→List At→Prop
 | empty (a0:Option Addr) (cap:Nat):AttrsIn w (.slice a0 0 cap) []
 | row (b off cap:Nat) (ats:List At) (h0:ats≠[]) (hc:ats.length≤cap) (hb:b < w.heap.size) (hr:ReadsA w b off ats) (hlen:ats.length≤1048576) :
   AttrsIn w (.slice (some ⟨b,off,none⟩) ats.length cap) ats
theorem AttrsIn.form {w:World} {v:Value} {ats:List At} (h:AttrsIn w v ats):∃ a cap,v=.slice a ats.length cap:=by
 cases h with
 | empty a0 cap=>exact ⟨a0,cap,rfl⟩
 | row b off cap _ h0 hc hb hr hlen=>exact ⟨_,cap,rfl⟩
theorem AttrsIn.len {w:World} {v:Value} {ats:List At} (h:AttrsIn w v ats):ats.length≤1048576:=by
 cases h with
 | empty a0 cap=>decide
 | row b off cap _ h0 hc hb hr hlen=>exact hlen
theorem ReadsA.below {w w':World} {b off:Nat} {ats:List At} (h:ReadsA w b off ats) (hb:b < w.heap.size) (hB:Below w.heap.size w w'):ReadsA w' b off ats:=fun j a hj=>by
 obtain ⟨vd,vx,vi,h1,h2⟩:=h j a hj;exact ⟨vd,vx,vi,h1.below hb hB,h2.below hB⟩
theorem AttrsIn.below {w w':World} {v:Value} {ats:List At} (h:AttrsIn w v ats) (hB:Below w.heap.size w w'):AttrsIn w' v ats:=by
 cases h with
 | empty a0 cap=>exact .empty a0 cap
 | row b off cap _ h0 hc hb hr hlen=>exact .row b off cap ats h0 hc (Nat.lt_of_lt_of_le hb hB.size) (hr.below hb hB) hlen
theorem AttrsIn.rows {w:World} {v:Value} {ats:List At} (h:AttrsIn w v ats):∀ (j:Nat) a,ats[j]?=some a→∃ b off cap,v=.slice (some ⟨b,off,none⟩) ats.length cap∧b < w.heap.size∧ReadsA w b off ats:=by
 intro j a hj;cases h with
 | empty a0 cap=>simp at hj
 | row b off cap _ h0 hc hb hr hlen=>exact ⟨b,off,cap,rfl,hb,hr⟩
theorem StrsIn.rows {w:World} {v:Value} {ss:List ByteArray} (h:StrsIn w v ss):∀ (j:Nat) s,ss[j]?=some s→∃ b off cap,v=.slice (some ⟨b,off,none⟩) ss.length cap∧b < w.heap.size∧ReadsS w b off ss:=by
 intro j a hj;cases h with
 | empty a0 cap=>simp at hj
 | row b off cap _ h0 hc hb hr hlen=>exact ⟨b,off,cap,rfl,hb,hr⟩
structure Nd where
 op:ByteArray
 name:ByteArray
 ins:List ByteArray
 out:ByteArray
 attrs:List At
structure NodeN (w:World) (n:Nd) (vin vat:Value):Prop where
 is:StrsIn w vin n.ins
 ia:AttrsIn w vat n.attrs
def Nd.val (n:Nd) (vin vat:Value):Value:=.agg #[.string n.op,.string n.name,vin,.string n.out,vat]
def NodeV (w:World) (v:Value) (n:Nd):Prop:=∃ vin vat,v=n.val vin vat∧NodeN w n vin vat
theorem NodeN.below {w w':World} {n:Nd} {vin vat:Value} (h:NodeN w n vin vat) (hB:Below w.heap.size w w'):NodeN w' n vin vat:=⟨h.is.below hB,h.ia.below hB⟩
theorem NodeV.below {w w':World} {v:Value} {n:Nd} (h:NodeV w v n) (hB:Below w.heap.size w w'):NodeV w' v n:=by
 obtain ⟨a,b,e,g⟩:=h;exact ⟨a,b,e,g.below hB⟩
def onesL:List ByteArray:=[⟨#[73,100,101,110,116,105,116,121]⟩,⟨#[78,101,103]⟩,⟨#[65,98,115]⟩,⟨#[78,111,116]⟩,⟨#[82,101,108,117]⟩,⟨#[83,113,114,116]⟩,⟨#[70,108,111,111,114]⟩,⟨#[69,120,112]⟩,⟨#[83,105,103,109,111,105,100]⟩,⟨#[84,97,110,104]⟩]
end Go.Proofs.YtijhdmidffenbaaGreatDoor
