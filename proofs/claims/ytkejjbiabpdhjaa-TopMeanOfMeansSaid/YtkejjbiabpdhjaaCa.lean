/- Abstract values over the heap of the machine, and functions read off its code (part 1). No conditions. -/
import Derived.Orders
import Derived.Laws.Cells
import Derived.Laws.World
import Derived.Laws.Rows
import Derived.Laws.Sem
import Derived.KernelRfl
import Derived.Laws.CopyRow
import Derived.Laws.AppendOwn
import Derived.Laws.MakeOwn
import Derived.Laws.StructEq
import Derived.Great.BuildSlice
import Derived.Deep.MidRow
set_option linter.unusedVariables false
set_option linter.unusedSimpArgs false
namespace Go.Ab
inductive AV where
 | atom (v:Value)
 | agg (cs:List AV)
 | tup (cs:List AV)
 | sl (len:Nat) (get:Nat→List AV)
 | rp (cs:List AV) (off:Nat)
 | op (k i j:Nat)
 | os (k off len:Nat)
 | fn (f:Fn) (first cap:List AV)
 | when (b:Bool) (v:AV)
 | mp (k:Nat)
 | bn (n:Nat)
 | pt (b:Bool) (cs:List AV)
 | ov (k i j m n:Nat)
 | osf (k off len:Nat)
 | nq (st:Option Bool) (x:AV)
 | nil
 | unk
 | mr (sz len:Nat) (get:Nat→List AV)
 deriving Inhabited
structure Place where
 blk:Nat
 cap:Nat
 sz:Nat
abbrev Mu:=Nat→Option Place
def noMu:Mu:=fun _=>none
def isNilS:Value→Bool
 | .slice none _ _=>true
 | _=>false
inductive RepX (w:World) (S:Nat→Prop):Mu→Value→AV→Prop where
 | atom {μ:Mu} (v:Value):RepX w S μ v (.atom v)
 | agg {μ:Mu} {vs:Array Value} {cs:List AV}:vs.size=cs.length →
   (∀ (j:Nat) (c:AV) (v:Value),cs[j]?=some c→vs[j]?=some v→RepX w S μ v c)→RepX w S μ (.agg vs) (.agg cs)
 | tup {μ:Mu} {vs:Array Value} {cs:List AV}:vs.size=cs.length →
   (∀ (j:Nat) (c:AV) (v:Value),cs[j]?=some c→vs[j]?=some v→RepX w S μ v c)→RepX w S μ (.tuple vs) (.tup cs)
 | sl {μ:Mu} {a:Option Addr} {len cap:Nat} {get:Nat→List AV} (b off sz:Nat) (f:Nat→Nat→Value) :
   (0 < len→a=some ⟨b,off,none⟩∧S b)→(∀ i,i < len→(get i).length=sz) →
   (∀ i j,i < len→j < sz→w.cell? ⟨b,off+i * sz+j,none⟩=some (f i j)) →
   (∀ i j c,i < len→(get i)[j]?=some c→RepX w S noMu (f i j) c)→len≤cap→RepX w S μ (.slice a len cap) (.sl len get)
 | rp {μ:Mu} {cs:List AV} {off:Nat} (b o:Nat) (f:Nat→Value):S b →
   (∀ j,j < cs.length→w.cell? ⟨b,o+j,none⟩=some (f j)) →
   (∀ j c,cs[j]?=some c→RepX w S noMu (f j) c)→RepX w S μ (.pointer (some ⟨b,o+off,none⟩)) (.rp cs off)
 | op {μ:Mu} {k i j:Nat} (pl:Place):μ k=some pl→RepX w S μ (.pointer (some ⟨pl.blk,i * pl.sz+j,none⟩)) (.op k i j)
 | os {μ:Mu} {k off len cap:Nat} {a:Option Addr} (pl:Place):μ k=some pl →
   (0 < cap→a=some ⟨pl.blk,off * pl.sz,none⟩)→len≤cap→off+cap=pl.cap→RepX w S μ (.slice a len cap) (.os k off len)
 | fn {μ:Mu} {f:Fn} {vs ws:Array Value} {first cap:List AV}:vs.size=first.length→ws.size=cap.length →
   (∀ (j:Nat) (c:AV) (v:Value),first[j]?=some c→vs[j]?=some v→RepX w S μ v c) →
   (∀ (j:Nat) (c:AV) (v:Value),cap[j]?=some c→ws[j]?=some v→RepX w S μ v c)→RepX w S μ (.func f vs ws) (.fn f first cap)
 | when {μ:Mu} {b:Bool} {v:Value} {x:AV}:(b=true→RepX w S μ v x)→(b=false→v=undef)→RepX w S μ v (.when b x)
 | mp {μ:Mu} {k:Nat} (pl:Place):μ k=some pl→RepX w S μ (.map (some pl.blk)) (.mp k)
 | bn {μ:Mu} {n:Nat} (b:Bool):(b=true→n=0)→RepX w S μ (.bool b) (.bn n)
 | pt {μ:Mu} {b:Bool} {cs:List AV} {v:Value}:(b=true→RepX w S μ v (.rp cs 0))→(b=false→v=.pointer none)→RepX w S μ v (.pt b cs)
 | ov {μ:Mu} {k i j m n:Nat} (pl:Place):μ k=some pl→n < m→RepX w S μ (.pointer (some ⟨pl.blk,i * pl.sz+(j+n),none⟩)) (.ov k i j m n)
 | osf {μ:Mu} {k off len:Nat} {a:Option Addr} (pl:Place):μ k=some pl→(0 < len→a=some ⟨pl.blk,off * pl.sz,none⟩)→off+len=pl.cap→RepX w S μ (.slice a len len) (.osf k off len)
 | nq {μ:Mu} {st:Option Bool} {v:Value} {x:AV}:RepX w S μ v x→(st=some true→v=.slice none 0 0)→(st=some false→isNilS v=false)→RepX w S μ v (.nq st x)
 | nil {μ:Mu}:RepX w S μ (.slice none 0 0) .nil
 | unk {μ:Mu} {v:Value}:RepX w S μ v .unk
 | mr {μ:Mu} {v:Value} {sz len:Nat} {get:Nat→List AV}:RepX w S μ v (.mr sz len get)
structure Ext (w:World) (S:Nat→Prop) (μ:Mu) (w':World) (S':Nat→Prop) (μ':Mu):Prop where
 size:w.heap.size≤w'.heap.size
 stab:∀ b,S b→S' b
 blk:∀ b,S b→w'.heap[b]?=w.heap[b]?
 mu:∀ k pl,μ k=some pl→μ' k=some pl
theorem Ext.refl (w:World) (S:Nat→Prop) (μ:Mu):Ext w S μ w S μ:=⟨Nat.le_refl _,fun _ h=>h,fun _ _=>rfl,fun _ _ h=>h⟩
theorem Ext.trans {w w' w'':World} {S S' S'':Nat→Prop} {μ μ' μ'':Mu} (h:Ext w S μ w' S' μ') (k:Ext w' S' μ' w'' S'' μ''):Ext w S μ w'' S'' μ'' :=
 ⟨Nat.le_trans h.size k.size,fun b hb=>k.stab b (h.stab b hb),fun b hb=>(k.blk b (h.stab b hb)).trans (h.blk b hb),fun i pl hi=>k.mu i pl (h.mu i pl hi)⟩
theorem cell_of_blk {w w':World} {b:Nat} (h:w'.heap[b]?=w.heap[b]?) (o:Nat):w'.cell? ⟨b,o,none⟩=w.cell? ⟨b,o,none⟩:=by
 simp [World.cell?,h]
theorem RepX.mono {w w':World} {S S':Nat→Prop} (hS:∀ b,S b→S' b) (hb:∀ b,S b→w'.heap[b]?=w.heap[b]?) {μ:Mu} {v:Value} {x:AV} (h:RepX w S μ v x) :
  ∀ {μ':Mu},(∀ k pl,μ k=some pl→μ' k=some pl)→RepX w' S' μ' v x:=by
 induction h with
 | atom v=>exact fun _=>.atom v
 | agg h1 _ ih=>grind [agg]
 | tup h1 _ ih=>grind [tup]
 | @sl μ a len cap get b off sz f h1 h2 h3 _ h5 ih =>
  intro μ' _
  refine .sl b off sz f (fun hl=>⟨(h1 hl).1,hS _ (h1 hl).2⟩) h2 ?_ (fun i j c hi hc=>ih i j c hi hc fun _ _ h=>h) h5
  grind [cell_of_blk]
 | @rp μ cs off b o f h1 h2 _ ih =>
  intro μ' _
  refine .rp b o f (hS _ h1) ?_ (fun j c hc=>ih j c hc fun _ _ h=>h)
  grind [cell_of_blk]
 | op pl h=>grind [op]
 | os pl h h1 h2 h3=>grind [os]
 | fn h1 h2 _ _ ih1 ih2=>grind [fn]
 | when _ hu ih=>grind [when]
 | mp pl h=>grind [mp]
 | bn b h=>exact fun _=>.bn b h
 | pt _ h2 ih=>grind [pt]
 | ov pl h h1=>grind [ov]
 | osf pl h h1 h2=>grind [osf]
 | nq _ h1 h2 ih=>grind [nq]
 | nil=>exact fun _=>.nil
 | unk=>exact fun _=>.unk
 | mr=>exact fun _=>.mr
theorem RepX.ext {w w':World} {S S':Nat→Prop} {μ μ':Mu} {v:Value} {x:AV} (h:RepX w S μ v x) (e:Ext w S μ w' S' μ'):RepX w' S' μ' v x :=
 h.mono e.stab e.blk e.mu
mutual
def AV.pure:AV→Bool
 | .atom _ | .sl _ _ | .rp _ _ | .bn _ | .pt _ _ | .nil | .unk=>true
 | .agg cs | .tup cs=>AV.pureL cs
 | .fn _ a b=>AV.pureL a && AV.pureL b
 | .when _ v=>v.pure
 | .nq _ v=>v.pure
 | .op _ _ _ | .os _ _ _ | .mp _ | .ov _ _ _ _ _ | .osf _ _ _ | .mr _ _ _=>false
def AV.pureL:List AV→Bool
 | []=>true
 | c :: cs=>c.pure && AV.pureL cs
end
mutual
def AV.flat:AV→Bool
 | .atom _ | .bn _ | .nil=>true
 | .agg cs | .tup cs=>AV.flatL cs
 | .fn _ a b=>AV.flatL a && AV.flatL b
 | _=>false
def AV.flatL:List AV→Bool
 | []=>true
 | c :: cs=>c.flat && AV.flatL cs
end
theorem pureL_get {cs:List AV} (h:AV.pureL cs=true) {j:Nat} {c:AV} (hc:cs[j]?=some c):c.pure=true:=by
 induction cs generalizing j with
 | nil=>simp at hc
 | cons x xs ih =>
  simp only [AV.pureL,Bool.and_eq_true] at h
  grind
theorem flatL_get {cs:List AV} (h:AV.flatL cs=true) {j:Nat} {c:AV} (hc:cs[j]?=some c):c.flat=true:=by
 induction cs generalizing j with
 | nil=>simp at hc
 | cons x xs ih =>
  simp only [AV.flatL,Bool.and_eq_true] at h
  grind
theorem RepX.pure {w:World} {S:Nat→Prop} {μ:Mu} {v:Value} {x:AV} (h:RepX w S μ v x):x.pure=true→∀ μ',RepX w S μ' v x:=by
 induction h with
 | atom v=>exact fun _ _=>.atom v
 | agg h1 _ ih=>grind [agg,pureL_get,AV.pure]
 | tup h1 _ ih=>grind [tup,pureL_get,AV.pure]
 | sl b off sz f h1 h2 h3 h4 h5 _=>exact fun _ _=>.sl b off sz f h1 h2 h3 h4 h5
 | rp b o f h1 h2 h3 _=>simp_all [rp]
 | op pl h=>grind [AV.pure]
 | os pl h h1 h2 h3=>grind [AV.pure]
 | fn h1 h2 _ _ ih1 ih2 =>
  intro hp μ'
  simp only [AV.pure,Bool.and_eq_true] at hp
  grind [fn,pureL_get]
 | when _ hu ih=>grind [when,AV.pure]
 | mp pl h=>grind [AV.pure]
 | bn b h=>exact fun _ _=>.bn b h
 | pt _ h2 ih=>exact fun _ μ'=>.pt (fun hb=>ih hb rfl μ') h2
 | ov=>grind [AV.pure]
 | osf=>grind [AV.pure]
 | nq _ h1 h2 ih=>grind [nq,AV.pure]
 | nil=>exact fun _ _=>.nil
 | unk=>exact fun _ _=>.unk
 | mr=>grind [AV.pure]
theorem RepX.flat {w:World} {S:Nat→Prop} {μ:Mu} {v:Value} {x:AV} (h:RepX w S μ v x):x.flat=true→∀ w' S' μ',RepX w' S' μ' v x:=by
 induction h with
 | atom v=>grind [atom]
 | agg h1 _ ih=>grind [agg,flatL_get,AV.flat]
 | tup h1 _ ih=>grind [tup,flatL_get,AV.flat]
 | sl=>grind [AV.flat]
 | rp=>grind [AV.flat]
 | op=>grind [AV.flat]
 | os=>grind [AV.flat]
 | fn h1 h2 _ _ ih1 ih2 =>
  intro hp w' S' μ'
  simp only [AV.flat,Bool.and_eq_true] at hp
  grind [fn,flatL_get]
 | when=>grind [AV.flat]
 | mp=>grind [AV.flat]
 | bn b h=>grind [bn]
 | pt=>grind [AV.flat]
 | ov=>grind [AV.flat]
 | osf=>grind [AV.flat]
 | nq=>grind [AV.flat]
 | nil=>exact fun _ _ _ _=>.nil
 | unk=>grind [AV.flat]
 | mr=>grind [AV.flat]
structure Ob where
 var:Bool
 sz:Nat
 len:Nat
 pr:Bool
 get:Nat→List AV
abbrev Sto:=List (Nat×Ob)
def sget:Sto→Nat→Option Ob
 | [],_=>none
 | (k,o) :: r,n=>match Nat.beq k n with
  | true=>some o
  | false=>sget r n
def sset:Sto→Nat→Ob→Sto
 | [],k,o=>[(k,o)]
 | (a,x) :: r,k,o=>match Nat.beq a k with
  | true=>(a,o) :: r
  | false=>(a,x) :: sset r k o
def sdel:Sto→Nat→Sto
 | [],_=>[]
 | (a,x) :: r,k=>match Nat.beq a k with
  | true=>sdel r k
  | false=>(a,x) :: sdel r k
theorem beq_t {a b:Nat} (h:a=b):Nat.beq a b=true:=by simp_all
theorem beq_f {a b:Nat} (h:¬ a=b):Nat.beq a b=false:=Bool.eq_false_iff.2 fun e=>h (Nat.eq_of_beq_eq_true e)
theorem sget_sset (σ:Sto) (k n:Nat) (o:Ob):sget (sset σ k o) n=if k=n then some o else sget σ n:=by
 induction σ with
 | nil =>
  simp only [sset,sget]
  by_cases h:k=n
  ·rw [beq_t h,if_pos h]
  ·rw [beq_f h,if_neg h]
 | cons x r ih =>
  obtain ⟨a,x⟩:=x
  simp only [sset]
  by_cases ha:a=k
  ·rw [beq_t ha]
   simp only [sget]
   subst ha
   by_cases h:a=n
   ·rw [beq_t h,if_pos h]
   ·rw [beq_f h,if_neg h]
  ·rw [beq_f ha]
   simp only [sget,ih]
   by_cases hn:a=n
   ·grind
   ·rw [beq_f hn]
theorem sget_sdel (σ:Sto) (k n:Nat):sget (sdel σ k) n=if k=n then none else sget σ n:=by
 induction σ with
 | nil=>simp [sdel,sget]
 | cons x r ih =>
  obtain ⟨a,x⟩:=x
  simp only [sdel]
  by_cases ha:a=k
  ·simp_all [beq_t,sget,if_pos,beq_f]
  ·rw [beq_f ha]
   simp only [sget,ih]
   by_cases hn:a=n
   ·grind
   ·rw [beq_f hn]
def supd:Sto→List (Nat×Option Ob)→Sto
 | σ,[]=>σ
 | σ,(k,some o) :: r=>supd (sset σ k o) r
 | σ,(k,none) :: r=>supd (sdel σ k) r
def entsOf (c:Array Value):Array MapEntry:=(Array.range (c.size / 2)).map fun i=>⟨c[2 * i]?.getD undef,c[2 * i+1]?.getD undef,i⟩
def blkObj (sz:Nat) (c:Array Value) (T:TypeId):Obj :=
 match sz with
 | 0=>.map (entsOf c) (c.size / 2)
 | _+1=>.cells c T (0,0)
theorem blkObj_row {sz:Nat} (h:sz≠0) (c:Array Value) (T:TypeId):blkObj sz c T=.cells c T (0,0):=by
 cases sz with
 | zero=>exact absurd rfl h
 | succ n=>rfl
theorem blkObj_map {sz:Nat} (h:sz=0) (c:Array Value) (T:TypeId):blkObj sz c T=.map (entsOf c) (c.size / 2):=by subst h;rfl
structure ObRep (w:World) (S:Nat→Prop) (μ:Mu) (o:Ob) (pl:Place) (c:Array Value) (T:TypeId):Prop where
 sz:pl.sz=o.sz
 blk:0 < pl.cap→w.heap[pl.blk]?=some (blkObj o.sz c T)
 cap:pl.cap * o.sz≤c.size
 len:o.len≤pl.cap
 out:0 < pl.cap→¬ S pl.blk
 els:∀ i,i < o.len→(o.get i).length=o.sz
 rep:∀ i j x v,i < o.len→(o.get i)[j]?=some x→c[i * o.sz+j]?=some v→RepX w S (if o.pr then noMu else μ) v x
 mp:o.sz=0→0 < pl.cap∧c.size % 2=0∧c.size=(o.get 0).length∧o.pr=true∧∀ (j:Nat) x v,(o.get 0)[j]?=some x→c[j]?=some v→RepX w S noMu v x
structure SRep (w:World) (S:Nat→Prop) (μ:Mu) (σ:Sto):Prop where
 ob:∀ k o,sget σ k=some o→∃ pl c T,μ k=some pl∧ObRep w S μ o pl c T
 ne:∀ k k' o o' pl pl',k≠k'→sget σ k=some o→sget σ k'=some o'→μ k=some pl→μ k'=some pl'→0 < pl.cap→0 < pl'.cap→pl.blk≠pl'.blk
theorem ObRep.ext {w w':World} {S S':Nat→Prop} {μ μ':Mu} {o:Ob} {pl:Place} {c:Array Value} {T:TypeId} (h:ObRep w S μ o pl c T) (e:Ext w S μ w' S' μ')
  (hb:0 < pl.cap→w'.heap[pl.blk]?=w.heap[pl.blk]?) (ho:0 < pl.cap→¬ S' pl.blk):ObRep w' S' μ' o pl c T :=
 { h with
  blk:=fun hc=>(hb hc).trans (h.blk hc)
  out:=ho
  rep:=fun i j x v hi hx hv=>(h.rep i j x v hi hx hv).mono e.stab e.blk (by
   cases o.pr
   ·exact e.mu
   ·exact fun _ _ h=>h)
  mp:=fun hz=>let ⟨h0,h1,h2,h3,h4⟩:=h.mp hz
   ⟨h0,h1,h2,h3,fun j x v hx hv=>(h4 j x v hx hv).mono e.stab e.blk (fun _ _ h=>h)⟩ }
def rowOf (o:Ob) (i:Nat):Option (Nat×Nat×(Nat→List AV)) :=
 match o.var,o.get i with
 | false,[.mr sz len g]=>if i < o.len then some (sz,len,g) else none
 | _,_=>none
def RowAt (fp:Nat→Prop) (n0:Nat) (w:World) (S:Nat→Prop) (v:Value) (x:Nat×Nat×(Nat→List AV)):Prop :=
 ∃ a cap,v=.slice a x.2.1 cap∧x.2.1≤cap∧(1≤x.1∧∀ j,rowOf ⟨false,x.1,x.2.1,true,x.2.2⟩ j=none)∧(0 < cap→∃ b c T,a=some ⟨b,0,none⟩∧ObRep w S noMu ⟨false,x.1,x.2.1,true,x.2.2⟩ ⟨b,cap,x.1⟩ c T∧(fp b∨n0≤b))
def ptrTo (v:Value) (b:Nat):Prop:=∃ len cap,v=.slice (some ⟨b,0,none⟩) len cap∧0 < cap
def RowV (w:World) (μ:Mu) (σ:Sto) (k i:Nat) (x:Nat×Nat×(Nat→List AV)) (v:Value):Prop :=
 ∃ o pl,sget σ k=some o∧rowOf o i=some x∧μ k=some pl∧w.cell? ⟨pl.blk,i * pl.sz,none⟩=some v
structure MX (fp:Nat→Prop) (n0:Nat) (w:World) (S:Nat→Prop) (μ:Mu) (σ:Sto):Prop where
 row:∀ k i x v,RowV w μ σ k i x v→RowAt fp n0 w S v x
 obj:∀ k i x v b,RowV w μ σ k i x v→ptrTo v b→∀ k' o' pl',sget σ k'=some o'→μ k'=some pl'→0 < pl'.cap→pl'.blk≠b
 two:∀ k i x v b k' i' x' v',RowV w μ σ k i x v→RowV w μ σ k' i' x' v'→ptrTo v b→ptrTo v' b→k=k'∧i=i'
theorem rowOf_none_var {o:Ob} (h:o.var=true) (i:Nat):rowOf o i=none:=by unfold rowOf;rw [h]
theorem rowOf_some {o:Ob} {i:Nat} {x:Nat×Nat×(Nat→List AV)} (h:rowOf o i=some x):o.var=false∧i < o.len∧o.get i=[.mr x.1 x.2.1 x.2.2]:=by
 grind [rowOf]
theorem rowOf_mk {o:Ob} {i:Nat} {x:Nat×Nat×(Nat→List AV)} (h2:o.var=false) (h3:i < o.len) (h4:o.get i=[.mr x.1 x.2.1 x.2.2]):rowOf o i=some x:=by
 grind [rowOf]
theorem MX.blk {fp:Nat→Prop} {n0:Nat} {w:World} {S:Nat→Prop} {μ:Mu} {σ:Sto} (h:MX fp n0 w S μ σ) {k i:Nat} {x:Nat×Nat×(Nat→List AV)} {v:Value} {b:Nat} (hr:RowV w μ σ k i x v) (hb:ptrTo v b) :
  b < w.heap.size∧¬ S b∧(fp b∨n0≤b)∧∃ c T,w.heap[b]?=some (.cells c T (0,0)):=by
 obtain ⟨len,cap,rfl,hc⟩:=hb
 obtain ⟨a,cap',e,h1,h2,h3⟩:=h.row _ _ _ _ hr
 injection e with e1 e2 e3
 subst e1 e2 e3
 obtain ⟨b',c,T,e4,h4,h5⟩:=h3 hc
 injection e4 with e4
 injection e4 with e4
 subst e4
 have hbk:=h4.blk hc
 have hrow:blkObj x.1 c T=.cells c T (0,0):=blkObj_row (by have:=h2.1;omega) c T
 have hbk':w.heap[b]?=some (.cells c T (0,0)):=by rw [hbk];exact congrArg some hrow
 exact ⟨(Array.getElem?_eq_some_iff.1 hbk').1,h4.out hc,h5,c,T,hbk'⟩
theorem RowAt.ext {fp fp':Nat→Prop} {n0 n0':Nat} {w w':World} {S S':Nat→Prop} {v:Value} {x:Nat×Nat×(Nat→List AV)} (h:RowAt fp n0 w S v x) (hS:∀ b,S b→S' b) (hb:∀ b,S b→w'.heap[b]?=w.heap[b]?)
  (hp:∀ b,ptrTo v b→w'.heap[b]?=w.heap[b]?∧¬ S' b∧((fp b∨n0≤b)→(fp' b∨n0'≤b))):RowAt fp' n0' w' S' v x:=by
 obtain ⟨a,cap,rfl,h1,h2,h3⟩:=h
 refine ⟨a,cap,rfl,h1,h2,fun hc=>?_⟩
 obtain ⟨b,c,T,rfl,h4,h5⟩:=h3 hc
 obtain ⟨p1,p2,p3⟩:=hp b ⟨_,_,rfl,hc⟩
 refine ⟨b,c,T,rfl,⟨h4.sz,fun h=>p1.trans (h4.blk h),h4.cap,h4.len,fun _=>p2,h4.els,fun i j x v hi hx hv=>(h4.rep i j x v hi hx hv).mono hS hb (fun _ _ h=>h),fun hz=>?_⟩,p3 h5⟩
 simp_all
theorem MX.tr {fp fp':Nat→Prop} {n0 n0':Nat} {w w':World} {S S':Nat→Prop} {μ μ':Mu} {σ σ':Sto} (h:MX fp n0 w S μ σ) (φ:Nat→Nat)
  (hr:∀ k i x v,RowV w' μ' σ' k i x v→RowV w μ σ (φ k) i x v)
  (hi:∀ k i x v k' i' x' v',RowV w' μ' σ' k i x v→RowV w' μ' σ' k' i' x' v'→φ k=φ k'→k=k')
  (hS:∀ b,S b→S' b) (hb:∀ b,S b→w'.heap[b]?=w.heap[b]?)
  (hp:∀ k i x v b,RowV w' μ' σ' k i x v→RowV w μ σ (φ k) i x v→ptrTo v b→w'.heap[b]?=w.heap[b]?∧¬ S' b∧((fp b∨n0≤b)→(fp' b∨n0'≤b)))
  (ho:∀ k o pl,sget σ' k=some o→μ' k=some pl→0 < pl.cap→(∃ k1 o1 pl1,sget σ k1=some o1∧μ k1=some pl1∧0 < pl1.cap∧pl1.blk=pl.blk)∨w.heap.size≤pl.blk):MX fp' n0' w' S' μ' σ':=by
 refine ⟨fun k i x v hv=>(h.row _ _ _ _ (hr _ _ _ _ hv)).ext hS hb fun b hb'=>hp _ _ _ _ _ hv (hr _ _ _ _ hv) hb',fun k i x v b hv hb' k' o' pl' h1 h2 h3 he=>?_,fun k i x v b k' i' x' v' hv hv' hb1 hb2=>?_⟩
 ·have hv0:=hr _ _ _ _ hv
  rcases ho k' o' pl' h1 h2 h3 with ⟨k1,o1,pl1,q1,q2,q3,q4⟩ | q
  ·exact h.obj _ _ _ _ b hv0 hb' k1 o1 pl1 q1 q2 q3 (q4.trans he)
  ·have:=(h.blk hv0 hb').1;omega
 ·obtain ⟨e1,e2⟩:=h.two _ _ _ _ _ _ _ _ _ (hr _ _ _ _ hv) (hr _ _ _ _ hv') hb1 hb2
  grind
theorem MX.nil {fp:Nat→Prop} {n0:Nat} {w:World} {S:Nat→Prop} {μ:Mu} {σ:Sto} (h:∀ k o i,sget σ k=some o→rowOf o i=none):MX fp n0 w S μ σ:=by
 have no:∀ {k i x v},RowV w μ σ k i x v→False:=by
  rintro k i x v ⟨o,pl,h1,h2,_⟩
  rw [h k o i h1] at h2;cases h2
 exact ⟨fun _ _ _ _ h=>(no h).elim,fun _ _ _ _ _ h=>(no h).elim,fun _ _ _ _ _ _ _ _ _ h=>(no h).elim⟩
end Go.Ab
namespace Go.Ab
structure Env where
 w0:World
 S0:Nat→Prop
 fp:Nat→Prop
 μ0:Mu
 m0:Nat
structure Fr (w0:World) (fp:Nat→Prop) (w:World):Prop where
 os:w.os=w0.os
 tape:w.tape=w0.tape
 output:w.output=w0.output
 size:w0.heap.size≤w.heap.size
 blk:∀ b,b < w0.heap.size→¬ fp b→w.heap[b]?=w0.heap[b]?
theorem Fr.refl (w:World) (fp:Nat→Prop):Fr w fp w:=⟨rfl,rfl,rfl,Nat.le_refl _,fun _ _ _=>rfl⟩
structure Good (E:Env) (σ:Sto) (S:Nat→Prop) (μ:Mu) (w:World):Prop where
 fr:Fr E.w0 E.fp w
 S0:∀ b,E.S0 b→S b
 S1:∀ b,S b→b < w.heap.size
 S2:∀ b,S b→E.S0 b∨E.w0.heap.size≤b
 rep:SRep w S μ σ
 own:∀ k o pl,sget σ k=some o→μ k=some pl→0 < pl.cap→E.fp pl.blk∨E.w0.heap.size≤pl.blk
 mu0:∀ k,k < E.m0→μ k=E.μ0 k
 mx:MX E.fp E.w0.heap.size w S μ σ
theorem lt_of_blk {w:World} {b:Nat} {o:Obj} (h:w.heap[b]?=some o):b < w.heap.size:=(Array.getElem?_eq_some_iff.1 h).1
def muSet (μ:Mu) (k:Nat) (pl:Place):Mu:=fun n=>if n=k then some pl else μ n
theorem heap_push_lt {w:World} {o:Obj} {b:Nat} (h:b < w.heap.size):(w.alloc o).heap[b]?=w.heap[b]?:=heap_alloc_old w o b h
theorem RowV.old {w w':World} {S:Nat→Prop} {μ μ':Mu} {σ σ':Sto} (g:SRep w S μ σ) {k k1 i:Nat} {x:Nat×Nat×(Nat→List AV)} {v:Value} (h:RowV w' μ' σ' k i x v)
  (ho:∀ o,sget σ' k=some o→∃ o1,sget σ k1=some o1∧rowOf o1 i=some x) (hm:∀ pl,μ' k=some pl→μ k1=some pl)
  (hb:∀ o pl,sget σ k1=some o→μ k1=some pl→0 < pl.cap→w'.heap[pl.blk]?=w.heap[pl.blk]?):RowV w μ σ k1 i x v:=by
 obtain ⟨o,pl,h1,h2,h3,h4⟩:=h
 obtain ⟨o1,h5,h6⟩:=ho o h1
 have h7:=hm pl h3
 refine ⟨o1,pl,h5,h6,h7,?_⟩
 obtain ⟨pl2,c,T,h8,h9⟩:=g.ob k1 o1 h5
 rw [h7] at h8;cases h8
 have hc:0 < pl.cap:=by have:=(rowOf_some h6).2.1;have:=h9.len;omega
 grind [cell_of_blk]
theorem RowV.ob {w:World} {μ:Mu} {σ:Sto} {k i:Nat} {x:Nat×Nat×(Nat→List AV)} {v:Value} (h:RowV w μ σ k i x v):∃ o,sget σ k=some o∧rowOf o i=some x:=by
 obtain ⟨o,_,h1,h2,_⟩:=h;exact ⟨o,h1,h2⟩
theorem Good.allocR {E:Env} {σ:Sto} {S:Nat→Prop} {μ:Mu} {w:World} (g:Good E σ S μ w) {nk:Nat} (hk:μ nk=none) (hm:E.m0≤nk) (c:Array Value) (T:TypeId) (o:Ob) (cap:Nat)
  (hcap:cap * o.sz≤c.size) (hlen:o.len≤cap) (hels:∀ i,i < o.len→(o.get i).length=o.sz)
  (hrep:∀ i j x v,i < o.len→(o.get i)[j]?=some x→c[i * o.sz+j]?=some v→RepX w S (if o.pr then noMu else μ) v x) (hsz0:o.sz≠0)
  (hmx:MX E.fp E.w0.heap.size (w.alloc (.cells c T)) S (muSet μ nk ⟨w.heap.size,cap,o.sz⟩) (sset σ nk o)) :
  Ext w S μ (w.alloc (.cells c T)) S (muSet μ nk ⟨w.heap.size,cap,o.sz⟩)∧Good E (sset σ nk o) S (muSet μ nk ⟨w.heap.size,cap,o.sz⟩) (w.alloc (.cells c T)):=by
 have e:Ext w S μ (w.alloc (.cells c T)) S (muSet μ nk ⟨w.heap.size,cap,o.sz⟩) :=
  ⟨by simp,fun _ h=>h,fun b hb=>heap_push_lt (g.S1 b hb),fun k pl h=>by
   grind [muSet]⟩
 refine ⟨e,⟨⟨g.fr.os,g.fr.tape,g.fr.output,by have:=g.fr.size;simp;omega,fun b hb hf=>(heap_push_lt (Nat.lt_of_lt_of_le hb g.fr.size)).trans (g.fr.blk b hb hf)⟩,
  g.S0,fun b hb=>by have:=g.S1 b hb;simp;omega,g.S2,⟨?_,?_⟩,?_,fun k hk'=>?_,hmx⟩⟩
 ·intro k x hx
  rw [sget_sset] at hx
  by_cases hkn:nk=k
  ·rw [if_pos hkn] at hx
   cases hx
   refine ⟨⟨w.heap.size,cap,o.sz⟩,c,T,by simp [muSet,hkn],rfl,fun _=>(heap_alloc_new w _).trans (by rw [blkObj_row hsz0]),hcap,hlen,fun _ hS=>Nat.lt_irrefl _ (g.S1 _ hS),hels,?_,fun h=>absurd h hsz0⟩
   intro i j x v hi hx hv
   refine (hrep i j x v hi hx hv).mono e.stab e.blk ?_
   cases o.pr
   ·exact e.mu
   ·exact fun _ _ h=>h
  ·rw [if_neg hkn] at hx
   obtain ⟨pl,c',T',hm',ho⟩:=g.rep.ob k x hx
   exact ⟨pl,c',T',e.mu _ _ hm',ho.ext e (fun hc=>heap_push_lt (lt_of_blk (ho.blk hc))) ho.out⟩
 ·intro k k' x x' pl pl' hne hx hx' hp hp' hc1 hc2
  rw [sget_sset] at hx hx'
  simp only [muSet] at hp hp'
  have lt:∀ {k x pl},nk≠k→sget σ k=some x→μ k=some pl→0 < pl.cap→pl.blk < w.heap.size:=fun {k x pl} _ hx hp hc=>by
   obtain ⟨pl2,c',T',hm',ho⟩:=g.rep.ob k x hx
   rw [hp] at hm';cases hm';exact lt_of_blk (ho.blk hc)
  by_cases h1:nk=k
  ·grind
  ·rw [if_neg h1] at hx
   rw [if_neg (fun h=>h1 h.symm)] at hp
   by_cases h2:nk=k'
   ·grind
   ·rw [if_neg h2] at hx'
    rw [if_neg (fun h=>h2 h.symm)] at hp'
    exact g.rep.ne k k' x x' pl pl' hne hx hx' hp hp' hc1 hc2
 ·intro k x pl hx hp hc
  rw [sget_sset] at hx
  simp only [muSet] at hp
  by_cases h1:nk=k
  ·rw [if_pos h1.symm] at hp
   cases hp
   exact .inr g.fr.size
  ·rw [if_neg h1] at hx
   rw [if_neg (fun h=>h1 h.symm)] at hp
   exact g.own k x pl hx hp hc
 ·simp only [muSet]
  rw [if_neg (by omega)]
  exact g.mu0 k hk'
theorem Good.mxNew {E:Env} {σ:Sto} {S:Nat→Prop} {μ:Mu} {w w':World} (g:Good E σ S μ w) {nk:Nat} (hk:μ nk=none) (o:Ob) (pl:Place) (hpl:0 < pl.cap→w.heap.size≤pl.blk) (hnr:∀ i,rowOf o i=none)
  (hw:∀ b,b < w.heap.size→w'.heap[b]?=w.heap[b]?) {S':Nat→Prop} (hS:∀ b,S b→S' b) (hS':∀ b,S' b→S b∨w.heap.size≤b):MX E.fp E.w0.heap.size w' S' (muSet μ nk pl) (sset σ nk o):=by
 have key:∀ k i x v,RowV w' (muSet μ nk pl) (sset σ nk o) k i x v→k≠nk:=by
  rintro k i x v h rfl
  obtain ⟨o2,h1,h2⟩:=h.ob
  rw [sget_sset,if_pos rfl] at h1
  cases h1
  rw [hnr] at h2;cases h2
 refine g.mx.tr id (fun k i x v h=>?_) (fun _ _ _ _ _ _ _ _ _ _ h=>h) hS (fun b hb=>hw b (g.S1 b hb)) (fun k i x v b _ h hb=>?_) (fun k o2 pl2 h1 h2 h3=>?_)
 ·have hne:=key _ _ _ _ h
  obtain ⟨o3,h3,h4⟩:=h.ob
  refine h.old g.rep (fun o2 h1=>?_) (fun pl2 h2=>?_) (fun o2 pl2 h1 h2 h3=>?_)
  ·rw [h3] at h1;cases h1
   rw [sget_sset,if_neg (fun e=>hne e.symm)] at h3
   exact ⟨o3,h3,h4⟩
  ·simp_all [muSet,if_neg]
  ·obtain ⟨pl3,c3,T3,hm3,ho3⟩:=g.rep.ob k o2 h1
   have h2:μ k=some pl2:=h2
   rw [h2] at hm3;cases hm3
   exact hw _ (lt_of_blk (ho3.blk h3))
 ·obtain ⟨q1,q2,q3,_⟩:=g.mx.blk h hb
  grind
 ·by_cases hkn:nk=k
  ·simp_all [muSet,if_pos]
  ·rw [sget_sset,if_neg hkn] at h1
   unfold muSet at h2;grind
theorem Good.alloc {E:Env} {σ:Sto} {S:Nat→Prop} {μ:Mu} {w:World} (g:Good E σ S μ w) {nk:Nat} (hk:μ nk=none) (hm:E.m0≤nk) (c:Array Value) (T:TypeId) (o:Ob) (cap:Nat)
  (hcap:cap * o.sz≤c.size) (hlen:o.len≤cap) (hels:∀ i,i < o.len→(o.get i).length=o.sz)
  (hrep:∀ i j x v,i < o.len→(o.get i)[j]?=some x→c[i * o.sz+j]?=some v→RepX w S (if o.pr then noMu else μ) v x) (hsz0:o.sz≠0) (hnr:∀ i,rowOf o i=none) :
  Ext w S μ (w.alloc (.cells c T)) S (muSet μ nk ⟨w.heap.size,cap,o.sz⟩)∧Good E (sset σ nk o) S (muSet μ nk ⟨w.heap.size,cap,o.sz⟩) (w.alloc (.cells c T)) :=
 g.allocR hk hm c T o cap hcap hlen hels hrep hsz0 (g.mxNew hk o _ (fun _=>Nat.le_refl _) hnr (fun _ h=>heap_push_lt h) (fun _ h=>h) (fun _ h=>.inl h))
theorem Good.mxStab {E:Env} {σ:Sto} {S:Nat→Prop} {μ:Mu} {w w':World} (g:Good E σ S μ w)
  (hw:∀ b,b < w.heap.size→w'.heap[b]?=w.heap[b]?) {S':Nat→Prop} (hS:∀ b,S b→S' b) (hS':∀ b,S' b→S b∨w.heap.size≤b):MX E.fp E.w0.heap.size w' S' μ σ:=by
 refine g.mx.tr id (fun k i x v h=>?_) (fun _ _ _ _ _ _ _ _ _ _ h=>h) hS (fun b hb=>hw b (g.S1 b hb)) (fun k i x v b _ h hb=>?_) (fun k o2 pl2 h1 h2 h3=>.inl ⟨k,o2,pl2,h1,h2,h3,rfl⟩)
 ·obtain ⟨o3,h3,h4⟩:=h.ob
  refine h.old g.rep (fun o2 h1=>⟨o3,h3,h4⟩) (fun pl2 h2=>h2) (fun o2 pl2 h1 h2 h3=>?_)
  obtain ⟨pl3,c3,T3,hm3,ho3⟩:=g.rep.ob k o2 h1
  have h2:μ k=some pl2:=h2
  rw [h2] at hm3;cases hm3
  exact hw _ (lt_of_blk (ho3.blk h3))
 ·obtain ⟨q1,q2,q3,_⟩:=g.mx.blk h hb
  grind
theorem Good.allocStab {E:Env} {σ:Sto} {S:Nat→Prop} {μ:Mu} {w:World} (g:Good E σ S μ w) (o:Obj) :
  Ext w S μ (w.alloc o) (fun b=>S b∨b=w.heap.size) μ∧Good E σ (fun b=>S b∨b=w.heap.size) μ (w.alloc o):=by
 have e:Ext w S μ (w.alloc o) (fun b=>S b∨b=w.heap.size) μ :=
  ⟨by simp,fun _ h=>.inl h,fun b hb=>heap_push_lt (g.S1 b hb),fun k pl h=>h⟩
 refine ⟨e,⟨⟨g.fr.os,g.fr.tape,g.fr.output,by have:=g.fr.size;simp;omega,fun b hb hf=>(heap_push_lt (Nat.lt_of_lt_of_le hb g.fr.size)).trans (g.fr.blk b hb hf)⟩,
  fun b h=>.inl (g.S0 b h),fun b hb=>?_,fun b hb=>?_,⟨?_,g.rep.ne⟩,g.own,g.mu0,g.mxStab (fun _ h=>heap_push_lt h) (fun _ h=>.inl h) (fun b h=>h.elim .inl (fun h=>.inr (Nat.le_of_eq h.symm)))⟩⟩
 ·rcases hb with hb | hb
  ·have:=g.S1 b hb;simp;omega
  ·simp;omega
 ·rcases hb with hb | hb
  ·exact g.S2 b hb
  ·exact .inr (hb ▸ g.fr.size)
 ·intro k x hx
  obtain ⟨pl,c',T',hm',ho⟩:=g.rep.ob k x hx
  exact ⟨pl,c',T',hm',ho.ext e (fun hc=>heap_push_lt (lt_of_blk (ho.blk hc))) (fun hc h=>h.elim (ho.out hc) (by have:=lt_of_blk (ho.blk hc);omega))⟩
theorem Good.drew {E:Env} {σ:Sto} {S:Nat→Prop} {μ:Mu} {w:World} (g:Good E σ S μ w):Good E σ S μ w.drew :=
 ⟨⟨g.fr.os,g.fr.tape,g.fr.output,g.fr.size,g.fr.blk⟩,g.S0,g.S1,g.S2,
  ⟨fun k o h=>let ⟨pl,c,T,hm,ho⟩:=g.rep.ob k o h
   ⟨pl,c,T,hm,ho.ext (w':=w.drew) ⟨Nat.le_refl _,fun _ h=>h,fun _ _=>rfl,fun _ _ h=>h⟩ (fun _=>rfl) ho.out⟩,g.rep.ne⟩,g.own,g.mu0,g.mxStab (w':=w.drew) (fun _ _=>rfl) (fun _ h=>h) (fun _ h=>.inl h)⟩
theorem Ext.drew (w:World) (S:Nat→Prop) (μ:Mu):Ext w S μ w.drew S μ:=⟨Nat.le_refl _,fun _ h=>h,fun _ _=>rfl,fun _ _ h=>h⟩
theorem Good.del {E:Env} {σ:Sto} {S:Nat→Prop} {μ:Mu} {w:World} (g:Good E σ S μ w) (k:Nat):Good E (sdel σ k) S μ w:=by
 have hs:∀ n o,sget (sdel σ k) n=some o→sget σ n=some o:=fun n o h=>by
  grind [sget_sdel]
 exact ⟨g.fr,g.S0,g.S1,g.S2,⟨fun n o h=>g.rep.ob n o (hs n o h),fun k k' o o' pl pl' hne h h'=>g.rep.ne k k' o o' pl pl' hne (hs _ _ h) (hs _ _ h')⟩,
  fun k o pl h=>g.own k o pl (hs _ _ h),g.mu0,g.mx.tr id (fun k i x v ⟨o,pl,h1,h2⟩=>⟨o,pl,hs _ _ h1,h2⟩) (fun _ _ _ _ _ _ _ _ _ _ h=>h) (fun _ h=>h) (fun _ _=>rfl)
   (fun k i x v b _ h hb=>⟨rfl,(g.mx.blk h hb).2.1,fun h=>h⟩) (fun k o pl h1 h2 h3=>.inl ⟨k,o,pl,hs _ _ h1,h2,h3,rfl⟩)⟩
theorem Good.mxW {E:Env} {σ:Sto} {S:Nat→Prop} {μ:Mu} {w w':World} (g:Good E σ S μ w) {k:Nat} {o:Ob} (hs:sget σ k=some o) {pl:Place} (hm:μ k=some pl) (hcp:0 < pl.cap) (hS:¬ S pl.blk)
  (hsame:∀ b,b≠pl.blk→w'.heap[b]?=w.heap[b]?) (o':Ob) (hrow:∀ i x,rowOf o' i=some x→rowOf o i=some x∧∀ v,w'.cell? ⟨pl.blk,i * pl.sz,none⟩=some v→w.cell? ⟨pl.blk,i * pl.sz,none⟩=some v) :
  MX E.fp E.w0.heap.size w' S μ (sset σ k o'):=by
 refine g.mx.tr id (fun n i x v h=>?_) (fun _ _ _ _ _ _ _ _ _ _ h=>h) (fun _ h=>h) (fun b hb=>hsame b fun e=>hS (e ▸ hb)) (fun n i x v b _ h hb=>?_) (fun n o2 pl2 h1 h2 h3=>?_)
 ·by_cases hkn:k=n
  ·subst hkn
   obtain ⟨o2,pl2,h1,h2,h3,h4⟩:=h
   rw [sget_sset,if_pos rfl] at h1;cases h1
   rw [hm] at h3;cases h3
   obtain ⟨q1,q2⟩:=hrow i x h2
   exact ⟨o,pl,hs,q1,hm,q2 v h4⟩
  ·obtain ⟨o3,h3,h4⟩:=h.ob
   rw [sget_sset,if_neg hkn] at h3
   refine h.old g.rep (fun o2 h1=>⟨o3,h3,h4⟩) (fun pl2 h2=>h2) (fun o2 pl2 h1 h2 h3=>?_)
   exact hsame _ (g.rep.ne n k o2 o pl2 pl (fun h=>hkn h.symm) h1 hs h2 hm h3 hcp)
 ·obtain ⟨q1,q2,q3,_⟩:=g.mx.blk h hb
  exact ⟨hsame b fun e=>g.mx.obj _ _ _ _ _ h hb k o pl hs hm hcp e.symm,q2,fun h=>h⟩
 ·rw [sget_sset] at h1
  grind
theorem Good.write {E:Env} {σ:Sto} {S:Nat→Prop} {μ:Mu} {w:World} (g:Good E σ S μ w) {k:Nat} {o:Ob} (hs:sget σ k=some o) {pl:Place} {c:Array Value} {T:TypeId}
  (hm:μ k=some pl) (hcp:0 < pl.cap) (ho:ObRep w S μ o pl c T) (hsz0:o.sz≠0) (o':Ob) (c':Array Value) (hsz:o'.sz=o.sz) (hc:c'.size=c.size) (hlen:o'.len≤pl.cap)
  (hels:∀ i,i < o'.len→(o'.get i).length=o'.sz)
  (hrep:∀ i j x v,i < o'.len→(o'.get i)[j]?=some x→c'[i * o'.sz+j]?=some v→RepX w S (if o'.pr then noMu else μ) v x)
  (hrow:∀ i x,rowOf o' i=some x→rowOf o i=some x∧c'[i * o.sz]?=c[i * o.sz]?) :
  Ext w S μ (w.setRow pl.blk c') S μ∧Good E (sset σ k o') S μ (w.setRow pl.blk c'):=by
 have hsame:∀ b,b≠pl.blk→(w.setRow pl.blk c').heap[b]?=w.heap[b]?:=fun b hb=>by
  simp only [World.setRow,Array.getElem?_modify]
  grind
 have e:Ext w S μ (w.setRow pl.blk c') S μ :=
  ⟨by simp,fun _ h=>h,fun b hb=>hsame b fun h=>ho.out hcp (h ▸ hb),fun _ _ h=>h⟩
 refine ⟨e,⟨⟨g.fr.os,g.fr.tape,g.fr.output,by have:=g.fr.size;simpa using this,fun b hb hf=>?_⟩,g.S0,fun b hb=>by simpa using g.S1 b hb,g.S2,⟨?_,?_⟩,?_,g.mu0,?_⟩⟩
 rotate_right
 ·refine g.mxW hs hm hcp (ho.out hcp) hsame o' fun i x hx=>⟨(hrow i x hx).1,fun v hv=>?_⟩
  have h1:=ho.blk hcp
  rw [blkObj_row hsz0] at h1
  rw [cell_of_row _ _ _ _ _ _ (setRow_heap w _ c c' T (0,0) h1),ho.sz,(hrow i x hx).2] at hv
  rw [cell_of_row _ _ _ _ _ _ h1,ho.sz]
  exact hv
 ·rw [hsame b,g.fr.blk b hb hf]
  rintro rfl
  rcases g.own k o pl hs hm hcp with h | h
  ·exact hf h
  ·omega
 ·intro n x hx
  rw [sget_sset] at hx
  by_cases hkn:k=n
  ·rw [if_pos hkn] at hx
   cases hx
   refine ⟨pl,c',T,hkn ▸ hm,ho.sz.trans hsz.symm,fun _=>(setRow_heap w _ c c' T (0,0) ((ho.blk hcp).trans (by rw [blkObj_row hsz0]))).trans (by rw [blkObj_row (by rw [hsz];exact hsz0)]),?_,hlen,ho.out,hels,?_,fun h=>absurd (hsz ▸ h) hsz0⟩
   ·rw [hsz,hc];exact ho.cap
   ·intro i j x v hi hx hv
    refine (hrep i j x v hi hx hv).mono e.stab e.blk ?_
    cases o'.pr
    ·exact e.mu
    ·exact fun _ _ h=>h
  ·rw [if_neg hkn] at hx
   obtain ⟨pl2,c2,T2,hm2,ho2⟩:=g.rep.ob n x hx
   exact ⟨pl2,c2,T2,hm2,ho2.ext e (fun hc=>hsame _ (g.rep.ne n k x o pl2 pl (fun h=>hkn h.symm) hx hs hm2 hm hc hcp)) ho2.out⟩
 ·intro n n' x x' p p' hne hx hx' hp hp' hc1 hc2
  rw [sget_sset] at hx hx'
  have f:∀ {n x},(if k=n then some o' else sget σ n)=some x→∃ y,sget σ n=some y:=fun {n x} h=>by
   split at h
   ·rename_i hh;exact ⟨o,hh ▸ hs⟩
   ·exact ⟨_,h⟩
  obtain ⟨y,hy⟩:=f hx
  obtain ⟨y',hy'⟩:=f hx'
  exact g.rep.ne n n' y y' p p' hne hy hy' hp hp' hc1 hc2
 ·intro n x p hx hp hc
  rw [sget_sset] at hx
  split at hx
  ·rename_i hh;subst hh;exact g.own _ o p hs hp hc
  ·exact g.own n x p hx hp hc
theorem Good.writeAt {E:Env} {σ:Sto} {S:Nat→Prop} {μ:Mu} {w w':World} (g:Good E σ S μ w) {k:Nat} {o:Ob} (hs:sget σ k=some o) {pl:Place} {c:Array Value} {T:TypeId}
  (hm:μ k=some pl) (hcp:0 < pl.cap) (ho:ObRep w S μ o pl c T) (h1:w'.os=w.os) (h2:w'.tape=w.tape) (h3:w'.output=w.output) (h4:w'.heap.size=w.heap.size) (hsame:∀ b,b≠pl.blk→w'.heap[b]?=w.heap[b]?)
  (o':Ob) (hnr:∀ i,rowOf o' i=none) (hnew:Ext w S μ w' S μ→∃ c' T',ObRep w' S μ o' pl c' T'):Ext w S μ w' S μ∧Good E (sset σ k o') S μ w':=by
 have e:Ext w S μ w' S μ:=⟨by omega,fun _ h=>h,fun b hb=>hsame b fun h=>ho.out hcp (h ▸ hb),fun _ _ h=>h⟩
 refine ⟨e,⟨⟨h1.trans g.fr.os,h2.trans g.fr.tape,h3.trans g.fr.output,by have:=g.fr.size;omega,fun b hb hf=>?_⟩,g.S0,fun b hb=>by rw [h4];exact g.S1 b hb,g.S2,⟨?_,?_⟩,?_,g.mu0,g.mxW hs hm hcp (ho.out hcp) hsame o' fun i x hx=>by rw [hnr] at hx;cases hx⟩⟩
 ·rw [hsame b,g.fr.blk b hb hf]
  rintro rfl
  rcases g.own k o pl hs hm hcp with h | h
  ·exact hf h
  ·omega
 ·intro n x hx
  rw [sget_sset] at hx
  by_cases hkn:k=n
  ·simp_all
  ·rw [if_neg hkn] at hx
   obtain ⟨pl2,c2,T2,hm2,ho2⟩:=g.rep.ob n x hx
   exact ⟨pl2,c2,T2,hm2,ho2.ext e (fun hc=>hsame _ (g.rep.ne n k x o pl2 pl (fun h=>hkn h.symm) hx hs hm2 hm hc hcp)) ho2.out⟩
 ·intro n n' x x' p p' hne hx hx' hp hp' hc1 hc2
  rw [sget_sset] at hx hx'
  have f:∀ {n x},(if k=n then some o' else sget σ n)=some x→∃ y,sget σ n=some y:=fun {n x} h=>by
   grind
  obtain ⟨y,hy⟩:=f hx
  obtain ⟨y',hy'⟩:=f hx'
  exact g.rep.ne n n' y y' p p' hne hy hy' hp hp' hc1 hc2
 ·intro n x p hx hp hc
  rw [sget_sset] at hx
  split at hx
  ·rename_i hh;subst hh;exact g.own _ o p hs hp hc
  ·exact g.own n x p hx hp hc
theorem Good.allocMap {E:Env} {σ:Sto} {S:Nat→Prop} {μ:Mu} {w:World} (g:Good E σ S μ w) {nk:Nat} (hk:μ nk=none) (hm:E.m0≤nk) :
  Ext w S μ (w.alloc (.map #[] 0)) S (muSet μ nk ⟨w.heap.size,1,0⟩)∧Good E (sset σ nk ⟨false,0,0,true,fun _=>[]⟩) S (muSet μ nk ⟨w.heap.size,1,0⟩) (w.alloc (.map #[] 0)):=by
 have hold:∀ b,b < w.heap.size→(w.alloc (.map #[] 0)).heap[b]?=w.heap[b]?:=fun b h=>heap_push_lt h
 have e:Ext w S μ (w.alloc (.map #[] 0)) S (muSet μ nk ⟨w.heap.size,1,0⟩) :=
  ⟨by simp,fun _ h=>h,fun b hb=>hold b (g.S1 b hb),fun k pl h=>by
   grind [muSet]⟩
 have lt:∀ {k x pl},sget σ k=some x→μ k=some pl→0 < pl.cap→pl.blk < w.heap.size:=fun {k x pl} hx hp hc=>by
  obtain ⟨pl2,c',T',hm',ho⟩:=g.rep.ob k x hx
  rw [hp] at hm';cases hm';exact lt_of_blk (ho.blk hc)
 refine ⟨e,⟨⟨g.fr.os,g.fr.tape,g.fr.output,by have:=g.fr.size;simp;omega,fun b hb hf=>(hold b (Nat.lt_of_lt_of_le hb g.fr.size)).trans (g.fr.blk b hb hf)⟩,
  g.S0,fun b hb=>by have:=g.S1 b hb;simp;omega,g.S2,⟨?_,?_⟩,?_,fun k hk'=>?_,g.mxNew hk _ _ (fun _=>Nat.le_refl _) (fun i=>rfl) hold (fun _ h=>h) (fun _ h=>.inl h)⟩⟩
 ·intro k x hx
  rw [sget_sset] at hx
  by_cases hkn:nk=k
  ·rw [if_pos hkn] at hx
   cases hx
   refine ⟨⟨w.heap.size,1,0⟩,#[],0,by simp [muSet,hkn],rfl,fun _=>(heap_alloc_new w _).trans (by simp [blkObj,entsOf]),by simp,by simp,fun _ hS=>Nat.lt_irrefl _ (g.S1 _ hS),fun i hi=>absurd hi (Nat.not_lt_zero _),fun i j x v hi=>absurd hi (Nat.not_lt_zero _),fun _=>⟨Nat.one_pos,rfl,rfl,rfl,fun j x v hx=>by simp at hx⟩⟩
  ·rw [if_neg hkn] at hx
   obtain ⟨pl,c',T',hm',ho⟩:=g.rep.ob k x hx
   exact ⟨pl,c',T',e.mu _ _ hm',ho.ext e (fun hc=>hold _ (lt_of_blk (ho.blk hc))) ho.out⟩
 ·intro k k' x x' pl pl' hne hx hx' hp hp' hc1 hc2
  rw [sget_sset] at hx hx'
  simp only [muSet] at hp hp'
  by_cases h1:nk=k
  ·grind
  ·rw [if_neg h1] at hx
   rw [if_neg (fun h=>h1 h.symm)] at hp
   by_cases h2:nk=k'
   ·grind
   ·rw [if_neg h2] at hx'
    rw [if_neg (fun h=>h2 h.symm)] at hp'
    exact g.rep.ne k k' x x' pl pl' hne hx hx' hp hp' hc1 hc2
 ·intro k x pl hx hp hc
  rw [sget_sset] at hx
  simp only [muSet] at hp
  by_cases h1:nk=k
  ·rw [if_pos h1.symm] at hp
   cases hp
   exact .inr g.fr.size
  ·rw [if_neg h1] at hx
   rw [if_neg (fun h=>h1 h.symm)] at hp
   exact g.own k x pl hx hp hc
 ·simp only [muSet]
  rw [if_neg (by omega)]
  exact g.mu0 k hk'
end Go.Ab
namespace Go.Ab
def AllP:List Prop→Prop
 | []=>True
 | p :: ps=>p∧AllP ps
theorem AllP.app {a b:List Prop} (h:AllP (a ++ b)):AllP a∧AllP b:=by
 induction a with
 | nil=>exact ⟨trivial,h⟩
 | cons p ps ih=>exact ⟨⟨h.1,(ih h.2).1⟩,(ih h.2).2⟩
def AV.strip:AV→AV×List Prop
 | .when b x=>(x.strip.1,(b=true) :: x.strip.2)
 | x=>(x,[])
theorem RepX.strip {w:World} {S:Nat→Prop} {μ:Mu} {v:Value} {x:AV} (h:RepX w S μ v x):AllP x.strip.2→RepX w S μ v x.strip.1:=by
 induction h with
 | when h1 _ ih=>exact fun hp=>ih hp.1 hp.2
 | atom v=>exact fun _=>.atom v
 | agg h1 h2 _=>exact fun _=>.agg h1 h2
 | tup h1 h2 _=>exact fun _=>.tup h1 h2
 | sl b off sz f h1 h2 h3 h4 h5 _=>exact fun _=>.sl b off sz f h1 h2 h3 h4 h5
 | rp b o f h1 h2 h3 _=>exact fun _=>.rp b o f h1 h2 h3
 | op pl h=>exact fun _=>.op pl h
 | os pl h h1 h2 h3=>exact fun _=>.os pl h h1 h2 h3
 | fn h1 h2 h3 h4 _ _=>exact fun _=>.fn h1 h2 h3 h4
 | mp pl h=>exact fun _=>.mp pl h
 | bn b h=>exact fun _=>.bn b h
 | pt h1 h2 _=>exact fun _=>.pt h1 h2
 | ov pl h h1=>exact fun _=>.ov pl h h1
 | osf pl h h1 h2=>exact fun _=>.osf pl h h1 h2
 | nq h h1 h2 _=>exact fun _=>.nq h h1 h2
 | nil=>exact fun _=>.nil
 | unk=>exact fun _=>.unk
 | mr=>exact fun _=>.mr
def AV.one:AV→Bool
 | .atom v=>match v with
  | .agg _ | .tuple _=>false
  | _=>true
 | .sl _ _ | .rp _ _ | .op _ _ _ | .os _ _ _ | .fn _ _ _ | .mp _ | .bn _ | .pt _ _ | .nil=>true
 | .nq _ x=>x.one
 | _=>false
theorem RepX.oneCell {w:World} {S:Nat→Prop} {μ:Mu} {v:Value} {x:AV} (h:RepX w S μ v x) (hx:x.one=true):v.oneCell'=true:=by
 induction h with
 | atom v=>cases v<;>simp_all [AV.one,Value.oneCell']
 | nq _ _ _ ih=>grind [AV.one]
 | @pt μ b cs v h1 h2 _ =>
  cases b with
  | false=>rw [h2 rfl];rfl
  | true=>have:=h1 rfl;cases this;rfl
 | _=>first | rfl | (simp [AV.one] at hx;done)
def AV.oneL:List AV→Bool
 | []=>true
 | c :: cs=>c.one && AV.oneL cs
theorem oneL_get {cs:List AV} (h:AV.oneL cs=true) {j:Nat} {c:AV} (hc:cs[j]?=some c):c.one=true:=by
 induction cs generalizing j with
 | nil=>simp at hc
 | cons x xs ih =>
  simp only [AV.oneL,Bool.and_eq_true] at h
  grind
def AV.cells:AV→Option (List AV)
 | .agg cs=>some cs
 | .atom v=>match v with
  | .agg _ | .tuple _=>none
  | v=>some [.atom v]
 | .sl n g=>some [.sl n g]
 | .rp c o=>some [.rp c o]
 | .op k i j=>some [.op k i j]
 | .os k o n=>some [.os k o n]
 | .fn f a b=>some [.fn f a b]
 | .mp k=>some [.mp k]
 | .bn n=>some [.bn n]
 | .pt b cs=>some [.pt b cs]
 | .nq st x=>match x.one with
  | true=>some [.nq st x]
  | false=>none
 | .nil=>some [.nil]
 | _=>none
theorem cells_one {v:Value} (h:v.oneCell'=true):v.cells=#[v]:=by
 cases v<;>simp_all [Value.oneCell',Value.cells]
theorem RepX.cells {w:World} {S:Nat→Prop} {μ:Mu} {v:Value} {x:AV} (h:RepX w S μ v x) {cs:List AV} (hc:x.cells=some cs) :
  v.cells.size=cs.length∧∀ (j:Nat) (c:AV) (u:Value),cs[j]?=some c→v.cells[j]?=some u→RepX w S μ u c:=by
 have one:∀ {x:AV},RepX w S μ v x→x.one=true→cs=[x]→v.cells.size=cs.length∧∀ (j:Nat) (c:AV) (u:Value),cs[j]?=some c→v.cells[j]?=some u→RepX w S μ u c:=by
  intro x h h1 h2
  rw [cells_one (h.oneCell h1),h2]
  refine ⟨rfl,?_⟩
  intro j c u hj hu
  cases j with
  | zero=>simp_all
  | succ j=>simp at hj
 cases x with
 | agg l =>
  cases hc
  cases h with
  | agg h1 h2=>exact ⟨h1,fun j c u hj hu=>h2 j c u hj hu⟩
 | atom u =>
  have hu:(AV.atom u).one=true:=by cases u<;>simp_all [AV.cells,AV.one]
  exact one h hu (by cases u<;>simp_all [AV.cells])
 | sl=>exact one h rfl (by grind [AV.cells])
 | rp=>exact one h rfl (by grind [AV.cells])
 | op=>exact one h rfl (by grind [AV.cells])
 | os=>exact one h rfl (by grind [AV.cells])
 | fn=>exact one h rfl (by grind [AV.cells])
 | mp=>exact one h rfl (by grind [AV.cells])
 | bn=>exact one h rfl (by grind [AV.cells])
 | pt=>exact one h rfl (by grind [AV.cells])
 | nq st x =>
  simp only [AV.cells] at hc
  split at hc
  ·rename_i h1;exact one h (by simpa [AV.one] using h1) (Option.some.inj hc).symm
  ·cases hc
 | nil=>exact one h rfl (by grind [AV.cells])
 | _=>simp [AV.cells] at hc
def ofConst1:Value→AV
 | .slice none 0 0=>.nil
 | .func f vs ws=>if vs.size=0∧ws.size=0 then .fn f [] [] else .atom (.func f vs ws)
 | v=>.atom v
def ofConst:Value→AV
 | .agg vs=>.agg (vs.toList.map ofConst1)
 | .tuple vs=>.tup (vs.toList.map ofConst1)
 | v=>ofConst1 v
theorem rep_const1 (w:World) (S:Nat→Prop) (μ:Mu) (v:Value):RepX w S μ v (ofConst1 v):=by
 unfold ofConst1
 split
 ·exact .nil
 ·split
  ·rename_i h
   exact .fn (by simpa using h.1) (by simpa using h.2) (fun j c v hc=>by simp at hc) (fun j c v hc=>by simp at hc)
  ·exact .atom _
 ·exact .atom _
theorem rep_const (w:World) (S:Nat→Prop) (μ:Mu) (v:Value):RepX w S μ v (ofConst v):=by
 have f:∀ (vs:Array Value) (j:Nat) (c:AV) (u:Value),(vs.toList.map ofConst1)[j]?=some c→vs[j]?=some u→RepX w S μ u c:=by
  intro vs j c u hc hu
  have hu':vs.toList[j]?=some u:=by simpa using hu
  rw [List.getElem?_map,hu'] at hc
  simp at hc
  exact hc ▸ rep_const1 w S μ u
 unfold ofConst
 split
 ·exact .agg (by simp) (f _)
 ·exact .tup (by simp) (f _)
 ·exact rep_const1 w S μ _
def tSz (P:Program) (t:TypeId):Option Nat:=(P.info? t).map (·.size)
def tBytes (P:Program) (t:TypeId):Option Nat:=(P.info? t).map (·.bytes)
def tZero (P:Program) (t:TypeId):Option Value:=(P.info? t).bind (·.zero)
theorem run_sizeOf' {P:Program} {t n:Nat} (h:tSz P t=some n) (w:World):(sizeOf t).run P w=.ok n w:=by
 unfold tSz at h
 cases hi:P.info? t with
 | none=>simp [hi] at h
 | some i=>simp_all [sizeOf,typeInfo]
theorem run_zero' {P:Program} {t:Nat} {z:Value} (h:tZero P t=some z) (w:World):(zeroValue t).run P w=.ok z w:=by
 unfold tZero at h
 cases hi:P.info? t with
 | none=>simp [hi] at h
 | some i=>simp_all [zeroValue,typeInfo]
theorem info_of {P:Program} {t n b:Nat} {z:Value} (h:tSz P t=some n) (hb:tBytes P t=some b) (hz:tZero P t=some z) :
  ∃ i,P.info? t=some i∧i.size=n∧i.bytes=b∧i.zero=some z:=by
 unfold tSz at h;unfold tBytes at hb;unfold tZero at hz
 cases hi:P.info? t with
 | none=>simp [hi] at h
 | some i=>simp_all
def evInt (op:BinOp) (k:IntKind) (a b:Int):Option (List Prop×AV) :=
 match op with
 | .add=>some ([],.atom (.int k (k.wrap (a+b))))
 | .sub=>some ([],.atom (.int k (k.wrap (a - b))))
 | .mul=>some ([],.atom (.int k (k.wrap (a * b))))
 | .quo=>some ([b≠0],.atom (.int k (k.wrap (a.tdiv b))))
 | .rem=>some ([b≠0],.atom (.int k (a.tmod b)))
 | .and=>some ([],.atom (.int k (k.wrap (BitVec.ofInt k.bits a &&& BitVec.ofInt k.bits b).toNat)))
 | .or=>some ([],.atom (.int k (k.wrap (BitVec.ofInt k.bits a ||| BitVec.ofInt k.bits b).toNat)))
 | .xor=>some ([],.atom (.int k (k.wrap (BitVec.ofInt k.bits a ^^^ BitVec.ofInt k.bits b).toNat)))
 | .andNot=>some ([],.atom (.int k (k.wrap (BitVec.ofInt k.bits a &&& ~~~BitVec.ofInt k.bits b).toNat)))
 | .eql=>some ([],.atom (.bool (a == b)))
 | .neq=>some ([],.atom (.bool (a != b)))
 | .lss=>some ([],.atom (.bool (decide (a < b))))
 | .leq=>some ([],.atom (.bool (decide (a≤b))))
 | .gtr=>some ([],.atom (.bool (decide (a > b))))
 | .geq=>some ([],.atom (.bool (decide (a≥b))))
 | _=>none
def evShift (op:BinOp) (k:IntKind) (a b:Int):Option (List Prop×AV) :=
 match op with
 | .shl=>some ([0≤b],.atom (.int k (k.wrap (a * 2 ^ (min b.toNat k.bits)))))
 | .shr=>some ([0≤b],.atom (.int k (a.fdiv (2 ^ (min b.toNat k.bits)))))
 | _=>none
def streq (a b:ByteArray):Bool:=a.toList == b.toList
def evStr (op:BinOp) (a b:ByteArray):Option (List Prop×AV) :=
 match op with
 | .eql=>some ([],.atom (.bool (streq a b)))
 | .neq=>some ([],.atom (.bool (!streq a b)))
 | .lss=>some ([],.atom (.bool (Op.bytesLess a.toList b.toList)))
 | .leq=>some ([],.atom (.bool (Op.bytesLess a.toList b.toList || streq a b)))
 | .gtr=>some ([],.atom (.bool (!(Op.bytesLess a.toList b.toList || streq a b))))
 | .geq=>some ([],.atom (.bool (!Op.bytesLess a.toList b.toList)))
 | .add=>some ([((a.size+b.size:Nat):Int)≤IntKind.i64.max],.atom (.string (a ++ b)))
 | _=>none
def cellPart (P:Program) (t:TypeId) (cs:List AV) (off:Nat):Option AV :=
 match P.underlying t,tSz P t with
 | some d,some n=>match d.isRow with
  | true=>some (.agg ((cs.drop off).take n))
  | false=>cs[off]?
 | _,_=>none
theorem sat_stuck_part {P:Program} {w:World} {S:Nat→Prop} {μ:Mu} {vs:Array Value} {cs:List AV} (hs:vs.size=cs.length)
  (h:∀ (j:Nat) (c:AV) (v:Value),cs[j]?=some c→vs[j]?=some v→RepX w S μ v c) {t off:Nat} {x:AV} (hx:cellPart P t cs off=some x)
  (hle:∀ n,tSz P t=some n→off+n≤cs.length) :
  ∃ v,(part t vs off).run P w=.ok v w∧RepX w S μ v x:=by
 unfold cellPart at hx
 cases hu:P.underlying t with
 | none=>simp [hu] at hx
 | some d =>
  cases hn:tSz P t with
  | none=>simp [hu,hn] at hx
  | some n =>
   have hle':=hle n hn
   cases hd:d.isRow with
   | true =>
    simp [hu,hn,hd] at hx
    have hagg:(isAgg t).run P w=.ok true w:=by
     unfold isAgg
     rw [Sem.run_bind,run_underlying hu w]
     cases d<;>simp_all
    refine ⟨.agg (vs.extract off (off+n)),by simp [part,hagg,run_sizeOf' hn],?_⟩
    rw [← hx]
    refine .agg (by simp;omega) ?_
    grind
   | false =>
    simp [hu,hn,hd] at hx
    have hagg:(isAgg t).run P w=.ok false w:=by
     unfold isAgg
     rw [Sem.run_bind,run_underlying hu w]
     cases d<;>simp_all
    have hlt:off < vs.size:=by rw [hs];exact (List.getElem?_eq_some_iff.1 hx).1
    refine ⟨vs[off],by simp [part,hagg,Array.getElem?_eq_getElem hlt],?_⟩
    exact h off x _ hx (Array.getElem?_eq_getElem hlt)
mutual
def evEq (P:Program):Nat→TypeId→AV→AV→Option Bool
 | 0,_,_,_=>none
 | d+1,t,x,y =>
  match P.underlying t with
  | some .bool=>match x,y with
   | .atom (.bool a),.atom (.bool b)=>some (a == b)
   | _,_=>none
  | some (.int _)=>match x,y with
   | .atom (.int k a),.atom (.int k' b)=>match decide (k=k') with
    | true=>some (a == b)
    | false=>none
   | _,_=>none
  | some .string=>match x,y with
   | .atom (.string a),.atom (.string b)=>some (streq a b)
   | _,_=>none
  | some (.struct fs)=>match x,y with
   | .agg xs,.agg ys=>match P.stoodInHeld t with
    | false=>evEqF P d xs ys fs.toList
    | true=>none
   | _,_=>none
  | some (.array n e)=>match x,y,tSz P e with
   | .agg xs,.agg ys,some m=>evEqA P d e m xs ys 0 n
   | _,_,_=>none
  | _=>none
def evEqF (P:Program):Nat→List AV→List AV→List Field→Option Bool
 | _,_,_,[]=>some true
 | 0,_,_,_=>none
 | d+1,xs,ys,f :: fs =>
  match decide (f.name = "_"),tSz P f.type with
  | false,some n=>match Nat.ble (f.offset+n) xs.length && Nat.ble (f.offset+n) ys.length,cellPart P f.type xs f.offset,cellPart P f.type ys f.offset with
   | true,some a,some b=>match evEq P d f.type a b,evEqF P d xs ys fs with
    | some p,some q=>some (p && q)
    | _,_=>none
   | _,_,_=>none
  | _,_=>none
def evEqA (P:Program):Nat→TypeId→Nat→List AV→List AV→Nat→Nat→Option Bool
 | _,_,_,_,_,_,0=>some true
 | 0,_,_,_,_,_,_=>none
 | d+1,e,m,xs,ys,i,n+1 =>
  match Nat.ble (i * m+m) xs.length && Nat.ble (i * m+m) ys.length,cellPart P e xs (i * m),cellPart P e ys (i * m) with
  | true,some a,some b=>match evEq P d e a b,evEqA P d e m xs ys (i+1) n with
   | some p,some q=>some (p && q)
   | _,_=>none
  | _,_,_=>none
end
end Go.Ab
namespace Go.Ab
theorem rep_int {w:World} {S:Nat→Prop} {μ:Mu} {v u:Value} (h:RepX w S μ v (.atom u)):v=u:=by cases h;rfl
theorem rep_agg {w:World} {S:Nat→Prop} {μ:Mu} {v:Value} {cs:List AV} (h:RepX w S μ v (.agg cs)) :
  ∃ vs:Array Value,v=.agg vs∧vs.size=cs.length∧∀ (j:Nat) (c:AV) (u:Value),cs[j]?=some c→vs[j]?=some u→RepX w S μ u c:=by
 cases h with
 | agg h1 h2=>grind
section
variable {P:Program} {w:World} {S:Nat→Prop} {μ:Mu}
theorem fieldsOf_of {t:TypeId} {fs:Array Field} (h:P.underlying t=some (.struct fs)):P.fieldsOf t=fs:=by
 simp [Program.fieldsOf,h]
theorem ev_eq:∀ d:Nat,
  (∀ D t x y v u b,d≤D→RepX w S μ v x→RepX w S μ u y→evEq P d t x y=some b→(Op.equalIn D t v u).run P w=.ok b w) ∧
  (∀ D (vs us:Array Value) xs ys fs b,d≤D→vs.size=xs.length→(∀ (j:Nat) c z,xs[j]?=some c→vs[j]?=some z→RepX w S μ z c)→us.size=ys.length →
   (∀ (j:Nat) c z,ys[j]?=some c→us[j]?=some z→RepX w S μ z c)→evEqF P d xs ys fs=some b→(Op.eqFields D vs us fs).run P w=.ok b w) ∧
  (∀ D (vs us:Array Value) e m xs ys i n b,d≤D→tSz P e=some m→vs.size=xs.length→(∀ (j:Nat) c z,xs[j]?=some c→vs[j]?=some z→RepX w S μ z c)→us.size=ys.length →
   (∀ (j:Nat) c z,ys[j]?=some c→us[j]?=some z→RepX w S μ z c)→evEqA P d e m xs ys i n=some b →
   (forIn (m:=Sem) (List.range' i n) ((none,()):Option Bool×Unit) fun i _=>do
      let p ← part e vs (i * m)
      let q ← part e us (i * m)
      let r ← Op.equalIn D e p q
      if (!r)=true then pure (ForInStep.done (some false,())) else pure (ForInStep.yield (none,()))).run P w=.ok (if b then none else some false,()) w):=by
 intro d
 induction d with
 | zero =>
  refine ⟨fun D t x y v u b _ _ _ h=>by simp [evEq] at h,?_,?_⟩
  ·intro D vs us xs ys fs b _ _ _ _ _ h
   cases fs with
   | nil=>simp_all [evEqF,Op.eqFields]
   | cons f fs=>simp [evEqF] at h
  ·intro D vs us e m xs ys i n b _ _ _ _ _ _ h
   cases n with
   | zero=>simp_all [evEqA]
   | succ n=>simp [evEqA] at h
 | succ d ih =>
  obtain ⟨ih1,ih2,ih3⟩:=ih
  refine ⟨?_,?_,?_⟩
  ·intro D t x y v u b hD hx hy h
   obtain ⟨D,rfl⟩:∃ D',D=D'+1:=⟨D - 1,by omega⟩
   simp only [evEq] at h
   split at h
   ·rename_i hu
    split at h
    ·cases hx;cases hy
     simp at h;subst h
     simp [Op.equalIn,run_underlying hu]
    ·cases h
   ·rename_i hu
    split at h
    ·rename_i k a k' b'
     cases hx;cases hy
     by_cases hk:k=k'
     ·simp [hk] at h;subst h
      simp [Op.equalIn,run_underlying hu,hk]
     ·simp [hk] at h
    ·cases h
   ·rename_i hu
    split at h
    ·cases hx;cases hy
     simp at h;subst h
     rw [run_equalIn_string w D t _ _ hu];rfl
    ·cases h
   ·rename_i fs hu
    split at h
    ·split at h
     ·rename_i hst
      obtain ⟨vs,rfl,hv1,hv2⟩:=rep_agg hx
      obtain ⟨us,rfl,hu1,hu2⟩:=rep_agg hy
      have hf:=fieldsOf_of hu
      rw [run_equalIn_struct w D t vs us (hf ▸ hu) hst,hf]
      exact ih2 D vs us _ _ _ b (by omega) hv1 hv2 hu1 hu2 h
     ·cases h
    ·cases h
   ·rename_i n e hu
    split at h
    ·rename_i m hm
     obtain ⟨vs,rfl,hv1,hv2⟩:=rep_agg hx
     obtain ⟨us,rfl,hu1,hu2⟩:=rep_agg hy
     simp only [Op.equalIn,Sem.run_bind,run_underlying hu,Result.andThen_ok,run_sizeOf' hm]
     rw [Std.Legacy.Range.forIn_eq_forIn_range']
     simp only [Std.Legacy.Range.size,Nat.sub_zero,Nat.add_sub_cancel,Nat.div_one]
     rw [ih3 D vs us e m _ _ 0 n b (by omega) hm hv1 hv2 hu1 hu2 h]
     cases b<;>simp
    ·cases h
   ·cases h
  ·intro D vs us xs ys fs b hD hv1 hv2 hu1 hu2 h
   cases fs with
   | nil=>simp [evEqF] at h;subst h;simp [Op.eqFields]
   | cons f fs =>
    simp only [evEqF] at h
    split at h
    ·rename_i n hname hn
     split at h
     ·rename_i a c hle ha hc
      split at h
      ·rename_i p q hp hq
       simp only [Bool.and_eq_true,Nat.ble_eq] at hle
       have hle1:∀ n',tSz P f.type=some n'→f.offset+n'≤xs.length:=fun n' h'=>by rw [hn] at h';cases h';exact hle.1
       have hle2:∀ n',tSz P f.type=some n'→f.offset+n'≤ys.length:=fun n' h'=>by rw [hn] at h';cases h';exact hle.2
       obtain ⟨v1,r1,x1⟩:=sat_stuck_part hv1 hv2 ha hle1
       obtain ⟨v2,r2,x2⟩:=sat_stuck_part hu1 hu2 hc hle2
       have e1:=ih1 D f.type a c v1 v2 p (by omega) x1 x2 hp
       have e2:=ih2 D vs us xs ys fs q (by omega) hv1 hv2 hu1 hu2 hq
       have hne:f.name≠ "_":=of_decide_eq_false hname
       simp at h;subst h
       simp only [Op.eqFields,if_pos hne,Sem.run_bind,r1,r2,e1,Result.andThen_ok]
       cases p
       ·simp
       ·simp [e2]
      ·cases h
     ·cases h
    ·cases h
  ·intro D vs us e m xs ys i n b hD hm hv1 hv2 hu1 hu2 h
   cases n with
   | zero=>simp [evEqA] at h;subst h;simp
   | succ n =>
    simp only [evEqA] at h
    split at h
    ·rename_i a c hle ha hc
     split at h
     ·rename_i p q hp hq
      simp only [Bool.and_eq_true,Nat.ble_eq] at hle
      have hle1:∀ n',tSz P e=some n'→i * m+n'≤xs.length:=fun n' h'=>by rw [hm] at h';cases h';exact hle.1
      have hle2:∀ n',tSz P e=some n'→i * m+n'≤ys.length:=fun n' h'=>by rw [hm] at h';cases h';exact hle.2
      obtain ⟨v1,r1,x1⟩:=sat_stuck_part hv1 hv2 ha hle1
      obtain ⟨v2,r2,x2⟩:=sat_stuck_part hu1 hu2 hc hle2
      have e1:=ih1 D e a c v1 v2 p (by omega) x1 x2 hp
      have e2:=ih3 D vs us e m xs ys (i+1) n q (by omega) hm hv1 hv2 hu1 hu2 hq
      simp at h;subst h
      rw [List.range'_succ,List.forIn_cons]
      simp only [Sem.run_bind,r1,r2,e1,Result.andThen_ok]
      cases p
      ·simp
      ·simpa using e2
     ·cases h
    ·cases h
def nilB (o:BinOp) (q:Bool):Option AV :=
 match o with
 | .eql=>some (.atom (.bool q))
 | .neq=>some (.atom (.bool (!q)))
 | _=>none
def isNilP:AV→Bool
 | .atom v=>match v with
  | .pointer none=>true
  | _=>false
 | _=>false
def evNil (P:Program) (o:BinOp) (t:TypeId) (x y:AV):Option AV :=
 match P.underlying t,y with
 | some (.slice _),.nil=>match x with
  | .nil=>nilB o true
  | .sl n _ | .os _ _ n=>match o with
   | .eql=>some (.bn n)
   | _=>none
  | _=>none
 | some (.pointer _),y=>match isNilP y with
  | true=>match x with
   | .atom v=>match v with
    | .pointer none=>nilB o true
    | _=>none
   | .rp _ _ | .op _ _ _=>nilB o false
   | .pt b _=>nilB o (!b)
   | _=>none
  | false=>none
 | _,_=>none
theorem eqGuard_other (op:BinOp) (t:TypeId) (x y:Operand) (a b:Value) (h1:a≠.nilIface) (h2:∀ c,a≠.agg c):(eqGuard op t x y a b).run P w=.ok () w:=by
 simp_all [eqGuard]
theorem run_eqS {o:BinOp} {t:TypeId} {a b:Option Addr} {l c l' c':Nat} {q:Bool} (h:(Op.equal t (.slice a l c) (.slice b l' c')).run P w=.ok q w) {r:AV} (hr:nilB o q=some r):∃ z,(binOp o t (.slice a l c) (.slice b l' c')).run P w=.ok z w∧RepX w S μ z r:=by
 cases o<;>simp only [nilB,Option.some.injEq,reduceCtorEq] at hr<;>subst hr
 ·exact ⟨.bool q,by simp_all [binOp,Sem.run_bind],.atom _⟩
 ·exact ⟨.bool (!q),by simp_all [binOp,Sem.run_bind],.atom _⟩
theorem run_eqP {o:BinOp} {t:TypeId} {a:Option Addr} {q:Bool} (h:(Op.equal t (.pointer a) (.pointer none)).run P w=.ok q w) {r:AV} (hr:nilB o q=some r):∃ z,(binOp o t (.pointer a) (.pointer none)).run P w=.ok z w∧RepX w S μ z r:=by
 cases o<;>simp only [nilB,Option.some.injEq,reduceCtorEq] at hr<;>subst hr
 ·exact ⟨.bool q,by simp_all [binOp,Sem.run_bind],.atom _⟩
 ·exact ⟨.bool (!q),by simp_all [binOp,Sem.run_bind],.atom _⟩
theorem ev_nil {op:BinOp} {t:TypeId} {x y:AV} {xo yo:Operand} {v u:Value} (hx:RepX w S μ v x) (hy:RepX w S μ u y) {r:AV} (h:evNil P op t x y=some r) :
  ∃ z,(do eqGuard op t xo yo v u;binOp op t v u:Sem Value).run P w=.ok z w∧RepX w S μ z r:=by
 have gd:∀ (v u:Value),v≠.nilIface→(∀ c,v≠.agg c)→(∃ z,(binOp op t v u).run P w=.ok z w∧RepX w S μ z r)→∃ z,(do eqGuard op t xo yo v u;binOp op t v u:Sem Value).run P w=.ok z w∧RepX w S μ z r:=by
  intro v u h1 h2 h3
  have hg:=eqGuard_other (P:=P) (w:=w) op t xo yo v u h1 h2
  simpa only [Sem.run_bind,hg,Result.andThen_ok] using h3
 unfold evNil at h
 split at h
 ·rename_i e ht
  cases hy
  have sl:∀ (a:Option Addr) (l c:Nat),(Op.equal t (.slice a l c) (.slice none 0 0)).run P w=.ok a.isNone w:=by
   intro a l c
   unfold Op.equal Op.maxDepth Op.equalIn
   rw [Sem.run_bind,run_underlying ht]
   cases a<;>rfl
  split at h
  ·cases hx
   exact gd _ _ (by simp) (by simp) (run_eqS (sl none 0 0) h)
  ·split at h
   ·cases h
    cases hx with
    | sl b off sz f h1 h2 h3 h4 h5 =>
     rename_i a cap
     refine gd _ _ (by simp) (by simp) ⟨.bool a.isNone,?_,.bn _ fun hn=>?_⟩
     ·simp only [binOp,Sem.run_bind,sl];rfl
     ·refine Nat.eq_zero_of_not_pos fun h0=>?_
      rw [(h1 h0).1] at hn;cases hn
   ·cases h
  ·split at h
   ·cases h
    cases hx with
    | os pl hm h1 h2 h3 =>
     rename_i cap a
     refine gd _ _ (by simp) (by simp) ⟨.bool a.isNone,?_,.bn _ fun hn=>?_⟩
     ·simp only [binOp,Sem.run_bind,sl];rfl
     ·refine Nat.eq_zero_of_not_pos fun h0=>?_
      rw [h1 (by omega)] at hn;cases hn
   ·cases h
  ·cases h
 ·rename_i e ht
  split at h
  ·rename_i hy0
   have hu:u=.pointer none:=by
    unfold isNilP at hy0
    split at hy0
    ·split at hy0
     ·exact rep_int hy
     ·cases hy0
    ·cases hy0
   subst hu
   have pt:∀ (a:Option Addr),(Op.equal t (.pointer a) (.pointer none)).run P w=.ok a.isNone w:=by
    intro a
    unfold Op.equal Op.maxDepth Op.equalIn
    rw [Sem.run_bind,run_underlying ht]
    cases a<;>rfl
   split at h
   ·split at h
    ·have:=rep_int hx;subst this
     exact gd _ _ (by simp) (by simp) (run_eqP (pt none) h)
    ·cases h
   ·cases hx
    exact gd _ _ (by simp) (by simp) (run_eqP (pt (some _)) h)
   ·cases hx
    exact gd _ _ (by simp) (by simp) (run_eqP (pt (some _)) h)
   ·rename_i b cs
    cases hx with
    | pt h1 h2 =>
     cases b with
     | true =>
      have:=h1 rfl
      cases this
      exact gd _ _ (by simp) (by simp) (run_eqP (pt (some _)) h)
     | false =>
      rw [h2 rfl]
      exact gd _ _ (by simp) (by simp) (run_eqP (pt none) h)
   ·cases h
  ·cases h
 ·cases h
def nqB:Option Bool→Bool
 | some b=>b
 | none=>false
theorem ev_nq {op:BinOp} {t e:TypeId} {st:Option Bool} {x:AV} {xo yo:Operand} {v u:Value} (ht:P.underlying t=some (.slice e)) (hx:RepX w S μ v (.nq st x)) (hy:RepX w S μ u .nil) {n:Nat}
  (hs:∃ a c,v=.slice a n c∧(0 < n→a.isNone=false)) (hn:st=none→0 < n) {r:AV} (h:nilB op (nqB st)=some r) :
  ∃ z,(do eqGuard op t xo yo v u;binOp op t v u:Sem Value).run P w=.ok z w∧RepX w S μ z r:=by
 obtain ⟨a,c,rfl,ha⟩:=hs
 cases hy
 have hq:a.isNone=nqB st:=by
  cases hx with
  | nq _ h1 h2 =>
   cases st with
   | none=>exact ha (hn rfl)
   | some b=>cases b with
    | true=>have:=h1 rfl;injection this with e1;subst e1;rfl
    | false=>have:=h2 rfl;cases a with
     | none=>cases this
     | some a=>rfl
 have hg:=eqGuard_other (P:=P) (w:=w) op t xo yo (.slice a n c) (.slice none 0 0) (by simp) (by simp)
 have he:(Op.equal t (.slice a n c) (.slice none 0 0)).run P w=.ok (nqB st) w:=by
  rw [← hq]
  unfold Op.equal Op.maxDepth Op.equalIn
  rw [Sem.run_bind,run_underlying ht]
  cases a<;>rfl
 obtain ⟨z,h1,h2⟩:=run_eqS (S:=S) (μ:=μ) he h
 exact ⟨z,by simpa only [Sem.run_bind,hg,Result.andThen_ok] using h1,h2⟩
def evBin (P:Program) (op:BinOp) (t:TypeId) (x y:AV):Option (List Prop×AV) :=
 match x,y with
 | .atom (.int k a),.atom (.int k' b)=>match op with
  | .shl=>evShift .shl k a b
  | .shr=>evShift .shr k a b
  | op=>match decide (k=k') with
   | true=>evInt op k a b
   | false=>none
 | .atom (.string a),.atom (.string b)=>evStr op a b
 | .atom (.bool _),.atom (.bool _)=>match op with
  | .eql=>(evEq P 1 t x y).map fun b=>([],.atom (.bool b))
  | .neq=>(evEq P 1 t x y).map fun b=>([],.atom (.bool (!b)))
  | _=>none
 | .agg _,.agg _=>match P.eqGuardType P.depth t with
  | false=>match op with
   | .eql=>(evEq P 60 t x y).map fun b=>([],.atom (.bool b))
   | .neq=>(evEq P 60 t x y).map fun b=>([],.atom (.bool (!b)))
   | _=>none
  | true=>none
 | .nq st x,.nil=>match P.underlying t,x with
  | some (.slice _),.sl n _=>(nilB op (nqB st)).map fun v=>([st=none→0 < n],v)
  | some (.slice _),.os _ _ n=>(nilB op (nqB st)).map fun v=>([st=none→0 < n],v)
  | _,_=>none
 | x,y=>(evNil P op t x y).map fun v=>([],v)
theorem ev_bin {op:BinOp} {t:TypeId} {x y:AV} {xo yo:Operand} {v u:Value} (hx:RepX w S μ v x) (hy:RepX w S μ u y) {ps:List Prop} {r:AV} (h:evBin P op t x y=some (ps,r)) (hp:AllP ps) :
  ∃ z,(do eqGuard op t xo yo v u;binOp op t v u:Sem Value).run P w=.ok z w∧RepX w S μ z r:=by
 unfold evBin at h
 split at h
 ·rename_i k a k' b
  have:=rep_int hx;subst this
  have:=rep_int hy;subst this
  have hg:=eqGuard_other (P:=P) (w:=w) op t xo yo (.int k a) (.int k' b) (by simp) (by simp)
  simp only [Sem.run_bind,hg,Result.andThen_ok]
  have sh:∀ o,(o=.shl∨o=.shr)→evShift o k a b=some (ps,r)→∃ z,(binOp o t (.int k a) (.int k' b)).run P w=.ok z w∧RepX w S μ z r:=by
   intro o ho h
   rcases ho with rfl | rfl<;>simp only [evShift,Option.some.injEq,Prod.mk.injEq] at h<;>obtain ⟨rfl,rfl⟩:=h <;>
    (have h0:¬ b < 0:=by have:=hp.1;omega)<;>exact ⟨_,by simp [binOp,Op.shift,h0],.atom _⟩
  split at h
  ·exact sh .shl (.inl rfl) h
  ·exact sh .shr (.inr rfl) h
  ·rename_i n1 n2
   split at h
   ·rename_i hk
    have hk:=of_decide_eq_true hk
    subst hk
    cases op<;>simp only [evInt,Option.some.injEq,Prod.mk.injEq,reduceCtorEq] at h <;>
     first
      | exact absurd rfl n1
      | exact absurd rfl n2
      | (obtain ⟨rfl,rfl⟩:=h
         exact ⟨_,by
         first
          | (simp [binOp,Op.intArith];done)
          | (have hb:¬ b=0:=hp.1
             simp [binOp,Op.intDiv,hb];done)
          | (simp [binOp,Op.intBits];done)
          | (simp [binOp,Op.intCmp];done),.atom _⟩)
   ·cases h
 ·rename_i a b
  have:=rep_int hx;subst this
  have:=rep_int hy;subst this
  have hg:=eqGuard_other (P:=P) (w:=w) op t xo yo (.string a) (.string b) (by simp) (by simp)
  simp only [Sem.run_bind,hg,Result.andThen_ok]
  cases op<;>simp only [evStr,Option.some.injEq,Prod.mk.injEq,reduceCtorEq] at h<;>obtain ⟨rfl,rfl⟩:=h
  ·have h0:¬ ((a.size+b.size:Nat):Int) > IntKind.i64.max:=by have:=hp.1;omega
   exact ⟨_,by simp only [binOp,Op.stringOp,if_neg h0];rfl,.atom _⟩
  all_goals exact ⟨_,by simp only [binOp,Op.stringOp];rfl,.atom _⟩
 ·rename_i a b
  have:=rep_int hx;subst this
  have:=rep_int hy;subst this
  have hg:=eqGuard_other (P:=P) (w:=w) op t xo yo (.bool a) (.bool b) (by simp) (by simp)
  simp only [Sem.run_bind,hg,Result.andThen_ok]
  split at h
  ·simp only [Option.map_eq_some_iff,Prod.mk.injEq] at h
   obtain ⟨q,hq,rfl,rfl⟩:=h
   have:=(ev_eq (w:=w) (S:=S) (μ:=μ) 1).1 10000 t _ _ _ _ q (by omega) hx hy hq
   exact ⟨_,by simp only [binOp,Op.equal,Op.maxDepth,Sem.run_bind,this];rfl,.atom _⟩
  ·simp only [Option.map_eq_some_iff,Prod.mk.injEq] at h
   obtain ⟨q,hq,rfl,rfl⟩:=h
   have:=(ev_eq (w:=w) (S:=S) (μ:=μ) 1).1 10000 t _ _ _ _ q (by omega) hx hy hq
   exact ⟨_,by simp only [binOp,Op.equal,Op.maxDepth,Sem.run_bind,this];rfl,.atom _⟩
  ·cases h
 ·split at h
  ·rename_i hgt
   obtain ⟨vs,rfl,hv1,hv2⟩:=rep_agg hx
   obtain ⟨us,rfl,hu1,hu2⟩:=rep_agg hy
   have hg:=run_eqGuard_agg (P:=P) w op t xo yo vs us hgt
   simp only [Sem.run_bind,hg,Result.andThen_ok]
   split at h
   ·simp only [Option.map_eq_some_iff,Prod.mk.injEq] at h
    obtain ⟨q,hq,rfl,rfl⟩:=h
    have:=(ev_eq (w:=w) (S:=S) (μ:=μ) 60).1 10000 t _ _ _ _ q (by omega) hx hy hq
    exact ⟨_,by rw [run_eql_struct,this];rfl,.atom _⟩
   ·simp only [Option.map_eq_some_iff,Prod.mk.injEq] at h
    obtain ⟨q,hq,rfl,rfl⟩:=h
    have:=(ev_eq (w:=w) (S:=S) (μ:=μ) 60).1 10000 t _ _ _ _ q (by omega) hx hy hq
    exact ⟨_,by rw [run_neq_struct,this];rfl,.atom _⟩
   ·cases h
  ·cases h
 ·split at h
  ·rename_i e n g ht
   simp only [Option.map_eq_some_iff,Prod.mk.injEq] at h
   obtain ⟨q,hq,rfl,rfl⟩:=h
   refine ev_nq ht hx hy (n:=n) ?_ hp.1 hq
   cases hx with
   | nq h0 _ _=>cases h0 with
    | sl b off sz f h1 h2 h3 h4 h5=>exact ⟨_,_,rfl,fun hn=>by rw [(h1 hn).1];rfl⟩
  ·rename_i e k o n ht
   simp only [Option.map_eq_some_iff,Prod.mk.injEq] at h
   obtain ⟨q,hq,rfl,rfl⟩:=h
   refine ev_nq ht hx hy (n:=n) ?_ hp.1 hq
   cases hx with
   | nq h0 _ _=>cases h0 with
    | os pl hm h1 h2 h3=>exact ⟨_,_,rfl,fun hn=>by rw [h1 (by omega)];rfl⟩
  ·cases h
 ·simp only [Option.map_eq_some_iff,Prod.mk.injEq] at h
  obtain ⟨q,hq,rfl,rfl⟩:=h
  exact ev_nil hx hy hq
def evUn (op:UnOp) (x:AV):Option AV :=
 match op,x with
 | .neg,.atom (.int k n)=>some (.atom (.int k (k.wrap (0 - n))))
 | .not,.atom (.bool b)=>some (.atom (.bool (!b)))
 | _,_=>none
theorem ev_un {op:UnOp} {x:AV} {v:Value} (hx:RepX w S μ v x) {r:AV} (h:evUn op x=some r):∃ z,(Op.unary op v).run P w=.ok z w∧RepX w S μ z r:=by
 unfold evUn at h
 split at h<;>cases h<;>(have:=rep_int hx;subst this)
 ·exact ⟨_,by rfl,.atom _⟩
 ·exact ⟨_,by simp [Op.unary],.atom _⟩
def evConv (P:Program) (src dst:TypeId) (x:AV):Option AV :=
 match P.underlying src,P.underlying dst,x with
 | some _,some (.int k),.atom (.int _ n)=>some (.atom (.int k (k.wrap n)))
 | some _,some .string,.atom (.string s)=>some (.atom (.string s))
 | _,_,_=>none
theorem ev_conv {src dst:TypeId} {x:AV} {v:Value} (hx:RepX w S μ v x) {r:AV} (h:evConv P src dst x=some r):∃ z,(convert src dst v).run P w=.ok z w∧RepX w S μ z r:=by
 unfold evConv at h
 split at h
 ·rename_i h1 h2
  cases h;have:=rep_int hx;subst this
  exact ⟨_,by simp_all [convert,run_underlying,Conv.intToInt],.atom _⟩
 ·rename_i h1 h2
  cases h;have:=rep_int hx;simp_all [convert,run_underlying]
 ·cases h
end
end Go.Ab
namespace Go.Ab
abbrev Upd:=List (Nat×Option Ob)
def Step (P:Program) (E:Env) (nk:Nat) (σ:Sto) (S:Nat→Prop) (μ:Mu) (w:World) (s:Sem Value) (val:AV) (upd:Upd):Prop :=
 ∃ v w' S' μ',s.run P w=.ok v w'∧Ext w S μ w' S' μ'∧Good E (supd σ upd) S' μ' w'∧(∀ k,k≠nk→μ k=none→μ' k=none)∧RepX w' S' μ' v val
def RL (w:World) (S:Nat→Prop) (μ:Mu) (vs:Array Value) (cs:List AV):Prop :=
 vs.size=cs.length∧∀ (j:Nat) (c:AV) (v:Value),cs[j]?=some c→vs[j]?=some v→RepX w S μ v c
section
variable {P:Program} {E:Env} {nk:Nat} {σ:Sto} {S:Nat→Prop} {μ:Mu} {w:World}
theorem Step.pure (g:Good E σ S μ w) {s:Sem Value} {v:Value} {val:AV} (h:s.run P w=.ok v w) (hr:RepX w S μ v val):Step P E nk σ S μ w s val [] :=
 ⟨v,w,S,μ,h,Ext.refl w S μ,g,fun _ _ h=>h,hr⟩
theorem RL.mk' {vs:Array Value} {cs:List AV} (h:RL w S μ vs cs):RepX w S μ (.agg vs) (.agg cs):=.agg h.1 h.2
theorem RL.pr {vs:Array Value} {cs:List AV} (h:RL w S μ vs cs) {j:Nat} {c:AV} {v:Value} (hc:cs[j]?=some c) (hv:vs[j]?=some v) :
  RepX w S (if AV.pureL cs then noMu else μ) v c:=by
 split
 ·rename_i hp
  exact (h.2 j c v hc hv).pure (pureL_get hp hc) noMu
 ·exact h.2 j c v hc hv
theorem muSet_ne {k n:Nat} (pl:Place) (h:n≠k):muSet μ k pl n=μ n:=by simp [muSet,h]
theorem Step.newOb (g:Good E σ S μ w) (hk:μ nk=none) (hm:E.m0≤nk) {s:Sem Value} {vs:Array Value} {T:TypeId} {cs:List AV}
  (h:s.run P w=.ok (.pointer (some ⟨w.heap.size,0,none⟩)) (w.alloc (.cells vs T))) (hl:RL w S μ vs cs) (hz:1≤cs.length) :
  Step P E nk σ S μ w s (.op nk 0 0) [(nk,some ⟨true,cs.length,1,AV.pureL cs,fun _=>cs⟩)]:=by
 have ga:=g.alloc hk hm vs T ⟨true,cs.length,1,AV.pureL cs,fun _=>cs⟩ 1 (by simp [hl.1]) (Nat.le_refl _) (fun _ _=>rfl) (fun i j x v hi hx hv=>by
  have:i=0:=by simp at hi;exact hi
  subst this
  exact hl.pr hx (by simpa using hv)) (by grind) (fun i=>rowOf_none_var rfl i)
 refine ⟨_,_,_,_,h,ga.1,ga.2,fun k hk' hn=>by grind [muSet_ne],?_⟩
 have:=RepX.op (w:=w.alloc (.cells vs T)) (S:=S) (k:=nk) (i:=0) (j:=0) (μ:=muSet μ nk ⟨w.heap.size,1,cs.length⟩) ⟨w.heap.size,1,cs.length⟩ (by simp [muSet])
 simpa using this
def evAlloc (P:Program) (nk:Nat) (T:TypeId):Option (AV×Upd) :=
 match tZero P T with
 | some z=>match Nat.ble 1 (z.cells.toList.map ofConst1).length with
  | true=>some (.op nk 0 0,[(nk,some ⟨true,(z.cells.toList.map ofConst1).length,1,AV.pureL (z.cells.toList.map ofConst1),fun _=>z.cells.toList.map ofConst1⟩)])
  | false=>none
 | none=>none
theorem rl_const (vs:Array Value):RL w S μ vs (vs.toList.map ofConst1) :=
 ⟨by simp,fun j c v hc hv=>by
  have hu':vs.toList[j]?=some v:=by simpa using hv
  rw [List.getElem?_map,hu'] at hc
  simp at hc
  exact hc ▸ rep_const1 w S μ v⟩
theorem ev_alloc (g:Good E σ S μ w) (hk:μ nk=none) (hm:E.m0≤nk) {T:TypeId} {val:AV} {upd:Upd} (h:evAlloc P nk T=some (val,upd)) :
  Step P E nk σ S μ w (Instr.alloc T true (.tuple #[])) val upd:=by
 unfold evAlloc at h
 split at h
 ·rename_i z hz
  split at h
  ·rename_i hb
   cases h
   exact Step.newOb g hk hm (vs:=z.cells) (T:=T) (by simp [Instr.alloc,run_zero' hz,newVar,newRow]) (rl_const _) (Nat.le_of_ble_eq_true hb)
  ·cases h
 ·cases h
def evBox (nk:Nat) (x:AV):Option (AV×Upd) :=
 match x.cells with
 | some cs=>match Nat.ble 1 cs.length with
  | true=>some (.op nk 0 0,[(nk,some ⟨true,cs.length,1,AV.pureL cs,fun _=>cs⟩)])
  | false=>none
 | none=>none
theorem ev_box (g:Good E σ S μ w) (hk:μ nk=none) (hm:E.m0≤nk) {T:TypeId} {x:AV} {v:Value} (hx:RepX w S μ v x) {val:AV} {upd:Upd} (h:evBox nk x=some (val,upd)) :
  Step P E nk σ S μ w (Instr.box T v) val upd:=by
 unfold evBox at h
 split at h
 ·rename_i cs hc
  split at h
  ·rename_i hb
   cases h
   exact Step.newOb g hk hm (vs:=v.cells) (T:=T) (by rfl) (hx.cells hc) (Nat.le_of_ble_eq_true hb)
  ·cases h
 ·cases h
def splice (cs:List AV) (off:Nat) (ns:List AV):List AV:=cs.take off ++ (ns ++ cs.drop (off+ns.length))
theorem splice_get (cs:List AV) (off:Nat) (ns:List AV) (h:off+ns.length≤cs.length) (m:Nat) :
  (splice cs off ns)[m]?=if off≤m∧m < off+ns.length then ns[m - off]? else cs[m]?:=by
 have h1:(cs.take off).length=off:=by simp;omega
 unfold splice
 grind
theorem splice_length (cs:List AV) (off:Nat) (ns:List AV) (h:off+ns.length≤cs.length):(splice cs off ns).length=cs.length:=by
 simp [splice];omega
theorem foldl_set (off:Nat):∀ (us:List Value) (s:Nat) (vs:Array Value),
  ((us.zipIdx s).foldl (fun cs x=>cs.setIfInBounds (off+x.2) x.1) vs).size=vs.size ∧
  ∀ m,((us.zipIdx s).foldl (fun cs x=>cs.setIfInBounds (off+x.2) x.1) vs)[m]?=if off+s≤m∧m < off+s+us.length∧m < vs.size then us[m - (off+s)]? else vs[m]?
 | [],s,vs=>⟨rfl,fun m=>by simp;intro h1 h2;omega⟩
 | u :: us,s,vs=>by
  obtain ⟨h1,h2⟩:=foldl_set off us (s+1) (vs.setIfInBounds (off+s) u)
  simp only [List.zipIdx_cons,List.foldl_cons]
  grind
theorem RL.splice {vs us:Array Value} {cs ns:List AV} (h:RL w S μ vs cs) (hu:RL w S μ us ns) {off:Nat} (hle:off+ns.length≤cs.length) :
  RL w S μ (us.zipIdx.foldl (fun cs (c,j)=>cs.setIfInBounds (off+j) c) vs) (splice cs off ns):=by
 have f:=foldl_set off us.toList 0 vs
 have e:us.zipIdx.foldl (fun cs (c,j)=>cs.setIfInBounds (off+j) c) vs=(us.toList.zipIdx 0).foldl (fun cs x=>cs.setIfInBounds (off+x.2) x.1) vs:=by
  rw [← Array.foldl_toList]
  simp
 rw [e]
 refine ⟨by rw [f.1,h.1,splice_length _ _ _ hle],?_⟩
 intro j c v hc hv
 rw [f.2 j] at hv
 rw [splice_get _ _ _ hle] at hc
 have hl:=hu.1
 have hs:=h.1
 by_cases hj:off≤j∧j < off+ns.length
 ·rw [if_pos hj] at hc
  rw [if_pos (by simp;omega)] at hv
  exact hu.2 (j - off) c v hc (by simpa using hv)
 ·rw [if_neg hj] at hc
  rw [if_neg (by simp;omega)] at hv
  exact h.2 j c v hc hv
def fillA (place:Nat→Option (Nat×Nat)) (cells:List AV):List (Nat×AV)→Option (List AV)
 | []=>some cells
 | (i,x) :: rest =>
  match place i,x.cells with
  | some (off,size),some ns=>match Nat.beq ns.length size && Nat.ble (off+ns.length) cells.length with
   | true=>fillA place (splice cells off ns) rest
   | false=>none
  | _,_=>none
theorem fill_rep (place:Nat→Option (Nat×Nat)):∀ (parts:List (Nat×AV)) (vparts:List (Nat×Value)) (vs:Array Value) (cs out:List AV),
  vparts.map (·.1)=parts.map (·.1)→(∀ (j:Nat) x y,parts[j]?=some x→vparts[j]?=some y→RepX w S μ y.2 x.2)→RL w S μ vs cs→fillA place cs parts=some out →
  ∃ us,Instr.fill place vs vparts=some us∧RL w S μ us out
 | [],vparts,vs,cs,out,hi,_,h,hf=>by
  simp at hi;subst hi
  simp [fillA] at hf;subst hf
  exact ⟨vs,rfl,h⟩
 | (i,x) :: rest,vparts,vs,cs,out,hi,hr,h,hf=>by
  obtain ⟨⟨i',v⟩,vrest,rfl⟩:∃ a b,vparts=a :: b:=by
   cases vparts with
   | nil=>simp at hi
   | cons a b=>exact ⟨a,b,rfl⟩
  simp at hi
  obtain ⟨rfl,hi⟩:=hi
  have hv:RepX w S μ v x:=hr 0 (i',x) (i',v) rfl rfl
  simp only [fillA] at hf
  split at hf
  ·rename_i off size ns hp hc
   split at hf
   ·rename_i hb
    simp only [Bool.and_eq_true,Nat.ble_eq] at hb
    have hb1:=Nat.eq_of_beq_eq_true hb.1
    have hcl:=hv.cells hc
    obtain ⟨us,h1,h2⟩:=fill_rep place rest vrest _ _ out hi (fun j x y hx hy=>hr (j+1) x y (by simpa using hx) (by simpa using hy)) (h.splice ⟨hcl.1,hcl.2⟩ hb.2) hf
    refine ⟨us,?_,h2⟩
    have c1:¬ v.cells.size≠size:=by rw [hcl.1];omega
    have c2:¬ off+v.cells.size > vs.size:=by rw [hcl.1,h.1];omega
    simp_all [Instr.fill,if_neg,Bool.or_eq_true,decide_eq_true_eq,not_or]
   ·cases hf
  ·cases hf
def evBuild (P:Program) (t:TypeId) (parts:List (Nat×AV)):Option AV :=
 match tZero P t,P.underlying t with
 | some z,some (.struct fs)=>match fs.toList.mapM fun f=>(tSz P f.type).map fun n=>(f.offset,n) with
  | some places=>(fillA (places[·]?) (z.cells.toList.map ofConst1) parts).map .agg
  | none=>none
 | some z,some (.array _ e)=>match tSz P e with
  | some n=>(fillA (fun i=>some (i * n,n)) (z.cells.toList.map ofConst1) parts).map .agg
  | none=>none
 | _,_=>none
theorem ev_build {t:TypeId} {parts:List (Nat×AV)} {vparts:Array (Nat×Value)} (hi:vparts.toList.map (·.1)=parts.map (·.1))
  (hr:∀ (j:Nat) x y,parts[j]?=some x→vparts.toList[j]?=some y→RepX w S μ y.2 x.2) {r:AV} (h:evBuild P t parts=some r) :
  ∃ v,(Instr.build t vparts).run P w=.ok v w∧RepX w S μ v r:=by
 unfold evBuild at h
 split at h
 ·rename_i z fs hz hu
  split at h
  ·rename_i places hp
   simp only [Option.map_eq_some_iff] at h
   obtain ⟨out,ho,rfl⟩:=h
   obtain ⟨us,h1,h2⟩:=fill_rep (w:=w) (S:=S) (μ:=μ) _ parts vparts.toList z.cells _ out hi hr (rl_const _) ho
   refine ⟨.agg us,run_build w t vparts us ?_,h2.mk'⟩
   have hz':=hz
   unfold tZero at hz'
   cases hi:P.info? t with
   | none=>simp [hi] at hz'
   | some i =>
    simp_all [Program.built,tSz,Function.comp_def]
  ·cases h
 ·rename_i z n e hz hu
  split at h
  ·rename_i n' hn
   simp only [Option.map_eq_some_iff] at h
   obtain ⟨out,ho,rfl⟩:=h
   obtain ⟨us,h1,h2⟩:=fill_rep (w:=w) (S:=S) (μ:=μ) _ parts vparts.toList z.cells _ out hi hr (rl_const _) ho
   refine ⟨.agg us,run_build w t vparts us ?_,h2.mk'⟩
   have hz':=hz
   unfold tZero at hz'
   unfold tSz at hn
   cases hi:P.info? t with
   | none=>simp [hi] at hz'
   | some i =>
    simp [hi] at hz'
    cases he:P.info? e with
    | none=>simp [he] at hn
    | some ie =>
     simp_all [Program.built]
  ·cases h
 ·cases h
end
end Go.Ab
namespace Go.Ab
section
variable {P:Program} {E:Env} {nk:Nat} {σ:Sto} {S:Nat→Prop} {μ:Mu} {w:World}
theorem Step.newSl (g:Good E σ S μ w) (hk:μ nk=none) (hm:E.m0≤nk) {s:Sem Value} {vs:Array Value} {T:TypeId} {len cap sz:Nat} {pr:Bool} {get:Nat→List AV}
  (h:s.run P w=.ok (.slice (some ⟨w.heap.size,0,none⟩) len cap) (w.alloc (.cells vs T))) (hcap:cap * sz≤vs.size) (hlen:len≤cap)
  (hels:∀ i,i < len→(get i).length=sz)
  (hrep:∀ i j x v,i < len→(get i)[j]?=some x→vs[i * sz+j]?=some v→RepX w S (if pr then noMu else μ) v x) (hsz0:sz≠0) (hnr:∀ i,rowOf ⟨false,sz,len,pr,get⟩ i=none) :
  Step P E nk σ S μ w s (.os nk 0 len) [(nk,some ⟨false,sz,len,pr,get⟩)]:=by
 have ga:=g.alloc hk hm vs T ⟨false,sz,len,pr,get⟩ cap hcap hlen hels hrep hsz0 hnr
 refine ⟨_,_,_,_,h,ga.1,ga.2,fun k hk' hn=>by grind [muSet_ne],?_⟩
 simp_all [RepX.os,muSet]
def AV.isMr:AV→Bool
 | .mr _ _ _=>true
 | _=>false
def noMrL:List AV→Bool
 | []=>true
 | c :: cs=>!c.isMr && noMrL cs
theorem noMrL_mem:∀ {cs:List AV},noMrL cs=true→∀ c∈cs,c.isMr=false
 | [],_,c,h=>by simp at h
 | a :: cs,h,c,hc=>by
  simp only [noMrL,Bool.and_eq_true,Bool.not_eq_true'] at h
  rcases List.mem_cons.1 hc with rfl | hc
  ·exact h.1
  ·exact noMrL_mem h.2 c hc
theorem noMr_const (v:Value):(ofConst1 v).isMr=false:=by
 unfold ofConst1
 split
 ·rfl
 ·split<;>rfl
 ·rfl
theorem rowOf_none_mem {o:Ob} {l:List AV} (h:∀ i,i < o.len→∀ c∈o.get i,c∈l) (hl:∀ c∈l,c.isMr=false) (i:Nat):rowOf o i=none:=by
 cases hr:rowOf o i with
 | none=>rfl
 | some x =>
  obtain ⟨_,h1,h2⟩:=rowOf_some hr
  have:=hl _ (h i h1 (.mr x.1 x.2.1 x.2.2) (by simp_all))
  cases this
theorem rowOf_none_one {o:Ob} (h:∀ i,i < o.len→AV.oneL (o.get i)=true) (i:Nat):rowOf o i=none:=by
 cases hr:rowOf o i with
 | none=>rfl
 | some x =>
  obtain ⟨_,h1,h2⟩:=rowOf_some hr
  have:=h i h1
  rw [h2] at this
  cases this
def sliceElem (P:Program) (t:TypeId):Option TypeId :=
 match P.underlying t with
 | some (.slice e)=>some e
 | _=>none
theorem sliceElem_eq {t e:TypeId} (h:sliceElem P t=some e):P.underlying t=some (.slice e):=by
 grind [sliceElem]
def rows (n:Nat):Nat→List AV→List (List AV)
 | 0,_=>[]
 | k+1,cs=>cs.take n :: rows n k (cs.drop n)
theorem rows_get (n:Nat):∀ (k:Nat) (cs:List AV) (i:Nat),i < k→(rows n k cs)[i]?=some ((cs.drop (i * n)).take n)
 | 0,_,i,h=>by omega
 | k+1,cs,0,_=>by simp [rows]
 | k+1,cs,i+1,h=>by
  simp only [rows,List.getElem?_cons_succ]
  rw [rows_get n k (cs.drop n) i (by omega),List.drop_drop]
  grind
theorem rows_getD (n k:Nat) (cs:List AV) (i:Nat) (h:i < k):(rows n k cs).getD i []=(cs.drop (i * n)).take n:=by
 rw [List.getD_eq_getElem?_getD,rows_get n k cs i h];rfl
def zeros (z:List AV):Nat→List AV
 | 0=>[]
 | k+1=>z ++ zeros z k
theorem zeros_length (z:List AV):∀ k,(zeros z k).length=k * z.length
 | 0=>by simp [zeros]
 | k+1=>by simp [zeros,zeros_length z k,Nat.add_mul];omega
theorem zeros_get (z:List AV) (hz:z.length≠0):∀ (k j:Nat),j < k * z.length→(zeros z k)[j]?=z[j % z.length]?
 | 0,j,h=>by simp at h
 | k+1,j,h=>by
  simp only [zeros]
  by_cases hj:j < z.length
  ·rw [List.getElem?_append_left hj,Nat.mod_eq_of_lt hj]
  ·rw [List.getElem?_append_right (by omega),zeros_get z hz k (j - z.length) (by grind)]
   congr 1
   conv=>rhs;rw [show j=(j - z.length)+z.length by omega]
   simp
theorem rl_zeros {z:Value} {n:Nat} (hz:z.cells.size=n) (hn:n≠0) (k:Nat) (c:Array Value) (hc:c=(Array.range (k * n)).map (z.cells[· % z.cells.size]!)) :
  RL w S μ c (zeros (z.cells.toList.map ofConst1) k):=by
 subst hc
 have hl:(z.cells.toList.map ofConst1).length=n:=by simp [hz]
 refine ⟨by simp [zeros_length,hz],?_⟩
 intro j x v hx hv
 have hj:j < k * n:=by
  have:=(Array.getElem?_eq_some_iff.1 hv).1
  simpa using this
 rw [zeros_get _ (by omega) k j (by rw [hl];exact hj),hl] at hx
 have hlt:j % n < z.cells.size:=by rw [hz];exact Nat.mod_lt _ (by omega)
 have hv':v=z.cells[j % n]:=by
  simp only [Array.getElem?_map] at hv
  rw [Array.getElem?_range,if_pos hj] at hv
  simp at hv
  rw [← hv,hz]
  simp [getElem!_pos,hlt]
 refine (rl_const (w:=w) (S:=S) (μ:=μ) z.cells).2 (j % n) x v hx ?_
 simp_all
def evBuildSlice (P:Program) (nk:Nat) (t:TypeId) (len:Nat) (parts:List (Nat×AV)):Option (AV×Upd) :=
 match sliceElem P t with
 | some e=>match tSz P e,tBytes P e,tZero P e with
  | some n,some _,some z=>match Nat.ble 1 (len * n) && Nat.ble (len * n) 16777216 && Nat.beq z.cells.size n with
   | true=>match fillA (fun i=>some (i * n,n)) (zeros (z.cells.toList.map ofConst1) len) parts with
    | some cs=>match noMrL cs with
     | true=>some (.os nk 0 len,[(nk,some ⟨false,n,len,AV.pureL cs,fun i=>(rows n len cs).getD i []⟩)])
     | false=>none
    | none=>none
   | false=>match Nat.beq len 0 && Nat.ble 1 n with
    | true=>some (.os nk 0 0,[(nk,some ⟨false,n,0,true,fun _=>[]⟩)])
    | false=>none
  | _,_,_=>none
 | none=>none
theorem run_buildSlice0 {t e:TypeId} {n:Nat} (he:P.underlying t=some (.slice e)) (hn:tSz P e=some n) (w:World) :
  (Instr.buildSlice t 0 #[]).run P w=.ok (.slice (some ⟨w.heap.size,0,none⟩) 0 0) (w.alloc (.cells #[] e)):=by
 simp [Instr.buildSlice,run_underlying he,run_sizeOf' hn,Instr.fill,newRow,Array.range_zero']
theorem ev_buildSlice (g:Good E σ S μ w) (hk:μ nk=none) (hm:E.m0≤nk) {t:TypeId} {len:Nat} {parts:List (Nat×AV)} {vparts:Array (Nat×Value)} (hi:vparts.toList.map (·.1)=parts.map (·.1))
  (hr:∀ (j:Nat) x y,parts[j]?=some x→vparts.toList[j]?=some y→RepX w S μ y.2 x.2) {val:AV} {upd:Upd} (h:evBuildSlice P nk t len parts=some (val,upd)) (hp0:len=0→parts=[]) :
  Step P E nk σ S μ w (Instr.buildSlice t len vparts) val upd:=by
 unfold evBuildSlice at h
 split at h
 ·rename_i e he
  have he:=sliceElem_eq he
  split at h
  ·rename_i n b z hn hb hz
   split at h
   ·rename_i hbb
    simp only [Bool.and_eq_true,Nat.ble_eq] at hbb
    have hzs:=Nat.eq_of_beq_eq_true hbb.2
    split at h
    ·rename_i cs hcs
     split at h
     case h_2=>cases h
     rename_i hmr
     cases h
     have hn0:n≠0:=by rintro rfl;simp at hbb
     have hl0:=rl_zeros (w:=w) (S:=S) (μ:=μ) hzs hn0 len _ rfl
     obtain ⟨us,h1,h2⟩:=fill_rep (w:=w) (S:=S) (μ:=μ) _ parts vparts.toList _ _ cs hi hr hl0 hcs
     obtain ⟨ie,hie,hsz,hby,hze⟩:=info_of hn hb hz
     subst hsz
     have hrun:=run_buildSlice w t e len vparts us ie z he hie hze (by omega) (by omega) h1
     have hlen:us.size=len * ie.size:=by
      have:=h2.1
      have hf:∀ (parts:List (Nat×AV)) (cs out:List AV),fillA (fun i=>some (i * ie.size,ie.size)) cs parts=some out→out.length=cs.length:=by
       intro parts
       induction parts with
       | nil=>intro cs out h;simp [fillA] at h;rw [h]
       | cons p ps ih =>
        intro cs out h
        simp only [fillA] at h
        split at h
        ·split at h
         ·rename_i ho
          simp only [Bool.and_eq_true,Nat.ble_eq] at ho
          rw [ih _ _ h,splice_length _ _ _ ho.2]
         ·cases h
        ·cases h
      rw [this,hf _ _ _ hcs,zeros_length];simp [hzs]
     refine Step.newSl g hk hm hrun (by rw [hlen];exact Nat.le_refl _) (Nat.le_refl _) ?_ ?_ hn0 (rowOf_none_mem (l:=cs) (fun i hi c hc=>by
      have hc:c∈(rows ie.size len cs).getD i []:=hc
      rw [rows_getD _ _ _ _ hi] at hc
      exact List.mem_of_mem_drop (List.mem_of_mem_take hc)) (noMrL_mem hmr))
     ·intro i hi
      rw [rows_getD _ _ _ _ hi]
      have:=h2.1
      have:(i+1) * ie.size≤len * ie.size:=Nat.mul_le_mul_right _ hi
      rw [Nat.add_mul] at this
      simp;omega
     ·intro i j x v hi hx hv
      rw [rows_getD _ _ _ _ hi,List.getElem?_take] at hx
      split at hx
      ·rw [List.getElem?_drop] at hx
       exact h2.pr hx hv
      ·cases hx
    ·cases h
   ·split at h
    ·rename_i hl0
     cases h
     simp only [Bool.and_eq_true,Nat.ble_eq] at hl0
     obtain ⟨hl0,hn1⟩:=hl0
     have:=Nat.eq_of_beq_eq_true hl0
     subst this
     have hp0:=hp0 rfl
     subst hp0
     have:vparts=#[]:=by
      have:vparts.toList=[]:=by simpa using hi
      exact Array.toList_eq_nil_iff.1 this
     subst this
     exact Step.newSl g hk hm (run_buildSlice0 he hn w) (by simp) (Nat.le_refl _) (fun i hi=>absurd hi (Nat.not_lt_zero _)) (fun i j x v hi=>absurd hi (Nat.not_lt_zero _)) (by omega) (fun i=>rfl)
    ·cases h
  ·cases h
 ·cases h
def evMake (P:Program) (nk:Nat) (t:TypeId) (l c:AV):Option (List Prop×AV×Upd) :=
 match sliceElem P t,l,c with
 | some e,.atom (.int _ l),.atom (.int _ c)=>match tSz P e,tBytes P e,tZero P e with
  | some n,some b,some z=>match Nat.ble 1 n && Nat.beq z.cells.size n with
   | true=>some ([0≤l,l≤c,(b:Int) * c≤281474976710656,c≤9223372036854775807],.os nk 0 l.toNat,
     [(nk,some ⟨false,n,l.toNat,AV.pureL (z.cells.toList.map ofConst1),fun _=>z.cells.toList.map ofConst1⟩)])
   | false=>none
  | _,_,_=>none
 | _,_,_=>none
theorem ev_make (g:Good E σ S μ w) (hk:μ nk=none) (hm:E.m0≤nk) {t:TypeId} {l c:AV} {vl vc:Value} (hl:RepX w S μ vl l) (hc:RepX w S μ vc c)
  {ps:List Prop} {val:AV} {upd:Upd} (h:evMake P nk t l c=some (ps,val,upd)) (hp:AllP ps) :
  Step P E nk σ S μ w (Instr.makeSlice t vl vc) val upd:=by
 unfold evMake at h
 split at h
 ·rename_i e k l k' c he
  have he:=sliceElem_eq he
  have:=rep_int hl;subst this
  have:=rep_int hc;subst this
  split at h
  ·rename_i n b z hn hb hz
   split at h
   ·rename_i hbb
    cases h
    simp only [Bool.and_eq_true,Nat.ble_eq] at hbb
    have hzs:=Nat.eq_of_beq_eq_true hbb.2
    obtain ⟨h1,h2,h3,h4,_⟩:=hp
    obtain ⟨ie,hie,hsz,hby,hze⟩:=info_of hn hb hz
    subst hsz hby
    have hrun:=run_make (P:=P) w t e ie z he hie hze k k' l c h1 h2 h3 h4
    refine Step.newSl g hk hm hrun (by rw [size_madeCells];exact Nat.le_refl _) (by omega) (fun _ _=>by simp [hzs]) ?_ (by omega) (rowOf_none_mem (l:=z.cells.toList.map ofConst1) (fun _ _ c hc=>hc) (fun c hc=>by
     obtain ⟨v,_,rfl⟩:=List.mem_map.1 hc
     exact noMr_const v))
    intro i j x v hi hx hv
    have hj:j < ie.size:=by
     have:=(List.getElem?_eq_some_iff.1 hx).1
     simpa [hzs] using this
    have hv':z.cells[j]?=some v:=by
     unfold madeCells at hv
     simp only [Array.getElem?_map] at hv
     have hlt:i * ie.size+j < c.toNat * ie.size:=by
      have:(i+1) * ie.size≤c.toNat * ie.size:=Nat.mul_le_mul_right _ (by omega)
      rw [Nat.add_mul] at this
      omega
     rw [Array.getElem?_range,if_pos hlt] at hv
     simp only [Option.map_some,Option.some.injEq] at hv
     rw [hzs,Nat.mul_comm i,Nat.mul_add_mod,Nat.mod_eq_of_lt hj] at hv
     have hjz:j < z.cells.size:=by omega
     rw [Array.getElem?_eq_getElem hjz]
     rw [getElem!_pos z.cells j hjz] at hv
     exact congrArg some hv
    exact (rl_const (w:=w) (S:=S) (μ:=μ) z.cells).pr hx hv'
   ·cases h
  ·cases h
 ·cases h
def ldv (agg:Bool) (n:Nat) (cs:List AV) (j:Nat):Option AV :=
 match Nat.ble (j+n) cs.length with
 | true=>match agg with
  | true=>some (.agg ((cs.drop j).take n))
  | false=>cs[j]?
 | false=>none
theorem run_ldv {T:TypeId} {d:TypeDesc} {n:Nat} (hu:P.underlying T=some d) (hn:tSz P T=some n) {cs:List AV} {j:Nat} {x:AV} (h:ldv d.isRow n cs j=some x) (b o:Nat)
  (f:Nat→Value) (hc:∀ i,i < cs.length→w.cell? ⟨b,o+i,none⟩=some (f i)) (hr:∀ (i:Nat) c,cs[i]?=some c→RepX w S μ (f i) c) :
  ∃ v,(Instr.loadAt T (.pointer (some ⟨b,o+j,none⟩))).run P w=.ok v w∧RepX w S μ v x:=by
 unfold ldv at h
 split at h
 ·rename_i hle
  simp only [Nat.ble_eq] at hle
  cases hd:d.isRow with
  | true =>
   simp [hd] at h
   have hl:((List.range n).map fun i=>f (j+i)).length=n:=by simp
   refine ⟨.agg ((List.range n).map fun i=>f (j+i)).toArray,run_loadAt_mid w b (o+j) T _ d ?_ hu hd (by simpa [tSz] using hn),?_⟩
   ·intro i v hv
    grind
   ·rw [← h]
    refine .agg (by simp;omega) ?_
    grind
  | false =>
   simp [hd] at h
   have hj:j < cs.length:=(List.getElem?_eq_some_iff.1 h).1
   have hagg:(isAgg T).run P w=.ok false w:=by
    unfold isAgg
    rw [Sem.run_bind,run_underlying hu w]
    cases d<;>simp_all
   simp_all [Instr.loadAt,Instr.sureAddr,loadVar]
 ·cases h
def intC (kd:IntKind):AV→Option Int
 | .atom v=>match v with
  | .int k n=>match decide (k=kd) with
   | true=>some n
   | false=>none
  | _=>none
 | _=>none
def intsC (kd:IntKind):Nat→List AV→Option (List Int)
 | 0,_=>some []
 | m+1,c :: cs=>match intC kd c,intsC kd m cs with
  | some a,some r=>some (a :: r)
  | _,_=>none
 | _+1,[]=>none
def pickI (l:List Int) (n:Nat):Int:=l.getD n 0
def setI (q t:Nat) (v a:Int):Int:=if q=t then v else a
theorem intC_eq {kd:IntKind} {c:AV} {a:Int} (h:intC kd c=some a):c=.atom (.int kd a):=by
 unfold intC at h
 grind
theorem intsC_get {kd:IntKind}:∀ {m:Nat} {cs:List AV} {l:List Int},intsC kd m cs=some l→∀ n,n < m→cs[n]?=some (.atom (.int kd (pickI l n)))
 | 0,_,_,_,n,hn=>absurd hn (Nat.not_lt_zero n)
 | m+1,[],_,h,_,_=>by simp [intsC] at h
 | m+1,c :: cs,l,h,n,hn=>by
  simp only [intsC] at h
  split at h
  ·rename_i a r h1 h2
   cases h
   cases n with
   | zero=>simp [pickI,intC_eq h1]
   | succ n =>
    have:=intsC_get h2 n (by omega)
    simpa [pickI] using this
  ·cases h
def boolC:AV→Option Bool
 | .atom v=>match v with
  | .bool b=>some b
  | _=>none
 | _=>none
def boolsC:Nat→List AV→Option (List Bool)
 | 0,_=>some []
 | m+1,c :: cs=>match boolC c,boolsC m cs with
  | some a,some r=>some (a :: r)
  | _,_=>none
 | _+1,[]=>none
def pickB (l:List Bool) (n:Nat):Bool:=l.getD n false
def setB (q t:Nat) (v a:Bool):Bool:=if q=t then v else a
theorem boolC_eq {c:AV} {a:Bool} (h:boolC c=some a):c=.atom (.bool a):=by
 unfold boolC at h
 grind
theorem boolsC_get:∀ {m:Nat} {cs:List AV} {l:List Bool},boolsC m cs=some l→∀ n,n < m→cs[n]?=some (.atom (.bool (pickB l n)))
 | 0,_,_,_,n,hn=>absurd hn (Nat.not_lt_zero n)
 | m+1,[],_,h,_,_=>by simp [boolsC] at h
 | m+1,c :: cs,l,h,n,hn=>by
  simp only [boolsC] at h
  split at h
  ·rename_i a r h1 h2
   cases h
   cases n with
   | zero=>simp [pickB,boolC_eq h1]
   | succ n =>
    have:=boolsC_get h2 n (by omega)
    simpa [pickB] using this
  ·cases h
def evLoad (P:Program) (σ:Sto) (T:TypeId) (a:AV):Option (List Prop×AV×List Nat) :=
 match P.underlying T,tSz P T with
 | some d,some n=>match a with
  | .op k i j=>match sget σ k with
   | some o=>(ldv d.isRow n (o.get i) j).map fun x=>([i < o.len],x,[k])
   | none=>none
  | .rp cs j=>(ldv d.isRow n cs j).map fun x=>([],x,[])
  | .ov k i j m q=>match sget σ k,d with
   | some o,.int kd=>match intsC kd m ((o.get i).drop j) with
    | some l=>match Nat.beq n 1 with
     | true=>some ([i < o.len],.atom (.int kd (pickI l q)),[k])
     | false=>none
    | none=>none
   | some o,.bool=>match boolsC m ((o.get i).drop j) with
    | some l=>match Nat.beq n 1 with
     | true=>some ([i < o.len],.atom (.bool (pickB l q)),[k])
     | false=>none
    | none=>none
   | _,_=>none
  | _=>none
 | _,_=>none
theorem cell_of_obrep {o:Ob} {pl:Place} {c:Array Value} {T:TypeId} (h:ObRep w S μ o pl c T) {i j:Nat} (hi:i < o.len) (hj:j < o.sz) :
  ∃ v,c[i * o.sz+j]?=some v∧w.cell? ⟨pl.blk,i * o.sz+j,none⟩=some v:=by
 have hlt:i * o.sz+j < c.size:=by
  have h1:(i+1) * o.sz≤pl.cap * o.sz:=Nat.mul_le_mul_right _ (by have:=h.len;omega)
  have:=h.cap
  rw [Nat.add_mul] at h1
  omega
 exact ⟨c[i * o.sz+j],Array.getElem?_eq_getElem hlt,by rw [cell_of_row w _ _ _ _ _ ((h.blk (by have:=h.len;omega)).trans (by rw [blkObj_row (by omega)]))];simp⟩
theorem noMu_mono {v:Value} {x:AV} {pr:Bool} (h:RepX w S (if pr then noMu else μ) v x):RepX w S μ v x:=by
 refine h.mono (fun _ h=>h) (fun _ _=>rfl) ?_
 cases pr
 ·exact fun _ _ h=>h
 ·exact fun _ _ h=>by cases h
theorem ev_load (g:Good E σ S μ w) {T:TypeId} {a:AV} {va:Value} (ha:RepX w S μ va a) {ps:List Prop} {x:AV} {rd:List Nat} (h:evLoad P σ T a=some (ps,x,rd)) (hp:AllP ps) :
  ∃ v,(Instr.loadAt T va).run P w=.ok v w∧RepX w S μ v x:=by
 unfold evLoad at h
 split at h
 ·rename_i d n hu hn
  split at h
  ·rename_i k i j
   split at h
   ·rename_i o ho
    simp only [Option.map_eq_some_iff,Prod.mk.injEq] at h
    obtain ⟨y,hy,rfl,rfl,rfl⟩:=h
    obtain ⟨pl,c,T',hm,hob⟩:=g.rep.ob k o ho
    have hi:=hp.1
    cases ha with
    | op pl' hm' =>
     rw [hm] at hm';cases hm'
     rw [hob.sz]
     have hlen:=hob.els i hi
     refine run_ldv hu hn hy pl.blk (i * o.sz) (fun j=>(c[i * o.sz+j]?).getD undef) ?_ ?_
     ·grind [cell_of_obrep]
     ·intro j cc hcc
      obtain ⟨v,h1,h2⟩:=cell_of_obrep hob hi (hlen ▸ (List.getElem?_eq_some_iff.1 hcc).1)
      rw [h1]
      exact noMu_mono (hob.rep i j cc v hi hcc h1)
   ·cases h
  ·rename_i cs j
   simp only [Option.map_eq_some_iff,Prod.mk.injEq] at h
   obtain ⟨y,hy,rfl,rfl,rfl⟩:=h
   cases ha with
   | rp b o f h1 h2 h3 =>
    exact run_ldv hu hn hy b o f h2 (fun i c hc=>(h3 i c hc).mono (fun _ h=>h) (fun _ _=>rfl) (fun _ _ h=>by cases h))
  ·rename_i k i j m q
   split at h
   ·rename_i o kd ho
    split at h
    ·rename_i l hl
     split at h
     ·rename_i hn1
      have hn1:=Nat.eq_of_beq_eq_true hn1
      simp only [Option.some.injEq,Prod.mk.injEq] at h
      obtain ⟨rfl,rfl,rfl⟩:=h
      obtain ⟨pl,c,T',hm,hob⟩:=g.rep.ob k o ho
      have hi:=hp.1
      cases ha with
      | ov pl' hm' hq =>
       rw [hm] at hm';cases hm'
       rw [hob.sz]
       have hlen:=hob.els i hi
       have hy:=intsC_get hl q hq
       rw [List.getElem?_drop] at hy
       have hjl:=(List.getElem?_eq_some_iff.1 hy).1
       have hy':ldv (TypeDesc.int kd).isRow n (o.get i) (j+q)=some (.atom (.int kd (pickI l q))):=by
        unfold ldv
        have:Nat.ble (j+q+n) (o.get i).length=true:=by rw [Nat.ble_eq];omega
        rw [this]
        exact hy
       refine run_ldv hu hn hy' pl.blk (i * o.sz) (fun j=>(c[i * o.sz+j]?).getD undef) ?_ ?_
       ·grind [cell_of_obrep]
       ·intro j cc hcc
        obtain ⟨v,h1,h2⟩:=cell_of_obrep hob hi (hlen ▸ (List.getElem?_eq_some_iff.1 hcc).1)
        rw [h1]
        exact noMu_mono (hob.rep i j cc v hi hcc h1)
     ·cases h
    ·cases h
   ·rename_i o ho
    split at h
    ·rename_i l hl
     split at h
     ·rename_i hn1
      have hn1:=Nat.eq_of_beq_eq_true hn1
      simp only [Option.some.injEq,Prod.mk.injEq] at h
      obtain ⟨rfl,rfl,rfl⟩:=h
      obtain ⟨pl,c,T',hm,hob⟩:=g.rep.ob k o ho
      have hi:=hp.1
      cases ha with
      | ov pl' hm' hq =>
       rw [hm] at hm';cases hm'
       rw [hob.sz]
       have hlen:=hob.els i hi
       have hy:=boolsC_get hl q hq
       rw [List.getElem?_drop] at hy
       have hjl:=(List.getElem?_eq_some_iff.1 hy).1
       have hy':ldv (TypeDesc.bool).isRow n (o.get i) (j+q)=some (.atom (.bool (pickB l q))):=by
        unfold ldv
        have:Nat.ble (j+q+n) (o.get i).length=true:=by rw [Nat.ble_eq];omega
        rw [this]
        exact hy
       refine run_ldv hu hn hy' pl.blk (i * o.sz) (fun j=>(c[i * o.sz+j]?).getD undef) ?_ ?_
       ·grind [cell_of_obrep]
       ·intro j cc hcc
        obtain ⟨v,h1,h2⟩:=cell_of_obrep hob hi (hlen ▸ (List.getElem?_eq_some_iff.1 hcc).1)
        rw [h1]
        exact noMu_mono (hob.rep i j cc v hi hcc h1)
     ·cases h
    ·cases h
   ·cases h
  ·cases h
 ·cases h
end
end Go.Ab
namespace Go.Ab
def addz:Nat→Nat→Nat
 | 0,n=>n
 | m+1,n=>m+1+n
theorem addz_eq (m n:Nat):addz m n=m+n:=by cases m<;>simp [addz]
section
variable {P:Program} {E:Env} {nk:Nat} {σ:Sto} {S:Nat→Prop} {μ:Mu} {w:World}
def Ob.put (o:Ob) (i:Nat) (cs:List AV) (pr:Bool):Ob :=
 match o.var with
 | true=>{ o with pr:=o.pr && pr,get:=fun _=>cs }
 | false=>{ o with pr:=o.pr && pr,get:=fun m=>if m=i then cs else o.get m }
def spl (sz:Nat) (cs:List AV) (off:Nat) (ns:List AV):List AV :=
 match Nat.beq ns.length sz with
 | true=>ns
 | false=>splice cs off ns
theorem spl_eq {sz:Nat} {cs:List AV} {off:Nat} {ns:List AV} (h:off+ns.length≤sz) (hl:cs.length=sz):spl sz cs off ns=splice cs off ns:=by
 unfold spl
 split
 ·rename_i hb
  have hb:=Nat.eq_of_beq_eq_true hb
  have h0:off=0:=by omega
  subst h0
  unfold splice
  rw [List.drop_eq_nil_of_le (by omega)]
  simp
 ·rfl
def evStore0 (P:Program) (σ:Sto) (T:TypeId) (a x:AV):Option (List Prop×Upd×List Nat) :=
 match a,x.cells,tSz P T with
 | .op k i j,some ns,some n=>match sget σ k with
  | some o=>match Nat.beq ns.length n && AV.oneL ns && Nat.ble (j+n) o.sz && (!o.var || Nat.beq o.len 1) && Nat.ble 1 o.sz with
   | true=>some ([i < o.len],[(k,some (o.put i (spl o.sz (o.get i) j ns) (AV.pureL ns)))],[k])
   | false=>none
  | none=>none
 | _,_,_=>none
theorem ev_store0 (g:Good E σ S μ w) {T:TypeId} {a x:AV} {va vx:Value} (ha:RepX w S μ va a) (hx:RepX w S μ vx x) {ps:List Prop} {upd:Upd} {rd:List Nat}
  (h:evStore0 P σ T a x=some (ps,upd,rd)) (hp:AllP ps) :
  ∃ w',(Instr.storeAt T va vx).run P w=.ok () w'∧Ext w S μ w' S μ∧Good E (supd σ upd) S μ w':=by
 unfold evStore0 at h
 split at h
 ·rename_i k i j ns n hns hn
  split at h
  ·rename_i o ho
   split at h
   ·rename_i hb
    simp only [Option.some.injEq,Prod.mk.injEq] at h
    obtain ⟨rfl,rfl,rfl⟩:=h
    simp only [Bool.and_eq_true,Nat.ble_eq] at hb
    obtain ⟨⟨⟨⟨hb1,hb2⟩,hb3⟩,hb4⟩,hb5⟩:=hb
    have hb1:=Nat.eq_of_beq_eq_true hb1
    have hi:i < o.len:=hp.1
    obtain ⟨pl,c,T',hm,hob⟩:=g.rep.ob k o ho
    cases ha with
    | op pl' hm' =>
     rw [hm] at hm';cases hm'
     have hcap:0 < pl.cap:=by have:=hob.len;omega
     have hrow:i * o.sz+o.sz≤c.size:=by
      have h1:(i+1) * o.sz≤pl.cap * o.sz:=Nat.mul_le_mul_right _ (by have:=hob.len;omega)
      have:=hob.cap
      rw [Nat.add_mul] at h1
      omega
     obtain ⟨hcs,hcr⟩:=hx.cells hns
     have hone:∀ v∈vx.cells.toList,v.oneCell'=true:=by
      intro v hv
      obtain ⟨q,hq⟩:=List.getElem?_of_mem hv
      have hlt:q < ns.length:=by
       have:=(List.getElem?_eq_some_iff.1 hq).1
       simp at this;omega
      exact (hcr q _ v (List.getElem?_eq_getElem hlt) (by simpa using hq)).oneCell (oneL_get hb2 (List.getElem?_eq_getElem hlt))
     have hst:=run_storeCells_at P pl.blk (i * pl.sz+j) T' vx.cells.toList 0 c w ((hob.blk hcap).trans (by grind [blkObj_row])) (by rw [hob.sz];simp;omega) hone
     simp only [Nat.add_zero] at hst
     generalize hc':(c.toList.take (i * pl.sz+j) ++ vx.cells.toList ++ c.toList.drop (i * pl.sz+j+vx.cells.toList.length)).toArray=c' at hst
     have hlen':(c.toList.take (i * pl.sz+j)).length=i * o.sz+j:=by rw [hob.sz];simp;omega
     have hvl:vx.cells.toList.length=n:=by simp;omega
     have hsz':c'.size=c.size:=by
      rw [← hc']
      simp only [List.size_toArray,List.length_append,List.length_drop,hvl,hob.sz]
      simp;omega
     have hget:∀ m,c'[m]?=if i * o.sz+j≤m∧m < i * o.sz+j+n then vx.cells[m - (i * o.sz+j)]? else c[m]?:=by
      intro m
      rw [← hc']
      simp only [List.getElem?_toArray,List.append_assoc]
      by_cases h1:m < i * o.sz+j
      ·grind
      ·rw [List.getElem?_append_right (by omega),hlen']
       by_cases h2:m < i * o.sz+j+n
       ·rw [List.getElem?_append_left (by omega),if_pos (by omega)]
        simp
       ·rw [List.getElem?_append_right (by omega),if_neg (by omega),List.getElem?_drop,hvl,hob.sz]
        simp only [Array.getElem?_toList]
        congr 1;omega
     have hgl:=hob.els i hi
     have hsp:∀ (o':Ob),o'.sz=o.sz→o'.len=o.len→o'.var=o.var→o'.pr=(o.pr && AV.pureL ns)→(o'.get i=splice (o.get i) j ns)→(∀ m,m < o.len→m≠i→o'.get m=o.get m) →
       Ext w S μ (w.setRow pl.blk c') S μ∧Good E (sset σ k o') S μ (w.setRow pl.blk c'):=by
      intro o' e1 e2 ev e3 e4 e5
      have hne:∀ m q,m≠i→q < o.sz→¬ (i * o.sz+j≤m * o.sz+q∧m * o.sz+q < i * o.sz+j+n):=by
       rintro m q hmi hq ⟨h1,h2⟩
       rcases Nat.lt_or_gt_of_ne hmi with h3 | h3
       ·have:(m+1) * o.sz≤i * o.sz:=Nat.mul_le_mul_right _ h3
        rw [Nat.add_mul] at this;omega
       ·have:(i+1) * o.sz≤m * o.sz:=Nat.mul_le_mul_right _ h3
        rw [Nat.add_mul] at this;omega
      refine g.write ho hm hcap hob (by omega) o' c' e1 hsz' (by rw [e2];exact hob.len) ?_ ?_ ?_
      rotate_left 2
      ·intro m x hx
       obtain ⟨q1,q2,q3⟩:=rowOf_some hx
       rw [e2] at q2
       rw [ev] at q1
       rw [hget]
       by_cases hmi:m=i
       ·subst hmi
        rw [e4] at q3
        cases n with
        | zero =>
         have:ns=[]:=List.eq_nil_of_length_eq_zero hb1
         rw [this] at q3
         refine ⟨rowOf_mk q1 q2 (by rw [← q3];unfold splice;simp),if_neg (by omega)⟩
        | succ n =>
         have h1:=splice_length (o.get m) j ns (by omega)
         rw [q3] at h1
         have hj0:j=0:=by simp at h1;omega
         have h2:=splice_get (o.get m) j ns (by omega) 0
         rw [q3,if_pos (by omega)] at h2
         have h3:=oneL_get hb2 (j:=0 - j) (c:=.mr x.1 x.2.1 x.2.2) (by rw [← h2];rfl)
         cases h3
       ·rw [e5 m q2 hmi] at q3
        exact ⟨rowOf_mk q1 q2 q3,if_neg (hne m 0 hmi (by omega))⟩
      ·intro m hm
       rw [e2] at hm
       by_cases hmi:m=i
       ·subst hmi
        rw [e4,splice_length _ _ _ (by omega),hgl,e1]
       ·rw [e5 m hm hmi,hob.els m hm,e1]
      ·intro m q y v hm hy hv
       rw [e2] at hm
       rw [e1,hget] at hv
       rw [e3]
       have hq:q < o.sz:=by
        have:=(List.getElem?_eq_some_iff.1 hy).1
        by_cases hmi:m=i
        ·subst hmi;rw [e4,splice_length _ _ _ (by omega),hgl] at this;exact this
        ·rw [e5 m hm hmi,hob.els m hm] at this;exact this
       have hold:(o.get m)[q]?=some y→c[m * o.sz+q]?=some v→RepX w S (if (o.pr && AV.pureL ns)=true then noMu else μ) v y:=by
        intro hy hv
        have:=hob.rep m q y v hm hy hv
        cases hpr:o.pr
        ·simpa [hpr] using this
        ·rw [hpr] at this
         split
         ·exact this
         ·exact noMu_mono this
       by_cases hmi:m=i
       ·subst hmi
        rw [e4,splice_get _ _ _ (by omega)] at hy
        by_cases hjq:j≤q∧q < j+n
        ·rw [if_pos (by omega)] at hy hv
         have hv':vx.cells[q - j]?=some v:=by rw [← hv];congr 1;omega
         have:=hcr (q - j) y v hy hv'
         split
         ·rename_i hpp
          simp only [Bool.and_eq_true] at hpp
          exact this.pure (pureL_get hpp.2 hy) noMu
         ·exact this
        ·rw [if_neg (by omega)] at hy hv
         exact hold hy hv
       ·rw [e5 m hm hmi] at hy
        rw [if_neg (hne m q hmi hq)] at hv
        exact hold hy hv
     refine ⟨w.setRow pl.blk c',?_,?_⟩
     ·simp only [Instr.storeAt,Instr.sureAddr,Sem.run_bind,Sem.run_pure,Result.andThen_ok,storeVar,run_sizeOf' hn]
      rw [Sem.run_ite,if_neg (by omega)]
      exact hst
     ·show Ext _ _ _ _ _ _∧Good E (sset σ k _) S μ _
      refine hsp _ ?_ ?_ ?_ ?_ ?_ ?_
      ·unfold Ob.put;split<;>rfl
      ·unfold Ob.put;split<;>rfl
      ·unfold Ob.put;split<;>rfl
      ·unfold Ob.put;split<;>rfl
      ·rw [← spl_eq (by omega) hgl];unfold Ob.put;split<;>simp
      ·intro m hm hmi
       unfold Ob.put
       split
       ·rename_i hvar
        simp only [hvar,Bool.not_true,Bool.false_or] at hb4
        have:=Nat.eq_of_beq_eq_true hb4
        omega
       ·simp [hmi]
   ·cases h
  ·cases h
 ·cases h
def updC (kd:IntKind) (q:Nat) (v:Int):Nat→Nat→List AV→List AV
 | t,m+1,c :: cs=>(match intC kd c with
  | some a=>.atom (.int kd (setI q t v a))
  | none=>c) :: updC kd q v (t+1) m cs
 | _,_,cs=>cs
theorem updC_get {kd:IntKind} {q:Nat} {v:Int}:∀ {m:Nat} {cs:List AV} {l:List Int} (t:Nat),intsC kd m cs=some l→∀ r,(updC kd q v t m cs)[r]?=if q=t+r∧r < m then some (.atom (.int kd v)) else cs[r]?
 | 0,cs,_,t,_,r=>by cases cs<;>simp [updC]
 | m+1,[],_,_,h,_=>by simp [intsC] at h
 | m+1,c :: cs,l,t,h,r=>by
  simp only [intsC] at h
  split at h
  ·rename_i a r' h1 h2
   cases h
   simp only [updC,h1]
   cases r with
   | zero =>
    simp only [List.getElem?_cons_zero,Nat.add_zero]
    by_cases hq:q=t
    ·simp_all [if_pos,setI]
    ·rw [if_neg (fun h=>hq h.1),setI,if_neg hq,← intC_eq h1]
   | succ r =>
    simp only [List.getElem?_cons_succ]
    rw [updC_get (t+1) h2 r]
    grind
  ·cases h
def updB (q:Nat) (v:Bool):Nat→Nat→List AV→List AV
 | t,m+1,c :: cs=>(match boolC c with
  | some a=>.atom (.bool (setB q t v a))
  | none=>c) :: updB q v (t+1) m cs
 | _,_,cs=>cs
theorem updB_get {q:Nat} {v:Bool}:∀ {m:Nat} {cs:List AV} {l:List Bool} (t:Nat),boolsC m cs=some l→∀ r,(updB q v t m cs)[r]?=if q=t+r∧r < m then some (.atom (.bool v)) else cs[r]?
 | 0,cs,_,t,_,r=>by cases cs<;>simp [updB]
 | m+1,[],_,_,h,_=>by simp [boolsC] at h
 | m+1,c :: cs,l,t,h,r=>by
  simp only [boolsC] at h
  split at h
  ·rename_i a r' h1 h2
   cases h
   simp only [updB,h1]
   cases r with
   | zero =>
    simp only [List.getElem?_cons_zero,Nat.add_zero]
    by_cases hq:q=t
    ·simp_all [if_pos,setB]
    ·rw [if_neg (fun h=>hq h.1),setB,if_neg hq,← boolC_eq h1]
   | succ r =>
    simp only [List.getElem?_cons_succ]
    rw [updB_get (t+1) h2 r]
    grind
  ·cases h
def evStore (P:Program) (σ:Sto) (T:TypeId) (a x:AV):Option (List Prop×Upd×List Nat) :=
 match a with
 | .ov k i j m q=>match sget σ k,x,tSz P T with
  | some o,.atom (.int kd v),some n=>match intsC kd m ((o.get i).drop j) with
   | some _=>match Nat.beq n 1 && Nat.ble (j+m) o.sz && Nat.ble (j+m) (o.get i).length && (!o.var || Nat.beq o.len 1) && Nat.ble 1 o.sz with
    | true=>some ([i < o.len],[(k,some (o.put i ((o.get i).take j ++ updC kd q v 0 m ((o.get i).drop j)) true))],[k])
    | false=>none
   | none=>none
  | some o,.atom (.bool v),some n=>match boolsC m ((o.get i).drop j) with
   | some _=>match Nat.beq n 1 && Nat.ble (j+m) o.sz && Nat.ble (j+m) (o.get i).length && (!o.var || Nat.beq o.len 1) && Nat.ble 1 o.sz with
    | true=>some ([i < o.len],[(k,some (o.put i ((o.get i).take j ++ updB q v 0 m ((o.get i).drop j)) true))],[k])
    | false=>none
   | none=>none
  | _,_,_=>none
 | a=>evStore0 P σ T a x
theorem ev_store (g:Good E σ S μ w) {T:TypeId} {a x:AV} {va vx:Value} (ha:RepX w S μ va a) (hx:RepX w S μ vx x) {ps:List Prop} {upd:Upd} {rd:List Nat}
  (h:evStore P σ T a x=some (ps,upd,rd)) (hp:AllP ps) :
  ∃ w',(Instr.storeAt T va vx).run P w=.ok () w'∧Ext w S μ w' S μ∧Good E (supd σ upd) S μ w':=by
 unfold evStore at h
 split at h
 ·rename_i k i j m q
  split at h
  ·rename_i o kd v n ho hn
   split at h
   ·rename_i l hl
    split at h
    ·rename_i hb
     simp only [Option.some.injEq,Prod.mk.injEq] at h
     obtain ⟨rfl,rfl,rfl⟩:=h
     simp only [Bool.and_eq_true,Nat.ble_eq] at hb
     obtain ⟨⟨⟨⟨hb1,hb2⟩,hb3⟩,hb4⟩,hb5⟩:=hb
     cases ha with
     | ov pl hm hq =>
      have hc:(o.get i).take j ++ updC kd q v 0 m ((o.get i).drop j)=splice (o.get i) (j+q) [.atom (.int kd v)]:=by
       have hl1:((o.get i).take j).length=j:=by simp;omega
       apply List.ext_getElem?
       intro r
       rw [splice_get _ _ _ (by simp;omega)]
       simp only [List.length_singleton]
       by_cases hr:r < j
       ·rw [List.getElem?_append_left (by omega),List.getElem?_take,if_pos hr,if_neg (by omega)]
       ·rw [List.getElem?_append_right (by omega),hl1,updC_get 0 hl]
        by_cases hqr:r=j+q
        ·rw [if_pos (by omega),if_pos (by omega)]
         have:r - (j+q)=0:=by omega
         rw [this];rfl
        ·rw [if_neg (by omega),if_neg (by omega),List.getElem?_drop]
         congr 1;omega
      have hgl:(o.get i).length=o.sz:=by obtain ⟨_,_,_,_,hob⟩:=g.rep.ob k o ho;exact hob.els i hp.1
      rw [← spl_eq (sz:=o.sz) (by simp;omega) hgl] at hc
      have h0:evStore0 P σ T (.op k i (j+q)) (.atom (.int kd v))=some ([i < o.len],[(k,some (o.put i (spl o.sz (o.get i) (j+q) [.atom (.int kd v)]) true))],[k]):=by
       have hb1':=Nat.eq_of_beq_eq_true hb1
       subst hb1'
       have e1:Nat.ble (j+q+1) o.sz=true:=by rw [Nat.ble_eq];omega
       have e2:Nat.ble 1 o.sz=true:=by rw [Nat.ble_eq];exact hb5
       unfold evStore0
       simp only [AV.cells,hn,ho,List.length_singleton,AV.oneL,AV.one,AV.pureL,AV.pure,e1,e2,hb4,Bool.and_true,Bool.and_self]
      rw [hc]
      exact ev_store0 g (RepX.op pl hm) hx h0 hp
    ·cases h
   ·cases h
  ·rename_i o v n ho hn
   split at h
   ·rename_i l hl
    split at h
    ·rename_i hb
     simp only [Option.some.injEq,Prod.mk.injEq] at h
     obtain ⟨rfl,rfl,rfl⟩:=h
     simp only [Bool.and_eq_true,Nat.ble_eq] at hb
     obtain ⟨⟨⟨⟨hb1,hb2⟩,hb3⟩,hb4⟩,hb5⟩:=hb
     cases ha with
     | ov pl hm hq =>
      have hc:(o.get i).take j ++ updB q v 0 m ((o.get i).drop j)=splice (o.get i) (j+q) [.atom (.bool v)]:=by
       have hl1:((o.get i).take j).length=j:=by simp;omega
       apply List.ext_getElem?
       intro r
       rw [splice_get _ _ _ (by simp;omega)]
       simp only [List.length_singleton]
       by_cases hr:r < j
       ·rw [List.getElem?_append_left (by omega),List.getElem?_take,if_pos hr,if_neg (by omega)]
       ·rw [List.getElem?_append_right (by omega),hl1,updB_get 0 hl]
        by_cases hqr:r=j+q
        ·rw [if_pos (by omega),if_pos (by omega)]
         have:r - (j+q)=0:=by omega
         rw [this];rfl
        ·rw [if_neg (by omega),if_neg (by omega),List.getElem?_drop]
         congr 1;omega
      have hgl:(o.get i).length=o.sz:=by obtain ⟨_,_,_,_,hob⟩:=g.rep.ob k o ho;exact hob.els i hp.1
      rw [← spl_eq (sz:=o.sz) (by simp;omega) hgl] at hc
      have h0:evStore0 P σ T (.op k i (j+q)) (.atom (.bool v))=some ([i < o.len],[(k,some (o.put i (spl o.sz (o.get i) (j+q) [.atom (.bool v)]) true))],[k]):=by
       have hb1':=Nat.eq_of_beq_eq_true hb1
       subst hb1'
       have e1:Nat.ble (j+q+1) o.sz=true:=by rw [Nat.ble_eq];omega
       have e2:Nat.ble 1 o.sz=true:=by rw [Nat.ble_eq];exact hb5
       unfold evStore0
       simp only [AV.cells,hn,ho,List.length_singleton,AV.oneL,AV.one,AV.pureL,AV.pure,e1,e2,hb4,Bool.and_true,Bool.and_self]
      rw [hc]
      exact ev_store0 g (RepX.op pl hm) hx h0 hp
    ·cases h
   ·cases h
  ·cases h
 ·exact ev_store0 g ha hx h hp
def evFieldAddr (P:Program) (T:TypeId) (x:AV) (f:Nat):Option AV :=
 match P.underlying T with
 | some (.struct fs)=>match fs[f]? with
  | some fl=>match tSz P fl.type with
   | some (_+1)=>match x with
    | .op k i j=>some (.op k i (j+fl.offset))
    | .rp cs j=>some (.rp cs (j+fl.offset))
    | _=>none
   | _=>none
  | none=>none
 | _=>none
theorem ev_fieldAddr {T:TypeId} {x:AV} {f:Nat} {v:Value} (hx:RepX w S μ v x) {r:AV} (h:evFieldAddr P T x f=some r) :
  ∃ u,(Instr.fieldAt T v f).run P w=.ok u w∧RepX w S μ u r:=by
 unfold evFieldAddr at h
 split at h
 ·rename_i fs hu
  split at h
  ·rename_i fl hf
   split at h
   ·rename_i n hn
    split at h
    ·cases h
     cases hx with
     | op pl hm =>
      rename_i k i j
      refine ⟨.pointer (some ⟨pl.blk,i * pl.sz+(j+fl.offset),none⟩),?_,.op pl hm⟩
      simp_all [Instr.fieldAt,run_underlying,Instr.sureAddr,fieldPlace,run_sizeOf',Addr.add_mid,Nat.add_assoc]
    ·cases h
     cases hx with
     | rp b o f' h1 h2 h3 =>
      rename_i cs j
      refine ⟨.pointer (some ⟨b,o+(j+fl.offset),none⟩),?_,.rp b o f' h1 h2 h3⟩
      simp_all [Instr.fieldAt,run_underlying,Instr.sureAddr,fieldPlace,run_sizeOf',Addr.add_mid,Nat.add_assoc]
    ·cases h
   ·cases h
  ·cases h
 ·cases h
def evField (P:Program) (T:TypeId) (x:AV) (f:Nat):Option AV :=
 match P.underlying T,x with
 | some (.struct fs),.agg cs=>match fs[f]? with
  | some fl=>match tSz P fl.type with
   | some n=>match Nat.ble (fl.offset+n) cs.length with
    | true=>cellPart P fl.type cs fl.offset
    | false=>none
   | none=>none
  | none=>none
 | _,_=>none
theorem ev_field {T:TypeId} {x:AV} {f:Nat} {v:Value} (hx:RepX w S μ v x) {r:AV} (h:evField P T x f=some r) :
  ∃ u,(Instr.field T v f).run P w=.ok u w∧RepX w S μ u r:=by
 unfold evField at h
 split at h
 ·rename_i fs cs hu
  split at h
  ·rename_i fl hf
   split at h
   ·rename_i n hn
    split at h
    ·rename_i hle
     simp only [Nat.ble_eq] at hle
     obtain ⟨vs,rfl,hv1,hv2⟩:=rep_agg hx
     obtain ⟨u,r1,r2⟩:=sat_stuck_part hv1 hv2 h (fun n' h'=>by simp_all)
     simp_all [Instr.field,run_underlying,asAgg]
    ·cases h
   ·cases h
  ·cases h
 ·cases h
def evIndexAddr (P:Program) (σ:Sto) (T:TypeId) (x ix:AV):Option (List Prop×AV×List Nat) :=
 match P.underlying T,ix with
 | some (.slice e),.atom (.int _ n)=>match tSz P e with
  | some sz=>match x with
   | .os k off len=>match sget σ k with
    | some o=>match Nat.beq o.sz sz with
     | true=>some ([0≤n∧n < len],.op k (addz off n.toNat) 0,[k])
     | false=>none
    | none=>none
   | .sl len get=>match Nat.beq (get n.toNat).length sz with
    | true=>some ([0≤n∧n < len],.rp (get n.toNat) 0,[])
    | false=>none
   | _=>none
  | none=>none
 | some (.array len e),.atom (.int _ n)=>match tSz P e with
  | some sz=>match x with
   | .op k i j=>match P.underlying e with
    | some (.int _)=>match Nat.beq sz 1 with
     | true=>some ([0≤n∧n < len],.ov k i j len n.toNat,[])
     | false=>none
    | some .bool=>match Nat.beq sz 1 with
     | true=>some ([0≤n∧n < len],.ov k i j len n.toNat,[])
     | false=>none
    | _=>some ([0≤n∧n < len],.op k i (j+n.toNat * sz),[])
   | .rp cs j=>some ([0≤n∧n < len],.rp cs (j+n.toNat * sz),[])
   | _=>none
  | none=>none
 | _,_=>none
theorem ev_indexAddr (g:Good E σ S μ w) {T:TypeId} {x ix:AV} {v vi:Value} (hx:RepX w S μ v x) (hi:RepX w S μ vi ix) {ps:List Prop} {r:AV} {rd:List Nat}
  (h:evIndexAddr P σ T x ix=some (ps,r,rd)) (hp:AllP ps) :
  ∃ u,(Instr.indexAt T v vi).run P w=.ok u w∧RepX w S μ u r:=by
 unfold evIndexAddr at h
 split at h
 ·rename_i e kk n hu
  have:=rep_int hi;subst this
  split at h
  ·rename_i sz hsz
   split at h
   ·rename_i k off len
    split at h
    ·rename_i o ho
     split at h
     ·rename_i hb
      have hb:=Nat.eq_of_beq_eq_true hb
      simp only [Option.some.injEq,Prod.mk.injEq] at h
      obtain ⟨rfl,rfl,rfl⟩:=h
      obtain ⟨pl,c,T',hm,hob⟩:=g.rep.ob k o ho
      have hn:=hp.1
      cases hx with
      | os pl' hm' h1 h2 h3 =>
       rename_i cap a
       rw [hm] at hm';cases hm'
       have ha:=h1 (by omega)
       subst ha
       refine ⟨.pointer (some ⟨pl.blk,addz off n.toNat * pl.sz+0,none⟩),?_,.op pl hm⟩
       simp only [Instr.indexAt,asIntOf,run_underlying hu,Sem.run_bind,Sem.run_pure,Result.andThen_ok]
       rw [Sem.run_ite,if_pos hn]
       simp only [Sem.run_bind,run_sizeOf' hsz,Result.andThen_ok,Sem.run_pure,Addr.add_mid]
       rw [addz_eq,hob.sz,hb,Nat.add_mul]
       rfl
     ·cases h
    ·cases h
   ·rename_i len get
    split at h
    ·rename_i hb
     have hb:=Nat.eq_of_beq_eq_true hb
     simp only [Option.some.injEq,Prod.mk.injEq] at h
     obtain ⟨rfl,rfl,rfl⟩:=h
     have hn:=hp.1
     cases hx with
     | sl b off sz' f h1 h2 h3 h4 _ =>
      rename_i cap a
      have hi':n.toNat < len:=by omega
      obtain ⟨ha,hS⟩:=h1 (by omega)
      subst ha
      have hss:sz'=sz:=by rw [← h2 n.toNat hi',hb]
      subst hss
      refine ⟨.pointer (some ⟨b,(off+n.toNat * sz')+0,none⟩),?_,.rp b (off+n.toNat * sz') (f n.toNat) hS ?_ ?_⟩
      ·simp only [Instr.indexAt,asIntOf,run_underlying hu,Sem.run_bind,Sem.run_pure,Result.andThen_ok]
       simp_all [Sem.run_ite,if_pos,Sem.run_bind,run_sizeOf',Result.andThen_ok,Sem.run_pure,Addr.add_mid]
      ·simp_all
      simp_all
    ·cases h
   ·cases h
  ·cases h
 ·rename_i len e kk n hu
  have:=rep_int hi;subst this
  split at h
  ·rename_i sz hsz
   split at h
   ·rename_i k i j
    have hrun:0≤n∧n < len→∀ pl:Place,(Instr.indexAt T (.pointer (some ⟨pl.blk,i * pl.sz+j,none⟩)) (.int kk n)).run P w=.ok (.pointer (some ⟨pl.blk,i * pl.sz+(j+n.toNat * sz),none⟩)) w:=by
     intro hn pl
     simp only [Instr.indexAt,Instr.sureAddr,asIntOf,run_underlying hu,Sem.run_bind,Sem.run_pure,Result.andThen_ok]
     rw [Sem.run_ite,if_pos hn]
     simp only [Sem.run_bind,run_sizeOf' hsz,Result.andThen_ok,Sem.run_pure,Addr.add_mid,Nat.add_assoc]
    split at h
    ·split at h
     ·rename_i hs1
      have hs1:=Nat.eq_of_beq_eq_true hs1
      simp only [Option.some.injEq,Prod.mk.injEq] at h
      obtain ⟨rfl,rfl,rfl⟩:=h
      have hn:=hp.1
      cases hx with
      | op pl hm =>
       refine ⟨_,hrun hn pl,?_⟩
       rw [hs1,Nat.mul_one]
       exact .ov pl hm (by omega)
     ·cases h
    ·split at h
     ·rename_i hs1
      have hs1:=Nat.eq_of_beq_eq_true hs1
      simp only [Option.some.injEq,Prod.mk.injEq] at h
      obtain ⟨rfl,rfl,rfl⟩:=h
      have hn:=hp.1
      cases hx with
      | op pl hm =>
       refine ⟨_,hrun hn pl,?_⟩
       rw [hs1,Nat.mul_one]
       exact .ov pl hm (by omega)
     ·cases h
    ·simp only [Option.some.injEq,Prod.mk.injEq] at h
     obtain ⟨rfl,rfl,rfl⟩:=h
     have hn:=hp.1
     cases hx with
     | op pl hm=>exact ⟨_,hrun hn pl,.op pl hm⟩
   ·rename_i cs j
    simp only [Option.some.injEq,Prod.mk.injEq] at h
    obtain ⟨rfl,rfl,rfl⟩:=h
    have hn:=hp.1
    cases hx with
    | rp b o f h1 h2 h3 =>
     refine ⟨.pointer (some ⟨b,o+(j+n.toNat * sz),none⟩),?_,.rp b o f h1 h2 h3⟩
     simp only [Instr.indexAt,Instr.sureAddr,asIntOf,run_underlying hu,Sem.run_bind,Sem.run_pure,Result.andThen_ok]
     simp_all [Sem.run_ite,if_pos,Sem.run_bind,run_sizeOf',Result.andThen_ok,Sem.run_pure,Addr.add_mid,Nat.add_assoc]
   ·cases h
  ·cases h
 ·cases h
def byteAt (s:ByteArray) (i:Nat):Int:=((s[i]?).getD 0).toNat
def evIndex (P:Program) (T:TypeId) (x ix:AV):Option (List Prop×AV) :=
 match P.underlying T,x,ix with
 | some .string,.atom (.string s),.atom (.int _ n)=>some ([0≤n∧n < s.size],.atom (.int .u8 (byteAt s n.toNat)))
 | some (.array len e),.agg cs,.atom (.int _ n)=>match P.underlying e,tSz P e with
  | some (.int kd),some sz=>match intsC kd len cs with
   | some l=>match Nat.beq sz 1 && Nat.beq cs.length len with
    | true=>some ([0≤n∧n < len],.atom (.int kd (pickI l n.toNat)))
    | false=>none
   | none=>none
  | some .bool,some sz=>match boolsC len cs with
   | some l=>match Nat.beq sz 1 && Nat.beq cs.length len with
    | true=>some ([0≤n∧n < len],.atom (.bool (pickB l n.toNat)))
    | false=>none
   | none=>none
  | some _,some sz=>match Nat.ble (n.toNat * sz+sz) cs.length with
   | true=>(cellPart P e cs (n.toNat * sz)).map fun r=>([0≤n∧n < len],r)
   | false=>none
  | _,_=>none
 | _,_,_=>none
theorem ev_index {T:TypeId} {x ix:AV} {v vi:Value} (hx:RepX w S μ v x) (hi:RepX w S μ vi ix) {ps:List Prop} {r:AV} (h:evIndex P T x ix=some (ps,r)) (hp:AllP ps) :
  ∃ u,(Instr.index T v vi).run P w=.ok u w∧RepX w S μ u r:=by
 unfold evIndex at h
 split at h
 ·rename_i s kk n hu
  simp only [Option.some.injEq,Prod.mk.injEq] at h
  obtain ⟨rfl,rfl⟩:=h
  have:=rep_int hi;subst this
  have:=rep_int hx;subst this
  have hn:=hp.1
  have hlt:n.toNat < s.size:=by omega
  refine ⟨_,?_,.atom _⟩
  simp_all [Instr.index,asIntOf,run_underlying,Sem.run_bind,Sem.run_pure,Result.andThen_ok,if_pos,byteAt]
 ·rename_i len e cs kk n hu
  have fin:∀ {sz:Nat} {r':AV},tSz P e=some sz→n.toNat * sz+sz≤cs.length→cellPart P e cs (n.toNat * sz)=some r'→0≤n∧n < len →
    ∃ u,(Instr.index T v vi).run P w=.ok u w∧RepX w S μ u r':=by
   intro sz r' hsz hle hr hn
   have:=rep_int hi;subst this
   obtain ⟨vs,rfl,hv1,hv2⟩:=rep_agg hx
   obtain ⟨u,r1,r2⟩:=sat_stuck_part hv1 hv2 hr (fun n' h'=>by simp_all)
   refine ⟨u,?_,r2⟩
   simp only [Instr.index,asIntOf,run_underlying hu,Sem.run_bind,Sem.run_pure,Result.andThen_ok]
   rw [Sem.run_ite,if_pos hn]
   simp only [Sem.run_bind,run_sizeOf' hsz,Result.andThen_ok,r1]
  split at h
  ·rename_i kd sz he hsz
   split at h
   ·rename_i l hl
    split at h
    ·rename_i hb
     simp only [Bool.and_eq_true] at hb
     have hb1:=Nat.eq_of_beq_eq_true hb.1
     have hb2:=Nat.eq_of_beq_eq_true hb.2
     simp only [Option.some.injEq,Prod.mk.injEq] at h
     obtain ⟨rfl,rfl⟩:=h
     have hn:=hp.1
     refine fin hsz (by rw [hb1];omega) ?_ hn
     have hg:=intsC_get hl n.toNat (by omega)
     simp_all [cellPart,Nat.mul_one]
    ·cases h
   ·cases h
  ·rename_i sz he hsz
   split at h
   ·rename_i l hl
    split at h
    ·rename_i hb
     simp only [Bool.and_eq_true] at hb
     have hb1:=Nat.eq_of_beq_eq_true hb.1
     have hb2:=Nat.eq_of_beq_eq_true hb.2
     simp only [Option.some.injEq,Prod.mk.injEq] at h
     obtain ⟨rfl,rfl⟩:=h
     have hn:=hp.1
     refine fin hsz (by rw [hb1];omega) ?_ hn
     have hg:=boolsC_get hl n.toNat (by omega)
     simp_all [cellPart,Nat.mul_one]
    ·cases h
   ·cases h
  ·rename_i d sz he hsz
   split at h
   ·rename_i hle
    simp only [Nat.ble_eq] at hle
    simp only [Option.map_eq_some_iff,Prod.mk.injEq] at h
    obtain ⟨r',hr,rfl,rfl⟩:=h
    exact fin hsz hle hr hp.1
   ·cases h
  ·cases h
 ·cases h
def bound (len:Nat):Option AV→Option Nat
 | none=>some len
 | some (.atom (.int _ n))=>some n.toNat
 | _=>none
def boundP:Option AV→List Prop
 | some (.atom (.int _ n))=>[0≤n]
 | _=>[]
def evSlice (P:Program) (σ:Sto) (T:TypeId) (x:AV) (lo hi:Option AV):Option (List Prop×AV×List Nat) :=
 match P.underlying T,x with
 | some .string,.atom (.string s)=>match bound 0 lo,bound s.size hi with
  | some l,some h=>some ((l≤h∧h≤s.size) :: (boundP lo ++ boundP hi),.atom (.string (s.extract l h)),[])
  | _,_=>none
 | some (.slice e),x=>match tSz P e with
  | some sz=>match x with
   | .os k off len=>match bound 0 lo,bound len hi,sget σ k with
    | some l,some h,some o=>match Nat.beq o.sz sz with
     | true=>some ((l≤h∧h≤len) :: (boundP lo ++ boundP hi),.os k (addz off l) (h - l),[k])
     | false=>none
    | _,_,_=>none
   | .sl len get=>match bound 0 lo,bound len hi with
    | some l,some h=>match Nat.beq (get l).length sz with
     | true=>some ((l≤h∧h≤len) :: (boundP lo ++ boundP hi),.sl (h - l) fun i=>get (addz l i),[])
     | false=>none
    | _,_=>none
   | _=>none
  | none=>none
 | _,_=>none
theorem ints_bound {lo:Option AV} {vlo:Option Value} (hv:(vlo=none↔lo=none)∧∀ a b,lo=some a→vlo=some b→RepX w S μ b a) {len l:Nat} (h:bound len lo=some l) :
  (lo=none∧vlo=none∧l=len)∨∃ k n,vlo=some (.int k n)∧lo=some (.atom (.int k n))∧l=n.toNat:=by
 unfold bound at h
 split at h
 ·simp_all
 ·rename_i k n
  right
  cases vlo with
  | none=>simp_all
  | some b =>
   have:=rep_int (hv.2 _ b rfl rfl)
   grind
 ·cases h
theorem run_bounds (isSlice:Bool) {len cap l h:Nat} {lo hi:Option AV} {vlo vhi:Option Value} (hlo:(vlo=none↔lo=none)∧∀ a b,lo=some a→vlo=some b→RepX w S μ b a)
  (hhi:(vhi=none↔hi=none)∧∀ a b,hi=some a→vhi=some b→RepX w S μ b a) (hl:bound 0 lo=some l) (hh:bound len hi=some h) (hle:l≤h) (hcap:h≤cap) (hp:AllP (boundP lo ++ boundP hi)) :
  (Instr.sliceBounds isSlice len cap vlo vhi none).run P w=.ok (l,h,cap) w:=by
 obtain ⟨p1,p2⟩:=AllP.app hp
 rcases ints_bound hlo hl with ⟨e1,e2,e3⟩ | ⟨k1,n1,e1,e2,e3⟩
 ·subst e1 e2 e3
  rcases ints_bound hhi hh with ⟨f1,f2,f3⟩ | ⟨k2,n2,f1,f2,f3⟩
  ·simp_all [Instr.sliceBounds]
  ·subst f1 f2 f3
   have:=p2.1
   simp_all [Instr.sliceBounds,Instr.sliceBound,asIntOf]
 ·subst e1 e2 e3
  have:=p1.1
  rcases ints_bound hhi hh with ⟨f1,f2,f3⟩ | ⟨k2,n2,f1,f2,f3⟩
  ·simp_all [Instr.sliceBounds,Instr.sliceBound,asIntOf]
  ·subst f1 f2 f3
   have:=p2.1
   have h2:0≤n2∧n2≤cap:=by omega
   have h3:0≤n1∧n1≤(n2.toNat:Int):=by omega
   simp_all [Instr.sliceBounds,Instr.sliceBound,asIntOf,Sem.run_bind,Sem.run_pure,Result.andThen_ok,Sem.run_ite,if_pos]
theorem ev_slice (g:Good E σ S μ w) {T:TypeId} {x:AV} {v:Value} (hx:RepX w S μ v x) {lo hi:Option AV} {vlo vhi:Option Value}
  (hlo:(vlo=none↔lo=none)∧∀ a b,lo=some a→vlo=some b→RepX w S μ b a)
  (hhi:(vhi=none↔hi=none)∧∀ a b,hi=some a→vhi=some b→RepX w S μ b a) {ps:List Prop} {r:AV} {rd:List Nat} (h:evSlice P σ T x lo hi=some (ps,r,rd)) (hp:AllP ps) :
  ∃ u,(Instr.sliceAt T v vlo vhi none).run P w=.ok u w∧RepX w S μ u r:=by
 unfold evSlice at h
 split at h
 ·rename_i s hu
  have:=rep_int hx;subst this
  split at h
  ·rename_i l hh hl hh'
   simp only [Option.some.injEq,Prod.mk.injEq] at h
   obtain ⟨rfl,rfl,rfl⟩:=h
   obtain ⟨⟨p1,p2⟩,p3⟩:=hp
   have hb:=run_bounds (P:=P) (w:=w) false (cap:=s.size) hlo hhi hl hh' p1 p2 p3
   refine ⟨_,?_,.atom _⟩
   simp [Instr.sliceAt,Instr.slice,run_underlying hu,hb]
  ·cases h
 ·rename_i e hu
  split at h
  ·rename_i sz hsz
   split at h
   ·rename_i k off len
    split at h
    ·rename_i l hh o hl hh' ho
     split at h
     ·rename_i hb
      have hb:=Nat.eq_of_beq_eq_true hb
      simp only [Option.some.injEq,Prod.mk.injEq] at h
      obtain ⟨rfl,rfl,rfl⟩:=h
      obtain ⟨⟨p1,p2⟩,p3⟩:=hp
      obtain ⟨pl,c,T',hm,hob⟩:=g.rep.ob k o ho
      cases hx with
      | os pl' hm' h1 h2 h3 =>
       rename_i cap a
       rw [hm] at hm';cases hm'
       have hbd:=run_bounds (P:=P) (w:=w) true (cap:=cap) hlo hhi hl hh' p1 (by omega) p3
       refine ⟨.slice (if cap=l then a else a.map (·.add (l * sz))) (hh - l) (cap - l),?_,?_⟩
       ·simp [Instr.sliceAt,Instr.slice,run_underlying hu,hbd,run_sizeOf' hsz]
       ·refine .os pl hm ?_ (by omega) (by rw [addz_eq];omega)
        intro hc
        have:=h1 (by omega)
        subst this
        rw [if_neg (by omega)]
        simp only [Option.map_some,Addr.add_mid]
        rw [addz_eq,hob.sz,hb,Nat.add_mul]
     ·cases h
    ·cases h
   ·rename_i len get
    split at h
    ·rename_i l hh hl hh'
     split at h
     ·rename_i hb
      have hb:=Nat.eq_of_beq_eq_true hb
      simp only [Option.some.injEq,Prod.mk.injEq] at h
      obtain ⟨rfl,rfl,rfl⟩:=h
      obtain ⟨⟨p1,p2⟩,p3⟩:=hp
      cases hx with
      | sl b off sz' f h1 h2 h3 h4 h5 =>
       rename_i a cap
       have hbd:=run_bounds (P:=P) (w:=w) true (cap:=cap) hlo hhi hl hh' p1 (by omega) p3
       have hss:l < hh→sz'=sz:=fun hlt=>by grind
       refine ⟨.slice (if cap=l then a else a.map (·.add (l * sz))) (hh - l) (cap - l),?_,?_⟩
       ·simp [Instr.sliceAt,Instr.slice,run_underlying hu,hbd,run_sizeOf' hsz]
       ·refine .sl b (off+l * sz) sz' (fun i j=>f (addz l i) j) ?_ (fun i hi=>h2 _ (by rw [addz_eq];omega)) ?_ (fun i j c hi hc=>h4 _ _ _ (by rw [addz_eq];omega) hc) (by omega)
        ·intro hc
         obtain ⟨ha,hS⟩:=h1 (by omega)
         subst ha
         rw [if_neg (by omega)]
         simp_all [Option.map_some,Addr.add_mid,trivial]
        ·intro i j hi hj
         have:=h3 (addz l i) j (by rw [addz_eq];omega) hj
         rw [addz_eq] at this ⊢
         rw [← this,← hss (by omega),Nat.add_mul]
         congr 2;omega
     ·cases h
    ·cases h
   ·cases h
  ·cases h
 ·cases h
end
end Go.Ab
namespace Go.Ab
section
variable {P:Program} {E:Env} {nk:Nat} {σ:Sto} {S:Nat→Prop} {μ:Mu} {w:World}
def evLen (P:Program) (T:TypeId) (x:AV):Option AV :=
 match P.underlying T with
 | some .string=>match x with
  | .atom (.string s)=>some (.atom (.int .i64 s.size))
  | _=>none
 | some (.array n _)=>some (.atom (.int .i64 n))
 | some (.slice _)=>match x with
  | .os _ _ n=>some (.atom (.int .i64 n))
  | .sl n _=>some (.atom (.int .i64 n))
  | .nil=>some (.atom (.int .i64 0))
  | _=>none
 | _=>none
theorem ev_len {T:TypeId} {x:AV} {v:Value} (hx:RepX w S μ v x) {r:AV} (h:evLen P T x=some r) (ty:TypeId) :
  ∃ u,(Builtin.len_ #[T] ty #[v]).run P w=.ok u w∧RepX w S μ u r:=by
 unfold evLen at h
 split at h
 ·rename_i hu
  split at h
  ·cases h
   have:=rep_int hx;subst this
   exact ⟨_,by simp [Builtin.len_,run_underlying hu,goInt],.atom _⟩
  ·cases h
 ·rename_i n e hu
  cases h
  exact ⟨_,by simp [Builtin.len_,run_underlying hu,goInt],.atom _⟩
 ·rename_i e hu
  split at h
  ·cases h
   cases hx with
   | os pl hm h1 h2 h3=>exact ⟨_,by simp [Builtin.len_,run_underlying hu,goInt],.atom _⟩
  ·cases h
   cases hx with
   | sl b off sz f h1 h2 h3 h4 h5=>exact ⟨_,by simp [Builtin.len_,run_underlying hu,goInt],.atom _⟩
  ·cases h
   cases hx
   exact ⟨_,by simp [Builtin.len_,run_underlying hu,goInt],.atom _⟩
  ·cases h
 ·cases h
def srcOf (σ:Sto) (sz:Nat) (x:AV):Option (Nat×(Nat→List AV)×Bool×List Prop×List Nat) :=
 match x with
 | .nil=>some (0,fun _=>[],true,[],[])
 | .sl n g=>match Nat.beq (g 0).length sz with
  | true=>some (n,g,true,[∀ i,i < n→AV.oneL (g i)=true],[])
  | false=>none
 | .os k off n=>match sget σ k with
  | some o=>match Nat.beq o.sz sz with
   | true=>some (n,(fun i=>o.get (addz off i)),o.pr,[off+n≤o.len,∀ i,i < n→AV.oneL (o.get (addz off i))=true],[k])
   | false=>none
  | none=>none
 | _=>none
structure Src (P:Program) (w:World) (S:Nat→Prop) (μ:Mu) (sz:Nat) (v:Value) (n:Nat) (g:Nat→List AV) (pr:Bool) (news:List Value):Prop where
 len:∀ w':World,(Builtin.lenOf v).run P w'=.ok n w'
 cells:∀ w':World,w'.heap=w.heap→(Builtin.firstCells sz n v).run P w'=.ok news.toArray w'
 size:news.length=n * sz
 one:∀ u∈news,u.oneCell'=true
 els:∀ i,i < n→(g i).length=sz
 rep:∀ i j x u,i < n→(g i)[j]?=some x→news[i * sz+j]?=some u→RepX w S (if pr then noMu else μ) u x
 one2:∀ i,i < n→AV.oneL (g i)=true
theorem mul_split {n sz q:Nat} (h:q < n * sz):q / sz < n∧q % sz < sz∧q=q / sz * sz+q % sz:=by
 have h0:0 < sz:=by
  rcases Nat.eq_zero_or_pos sz with h1 | h1
  ·subst h1;simp at h
  ·exact h1
 simp_all [Nat.div_lt_of_lt_mul,Nat.mul_comm,Nat.mod_lt,Nat.div_add_mod]
theorem Src.mk' {sz n:Nat} {g:Nat→List AV} {pr:Bool} {b o len cap:Nat} (f:Nat→Nat→Value) (hl:n=len)
  (hc:∀ i j,i < n→j < sz→w.cell? ⟨b,o+i * sz+j,none⟩=some (f i j)) (h1:∀ i,i < n→AV.oneL (g i)=true) (hels:∀ i,i < n→(g i).length=sz)
  (hr:∀ i j x,i < n→(g i)[j]?=some x→RepX w S (if pr then noMu else μ) (f i j) x) :
  ∃ news,Src P w S μ sz (.slice (some ⟨b,o,none⟩) len cap) n g pr news:=by
 subst hl
 refine ⟨(List.range (n * sz)).map fun q=>f (q / sz) (q % sz),?_⟩
 have hget:∀ q u,((List.range (n * sz)).map fun q=>f (q / sz) (q % sz))[q]?=some u→q < n * sz∧u=f (q / sz) (q % sz):=by
  intro q u hq
  have hlt:q < n * sz:=by
   have:=(List.getElem?_eq_some_iff.1 hq).1
   simpa using this
  simp [List.getElem?_range hlt] at hq
  exact ⟨hlt,hq.symm⟩
 refine ⟨fun w'=>by simp [Builtin.lenOf],fun w' hw=>?_,by simp,?_,hels,?_,h1⟩
 ·have hcell:∀ a,w'.cell? a=w.cell? a:=fun a=>by simp [World.cell?,hw]
  refine run_firstCells_some w' sz n ⟨b,o,none⟩ n cap _ (by simp) ?_
  intro q u hq
  obtain ⟨hlt,rfl⟩:=hget q u hq
  obtain ⟨h2,h3,h4⟩:=mul_split hlt
  rw [hcell,Addr.add_mid]
  have:=hc _ _ h2 h3
  rw [Nat.add_assoc,← h4] at this
  exact this
 ·intro u hu
  obtain ⟨q,hq⟩:=List.getElem?_of_mem hu
  obtain ⟨hlt,rfl⟩:=hget q u hq
  obtain ⟨h2,h3,h4⟩:=mul_split hlt
  have hx:(g (q / sz))[q % sz]?=some ((g (q / sz))[q % sz]'(by rw [hels _ h2];exact h3)):=List.getElem?_eq_getElem _
  exact (hr _ _ _ h2 hx).oneCell (oneL_get (h1 _ h2) hx)
 ·intro i j x u hi hx hu
  obtain ⟨hlt,rfl⟩:=hget _ u hu
  have hj:j < sz:=by
   have:=(List.getElem?_eq_some_iff.1 hx).1
   rwa [hels i hi] at this
  have e1:(i * sz+j) / sz=i:=by
   rw [Nat.mul_comm,Nat.mul_add_div (by omega),Nat.div_eq_of_lt hj];omega
  have e2:(i * sz+j) % sz=j:=by
   rw [Nat.mul_comm,Nat.mul_add_mod,Nat.mod_eq_of_lt hj]
  rw [e1,e2]
  exact hr i j x hi hx
theorem Src.empty {sz:Nat} {g:Nat→List AV} {pr:Bool} {a:Option Addr} {cap:Nat}:Src P w S μ sz (.slice a 0 cap) 0 g pr []:=by
 refine ⟨fun w'=>by simp [Builtin.lenOf],fun w' _=>?_,by simp,by simp,fun i h=>absurd h (by omega),fun i j x u h=>absurd h (by omega),fun i h=>absurd h (by omega)⟩
 cases a with
 | none=>simp [Builtin.firstCells]
 | some a=>simp [Builtin.firstCells,loadCells,loadCellsFrom]
theorem ev_src (g:Good E σ S μ w) {sz:Nat} {x:AV} {v:Value} (hx:RepX w S μ v x) {n:Nat} {gt:Nat→List AV} {pr:Bool} {ps:List Prop} {rd:List Nat}
  (h:srcOf σ sz x=some (n,gt,pr,ps,rd)) (hp:AllP ps):∃ news,Src P w S μ sz v n gt pr news:=by
 unfold srcOf at h
 split at h
 ·simp only [Option.some.injEq,Prod.mk.injEq] at h
  obtain ⟨rfl,rfl,rfl,rfl,rfl⟩:=h
  cases hx
  exact ⟨[],Src.empty⟩
 ·rename_i n' g'
  split at h
  ·rename_i hb
   have hb:=Nat.eq_of_beq_eq_true hb
   simp only [Option.some.injEq,Prod.mk.injEq] at h
   obtain ⟨rfl,rfl,rfl,rfl,rfl⟩:=h
   cases hx with
   | sl b off sz' f h1 h2 h3 h4 h5 =>
    rcases Nat.eq_zero_or_pos n' with h0 | h0
    ·subst h0;exact ⟨[],Src.empty⟩
    ·obtain ⟨ha,_⟩:=h1 h0
     subst ha
     have hs:sz'=sz:=by rw [← h2 0 h0,hb]
     subst hs
     exact Src.mk' f rfl h3 hp.1 h2 (fun i j x hi hx=>h4 i j x hi hx)
  ·cases h
 ·rename_i k off n'
  split at h
  ·rename_i o ho
   split at h
   ·rename_i hb
    have hb:=Nat.eq_of_beq_eq_true hb
    simp only [Option.some.injEq,Prod.mk.injEq] at h
    obtain ⟨rfl,hg,rfl,rfl,rfl⟩:=h
    have hgt:gt=fun i=>o.get (off+i):=by
     rw [← hg];funext i;rw [addz_eq]
    subst hgt
    obtain ⟨hle,hone,_⟩:=hp
    simp only [addz_eq] at hone
    obtain ⟨pl,c,T',hm,hob⟩:=g.rep.ob k o ho
    subst hb
    cases hx with
    | os pl' hm' h1 h2 h3 =>
     rename_i cap a
     rw [hm] at hm';cases hm'
     rcases Nat.eq_zero_or_pos n' with h0 | h0
     ·subst h0;exact ⟨[],Src.empty⟩
     ·have ha:=h1 (by omega)
      subst ha
      refine Src.mk' (fun i j=>(c[(off+i) * o.sz+j]?).getD undef) rfl ?_ hone (fun i hi=>hob.els _ (by omega)) ?_
      ·intro i j hi hj
       obtain ⟨v,q1,q2⟩:=cell_of_obrep hob (i:=off+i) (by omega) hj
       rw [q1,hob.sz,← Nat.add_mul,q2];rfl
      ·intro i j x hi hx
       obtain ⟨v,q1,q2⟩:=cell_of_obrep hob (i:=off+i) (by omega) (by have:=(List.getElem?_eq_some_iff.1 hx).1;rwa [hob.els _ (by omega)] at this)
       rw [q1]
       exact hob.rep _ j x v (by omega) hx q1
   ·cases h
  ·cases h
 ·cases h
def evAppend (P:Program) (nk:Nat) (σ:Sto) (t:TypeId) (s x:AV):Option (List Prop×AV×List Nat×Upd) :=
 match sliceElem P t with
 | some e=>match tSz P e,tBytes P e,tZero P e with
  | some sz,some b,some z=>match Nat.ble 1 sz && Nat.ble 1 b && Nat.beq z.cells.size sz,srcOf σ sz x with
   | true,some (n,g,pr,ps,rd)=>match s with
    | .nil=>some ((n * b≤140737488355328) :: ps,.os nk 0 n,rd,[(nk,some ⟨false,sz,n,pr,g⟩)])
    | .os k 0 len=>match sget σ k with
     | some o=>match Nat.beq o.sz sz && !o.var with
      | true=>some ((len=o.len) :: ((len+n) * b≤140737488355328) :: ps,.os nk 0 (len+n),k :: rd,
        [(k,none),(nk,some ⟨false,sz,len+n,o.pr && pr,fun m=>if m < len then o.get m else g (m - len)⟩)])
      | false=>none
     | none=>none
    | _=>none
   | _,_=>none
  | _,_,_=>none
 | none=>none
theorem run_app_in0 {t ty e:TypeId} {i:TypeInfo} (ht:P.underlying t=some (.slice e)) (hi:P.info? e=some i) {sLen sCap n:Nat} {vx:Value} {news:List Value}
  (hl:∀ w':World,(Builtin.lenOf vx).run P w'=.ok n w') (hc:∀ w':World,w'.heap=w.heap→(Builtin.firstCells i.size n vx).run P w'=.ok news.toArray w') (hle:sLen+n≤sCap) :
  (Builtin.append_ #[t,t] ty #[.slice none sLen sCap,vx]).run P w=.ok (.slice none (sLen+n) sCap) w:=by
 simp [Builtin.append_,run_underlying ht,sizeOf,typeInfo,hi,hl,hle,hc w rfl]
theorem run_app_in {t ty e:TypeId} {i:TypeInfo} (ht:P.underlying t=some (.slice e)) (hi:P.info? e=some i) {g sLen sCap n:Nat} {cur:Array Value} {T:TypeId} (hg:w.heap[g]?=some (.cells cur T (0,0))) {vx:Value} {news:List Value}
  (hl:∀ w':World,(Builtin.lenOf vx).run P w'=.ok n w') (hc:∀ w':World,w'.heap=w.heap→(Builtin.firstCells i.size n vx).run P w'=.ok news.toArray w') (h1:∀ u∈news,u.oneCell'=true)
  (hle:sLen+n≤sCap) (hfit:sLen * i.size+news.length≤cur.size) :
  (Builtin.append_ #[t,t] ty #[.slice (some ⟨g,0,none⟩) sLen sCap,vx]).run P w =
   .ok (.slice (some ⟨g,0,none⟩) (sLen+n) sCap) (w.setRow g (cur.toList.take (sLen * i.size) ++ news ++ cur.toList.drop (sLen * i.size+news.length)).toArray):=by
 have hst:=run_storeCells_at P g (sLen * i.size) T news 0 cur w hg (by simpa using hfit) h1
 simp only [Nat.add_zero] at hst
 simp [Builtin.append_,run_underlying ht,sizeOf,typeInfo,hi,hl,hle,hc w rfl,Addr.add_lit,hst]
theorem run_app_at {t ty e:TypeId} {i:TypeInfo} (ht:P.underlying t=some (.slice e)) (hi:P.info? e=some i) {g b sLen sCap n:Nat} {cur:Array Value} {T:TypeId} (hg:w.heap[g]?=some (.cells cur T (0,0))) {vx:Value} {news:List Value}
  (hl:∀ w':World,(Builtin.lenOf vx).run P w'=.ok n w') (hc:∀ w':World,w'.heap=w.heap→(Builtin.firstCells i.size n vx).run P w'=.ok news.toArray w') (h1:∀ u∈news,u.oneCell'=true)
  (hle:sLen+n≤sCap) (hfit:b+sLen * i.size+news.length≤cur.size) :
  (Builtin.append_ #[t,t] ty #[.slice (some ⟨g,b,none⟩) sLen sCap,vx]).run P w =
   .ok (.slice (some ⟨g,b,none⟩) (sLen+n) sCap) (w.setRow g (cur.toList.take (b+sLen * i.size) ++ news ++ cur.toList.drop (b+sLen * i.size+news.length)).toArray):=by
 have hst:=run_storeCells_at P g (b+sLen * i.size) T news 0 cur w hg (by simpa using hfit) h1
 simp only [Nat.add_zero] at hst
 simp [Builtin.append_,run_underlying ht,sizeOf,typeInfo,hi,hl,hle,hc w rfl,Addr.add_lit,hst]
theorem run_app_grow {t ty e:TypeId} {i:TypeInfo} {z:Value} (ht:P.underlying t=some (.slice e)) (hi:P.info? e=some i) (hz:i.zero=some z) {base:Option Addr} {sLen sCap n:Nat} {vx:Value} {olds news:List Value}
  (ho:∀ w':World,w'.heap=w.heap→(Builtin.firstCells i.size sLen (.slice base sLen sCap)).run P w'=.ok olds.toArray w')
  (hl:∀ w':World,(Builtin.lenOf vx).run P w'=.ok n w') (hc:∀ w':World,w'.heap=w.heap→(Builtin.firstCells i.size n vx).run P w'=.ok news.toArray w')
  (hg:sCap < sLen+n) (hb:1≤i.bytes) (hfit:(sLen+n) * i.bytes≤140737488355328) :
  (Builtin.append_ #[t,t] ty #[.slice base sLen sCap,vx]).run P w =
   .ok (.slice (some ⟨w.heap.size,0,none⟩) (sLen+n) (grownCap w (sLen+n) sCap e))
    (w.drew.alloc (.cells (olds.toArray ++ news.toArray ++ Builtin.zeroCells z.cells (grownCap w (sLen+n) sCap e - (sLen+n))) e)):=by
 have hn:¬ (sLen+n≤sCap):=by omega
 have hbb:(sLen+n) * 1≤(sLen+n) * i.bytes:=Nat.mul_le_mul_left _ hb
 have h63':¬ (9223372036854775807 < ((sLen:Int)+(n:Int))):=by omega
 have h48:=growslice_fits hg hfit
 have h48':¬ (281474976710656 < Builtin.nextslicecap (sLen+n) sCap * i.bytes):=by omega
 have e1:=hc w.drew rfl
 have e2:=ho w.drew rfl
 simp [Builtin.append_,run_underlying ht,sizeOf,typeInfo,zeroValue,hi,hz,hl,hn,h63',h48',Question.forced,e1,e2,newRow,grownCap]
 grind
theorem grown_ge (w:World) (need old:Nat) (e:TypeId):need≤grownCap w need old e:=by simp [grownCap,Question.cut]
theorem Good.grow (g:Good E σ S μ w) (hk:μ nk=none) (hm:E.m0≤nk) {sz n len cap:Nat} {e:TypeId} {olds news:List Value} {rest:Array Value} {pr:Bool} {get:Nat→List AV}
  (ho:olds.length=len * sz) (hn:news.length=n * sz) (hr:rest.size=(cap - (len+n)) * sz) (hle:len+n≤cap)
  (hels:∀ i,i < len+n→(get i).length=sz)
  (hrep:∀ i j x u,i < len+n→(get i)[j]?=some x→(olds ++ news)[i * sz+j]?=some u→RepX w S (if pr then noMu else μ) u x) (hsz0:sz≠0)
  (hmx:MX E.fp E.w0.heap.size (w.drew.alloc (.cells (olds.toArray ++ news.toArray ++ rest) e)) S (muSet μ nk ⟨w.heap.size,cap,sz⟩) (sset σ nk ⟨false,sz,len+n,pr,get⟩)) :
  Ext w S μ (w.drew.alloc (.cells (olds.toArray ++ news.toArray ++ rest) e)) S (muSet μ nk ⟨w.heap.size,cap,sz⟩) ∧
  Good E (sset σ nk ⟨false,sz,len+n,pr,get⟩) S (muSet μ nk ⟨w.heap.size,cap,sz⟩) (w.drew.alloc (.cells (olds.toArray ++ news.toArray ++ rest) e)):=by
 have hsz:(olds.toArray ++ news.toArray ++ rest).size=cap * sz:=by
  simp only [Array.size_append,List.size_toArray,ho,hn,hr]
  rw [← Nat.add_mul,← Nat.add_mul];congr 1;omega
 have ga:=g.drew.allocR (nk:=nk) hk hm (olds.toArray ++ news.toArray ++ rest) e ⟨false,sz,len+n,pr,get⟩ cap (by rw [hsz];exact Nat.le_refl _) hle hels ?_ hsz0 hmx
 ·exact ⟨(Ext.drew w S μ).trans ga.1,ga.2⟩
 ·intro i j x v hi hx hv
  have hj:j < sz:=by
   have:=(List.getElem?_eq_some_iff.1 hx).1
   have e:(get i).length=sz:=hels i hi
   exact e ▸ this
  have hlt:i * sz+j < (olds ++ news).length:=by
   have h1:(i+1) * sz≤(len+n) * sz:=Nat.mul_le_mul_right _ (show i+1≤len+n from hi)
   rw [Nat.add_mul,Nat.add_mul] at h1
   simp only [List.length_append,ho,hn]
   omega
  have hv':(olds ++ news)[i * sz+j]?=some v:=by
   rw [show olds.toArray ++ news.toArray ++ rest=(olds ++ news).toArray ++ rest by simp] at hv
   rw [Array.getElem?_append_left (by simpa using hlt)] at hv
   simpa using hv
  have:=hrep i j x v hi hx hv'
  exact RepX.mono (w:=w) (w':=w.drew) (S':=S) (fun _ h=>h) (fun _ _=>rfl) this (fun _ _ h=>h)
theorem Good.move (g:Good E σ S μ w) (hk:μ nk=none) (hm:E.m0≤nk) {k:Nat} {o:Ob} {pl:Place} (ho:sget σ k=some o) (hmk:μ k=some pl) (o':Ob) {c:Array Value} {T:TypeId} (hob:ObRep w S μ o' pl c T)
  (hrow:∀ i x,rowOf o' i=some x→rowOf o i=some x) :
  Ext w S μ w S (muSet μ nk pl)∧Good E (sset (sdel σ k) nk o') S (muSet μ nk pl) w:=by
 have gd:=g.del k
 have hmu:∀ n pl',μ n=some pl'→muSet μ nk pl n=some pl':=fun n pl' h=>by
  grind [muSet]
 have ex:Ext w S μ w S (muSet μ nk pl):=⟨Nat.le_refl _,fun _ h=>h,fun _ _=>rfl,hmu⟩
 refine ⟨ex,⟨g.fr,g.S0,g.S1,g.S2,⟨?_,?_⟩,?_,?_,?_⟩⟩
 rotate_right
 ·have hnk:k≠nk:=fun h=>by simp_all
  have key:∀ q i x v,RowV w (muSet μ nk pl) (sset (sdel σ k) nk o') q i x v→(q=nk∧RowV w μ σ k i x v)∨(q≠nk∧q≠k∧RowV w μ σ q i x v):=by
   rintro q i x v ⟨o2,pl2,h1,h2,h3,h4⟩
   rw [sget_sset] at h1
   unfold muSet at h3
   by_cases hq:nk=q
   ·rw [if_pos hq] at h1;cases h1
    rw [if_pos hq.symm] at h3;cases h3
    exact .inl ⟨hq.symm,o,pl,ho,hrow i x h2,hmk,h4⟩
   ·rw [if_neg hq] at h1
    rw [if_neg (fun h=>hq h.symm)] at h3
    rw [sget_sdel] at h1
    split at h1
    ·cases h1
    ·rename_i hkq
     exact .inr ⟨fun h=>hq h.symm,fun h=>hkq h.symm,o2,pl2,h1,h2,h3,h4⟩
  refine g.mx.tr (fun q=>if q=nk then k else q) (fun q i x v h=>?_) (fun q i x v q' i' x' v' h h' e=>?_) (fun _ h=>h) (fun _ _=>rfl) (fun q i x v b _ h hb=>⟨rfl,(g.mx.blk h hb).2.1,fun h=>h⟩) (fun q o2 pl2 h1 h2 h3=>?_)
  ·grind
  ·grind
  ·rw [sget_sset] at h1
   unfold muSet at h2
   by_cases hq:nk=q
   ·grind
   ·rw [if_neg hq,sget_sdel] at h1
    grind
 ·intro q oq hq
  rw [sget_sset] at hq
  by_cases hqn:nk=q
  ·rw [if_pos hqn] at hq;cases hq
   exact ⟨pl,c,T,by simp [muSet,hqn],hob.ext ex (fun _=>rfl) hob.out⟩
  ·rw [if_neg hqn] at hq
   obtain ⟨pl2,c2,T2,hm2,hob2⟩:=gd.rep.ob q oq hq
   exact ⟨pl2,c2,T2,hmu _ _ hm2,hob2.ext ex (fun _=>rfl) hob2.out⟩
 ·intro q q' oq oq' pl1 pl2 hne hq hq' hpl hpl' c1 c2
  rw [sget_sset] at hq hq'
  simp only [muSet] at hpl hpl'
  by_cases e1:nk=q
  ·rw [if_pos e1.symm] at hpl;cases hpl
   have e2:¬ nk=q':=fun h=>hne (e1.symm.trans h)
   rw [if_neg e2] at hq';rw [if_neg (fun h=>e2 h.symm)] at hpl'
   rw [sget_sdel] at hq'
   split at hq'
   ·cases hq'
   ·rename_i e3
    exact g.rep.ne k q' o oq' pl pl2 e3 ho hq' hmk hpl' c1 c2
  ·rw [if_neg e1] at hq;rw [if_neg (fun h=>e1 h.symm)] at hpl
   rw [sget_sdel] at hq
   split at hq
   ·cases hq
   ·rename_i e3
    by_cases e2:nk=q'
    ·rw [if_pos e2.symm] at hpl';cases hpl'
     exact g.rep.ne q k oq o pl1 pl (fun h=>e3 h.symm) hq ho hpl hmk c1 c2
    ·rw [if_neg e2] at hq';rw [if_neg (fun h=>e2 h.symm)] at hpl'
     rw [sget_sdel] at hq'
     split at hq'
     ·cases hq'
     ·exact g.rep.ne q q' oq oq' pl1 pl2 hne hq hq' hpl hpl' c1 c2
 ·intro q oq plq hq hpl c1
  rw [sget_sset] at hq
  simp only [muSet] at hpl
  by_cases e1:nk=q
  ·rw [if_pos e1.symm] at hpl;cases hpl;exact g.own k o _ ho hmk c1
  ·rw [if_neg e1] at hq;rw [if_neg (fun h=>e1 h.symm)] at hpl
   exact gd.own q oq plq hq hpl c1
 ·intro q hq;rw [muSet_ne _ (by omega)];exact g.mu0 q hq
theorem Good.congr {σ':Sto} (g:Good E σ S μ w) (h:∀ n,sget σ' n=sget σ n):Good E σ' S μ w :=
 ⟨g.fr,g.S0,g.S1,g.S2,⟨fun k o hk=>g.rep.ob k o (h k ▸ hk),fun k k' o o' pl pl' hne hk hk'=>g.rep.ne k k' o o' pl pl' hne (h k ▸ hk) (h k' ▸ hk')⟩,
  fun k o pl hk=>g.own k o pl (h k ▸ hk),g.mu0,g.mx.tr id (fun k i x v ⟨o,pl,h1,h2⟩=>⟨o,pl,h k ▸ h1,h2⟩) (fun _ _ _ _ _ _ _ _ _ _ h=>h) (fun _ h=>h) (fun _ _=>rfl)
   (fun k i x v b _ h hb=>⟨rfl,(g.mx.blk h hb).2.1,fun h=>h⟩) (fun k o pl h1 h2 h3=>.inl ⟨k,o,pl,h k ▸ h1,h2,h3,rfl⟩)⟩
theorem ev_append (g:Good E σ S μ w) (hk:μ nk=none) (hm:E.m0≤nk) {t ty:TypeId} {s x:AV} {vs vx:Value} (hs:RepX w S μ vs s) (hx:RepX w S μ vx x) {ps:List Prop} {val:AV} {rd:List Nat} {upd:Upd}
  (h:evAppend P nk σ t s x=some (ps,val,rd,upd)) (hp:AllP ps):Step P E nk σ S μ w (Builtin.append_ #[t,t] ty #[vs,vx]) val upd:=by
 unfold evAppend at h
 split at h
 ·rename_i e he
  have he:=sliceElem_eq he
  split at h
  ·rename_i sz b z hsz hb hz
   obtain ⟨ie,hie,rfl,rfl,hze⟩:=info_of hsz hb hz
   split at h
   ·rename_i n gt pr ps' rd' hbb hsrc
    simp only [Bool.and_eq_true,Nat.ble_eq] at hbb
    obtain ⟨⟨b1,b2⟩,b3⟩:=hbb
    have b3:=Nat.eq_of_beq_eq_true b3
    split at h
    ·simp only [Option.some.injEq,Prod.mk.injEq] at h
     obtain ⟨rfl,rfl,rfl,rfl⟩:=h
     obtain ⟨p1,p2⟩:=hp
     obtain ⟨news,sr⟩:=ev_src (P:=P) g hx hsrc p2
     cases hs
     rcases Nat.eq_zero_or_pos n with h0 | h0
     ·subst h0
      have hrun:=run_app_in0 (P:=P) (w:=w) (ty:=ty) (sLen:=0) (sCap:=0) he hie sr.len sr.cells (by omega)
      have ga:Good E (sset σ nk ⟨false,ie.size,0,pr,gt⟩) S (muSet μ nk ⟨0,0,ie.size⟩) w:=by
       have hmu:∀ k pl,μ k=some pl→muSet μ nk ⟨0,0,ie.size⟩ k=some pl:=fun k pl h=>by
        grind [muSet]
       have ex:Ext w S μ w S (muSet μ nk ⟨0,0,ie.size⟩):=⟨Nat.le_refl _,fun _ h=>h,fun _ _=>rfl,hmu⟩
       have hnr:∀ i,rowOf ⟨false,ie.size,0,pr,gt⟩ i=none:=rowOf_none_one fun i hi=>absurd hi (Nat.not_lt_zero _)
       refine ⟨g.fr,g.S0,g.S1,g.S2,⟨?_,?_⟩,?_,?_,g.mxNew hk _ _ (fun h=>absurd h (by simp)) hnr (fun _ _=>rfl) (fun _ h=>h) (fun _ h=>.inl h)⟩
       ·intro k o ho
        rw [sget_sset] at ho
        by_cases hkn:nk=k
        ·rw [if_pos hkn] at ho;cases ho
         exact ⟨⟨0,0,ie.size⟩,#[],0,by simp [muSet,hkn],rfl,fun h=>absurd h (by simp),by simp,by simp,fun h=>absurd h (by simp),fun i h=>absurd h (by simp),fun i j x v h=>absurd h (by simp),fun h=>absurd (show ie.size=0 from h) (by omega)⟩
        ·rw [if_neg hkn] at ho
         obtain ⟨pl,c,T,hm',hob⟩:=g.rep.ob k o ho
         exact ⟨pl,c,T,hmu _ _ hm',hob.ext ex (fun _=>rfl) hob.out⟩
       ·intro k k' o o' pl pl' hne ho ho' hpl hpl' c1 c2
        rw [sget_sset] at ho ho'
        simp only [muSet] at hpl hpl'
        by_cases h1:nk=k
        ·grind
        ·by_cases h2:nk=k'
         ·grind
         ·rw [if_neg h1] at ho;rw [if_neg h2] at ho'
          rw [if_neg (fun h=>h1 h.symm)] at hpl;rw [if_neg (fun h=>h2 h.symm)] at hpl'
          exact g.rep.ne k k' o o' pl pl' hne ho ho' hpl hpl' c1 c2
       ·intro k o pl ho hpl c1
        rw [sget_sset] at ho
        simp only [muSet] at hpl
        by_cases h1:nk=k
        ·grind
        ·rw [if_neg h1] at ho;rw [if_neg (fun h=>h1 h.symm)] at hpl
         exact g.own k o pl ho hpl c1
       ·intro k hk'
        rw [muSet_ne _ (by omega)];exact g.mu0 k hk'
      refine ⟨_,w,S,_,hrun,⟨Nat.le_refl _,fun _ h=>h,fun _ _=>rfl,?_⟩,ga,fun k hk' hn=>by grind [muSet_ne],?_⟩
      ·grind [muSet]
      simp_all [RepX.os,muSet,absurd]
     ·have hrun:=run_app_grow (P:=P) (w:=w) (ty:=ty) (base:=none) (sLen:=0) (sCap:=0) (olds:=[]) he hie hze (fun w' _=>by simp [Builtin.firstCells]) sr.len sr.cells (by omega) b2 (by simpa using p1)
      simp only [Nat.zero_add] at hrun
      have hcap:=grown_ge w n 0 e
      have gg:=g.grow (e:=e) hk hm (sz:=ie.size) (n:=n) (len:=0) (cap:=grownCap w n 0 e) (olds:=[]) (news:=news) (rest:=Builtin.zeroCells z.cells (grownCap w n 0 e - n)) (pr:=pr) (get:=gt)
       (by simp) sr.size (by rw [size_zeroCells,b3,Nat.zero_add]) (by omega) (fun i hi=>sr.els i (by omega)) (fun i j x u hi hx hu=>sr.rep i j x u (by omega) hx (by simpa using hu)) (by omega)
       (g.mxNew hk _ _ (fun _=>Nat.le_refl _) (rowOf_none_one fun i hi=>sr.one2 i (by simp_all)) (fun b h=>heap_push_lt (w:=w.drew) h) (fun _ h=>h) (fun _ h=>.inl h))
      simp only [Nat.zero_add] at gg
      refine ⟨_,_,S,_,hrun,gg.1,gg.2,fun k hk' hn=>by grind [muSet_ne],?_⟩
      simp_all [RepX.os,grownCap,muSet]
    ·rename_i k len
     split at h
     ·rename_i o ho
      split at h
      ·rename_i hos
       simp only [Bool.and_eq_true,Bool.not_eq_true'] at hos
       obtain ⟨hos,hvar⟩:=hos
       have hos:=Nat.eq_of_beq_eq_true hos
       simp only [Option.some.injEq,Prod.mk.injEq] at h
       obtain ⟨rfl,rfl,rfl,rfl⟩:=h
       obtain ⟨p0,p1,p2⟩:=hp
       subst p0
       obtain ⟨news,sr⟩:=ev_src (P:=P) g hx hsrc p2
       obtain ⟨pl,c,T',hmk,hob⟩:=g.rep.ob k o ho
       have hkn:k≠nk:=fun h=>by simp_all
       show Step P E nk σ S μ w _ _ [(k,none),(nk,some ⟨false,ie.size,o.len+n,o.pr && pr,fun m=>if m < o.len then o.get m else gt (m - o.len)⟩)]
       have hels:∀ i,i < o.len+n→((fun m=>if m < o.len then o.get m else gt (m - o.len)) i).length=ie.size:=by
        intro i hi
        show (if i < o.len then o.get i else gt (i - o.len)).length=_
        split
        ·rw [hob.els i (by assumption),hos]
        ·exact sr.els _ (by omega)
       have prw:∀ {u:Value} {x:AV},RepX w S (if o.pr then noMu else μ) u x→pr=true∨pr=false→RepX w S (if (o.pr && pr)=true then noMu else μ) u x:=by
        intro u x hh hp
        rcases hp with hp | hp
        ·simp_all
        ·rw [hp,Bool.and_false];exact noMu_mono hh
       have prw2:∀ {u:Value} {x:AV},RepX w S (if pr then noMu else μ) u x→RepX w S (if (o.pr && pr)=true then noMu else μ) u x:=by
        intro u x hh
        cases hp:o.pr
        ·rw [Bool.false_and];exact noMu_mono hh
        ·rw [Bool.true_and];exact hh
       have prb:pr=true∨pr=false:=by cases pr<;>simp
       have hrow:∀ i x,rowOf ⟨false,ie.size,o.len+n,o.pr && pr,fun m=>if m < o.len then o.get m else gt (m - o.len)⟩ i=some x→rowOf o i=some x:=by
        intro i x hx
        obtain ⟨_,q2,q3⟩:=rowOf_some hx
        have q2:i < o.len+n:=q2
        have q3:(if i < o.len then o.get i else gt (i - o.len))=[.mr x.1 x.2.1 x.2.2]:=q3
        split at q3
        ·rename_i h1;exact rowOf_mk hvar h1 q3
        ·have:=sr.one2 (i - o.len) (by omega)
         rw [q3] at this;cases this
       cases hs with
       | os pl' hm' h1 h2 h3 =>
        rename_i cap a
        rw [hmk] at hm';cases hm'
        by_cases hroom:o.len+n≤cap
        ·rcases Nat.eq_zero_or_pos cap with hc0 | hc0
         ·have hn0:n=0:=by omega
          have hl0:o.len=0:=by omega
          subst hn0
          have hnews:news=[]:=List.length_eq_zero_iff.1 (by rw [sr.size];simp)
          have hrun:(Builtin.append_ #[t,t] ty #[.slice a o.len cap,vx]).run P w=.ok (.slice a (o.len+0) cap) w:=by
           subst hc0
           cases a with
           | none=>exact run_app_in0 (P:=P) (w:=w) (ty:=ty) he hie sr.len sr.cells (by omega)
           | some a =>
            have e1:=sr.cells w rfl
            rw [hnews] at e1
            simp [Builtin.append_,run_underlying he,sizeOf,typeInfo,hie,sr.len,hl0,e1,storeCells]
          have gm:=g.move hk hm ho hmk ⟨false,ie.size,o.len+0,o.pr && pr,fun m=>if m < o.len then o.get m else gt (m - o.len)⟩ (c:=c) (T:=T')
           ⟨hob.sz.trans hos,hos ▸ hob.blk,hos ▸ hob.cap,hob.len,hob.out,hels,fun i j x v hi=>absurd hi (by show ¬ i < o.len+0;omega),fun h=>absurd (show ie.size=0 from h) (by omega)⟩ hrow
          exact ⟨_,w,S,muSet μ nk pl,hrun,gm.1,gm.2,fun k hk' hn=>by rw [muSet_ne _ hk'];exact hn,RepX.os pl (by simp [muSet]) h1 (by omega) h3⟩
         ·have ha:=h1 hc0
          simp only [Nat.zero_mul] at ha
          subst ha
          have hcp:0 < pl.cap:=by omega
          have hfit:o.len * ie.size+news.length≤c.size:=by
           have e1:(o.len+n) * ie.size≤pl.cap * ie.size:=Nat.mul_le_mul_right _ (by omega)
           have e2:=hob.cap
           rw [hos] at e2
           rw [sr.size,← Nat.add_mul];omega
          have hrun:=run_app_in (P:=P) (w:=w) (ty:=ty) he hie ((hob.blk hcp).trans (by rw [blkObj_row (by omega)])) sr.len sr.cells sr.one hroom hfit
          generalize hc':(c.toList.take (o.len * ie.size) ++ news ++ c.toList.drop (o.len * ie.size+news.length)).toArray=c' at hrun
          have hlen':(c.toList.take (o.len * ie.size)).length=o.len * ie.size:=by simp;omega
          have hsz':c'.size=c.size:=by
           rw [← hc']
           simp;omega
          have hget:∀ m,m < o.len * ie.size+news.length→c'[m]?=if m < o.len * ie.size then c[m]? else news[m - o.len * ie.size]?:=by
           intro m hm
           rw [← hc']
           simp only [List.getElem?_toArray]
           rw [List.getElem?_append_left (by simp;omega)]
           by_cases h1:m < o.len * ie.size
           ·rw [List.getElem?_append_left (by omega),List.getElem?_take,if_pos h1,if_pos h1]
            simp
           ·rw [List.getElem?_append_right (by omega),hlen',if_neg h1]
          have gw:=g.write ho hmk hcp hob (by omega) ⟨false,ie.size,o.len+n,o.pr && pr,fun m=>if m < o.len then o.get m else gt (m - o.len)⟩ c' hos.symm hsz' (by show o.len+n≤_;omega) hels (by
           intro i j x v hi hx hv
           have hi:i < o.len+n:=hi
           have hx:(if i < o.len then o.get i else gt (i - o.len))[j]?=some x:=hx
           have hj:j < ie.size:=by
            have e1:=(List.getElem?_eq_some_iff.1 hx).1
            have e2:(if i < o.len then o.get i else gt (i - o.len)).length=ie.size:=hels i hi
            omega
           have hv:c'[i * ie.size+j]?=some v:=hv
           have hb1:(i+1) * ie.size≤(o.len+n) * ie.size:=Nat.mul_le_mul_right _ hi
           rw [Nat.add_mul,Nat.add_mul] at hb1
           rw [hget _ (by rw [sr.size];omega)] at hv
           by_cases hio:i < o.len
           ·have hb2:(i+1) * ie.size≤o.len * ie.size:=Nat.mul_le_mul_right _ hio
            rw [Nat.add_mul] at hb2
            rw [if_pos (by omega)] at hv
            rw [if_pos hio] at hx
            exact prw (hob.rep i j x v hio hx (by rw [hos];exact hv)) prb
           ·have hb2:o.len * ie.size≤i * ie.size:=Nat.mul_le_mul_right _ (by omega)
            rw [if_neg (by omega)] at hv
            rw [if_neg hio] at hx
            refine prw2 (sr.rep (i - o.len) j x v (by omega) hx ?_)
            rw [← hv,Nat.sub_mul];congr 1;omega) (fun i x hx=>⟨hrow i x hx,by
           obtain ⟨_,q2,_⟩:=rowOf_some (hrow i x hx)
           have hb2:(i+1) * ie.size≤o.len * ie.size:=Nat.mul_le_mul_right _ q2
           rw [Nat.add_mul] at hb2
           rw [hos,hget _ (by omega),if_pos (by omega)]⟩)
          obtain ⟨gw1,gw2⟩:=gw
          have hsk:sget (sset σ k ⟨false,ie.size,o.len+n,o.pr && pr,fun m=>if m < o.len then o.get m else gt (m - o.len)⟩) k=some ⟨false,ie.size,o.len+n,o.pr && pr,fun m=>if m < o.len then o.get m else gt (m - o.len)⟩:=by
           rw [sget_sset,if_pos rfl]
          obtain ⟨pl3,c3,T3,hm3,hob3⟩:=gw2.rep.ob k _ hsk
          rw [hmk] at hm3;cases hm3
          have gm:=gw2.move hk hm hsk hmk _ hob3 (fun _ _ h=>h)
          refine ⟨_,_,S,muSet μ nk pl,hrun,gw1.trans gm.1,gm.2.congr ?_,fun k hk' hn=>by rw [muSet_ne _ hk'];exact hn,RepX.os pl (by simp [muSet]) (by simp) hroom h3⟩
          intro n
          show sget (sset (sdel σ k) nk _) n=_
          rw [sget_sset,sget_sset,sget_sdel,sget_sdel,sget_sset]
          split
          ·rfl
          ·split
           ·rfl
           ·rfl
        ·have hg:cap < o.len+n:=by omega
         have holds:∃ olds:List Value,olds.length=o.len * ie.size∧(∀ w':World,w'.heap=w.heap→(Builtin.firstCells ie.size o.len (.slice a o.len cap)).run P w'=.ok olds.toArray w') ∧
           (∀ (q:Nat) (u:Value),olds[q]?=some u→c[q]?=some u):=by
          rcases Nat.eq_zero_or_pos o.len with hl0 | hl0
          ·refine ⟨[],by simp [hl0],fun w' _=>?_,by simp⟩
           rw [hl0]
           cases a with
           | none=>simp [Builtin.firstCells]
           | some a=>simp [Builtin.firstCells,loadCells,loadCellsFrom]
          ·have hcp:0 < pl.cap:=by have:=hob.len;omega
           have ha:=h1 (by omega)
           simp only [Nat.zero_mul] at ha
           subst ha
           have hle:o.len * ie.size≤c.size:=by
            have e1:o.len * ie.size≤pl.cap * ie.size:=Nat.mul_le_mul_right _ hob.len
            have e2:=hob.cap
            rw [hos] at e2;omega
           refine ⟨c.toList.take (o.len * ie.size),by simp;omega,fun w' hw'=>?_,?_⟩
           ·refine run_firstCells_some w' ie.size o.len _ o.len cap _ (by simp;omega) ?_
            intro q u hq
            rw [Addr.add_lit,Nat.zero_add,cell_of_row w' _ _ _ _ _ (by rw [hw'];exact (hob.blk hcp).trans (by rw [blkObj_row (by omega)]))]
            rw [List.getElem?_take] at hq
            split at hq
            ·simpa using hq
            ·cases hq
           ·intro q u hq
            rw [List.getElem?_take] at hq
            split at hq
            ·simpa using hq
            ·cases hq
         obtain ⟨olds,hol,hoc,hoo⟩:=holds
         have hrun:=run_app_grow (P:=P) (w:=w) (ty:=ty) he hie hze hoc sr.len sr.cells hg b2 p1
         have hcap:=grown_ge w (o.len+n) cap e
         have gd:=g.del k
         have gg:=gd.grow (e:=e) hk hm (sz:=ie.size) (n:=n) (len:=o.len) (cap:=grownCap w (o.len+n) cap e) (olds:=olds) (news:=news)
          (rest:=Builtin.zeroCells z.cells (grownCap w (o.len+n) cap e - (o.len+n))) (pr:=o.pr && pr) (get:=fun m=>if m < o.len then o.get m else gt (m - o.len))
          hol sr.size (by rw [size_zeroCells,b3]) hcap hels (by
           intro i j x u hi hx hu
           have hx:(if i < o.len then o.get i else gt (i - o.len))[j]?=some x:=hx
           have hj:j < ie.size:=by
            have e1:=(List.getElem?_eq_some_iff.1 hx).1
            have e2:(if i < o.len then o.get i else gt (i - o.len)).length=ie.size:=hels i hi
            omega
           by_cases hio:i < o.len
           ·have hb2:(i+1) * ie.size≤o.len * ie.size:=Nat.mul_le_mul_right _ hio
            rw [Nat.add_mul] at hb2
            rw [if_pos hio] at hx
            rw [List.getElem?_append_left (by omega)] at hu
            exact prw (hob.rep i j x u hio hx (by rw [hos];exact hoo _ _ hu)) prb
           ·have hb2:o.len * ie.size≤i * ie.size:=Nat.mul_le_mul_right _ (by omega)
            rw [if_neg hio] at hx
            rw [List.getElem?_append_right (by omega),hol] at hu
            refine prw2 (sr.rep (i - o.len) j x u (by omega) hx ?_)
            rw [← hu,Nat.sub_mul];congr 1;omega) (by omega) (by
          have hpush:∀ b,b < w.heap.size→(w.drew.alloc (.cells (olds.toArray ++ news.toArray ++ Builtin.zeroCells z.cells (grownCap w (o.len+n) cap e - (o.len+n))) e)).heap[b]?=w.heap[b]?:=fun b h=>heap_push_lt (w:=w.drew) h
          have hin:∀ {q:Nat} {o2:Ob} {pl2:Place},sget σ q=some o2→μ q=some pl2→0 < pl2.cap→pl2.blk < w.heap.size:=fun {q o2 pl2} h1 h2 h3=>by
           obtain ⟨pl3,c3,T3,hm3,ho3⟩:=g.rep.ob q o2 h1
           rw [h2] at hm3;cases hm3
           exact lt_of_blk (ho3.blk h3)
          refine g.mx.tr (fun q=>if q=nk then k else q) (fun q i x v h=>?_) (fun q i x v q' i' x' v' h h' he=>?_) (fun _ h=>h) (fun b hb=>hpush b (g.S1 b hb)) (fun q i x v b _ h hb=>?_) (fun q o2 pl2 h1 h2 h3=>?_)
          ·obtain ⟨o2,pl2,h1,h2,h3,h4⟩:=h
           rw [sget_sset] at h1
           unfold muSet at h3
           by_cases hq:nk=q
           ·rw [if_pos hq] at h1;cases h1
            rw [if_pos hq.symm] at h3;cases h3
            show RowV w μ σ (if q=nk then k else q) i x v
            rw [if_pos hq.symm]
            have hr:=hrow i x h2
            obtain ⟨_,q2,_⟩:=rowOf_some hr
            refine ⟨o,pl,ho,hr,hmk,?_⟩
            have hcp:0 < pl.cap:=by have:=hob.len;omega
            have hb2:(i+1) * ie.size≤o.len * ie.size:=Nat.mul_le_mul_right _ q2
            rw [Nat.add_mul] at hb2
            have h4:(w.drew.alloc (.cells (olds.toArray ++ news.toArray ++ Builtin.zeroCells z.cells (grownCap w (o.len+n) cap e - (o.len+n))) e)).cell? ⟨w.drew.heap.size,i * ie.size,none⟩=some v:=h4
            rw [cell_of_row _ _ _ _ _ _ (heap_alloc_new w.drew _)] at h4
            rw [Array.getElem?_append_left (by simp;omega),Array.getElem?_append_left (by simp;omega)] at h4
            rw [cell_of_row w _ _ _ _ _ ((hob.blk hcp).trans (by rw [blkObj_row (by omega)])),hob.sz,hos]
            exact hoo _ _ (by simpa using h4)
           ·rw [if_neg hq,sget_sdel] at h1
            rw [if_neg (fun h=>hq h.symm)] at h3
            split at h1
            ·cases h1
            ·show RowV w μ σ (if q=nk then k else q) i x v
             rw [if_neg (fun h=>hq h.symm)]
             refine ⟨o2,pl2,h1,h2,h3,?_⟩
             obtain ⟨pl3,c3,T3,hm3,ho3⟩:=g.rep.ob q o2 h1
             rw [h3] at hm3;cases hm3
             rw [← h4]
             exact (cell_of_blk (hpush _ (lt_of_blk (ho3.blk (by have:=(rowOf_some h2).2.1;have:=ho3.len;omega)))) _).symm
          ·have he:(if q=nk then k else q)=(if q'=nk then k else q'):=he
           have hno:∀ {q i x v},RowV (w.drew.alloc (.cells (olds.toArray ++ news.toArray ++ Builtin.zeroCells z.cells (grownCap w (o.len+n) cap e - (o.len+n))) e)) (muSet μ nk ⟨w.heap.size,grownCap w (o.len+n) cap e,ie.size⟩) (sset (sdel σ k) nk ⟨false,ie.size,o.len+n,o.pr && pr,fun m=>if m < o.len then o.get m else gt (m - o.len)⟩) q i x v→q≠nk→q≠k:=by
            rintro q i x v ⟨o2,_,h1,_⟩ hq rfl
            rw [sget_sset,if_neg (fun h=>hq h.symm),sget_sdel,if_pos rfl] at h1
            cases h1
           by_cases h1:q=nk<;>by_cases h3:q'=nk
           ·exact h1.trans h3.symm
           ·rw [if_pos h1,if_neg h3] at he;exact absurd he.symm (hno h' h3)
           ·rw [if_neg h1,if_pos h3] at he;exact absurd he (hno h h1)
           ·rw [if_neg h1,if_neg h3] at he;exact he
          ·obtain ⟨q1,q2,q3,_⟩:=g.mx.blk h hb
           exact ⟨hpush b q1,q2,fun h=>h⟩
          ·rw [sget_sset] at h1
           unfold muSet at h2
           by_cases hq:nk=q
           ·rw [if_pos hq.symm] at h2;cases h2
            exact .inr (Nat.le_refl _)
           ·rw [if_neg hq,sget_sdel] at h1
            rw [if_neg (fun h=>hq h.symm)] at h2
            split at h1
            ·cases h1
            ·exact .inl ⟨q,o2,pl2,h1,h2,h3,rfl⟩)
         refine ⟨_,_,S,_,hrun,gg.1,gg.2,fun k hk' hn=>by rw [muSet_ne _ hk'];exact hn,?_⟩
         exact RepX.os ⟨w.heap.size,grownCap w (o.len+n) cap e,ie.size⟩ (by simp [muSet]) (by simp) hcap (by simp)
      ·cases h
     ·cases h
    ·cases h
   ·cases h
  ·cases h
 ·cases h
end
end Go.Ab
