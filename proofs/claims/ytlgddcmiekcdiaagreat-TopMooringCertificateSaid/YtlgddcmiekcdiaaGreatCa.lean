/- Abstract values over the heap of the machine, and functions read off its code (part 1). No conditions. -/
import Derived.Orders
import Derived.Laws.Cells
import Derived.Laws.World
import Derived.Laws.Rows
import Derived.Laws.Sem
import Derived.KernelRfl
import Derived.Laws.CopyRow
import Derived.Laws.AppendOwn
import Derived.Laws.MakeOwn
import Derived.Laws.StructEq
import Derived.Great.BuildSlice
import Derived.Deep.MidRow
set_option linter.unusedVariables false
set_option linter.unusedSimpArgs false
namespace Go
abbrev aK:=@Option.map_eq_some_iff
abbrev aD:=@Option.some.injEq
abbrev bW:=@Nat.eq_of_beq_eq_true
abbrev aA:=@Prod.mk.injEq
abbrev bp:=@Bool.and_eq_true
abbrev dU:=@List.getElem?_eq_some_iff
abbrev fB:=@List.getD_eq_getElem?_getD
abbrev cF:=@Option.bind_some
abbrev cN:=@List.length_replicate
abbrev uK:=@Array.getD_eq_getD_getElem?
abbrev jR:=@Array.getElem?_eq_getElem
abbrev iH:=@List.getElem?_append_left
abbrev jS:=@List.getElem?_append_right
abbrev dS:=@Nat.mul_le_mul_right
abbrev kG:=@Int.mul_le_mul_of_nonneg_right
abbrev bN:=@Sem.run_bind
abbrev jy:=@List.take_of_length_le
abbrev pT:=@List.getElem?_eq_getElem
abbrev df:=@Result.andThen_ok
abbrev az:=@Nat.le_refl
abbrev Bm:=@Bool.and_eq_true_iff
abbrev oP:=@List.getElem?_eq_none
abbrev dT:=@Nat.not_lt_zero
abbrev pU:=@Classical.byContradiction
abbrev qS:=@of_decide_eq_true
abbrev sG:=@of_decide_eq_false
abbrev pV:=@Nat.lt_of_lt_of_le
abbrev eZ:=@Nat.le_trans
abbrev kH:=@List.length_append
abbrev wC:=@List.length_cons
abbrev EN:=@List.getElem?_cons_succ
abbrev wD:=@List.append_assoc
abbrev sH:=@Int.mul_le_mul_of_nonneg_left
abbrev wE:=@Nat.lt_irrefl
abbrev oQ:=@List.length_take
abbrev oS:=@List.getElem?_drop
abbrev pW:=@List.getElem?_take
abbrev wF:=@List.mem_range
abbrev kI:=@List.mem_cons
abbrev cD:=@Nat.add_mul
abbrev pX:=@Nat.mul_comm
abbrev iI:=@Int.mul_add
abbrev eM:=@Int.add_mul
abbrev gU:=@Int.mul_comm
abbrev kZ:=@Int.mul_assoc
end Go
namespace Go.Ab
inductive AV where
 | atom (v:Value)
 | agg (cs:List AV)
 | tup (cs:List AV)
 | sl (len:Nat) (get:Nat→List AV)
 | rp (cs:List AV) (off:Nat)
 | op (k i j:Nat)
 | os (k off len:Nat)
 | fn (f:Fn) (first cap:List AV)
 | when (b:Bool) (v:AV)
 | mp (k:Nat)
 | bn (n:Nat)
 | pt (b:Bool) (cs:List AV)
 | ov (k i j m n:Nat)
 | Cq (k off len:Nat)
 | nq (st:Option Bool) (x:AV)
 | nil
 | mH
 | mr (sz len:Nat) (get:Nat→List AV)
 deriving Inhabited
structure Place where
 cQ:Nat
 cap:Nat
 sz:Nat
abbrev Mu:=Nat→Option Place
def iW:Mu:=fun _=>none
def Pu:Value→Bool
 | .slice none _ _=>true
 | _=>false
inductive ar (w:World) (S:Nat→Prop):Mu→Value→AV→Prop where
 | atom {μ:Mu} (v:Value):ar w S μ v (.atom v)
 | agg {μ:Mu} {vs:Array Value} {cs:List AV}:vs.size=cs.length →
   (∀ (j:Nat) (c:AV) (v:Value),cs[j]?=some c→vs[j]?=some v→ar w S μ v c)→ar w S μ (.agg vs) (.agg cs)
 | tup {μ:Mu} {vs:Array Value} {cs:List AV}:vs.size=cs.length →
   (∀ (j:Nat) (c:AV) (v:Value),cs[j]?=some c→vs[j]?=some v→ar w S μ v c)→ar w S μ (.tuple vs) (.tup cs)
 | sl {μ:Mu} {a:Option Addr} {len cap:Nat} {get:Nat→List AV} (b off sz:Nat) (f:Nat→Nat→Value) :
   (0 < len→a=some ⟨b,off,none⟩∧S b)→(∀ i,i < len→(get i).length=sz) →
   (∀ i j,i < len→j < sz→w.cell? ⟨b,off+i * sz+j,none⟩=some (f i j)) →
   (∀ i j c,i < len→(get i)[j]?=some c→ar w S iW (f i j) c)→len≤cap→ar w S μ (.slice a len cap) (.sl len get)
 | rp {μ:Mu} {cs:List AV} {off:Nat} (b o:Nat) (f:Nat→Value):S b →
   (∀ j,j < cs.length→w.cell? ⟨b,o+j,none⟩=some (f j)) →
   (∀ j c,cs[j]?=some c→ar w S iW (f j) c)→ar w S μ (.pointer (some ⟨b,o+off,none⟩)) (.rp cs off)
 | op {μ:Mu} {k i j:Nat} (pl:Place):μ k=some pl→ar w S μ (.pointer (some ⟨pl.cQ,i * pl.sz+j,none⟩)) (.op k i j)
 | os {μ:Mu} {k off len cap:Nat} {a:Option Addr} (pl:Place):μ k=some pl →
   (0 < cap→a=some ⟨pl.cQ,off * pl.sz,none⟩)→len≤cap→off+cap=pl.cap→ar w S μ (.slice a len cap) (.os k off len)
 | fn {μ:Mu} {f:Fn} {vs ws:Array Value} {first cap:List AV}:vs.size=first.length→ws.size=cap.length →
   (∀ (j:Nat) (c:AV) (v:Value),first[j]?=some c→vs[j]?=some v→ar w S μ v c) →
   (∀ (j:Nat) (c:AV) (v:Value),cap[j]?=some c→ws[j]?=some v→ar w S μ v c)→ar w S μ (.func f vs ws) (.fn f first cap)
 | when {μ:Mu} {b:Bool} {v:Value} {x:AV}:(b=true→ar w S μ v x)→(b=false→v=undef)→ar w S μ v (.when b x)
 | mp {μ:Mu} {k:Nat} (pl:Place):μ k=some pl→ar w S μ (.map (some pl.cQ)) (.mp k)
 | bn {μ:Mu} {n:Nat} (b:Bool):(b=true→n=0)→ar w S μ (.bool b) (.bn n)
 | pt {μ:Mu} {b:Bool} {cs:List AV} {v:Value}:(b=true→ar w S μ v (.rp cs 0))→(b=false→v=.pointer none)→ar w S μ v (.pt b cs)
 | ov {μ:Mu} {k i j m n:Nat} (pl:Place):μ k=some pl→n < m→ar w S μ (.pointer (some ⟨pl.cQ,i * pl.sz+(j+n),none⟩)) (.ov k i j m n)
 | Cq {μ:Mu} {k off len:Nat} {a:Option Addr} (pl:Place):μ k=some pl→(0 < len→a=some ⟨pl.cQ,off * pl.sz,none⟩)→off+len=pl.cap→ar w S μ (.slice a len len) (.Cq k off len)
 | nq {μ:Mu} {st:Option Bool} {v:Value} {x:AV}:ar w S μ v x→(st=some true→v=.slice none 0 0)→(st=some false→Pu v=false)→ar w S μ v (.nq st x)
 | nil {μ:Mu}:ar w S μ (.slice none 0 0) .nil
 | mH {μ:Mu} {v:Value}:ar w S μ v .mH
 | mr {μ:Mu} {v:Value} {sz len:Nat} {get:Nat→List AV}:ar w S μ v (.mr sz len get)
structure Ext (w:World) (S:Nat→Prop) (μ:Mu) (w':World) (S':Nat→Prop) (dy:Mu):Prop where
 size:w.heap.size≤w'.heap.size
 IU:∀ b,S b→S' b
 cQ:∀ b,S b→w'.heap[b]?=w.heap[b]?
 mu:∀ k pl,μ k=some pl→dy k=some pl
theorem Ext.refl (w:World) (S:Nat→Prop) (μ:Mu):Ext w S μ w S μ:=⟨az _,fun _ h=>h,fun _ _=>rfl,fun _ _ h=>h⟩
theorem Ext.trans {w w' Wy:World} {S S' Bi:Nat→Prop} {μ dy Ff:Mu} (h:Ext w S μ w' S' dy) (k:Ext w' S' dy Wy Bi Ff):Ext w S μ Wy Bi Ff :=
 ⟨eZ h.size k.size,fun b hb=>k.IU b (h.IU b hb),fun b hb=>(k.cQ b (h.IU b hb)).trans (h.cQ b hb),fun i pl hi=>k.mu i pl (h.mu i pl hi)⟩
theorem rf {w w':World} {b:Nat} (h:w'.heap[b]?=w.heap[b]?) (o:Nat):w'.cell? ⟨b,o,none⟩=w.cell? ⟨b,o,none⟩:=by
 simp [World.cell?,h]
theorem ar.mono {w w':World} {S S':Nat→Prop} (hS:∀ b,S b→S' b) (hb:∀ b,S b→w'.heap[b]?=w.heap[b]?) {μ:Mu} {v:Value} {x:AV} (h:ar w S μ v x) :
  ∀ {dy:Mu},(∀ k pl,μ k=some pl→dy k=some pl)→ar w' S' dy v x:=by
 induction h with
 | atom v=>exact fun _=>.atom v
 | agg h1 _ ih=>grind [agg]
 | tup h1 _ ih=>grind [tup]
 | @sl μ a len cap get b off sz f h1 h2 h3 _ h5 ih =>
  intro dy _
  refine .sl b off sz f (fun hl=>⟨(h1 hl).1,hS _ (h1 hl).2⟩) h2 ?_ (fun i j c hi hc=>ih i j c hi hc fun _ _ h=>h) h5
  grind [rf]
 | @rp μ cs off b o f h1 h2 _ ih =>
  intro dy _
  refine .rp b o f (hS _ h1) ?_ (fun j c hc=>ih j c hc fun _ _ h=>h)
  grind [rf]
 | op pl h=>grind [op]
 | os pl h h1 h2 h3=>grind [os]
 | fn h1 h2 _ _ Ok Ol=>grind [fn]
 | when _ hu ih=>grind [when]
 | mp pl h=>grind [mp]
 | bn b h=>exact fun _=>.bn b h
 | pt _ h2 ih=>grind [pt]
 | ov pl h h1=>grind [ov]
 | Cq pl h h1 h2=>grind [Cq]
 | nq _ h1 h2 ih=>grind [nq]
 | nil=>exact fun _=>.nil
 | mH=>exact fun _=>.mH
 | mr=>exact fun _=>.mr
theorem ar.ext {w w':World} {S S':Nat→Prop} {μ dy:Mu} {v:Value} {x:AV} (h:ar w S μ v x) (e:Ext w S μ w' S' dy):ar w' S' dy v x :=
 h.mono e.IU e.cQ e.mu
mutual
def AV.pure:AV→Bool
 | .atom _ | .sl _ _ | .rp _ _ | .bn _ | .pt _ _ | .nil | .mH=>true
 | .agg cs | .tup cs=>AV.l8 cs
 | .fn _ a b=>AV.l8 a && AV.l8 b
 | .when _ v=>v.pure
 | .nq _ v=>v.pure
 | .op _ _ _ | .os _ _ _ | .mp _ | .ov _ _ _ _ _ | .Cq _ _ _ | .mr _ _ _=>false
def AV.l8:List AV→Bool
 | []=>true
 | c :: cs=>c.pure && AV.l8 cs
end
mutual
def AV.flat:AV→Bool
 | .atom _ | .bn _ | .nil=>true
 | .agg cs | .tup cs=>AV.yc cs
 | .fn _ a b=>AV.yc a && AV.yc b
 | _=>false
def AV.yc:List AV→Bool
 | []=>true
 | c :: cs=>c.flat && AV.yc cs
end
theorem s9 {cs:List AV} (h:AV.l8 cs=true) {j:Nat} {c:AV} (hc:cs[j]?=some c):c.pure=true:=by
 induction cs generalizing j with
 | nil=>simp at hc
 | cons x xs ih =>
  simp only [AV.l8,bp] at h
  grind
theorem vv {cs:List AV} (h:AV.yc cs=true) {j:Nat} {c:AV} (hc:cs[j]?=some c):c.flat=true:=by
 induction cs generalizing j with
 | nil=>simp at hc
 | cons x xs ih =>
  simp only [AV.yc,bp] at h
  grind
theorem ar.pure {w:World} {S:Nat→Prop} {μ:Mu} {v:Value} {x:AV} (h:ar w S μ v x):x.pure=true→∀ dy,ar w S dy v x:=by
 induction h with
 | atom v=>exact fun _ _=>.atom v
 | agg h1 _ ih=>grind [agg,s9,AV.pure]
 | tup h1 _ ih=>grind [tup,s9,AV.pure]
 | sl b off sz f h1 h2 h3 h4 h5 _=>exact fun _ _=>.sl b off sz f h1 h2 h3 h4 h5
 | rp b o f h1 h2 h3 _=>simp_all [rp]
 | op pl h=>grind [AV.pure]
 | os pl h h1 h2 h3=>grind [AV.pure]
 | fn h1 h2 _ _ Ok Ol =>
  intro hp dy
  simp only [AV.pure,bp] at hp
  grind [fn,s9]
 | when _ hu ih=>grind [when,AV.pure]
 | mp pl h=>grind [AV.pure]
 | bn b h=>exact fun _ _=>.bn b h
 | pt _ h2 ih=>exact fun _ dy=>.pt (fun hb=>ih hb rfl dy) h2
 | ov=>grind [AV.pure]
 | Cq=>grind [AV.pure]
 | nq _ h1 h2 ih=>grind [nq,AV.pure]
 | nil=>exact fun _ _=>.nil
 | mH=>exact fun _ _=>.mH
 | mr=>grind [AV.pure]
theorem ar.flat {w:World} {S:Nat→Prop} {μ:Mu} {v:Value} {x:AV} (h:ar w S μ v x):x.flat=true→∀ w' S' dy,ar w' S' dy v x:=by
 induction h with
 | atom v=>grind [atom]
 | agg h1 _ ih=>grind [agg,vv,AV.flat]
 | tup h1 _ ih=>grind [tup,vv,AV.flat]
 | sl=>grind [AV.flat]
 | rp=>grind [AV.flat]
 | op=>grind [AV.flat]
 | os=>grind [AV.flat]
 | fn h1 h2 _ _ Ok Ol =>
  intro hp w' S' dy
  simp only [AV.flat,bp] at hp
  grind [fn,vv]
 | when=>grind [AV.flat]
 | mp=>grind [AV.flat]
 | bn b h=>grind [bn]
 | pt=>grind [AV.flat]
 | ov=>grind [AV.flat]
 | Cq=>grind [AV.flat]
 | nq=>grind [AV.flat]
 | nil=>exact fun _ _ _ _=>.nil
 | mH=>grind [AV.flat]
 | mr=>grind [AV.flat]
structure Ob where
 var:Bool
 sz:Nat
 len:Nat
 pr:Bool
 get:Nat→List AV
abbrev dD:=List (Nat×Ob)
def au:dD→Nat→Option Ob
 | [],_=>none
 | (k,o) :: r,n=>match Nat.beq k n with
  | true=>some o
  | false=>au r n
def sset:dD→Nat→Ob→dD
 | [],k,o=>[(k,o)]
 | (a,x) :: r,k,o=>match Nat.beq a k with
  | true=>(a,o) :: r
  | false=>(a,x) :: sset r k o
def vw:dD→Nat→dD
 | [],_=>[]
 | (a,x) :: r,k=>match Nat.beq a k with
  | true=>vw r k
  | false=>(a,x) :: vw r k
theorem sq {a b:Nat} (h:a=b):Nat.beq a b=true:=by simp_all
theorem pA {a b:Nat} (h:¬ a=b):Nat.beq a b=false:=Bool.eq_false_iff.2 fun e=>h (bW e)
theorem bj (σ:dD) (k n:Nat) (o:Ob):au (sset σ k o) n=if k=n then some o else au σ n:=by
 induction σ with
 | nil =>
  simp only [sset,au]
  by_cases h:k=n
  ·rw [sq h,if_pos h]
  ·rw [pA h,if_neg h]
 | cons x r ih =>
  obtain ⟨a,x⟩:=x
  simp only [sset]
  by_cases ha:a=k
  ·rw [sq ha]
   simp only [au]
   subst ha
   by_cases h:a=n
   ·rw [sq h,if_pos h]
   ·rw [pA h,if_neg h]
  ·rw [pA ha]
   simp only [au,ih]
   by_cases hn:a=n
   ·grind
   ·rw [pA hn]
theorem fT (σ:dD) (k n:Nat):au (vw σ k) n=if k=n then none else au σ n:=by
 induction σ with
 | nil=>simp [vw,au]
 | cons x r ih =>
  obtain ⟨a,x⟩:=x
  simp only [vw]
  by_cases ha:a=k
  ·simp_all [sq,au,if_pos,pA]
  ·rw [pA ha]
   simp only [au,ih]
   by_cases hn:a=n
   ·grind
   ·rw [pA hn]
def fI:dD→List (Nat×Option Ob)→dD
 | σ,[]=>σ
 | σ,(k,some o) :: r=>fI (sset σ k o) r
 | σ,(k,none) :: r=>fI (vw σ k) r
def g9 (c:Array Value):Array MapEntry:=(Array.range (c.size / 2)).map fun i=>⟨c[2 * i]?.getD undef,c[2 * i+1]?.getD undef,i⟩
def Aq (sz:Nat) (c:Array Value) (T:TypeId):Obj :=
 match sz with
 | 0=>.map (g9 c) (c.size / 2)
 | _+1=>.cells c T (0,0)
theorem fO {sz:Nat} (h:sz≠0) (c:Array Value) (T:TypeId):Aq sz c T=.cells c T (0,0):=by
 cases sz with
 | zero=>exact absurd rfl h
 | succ n=>rfl
theorem Ar {sz:Nat} (h:sz=0) (c:Array Value) (T:TypeId):Aq sz c T=.map (g9 c) (c.size / 2):=by subst h;rfl
structure gX (w:World) (S:Nat→Prop) (μ:Mu) (o:Ob) (pl:Place) (c:Array Value) (T:TypeId):Prop where
 sz:pl.sz=o.sz
 cQ:0 < pl.cap→w.heap[pl.cQ]?=some (Aq o.sz c T)
 cap:pl.cap * o.sz≤c.size
 len:o.len≤pl.cap
 out:0 < pl.cap→¬ S pl.cQ
 ub:∀ i,i < o.len→(o.get i).length=o.sz
 rep:∀ i j x v,i < o.len→(o.get i)[j]?=some x→c[i * o.sz+j]?=some v→ar w S (if o.pr then iW else μ) v x
 mp:o.sz=0→0 < pl.cap∧c.size % 2=0∧c.size=(o.get 0).length∧o.pr=true∧∀ (j:Nat) x v,(o.get 0)[j]?=some x→c[j]?=some v→ar w S iW v x
structure WT (w:World) (S:Nat→Prop) (μ:Mu) (σ:dD):Prop where
 ob:∀ k o,au σ k=some o→∃ pl c T,μ k=some pl∧gX w S μ o pl c T
 ne:∀ k k' o o' pl kn,k≠k'→au σ k=some o→au σ k'=some o'→μ k=some pl→μ k'=some kn→0 < pl.cap→0 < kn.cap→pl.cQ≠kn.cQ
theorem gX.ext {w w':World} {S S':Nat→Prop} {μ dy:Mu} {o:Ob} {pl:Place} {c:Array Value} {T:TypeId} (h:gX w S μ o pl c T) (e:Ext w S μ w' S' dy)
  (hb:0 < pl.cap→w'.heap[pl.cQ]?=w.heap[pl.cQ]?) (ho:0 < pl.cap→¬ S' pl.cQ):gX w' S' dy o pl c T :=
 { h with
  cQ:=fun hc=>(hb hc).trans (h.cQ hc)
  out:=ho
  rep:=fun i j x v hi hx hv=>(h.rep i j x v hi hx hv).mono e.IU e.cQ (by
   cases o.pr
   ·exact e.mu
   ·exact fun _ _ h=>h)
  mp:=fun hz=>let ⟨h0,h1,h2,h3,h4⟩:=h.mp hz
   ⟨h0,h1,h2,h3,fun j x v hx hv=>(h4 j x v hx hv).mono e.IU e.cQ (fun _ _ h=>h)⟩ }
def rowOf (o:Ob) (i:Nat):Option (Nat×Nat×(Nat→List AV)) :=
 match o.var,o.get i with
 | false,[.mr sz len g]=>if i < o.len then some (sz,len,g) else none
 | _,_=>none
def Ka (fp:Nat→Prop) (n0:Nat) (w:World) (S:Nat→Prop) (v:Value) (x:Nat×Nat×(Nat→List AV)):Prop :=
 ∃ a cap,v=.slice a x.2.1 cap∧x.2.1≤cap∧(1≤x.1∧∀ j,rowOf ⟨false,x.1,x.2.1,true,x.2.2⟩ j=none)∧(0 < cap→∃ b c T,a=some ⟨b,0,none⟩∧gX w S iW ⟨false,x.1,x.2.1,true,x.2.2⟩ ⟨b,cap,x.1⟩ c T∧(fp b∨n0≤b))
def ptrTo (v:Value) (b:Nat):Prop:=∃ len cap,v=.slice (some ⟨b,0,none⟩) len cap∧0 < cap
def je (w:World) (μ:Mu) (σ:dD) (k i:Nat) (x:Nat×Nat×(Nat→List AV)) (v:Value):Prop :=
 ∃ o pl,au σ k=some o∧rowOf o i=some x∧μ k=some pl∧w.cell? ⟨pl.cQ,i * pl.sz,none⟩=some v
structure MX (fp:Nat→Prop) (n0:Nat) (w:World) (S:Nat→Prop) (μ:Mu) (σ:dD):Prop where
 row:∀ k i x v,je w μ σ k i x v→Ka fp n0 w S v x
 obj:∀ k i x v b,je w μ σ k i x v→ptrTo v b→∀ k' o' kn,au σ k'=some o'→μ k'=some kn→0 < kn.cap→kn.cQ≠b
 two:∀ k i x v b k' i' x' v',je w μ σ k i x v→je w μ σ k' i' x' v'→ptrTo v b→ptrTo v' b→k=k'∧i=i'
theorem yd {o:Ob} (h:o.var=true) (i:Nat):rowOf o i=none:=by unfold rowOf;rw [h]
theorem di {o:Ob} {i:Nat} {x:Nat×Nat×(Nat→List AV)} (h:rowOf o i=some x):o.var=false∧i < o.len∧o.get i=[.mr x.1 x.2.1 x.2.2]:=by
 grind [rowOf]
theorem k5 {o:Ob} {i:Nat} {x:Nat×Nat×(Nat→List AV)} (h2:o.var=false) (h3:i < o.len) (h4:o.get i=[.mr x.1 x.2.1 x.2.2]):rowOf o i=some x:=by
 grind [rowOf]
theorem MX.cQ {fp:Nat→Prop} {n0:Nat} {w:World} {S:Nat→Prop} {μ:Mu} {σ:dD} (h:MX fp n0 w S μ σ) {k i:Nat} {x:Nat×Nat×(Nat→List AV)} {v:Value} {b:Nat} (hr:je w μ σ k i x v) (hb:ptrTo v b) :
  b < w.heap.size∧¬ S b∧(fp b∨n0≤b)∧∃ c T,w.heap[b]?=some (.cells c T (0,0)):=by
 obtain ⟨len,cap,rfl,hc⟩:=hb
 obtain ⟨a,acI,e,h1,h2,h3⟩:=h.row _ _ _ _ hr
 injection e with e1 e2 e3
 subst e1 e2 e3
 obtain ⟨b',c,T,e4,h4,h5⟩:=h3 hc
 injection e4 with e4
 injection e4 with e4
 subst e4
 have WU:=h4.cQ hc
 have wG:Aq x.1 c T=.cells c T (0,0):=fO (by have:=h2.1;omega) c T
 have WW:w.heap[b]?=some (.cells c T (0,0)):=by rw [WU];exact congrArg some wG
 exact ⟨(Array.getElem?_eq_some_iff.1 WW).1,h4.out hc,h5,c,T,WW⟩
theorem Ka.ext {fp Ui:Nat→Prop} {n0 Uj:Nat} {w w':World} {S S':Nat→Prop} {v:Value} {x:Nat×Nat×(Nat→List AV)} (h:Ka fp n0 w S v x) (hS:∀ b,S b→S' b) (hb:∀ b,S b→w'.heap[b]?=w.heap[b]?)
  (hp:∀ b,ptrTo v b→w'.heap[b]?=w.heap[b]?∧¬ S' b∧((fp b∨n0≤b)→(Ui b∨Uj≤b))):Ka Ui Uj w' S' v x:=by
 obtain ⟨a,cap,rfl,h1,h2,h3⟩:=h
 refine ⟨a,cap,rfl,h1,h2,fun hc=>?_⟩
 obtain ⟨b,c,T,rfl,h4,h5⟩:=h3 hc
 obtain ⟨p1,p2,p3⟩:=hp b ⟨_,_,rfl,hc⟩
 refine ⟨b,c,T,rfl,⟨h4.sz,fun h=>p1.trans (h4.cQ h),h4.cap,h4.len,fun _=>p2,h4.ub,fun i j x v hi hx hv=>(h4.rep i j x v hi hx hv).mono hS hb (fun _ _ h=>h),fun hz=>?_⟩,p3 h5⟩
 simp_all
theorem MX.tr {fp Ui:Nat→Prop} {n0 Uj:Nat} {w w':World} {S S':Nat→Prop} {μ dy:Mu} {σ eV:dD} (h:MX fp n0 w S μ σ) (φ:Nat→Nat)
  (hr:∀ k i x v,je w' dy eV k i x v→je w μ σ (φ k) i x v)
  (hi:∀ k i x v k' i' x' v',je w' dy eV k i x v→je w' dy eV k' i' x' v'→φ k=φ k'→k=k')
  (hS:∀ b,S b→S' b) (hb:∀ b,S b→w'.heap[b]?=w.heap[b]?)
  (hp:∀ k i x v b,je w' dy eV k i x v→je w μ σ (φ k) i x v→ptrTo v b→w'.heap[b]?=w.heap[b]?∧¬ S' b∧((fp b∨n0≤b)→(Ui b∨Uj≤b)))
  (ho:∀ k o pl,au eV k=some o→dy k=some pl→0 < pl.cap→(∃ k1 o1 Bj,au σ k1=some o1∧μ k1=some Bj∧0 < Bj.cap∧Bj.cQ=pl.cQ)∨w.heap.size≤pl.cQ):MX Ui Uj w' S' dy eV:=by
 refine ⟨fun k i x v hv=>(h.row _ _ _ _ (hr _ _ _ _ hv)).ext hS hb fun b ur=>hp _ _ _ _ _ hv (hr _ _ _ _ hv) ur,fun k i x v b hv ur k' o' kn h1 h2 h3 he=>?_,fun k i x v b k' i' x' v' hv tn ss pB=>?_⟩
 ·have hv0:=hr _ _ _ _ hv
  rcases ho k' o' kn h1 h2 h3 with ⟨k1,o1,Bj,q1,q2,q3,q4⟩ | q
  ·exact h.obj _ _ _ _ b hv0 ur k1 o1 Bj q1 q2 q3 (q4.trans he)
  ·have:=(h.cQ hv0 ur).1;omega
 ·obtain ⟨e1,e2⟩:=h.two _ _ _ _ _ _ _ _ _ (hr _ _ _ _ hv) (hr _ _ _ _ tn) ss pB
  grind
theorem MX.nil {fp:Nat→Prop} {n0:Nat} {w:World} {S:Nat→Prop} {μ:Mu} {σ:dD} (h:∀ k o i,au σ k=some o→rowOf o i=none):MX fp n0 w S μ σ:=by
 have no:∀ {k i x v},je w μ σ k i x v→False:=by
  rintro k i x v ⟨o,pl,h1,h2,_⟩
  rw [h k o i h1] at h2;cases h2
 exact ⟨fun _ _ _ _ h=>(no h).elim,fun _ _ _ _ _ h=>(no h).elim,fun _ _ _ _ _ _ _ _ _ h=>(no h).elim⟩
end Go.Ab
namespace Go.Ab
structure Env where
 w0:World
 S0:Nat→Prop
 fp:Nat→Prop
 μ0:Mu
 m0:Nat
structure Fr (w0:World) (fp:Nat→Prop) (w:World):Prop where
 os:w.os=w0.os
 tape:w.tape=w0.tape
 output:w.output=w0.output
 size:w0.heap.size≤w.heap.size
 cQ:∀ b,b < w0.heap.size→¬ fp b→w.heap[b]?=w0.heap[b]?
theorem Fr.refl (w:World) (fp:Nat→Prop):Fr w fp w:=⟨rfl,rfl,rfl,az _,fun _ _ _=>rfl⟩
structure Good (E:Env) (σ:dD) (S:Nat→Prop) (μ:Mu) (w:World):Prop where
 fr:Fr E.w0 E.fp w
 S0:∀ b,E.S0 b→S b
 S1:∀ b,S b→b < w.heap.size
 S2:∀ b,S b→E.S0 b∨E.w0.heap.size≤b
 rep:WT w S μ σ
 own:∀ k o pl,au σ k=some o→μ k=some pl→0 < pl.cap→E.fp pl.cQ∨E.w0.heap.size≤pl.cQ
 EO:∀ k,k < E.m0→μ k=E.μ0 k
 mx:MX E.fp E.w0.heap.size w S μ σ
theorem gC {w:World} {b:Nat} {o:Obj} (h:w.heap[b]?=some o):b < w.heap.size:=(Array.getElem?_eq_some_iff.1 h).1
def ca (μ:Mu) (k:Nat) (pl:Place):Mu:=fun n=>if n=k then some pl else μ n
theorem fC {w:World} {o:Obj} {b:Nat} (h:b < w.heap.size):(w.alloc o).heap[b]?=w.heap[b]?:=heap_alloc_old w o b h
theorem je.xK {w w':World} {S:Nat→Prop} {μ dy:Mu} {σ eV:dD} (g:WT w S μ σ) {k k1 i:Nat} {x:Nat×Nat×(Nat→List AV)} {v:Value} (h:je w' dy eV k i x v)
  (ho:∀ o,au eV k=some o→∃ o1,au σ k1=some o1∧rowOf o1 i=some x) (hm:∀ pl,dy k=some pl→μ k1=some pl)
  (hb:∀ o pl,au σ k1=some o→μ k1=some pl→0 < pl.cap→w'.heap[pl.cQ]?=w.heap[pl.cQ]?):je w μ σ k1 i x v:=by
 obtain ⟨o,pl,h1,h2,h3,h4⟩:=h
 obtain ⟨o1,h5,h6⟩:=ho o h1
 have h7:=hm pl h3
 refine ⟨o1,pl,h5,h6,h7,?_⟩
 obtain ⟨sI,c,T,h8,h9⟩:=g.ob k1 o1 h5
 rw [h7] at h8;cases h8
 have hc:0 < pl.cap:=by have:=(di h6).2.1;have:=h9.len;omega
 grind [rf]
theorem je.ob {w:World} {μ:Mu} {σ:dD} {k i:Nat} {x:Nat×Nat×(Nat→List AV)} {v:Value} (h:je w μ σ k i x v):∃ o,au σ k=some o∧rowOf o i=some x:=by
 obtain ⟨o,_,h1,h2,_⟩:=h;exact ⟨o,h1,h2⟩
theorem Good.Pv {E:Env} {σ:dD} {S:Nat→Prop} {μ:Mu} {w:World} (g:Good E σ S μ w) {nk:Nat} (hk:μ nk=none) (hm:E.m0≤nk) (c:Array Value) (T:TypeId) (o:Ob) (cap:Nat)
  (xL:cap * o.sz≤c.size) (hlen:o.len≤cap) (pY:∀ i,i < o.len→(o.get i).length=o.sz)
  (As:∀ i j x v,i < o.len→(o.get i)[j]?=some x→c[i * o.sz+j]?=some v→ar w S (if o.pr then iW else μ) v x) (Cv:o.sz≠0)
  (Uk:MX E.fp E.w0.heap.size (w.alloc (.cells c T)) S (ca μ nk ⟨w.heap.size,cap,o.sz⟩) (sset σ nk o)) :
  Ext w S μ (w.alloc (.cells c T)) S (ca μ nk ⟨w.heap.size,cap,o.sz⟩)∧Good E (sset σ nk o) S (ca μ nk ⟨w.heap.size,cap,o.sz⟩) (w.alloc (.cells c T)):=by
 have e:Ext w S μ (w.alloc (.cells c T)) S (ca μ nk ⟨w.heap.size,cap,o.sz⟩) :=
  ⟨by simp,fun _ h=>h,fun b hb=>fC (g.S1 b hb),fun k pl h=>by
   grind [ca]⟩
 refine ⟨e,⟨⟨g.fr.os,g.fr.tape,g.fr.output,by have:=g.fr.size;simp;omega,fun b hb hf=>(fC (pV hb g.fr.size)).trans (g.fr.cQ b hb hf)⟩,
  g.S0,fun b hb=>by have:=g.S1 b hb;simp;omega,g.S2,⟨?_,?_⟩,?_,fun k ph=>?_,Uk⟩⟩
 ·intro k x hx
  rw [bj] at hx
  by_cases xu:nk=k
  ·rw [if_pos xu] at hx
   cases hx
   refine ⟨⟨w.heap.size,cap,o.sz⟩,c,T,by simp [ca,xu],rfl,fun _=>(heap_alloc_new w _).trans (by rw [fO Cv]),xL,hlen,fun _ hS=>wE _ (g.S1 _ hS),pY,?_,fun h=>absurd h Cv⟩
   intro i j x v hi hx hv
   refine (As i j x v hi hx hv).mono e.IU e.cQ ?_
   cases o.pr
   ·exact e.mu
   ·exact fun _ _ h=>h
  ·rw [if_neg xu] at hx
   obtain ⟨pl,c',T',gZ,ho⟩:=g.rep.ob k x hx
   exact ⟨pl,c',T',e.mu _ _ gZ,ho.ext e (fun hc=>fC (gC (ho.cQ hc))) ho.out⟩
 ·intro k k' x x' pl kn fx hx xw hp ta uc J2
  rw [bj] at hx xw
  simp only [ca] at hp ta
  have lt:∀ {k x pl},nk≠k→au σ k=some x→μ k=some pl→0 < pl.cap→pl.cQ < w.heap.size:=fun {k x pl} _ hx hp hc=>by
   obtain ⟨sI,c',T',gZ,ho⟩:=g.rep.ob k x hx
   rw [hp] at gZ;cases gZ;exact gC (ho.cQ hc)
  by_cases h1:nk=k
  ·grind
  ·rw [if_neg h1] at hx
   rw [if_neg (fun h=>h1 h.symm)] at hp
   by_cases h2:nk=k'
   ·grind
   ·rw [if_neg h2] at xw
    rw [if_neg (fun h=>h2 h.symm)] at ta
    exact g.rep.ne k k' x x' pl kn fx hx xw hp ta uc J2
 ·intro k x pl hx hp hc
  rw [bj] at hx
  simp only [ca] at hp
  by_cases h1:nk=k
  ·rw [if_pos h1.symm] at hp
   cases hp
   exact .inr g.fr.size
  ·rw [if_neg h1] at hx
   rw [if_neg (fun h=>h1 h.symm)] at hp
   exact g.own k x pl hx hp hc
 ·simp only [ca]
  rw [if_neg (by omega)]
  exact g.EO k ph
theorem Good.Kb {E:Env} {σ:dD} {S:Nat→Prop} {μ:Mu} {w w':World} (g:Good E σ S μ w) {nk:Nat} (hk:μ nk=none) (o:Ob) (pl:Place) (DY:0 < pl.cap→w.heap.size≤pl.cQ) (Pw:∀ i,rowOf o i=none)
  (hw:∀ b,b < w.heap.size→w'.heap[b]?=w.heap[b]?) {S':Nat→Prop} (hS:∀ b,S b→S' b) (UY:∀ b,S' b→S b∨w.heap.size≤b):MX E.fp E.w0.heap.size w' S' (ca μ nk pl) (sset σ nk o):=by
 have key:∀ k i x v,je w' (ca μ nk pl) (sset σ nk o) k i x v→k≠nk:=by
  rintro k i x v h rfl
  obtain ⟨o2,h1,h2⟩:=h.ob
  rw [bj,if_pos rfl] at h1
  cases h1
  rw [Pw] at h2;cases h2
 refine g.mx.tr id (fun k i x v h=>?_) (fun _ _ _ _ _ _ _ _ _ _ h=>h) hS (fun b hb=>hw b (g.S1 b hb)) (fun k i x v b _ h hb=>?_) (fun k o2 sI h1 h2 h3=>?_)
 ·have fx:=key _ _ _ _ h
  obtain ⟨o3,h3,h4⟩:=h.ob
  refine h.xK g.rep (fun o2 h1=>?_) (fun sI h2=>?_) (fun o2 sI h1 h2 h3=>?_)
  ·rw [h3] at h1;cases h1
   rw [bj,if_neg (fun e=>fx e.symm)] at h3
   exact ⟨o3,h3,h4⟩
  ·simp_all [ca,if_neg]
  ·obtain ⟨Yz,c3,T3,M7,LR⟩:=g.rep.ob k o2 h1
   have h2:μ k=some sI:=h2
   rw [h2] at M7;cases M7
   exact hw _ (gC (LR.cQ h3))
 ·obtain ⟨q1,q2,q3,_⟩:=g.mx.cQ h hb
  grind
 ·by_cases xu:nk=k
  ·simp_all [ca,if_pos]
  ·rw [bj,if_neg xu] at h1
   unfold ca at h2;grind
theorem Good.alloc {E:Env} {σ:dD} {S:Nat→Prop} {μ:Mu} {w:World} (g:Good E σ S μ w) {nk:Nat} (hk:μ nk=none) (hm:E.m0≤nk) (c:Array Value) (T:TypeId) (o:Ob) (cap:Nat)
  (xL:cap * o.sz≤c.size) (hlen:o.len≤cap) (pY:∀ i,i < o.len→(o.get i).length=o.sz)
  (As:∀ i j x v,i < o.len→(o.get i)[j]?=some x→c[i * o.sz+j]?=some v→ar w S (if o.pr then iW else μ) v x) (Cv:o.sz≠0) (Pw:∀ i,rowOf o i=none) :
  Ext w S μ (w.alloc (.cells c T)) S (ca μ nk ⟨w.heap.size,cap,o.sz⟩)∧Good E (sset σ nk o) S (ca μ nk ⟨w.heap.size,cap,o.sz⟩) (w.alloc (.cells c T)) :=
 g.Pv hk hm c T o cap xL hlen pY As Cv (g.Kb hk o _ (fun _=>az _) Pw (fun _ h=>fC h) (fun _ h=>h) (fun _ h=>.inl h))
theorem Good.LZ {E:Env} {σ:dD} {S:Nat→Prop} {μ:Mu} {w w':World} (g:Good E σ S μ w)
  (hw:∀ b,b < w.heap.size→w'.heap[b]?=w.heap[b]?) {S':Nat→Prop} (hS:∀ b,S b→S' b) (UY:∀ b,S' b→S b∨w.heap.size≤b):MX E.fp E.w0.heap.size w' S' μ σ:=by
 refine g.mx.tr id (fun k i x v h=>?_) (fun _ _ _ _ _ _ _ _ _ _ h=>h) hS (fun b hb=>hw b (g.S1 b hb)) (fun k i x v b _ h hb=>?_) (fun k o2 sI h1 h2 h3=>.inl ⟨k,o2,sI,h1,h2,h3,rfl⟩)
 ·obtain ⟨o3,h3,h4⟩:=h.ob
  refine h.xK g.rep (fun o2 h1=>⟨o3,h3,h4⟩) (fun sI h2=>h2) (fun o2 sI h1 h2 h3=>?_)
  obtain ⟨Yz,c3,T3,M7,LR⟩:=g.rep.ob k o2 h1
  have h2:μ k=some sI:=h2
  rw [h2] at M7;cases M7
  exact hw _ (gC (LR.cQ h3))
 ·obtain ⟨q1,q2,q3,_⟩:=g.mx.cQ h hb
  grind
theorem Good.Om {E:Env} {σ:dD} {S:Nat→Prop} {μ:Mu} {w:World} (g:Good E σ S μ w) (o:Obj) :
  Ext w S μ (w.alloc o) (fun b=>S b∨b=w.heap.size) μ∧Good E σ (fun b=>S b∨b=w.heap.size) μ (w.alloc o):=by
 have e:Ext w S μ (w.alloc o) (fun b=>S b∨b=w.heap.size) μ :=
  ⟨by simp,fun _ h=>.inl h,fun b hb=>fC (g.S1 b hb),fun k pl h=>h⟩
 refine ⟨e,⟨⟨g.fr.os,g.fr.tape,g.fr.output,by have:=g.fr.size;simp;omega,fun b hb hf=>(fC (pV hb g.fr.size)).trans (g.fr.cQ b hb hf)⟩,
  fun b h=>.inl (g.S0 b h),fun b hb=>?_,fun b hb=>?_,⟨?_,g.rep.ne⟩,g.own,g.EO,g.LZ (fun _ h=>fC h) (fun _ h=>.inl h) (fun b h=>h.elim .inl (fun h=>.inr (Nat.le_of_eq h.symm)))⟩⟩
 ·rcases hb with hb | hb
  ·have:=g.S1 b hb;simp;omega
  ·simp;omega
 ·rcases hb with hb | hb
  ·exact g.S2 b hb
  ·exact .inr (hb ▸ g.fr.size)
 ·intro k x hx
  obtain ⟨pl,c',T',gZ,ho⟩:=g.rep.ob k x hx
  exact ⟨pl,c',T',gZ,ho.ext e (fun hc=>fC (gC (ho.cQ hc))) (fun hc h=>h.elim (ho.out hc) (by have:=gC (ho.cQ hc);omega))⟩
theorem Good.drew {E:Env} {σ:dD} {S:Nat→Prop} {μ:Mu} {w:World} (g:Good E σ S μ w):Good E σ S μ w.drew :=
 ⟨⟨g.fr.os,g.fr.tape,g.fr.output,g.fr.size,g.fr.cQ⟩,g.S0,g.S1,g.S2,
  ⟨fun k o h=>let ⟨pl,c,T,hm,ho⟩:=g.rep.ob k o h
   ⟨pl,c,T,hm,ho.ext (w':=w.drew) ⟨az _,fun _ h=>h,fun _ _=>rfl,fun _ _ h=>h⟩ (fun _=>rfl) ho.out⟩,g.rep.ne⟩,g.own,g.EO,g.LZ (w':=w.drew) (fun _ _=>rfl) (fun _ h=>h) (fun _ h=>.inl h)⟩
theorem Ext.drew (w:World) (S:Nat→Prop) (μ:Mu):Ext w S μ w.drew S μ:=⟨az _,fun _ h=>h,fun _ _=>rfl,fun _ _ h=>h⟩
theorem Good.del {E:Env} {σ:dD} {S:Nat→Prop} {μ:Mu} {w:World} (g:Good E σ S μ w) (k:Nat):Good E (vw σ k) S μ w:=by
 have hs:∀ n o,au (vw σ k) n=some o→au σ n=some o:=fun n o h=>by
  grind [fT]
 exact ⟨g.fr,g.S0,g.S1,g.S2,⟨fun n o h=>g.rep.ob n o (hs n o h),fun k k' o o' pl kn fx h h'=>g.rep.ne k k' o o' pl kn fx (hs _ _ h) (hs _ _ h')⟩,
  fun k o pl h=>g.own k o pl (hs _ _ h),g.EO,g.mx.tr id (fun k i x v ⟨o,pl,h1,h2⟩=>⟨o,pl,hs _ _ h1,h2⟩) (fun _ _ _ _ _ _ _ _ _ _ h=>h) (fun _ h=>h) (fun _ _=>rfl)
   (fun k i x v b _ h hb=>⟨rfl,(g.mx.cQ h hb).2.1,fun h=>h⟩) (fun k o pl h1 h2 h3=>.inl ⟨k,o,pl,hs _ _ h1,h2,h3,rfl⟩)⟩
theorem Good.mxW {E:Env} {σ:dD} {S:Nat→Prop} {μ:Mu} {w w':World} (g:Good E σ S μ w) {k:Nat} {o:Ob} (hs:au σ k=some o) {pl:Place} (hm:μ k=some pl) (wz:0 < pl.cap) (hS:¬ S pl.cQ)
  (tp:∀ b,b≠pl.cQ→w'.heap[b]?=w.heap[b]?) (o':Ob) (wG:∀ i x,rowOf o' i=some x→rowOf o i=some x∧∀ v,w'.cell? ⟨pl.cQ,i * pl.sz,none⟩=some v→w.cell? ⟨pl.cQ,i * pl.sz,none⟩=some v) :
  MX E.fp E.w0.heap.size w' S μ (sset σ k o'):=by
 refine g.mx.tr id (fun n i x v h=>?_) (fun _ _ _ _ _ _ _ _ _ _ h=>h) (fun _ h=>h) (fun b hb=>tp b fun e=>hS (e ▸ hb)) (fun n i x v b _ h hb=>?_) (fun n o2 sI h1 h2 h3=>?_)
 ·by_cases xu:k=n
  ·subst xu
   obtain ⟨o2,sI,h1,h2,h3,h4⟩:=h
   rw [bj,if_pos rfl] at h1;cases h1
   rw [hm] at h3;cases h3
   obtain ⟨q1,q2⟩:=wG i x h2
   exact ⟨o,pl,hs,q1,hm,q2 v h4⟩
  ·obtain ⟨o3,h3,h4⟩:=h.ob
   rw [bj,if_neg xu] at h3
   refine h.xK g.rep (fun o2 h1=>⟨o3,h3,h4⟩) (fun sI h2=>h2) (fun o2 sI h1 h2 h3=>?_)
   exact tp _ (g.rep.ne n k o2 o sI pl (fun h=>xu h.symm) h1 hs h2 hm h3 wz)
 ·obtain ⟨q1,q2,q3,_⟩:=g.mx.cQ h hb
  exact ⟨tp b fun e=>g.mx.obj _ _ _ _ _ h hb k o pl hs hm wz e.symm,q2,fun h=>h⟩
 ·rw [bj] at h1
  grind
theorem Good.write {E:Env} {σ:dD} {S:Nat→Prop} {μ:Mu} {w:World} (g:Good E σ S μ w) {k:Nat} {o:Ob} (hs:au σ k=some o) {pl:Place} {c:Array Value} {T:TypeId}
  (hm:μ k=some pl) (wz:0 < pl.cap) (ho:gX w S μ o pl c T) (Cv:o.sz≠0) (o':Ob) (c':Array Value) (su:o'.sz=o.sz) (hc:c'.size=c.size) (hlen:o'.len≤pl.cap)
  (pY:∀ i,i < o'.len→(o'.get i).length=o'.sz)
  (As:∀ i j x v,i < o'.len→(o'.get i)[j]?=some x→c'[i * o'.sz+j]?=some v→ar w S (if o'.pr then iW else μ) v x)
  (wG:∀ i x,rowOf o' i=some x→rowOf o i=some x∧c'[i * o.sz]?=c[i * o.sz]?) :
  Ext w S μ (w.setRow pl.cQ c') S μ∧Good E (sset σ k o') S μ (w.setRow pl.cQ c'):=by
 have tp:∀ b,b≠pl.cQ→(w.setRow pl.cQ c').heap[b]?=w.heap[b]?:=fun b hb=>by
  simp only [World.setRow,Array.getElem?_modify]
  grind
 have e:Ext w S μ (w.setRow pl.cQ c') S μ :=
  ⟨by simp,fun _ h=>h,fun b hb=>tp b fun h=>ho.out wz (h ▸ hb),fun _ _ h=>h⟩
 refine ⟨e,⟨⟨g.fr.os,g.fr.tape,g.fr.output,by have:=g.fr.size;simpa using this,fun b hb hf=>?_⟩,g.S0,fun b hb=>by simpa using g.S1 b hb,g.S2,⟨?_,?_⟩,?_,g.EO,?_⟩⟩
 rotate_right
 ·refine g.mxW hs hm wz (ho.out wz) tp o' fun i x hx=>⟨(wG i x hx).1,fun v hv=>?_⟩
  have h1:=ho.cQ wz
  rw [fO Cv] at h1
  rw [cell_of_row _ _ _ _ _ _ (setRow_heap w _ c c' T (0,0) h1),ho.sz,(wG i x hx).2] at hv
  rw [cell_of_row _ _ _ _ _ _ h1,ho.sz]
  exact hv
 ·rw [tp b,g.fr.cQ b hb hf]
  rintro rfl
  rcases g.own k o pl hs hm wz with h | h
  ·exact hf h
  ·omega
 ·intro n x hx
  rw [bj] at hx
  by_cases xu:k=n
  ·rw [if_pos xu] at hx
   cases hx
   refine ⟨pl,c',T,xu ▸ hm,ho.sz.trans su.symm,fun _=>(setRow_heap w _ c c' T (0,0) ((ho.cQ wz).trans (by rw [fO Cv]))).trans (by rw [fO (by rw [su];exact Cv)]),?_,hlen,ho.out,pY,?_,fun h=>absurd (su ▸ h) Cv⟩
   ·rw [su,hc];exact ho.cap
   ·intro i j x v hi hx hv
    refine (As i j x v hi hx hv).mono e.IU e.cQ ?_
    cases o'.pr
    ·exact e.mu
    ·exact fun _ _ h=>h
  ·rw [if_neg xu] at hx
   obtain ⟨sI,c2,T2,DZ,DF⟩:=g.rep.ob n x hx
   exact ⟨sI,c2,T2,DZ,DF.ext e (fun hc=>tp _ (g.rep.ne n k x o sI pl (fun h=>xu h.symm) hx hs DZ hm hc wz)) DF.out⟩
 ·intro n n' x x' p p' fx hx xw hp ta uc J2
  rw [bj] at hx xw
  have f:∀ {n x},(if k=n then some o' else au σ n)=some x→∃ y,au σ n=some y:=fun {n x} h=>by
   split at h
   ·rename_i hh;exact ⟨o,hh ▸ hs⟩
   ·exact ⟨_,h⟩
  obtain ⟨y,hy⟩:=f hx
  obtain ⟨y',UZ⟩:=f xw
  exact g.rep.ne n n' y y' p p' fx hy UZ hp ta uc J2
 ·intro n x p hx hp hc
  rw [bj] at hx
  split at hx
  ·rename_i hh;subst hh;exact g.own _ o p hs hp hc
  ·exact g.own n x p hx hp hc
theorem Good.Sp {E:Env} {σ:dD} {S:Nat→Prop} {μ:Mu} {w w':World} (g:Good E σ S μ w) {k:Nat} {o:Ob} (hs:au σ k=some o) {pl:Place} {c:Array Value} {T:TypeId}
  (hm:μ k=some pl) (wz:0 < pl.cap) (ho:gX w S μ o pl c T) (h1:w'.os=w.os) (h2:w'.tape=w.tape) (h3:w'.output=w.output) (h4:w'.heap.size=w.heap.size) (tp:∀ b,b≠pl.cQ→w'.heap[b]?=w.heap[b]?)
  (o':Ob) (Pw:∀ i,rowOf o' i=none) (Sq:Ext w S μ w' S μ→∃ c' T',gX w' S μ o' pl c' T'):Ext w S μ w' S μ∧Good E (sset σ k o') S μ w':=by
 have e:Ext w S μ w' S μ:=⟨by omega,fun _ h=>h,fun b hb=>tp b fun h=>ho.out wz (h ▸ hb),fun _ _ h=>h⟩
 refine ⟨e,⟨⟨h1.trans g.fr.os,h2.trans g.fr.tape,h3.trans g.fr.output,by have:=g.fr.size;omega,fun b hb hf=>?_⟩,g.S0,fun b hb=>by rw [h4];exact g.S1 b hb,g.S2,⟨?_,?_⟩,?_,g.EO,g.mxW hs hm wz (ho.out wz) tp o' fun i x hx=>by rw [Pw] at hx;cases hx⟩⟩
 ·rw [tp b,g.fr.cQ b hb hf]
  rintro rfl
  rcases g.own k o pl hs hm wz with h | h
  ·exact hf h
  ·omega
 ·intro n x hx
  rw [bj] at hx
  by_cases xu:k=n
  ·simp_all
  ·rw [if_neg xu] at hx
   obtain ⟨sI,c2,T2,DZ,DF⟩:=g.rep.ob n x hx
   exact ⟨sI,c2,T2,DZ,DF.ext e (fun hc=>tp _ (g.rep.ne n k x o sI pl (fun h=>xu h.symm) hx hs DZ hm hc wz)) DF.out⟩
 ·intro n n' x x' p p' fx hx xw hp ta uc J2
  rw [bj] at hx xw
  have f:∀ {n x},(if k=n then some o' else au σ n)=some x→∃ y,au σ n=some y:=fun {n x} h=>by
   grind
  obtain ⟨y,hy⟩:=f hx
  obtain ⟨y',UZ⟩:=f xw
  exact g.rep.ne n n' y y' p p' fx hy UZ hp ta uc J2
 ·intro n x p hx hp hc
  rw [bj] at hx
  split at hx
  ·rename_i hh;subst hh;exact g.own _ o p hs hp hc
  ·exact g.own n x p hx hp hc
theorem Good.allocMap {E:Env} {σ:dD} {S:Nat→Prop} {μ:Mu} {w:World} (g:Good E σ S μ w) {nk:Nat} (hk:μ nk=none) (hm:E.m0≤nk) :
  Ext w S μ (w.alloc (.map #[] 0)) S (ca μ nk ⟨w.heap.size,1,0⟩)∧Good E (sset σ nk ⟨false,0,0,true,fun _=>[]⟩) S (ca μ nk ⟨w.heap.size,1,0⟩) (w.alloc (.map #[] 0)):=by
 have hold:∀ b,b < w.heap.size→(w.alloc (.map #[] 0)).heap[b]?=w.heap[b]?:=fun b h=>fC h
 have e:Ext w S μ (w.alloc (.map #[] 0)) S (ca μ nk ⟨w.heap.size,1,0⟩) :=
  ⟨by simp,fun _ h=>h,fun b hb=>hold b (g.S1 b hb),fun k pl h=>by
   grind [ca]⟩
 have lt:∀ {k x pl},au σ k=some x→μ k=some pl→0 < pl.cap→pl.cQ < w.heap.size:=fun {k x pl} hx hp hc=>by
  obtain ⟨sI,c',T',gZ,ho⟩:=g.rep.ob k x hx
  rw [hp] at gZ;cases gZ;exact gC (ho.cQ hc)
 refine ⟨e,⟨⟨g.fr.os,g.fr.tape,g.fr.output,by have:=g.fr.size;simp;omega,fun b hb hf=>(hold b (pV hb g.fr.size)).trans (g.fr.cQ b hb hf)⟩,
  g.S0,fun b hb=>by have:=g.S1 b hb;simp;omega,g.S2,⟨?_,?_⟩,?_,fun k ph=>?_,g.Kb hk _ _ (fun _=>az _) (fun i=>rfl) hold (fun _ h=>h) (fun _ h=>.inl h)⟩⟩
 ·intro k x hx
  rw [bj] at hx
  by_cases xu:nk=k
  ·rw [if_pos xu] at hx
   cases hx
   refine ⟨⟨w.heap.size,1,0⟩,#[],0,by simp [ca,xu],rfl,fun _=>(heap_alloc_new w _).trans (by simp [Aq,g9]),by simp,by simp,fun _ hS=>wE _ (g.S1 _ hS),fun i hi=>absurd hi (dT _),fun i j x v hi=>absurd hi (dT _),fun _=>⟨Nat.one_pos,rfl,rfl,rfl,fun j x v hx=>by simp at hx⟩⟩
  ·rw [if_neg xu] at hx
   obtain ⟨pl,c',T',gZ,ho⟩:=g.rep.ob k x hx
   exact ⟨pl,c',T',e.mu _ _ gZ,ho.ext e (fun hc=>hold _ (gC (ho.cQ hc))) ho.out⟩
 ·intro k k' x x' pl kn fx hx xw hp ta uc J2
  rw [bj] at hx xw
  simp only [ca] at hp ta
  by_cases h1:nk=k
  ·grind
  ·rw [if_neg h1] at hx
   rw [if_neg (fun h=>h1 h.symm)] at hp
   by_cases h2:nk=k'
   ·grind
   ·rw [if_neg h2] at xw
    rw [if_neg (fun h=>h2 h.symm)] at ta
    exact g.rep.ne k k' x x' pl kn fx hx xw hp ta uc J2
 ·intro k x pl hx hp hc
  rw [bj] at hx
  simp only [ca] at hp
  by_cases h1:nk=k
  ·rw [if_pos h1.symm] at hp
   cases hp
   exact .inr g.fr.size
  ·rw [if_neg h1] at hx
   rw [if_neg (fun h=>h1 h.symm)] at hp
   exact g.own k x pl hx hp hc
 ·simp only [ca]
  rw [if_neg (by omega)]
  exact g.EO k ph
end Go.Ab
namespace Go.Ab
def bq:List Prop→Prop
 | []=>True
 | p :: ps=>p∧bq ps
theorem bq.app {a b:List Prop} (h:bq (a ++ b)):bq a∧bq b:=by
 induction a with
 | nil=>exact ⟨trivial,h⟩
 | cons p ps ih=>exact ⟨⟨h.1,(ih h.2).1⟩,(ih h.2).2⟩
def AV.strip:AV→AV×List Prop
 | .when b x=>(x.strip.1,(b=true) :: x.strip.2)
 | x=>(x,[])
theorem ar.strip {w:World} {S:Nat→Prop} {μ:Mu} {v:Value} {x:AV} (h:ar w S μ v x):bq x.strip.2→ar w S μ v x.strip.1:=by
 induction h with
 | when h1 _ ih=>exact fun hp=>ih hp.1 hp.2
 | atom v=>exact fun _=>.atom v
 | agg h1 h2 _=>exact fun _=>.agg h1 h2
 | tup h1 h2 _=>exact fun _=>.tup h1 h2
 | sl b off sz f h1 h2 h3 h4 h5 _=>exact fun _=>.sl b off sz f h1 h2 h3 h4 h5
 | rp b o f h1 h2 h3 _=>exact fun _=>.rp b o f h1 h2 h3
 | op pl h=>exact fun _=>.op pl h
 | os pl h h1 h2 h3=>exact fun _=>.os pl h h1 h2 h3
 | fn h1 h2 h3 h4 _ _=>exact fun _=>.fn h1 h2 h3 h4
 | mp pl h=>exact fun _=>.mp pl h
 | bn b h=>exact fun _=>.bn b h
 | pt h1 h2 _=>exact fun _=>.pt h1 h2
 | ov pl h h1=>exact fun _=>.ov pl h h1
 | Cq pl h h1 h2=>exact fun _=>.Cq pl h h1 h2
 | nq h h1 h2 _=>exact fun _=>.nq h h1 h2
 | nil=>exact fun _=>.nil
 | mH=>exact fun _=>.mH
 | mr=>exact fun _=>.mr
def AV.one:AV→Bool
 | .atom v=>match v with
  | .agg _ | .tuple _=>false
  | _=>true
 | .sl _ _ | .rp _ _ | .op _ _ _ | .os _ _ _ | .fn _ _ _ | .mp _ | .bn _ | .pt _ _ | .nil=>true
 | .nq _ x=>x.one
 | _=>false
theorem ar.IV {w:World} {S:Nat→Prop} {μ:Mu} {v:Value} {x:AV} (h:ar w S μ v x) (hx:x.one=true):v.oneCell'=true:=by
 induction h with
 | atom v=>cases v<;>simp_all [AV.one,Value.oneCell']
 | nq _ _ _ ih=>grind [AV.one]
 | @pt μ b cs v h1 h2 _ =>
  cases b with
  | false=>rw [h2 rfl];rfl
  | true=>have:=h1 rfl;cases this;rfl
 | _=>first | rfl | (simp [AV.one] at hx;done)
def AV.fJ:List AV→Bool
 | []=>true
 | c :: cs=>c.one && AV.fJ cs
theorem Fg {cs:List AV} (h:AV.fJ cs=true) {j:Nat} {c:AV} (hc:cs[j]?=some c):c.one=true:=by
 induction cs generalizing j with
 | nil=>simp at hc
 | cons x xs ih =>
  simp only [AV.fJ,bp] at h
  grind
def AV.cells:AV→Option (List AV)
 | .agg cs=>some cs
 | .atom v=>match v with
  | .agg _ | .tuple _=>none
  | v=>some [.atom v]
 | .sl n g=>some [.sl n g]
 | .rp c o=>some [.rp c o]
 | .op k i j=>some [.op k i j]
 | .os k o n=>some [.os k o n]
 | .fn f a b=>some [.fn f a b]
 | .mp k=>some [.mp k]
 | .bn n=>some [.bn n]
 | .pt b cs=>some [.pt b cs]
 | .nq st x=>match x.one with
  | true=>some [.nq st x]
  | false=>none
 | .nil=>some [.nil]
 | _=>none
theorem On {v:Value} (h:v.oneCell'=true):v.cells=#[v]:=by
 cases v<;>simp_all [Value.oneCell',Value.cells]
theorem ar.cells {w:World} {S:Nat→Prop} {μ:Mu} {v:Value} {x:AV} (h:ar w S μ v x) {cs:List AV} (hc:x.cells=some cs) :
  v.cells.size=cs.length∧∀ (j:Nat) (c:AV) (u:Value),cs[j]?=some c→v.cells[j]?=some u→ar w S μ u c:=by
 have one:∀ {x:AV},ar w S μ v x→x.one=true→cs=[x]→v.cells.size=cs.length∧∀ (j:Nat) (c:AV) (u:Value),cs[j]?=some c→v.cells[j]?=some u→ar w S μ u c:=by
  intro x h h1 h2
  rw [On (h.IV h1),h2]
  refine ⟨rfl,?_⟩
  intro j c u hj hu
  cases j with
  | zero=>simp_all
  | succ j=>simp at hj
 cases x with
 | agg l =>
  cases hc
  cases h with
  | agg h1 h2=>exact ⟨h1,fun j c u hj hu=>h2 j c u hj hu⟩
 | atom u =>
  have hu:(AV.atom u).one=true:=by cases u<;>simp_all [AV.cells,AV.one]
  exact one h hu (by cases u<;>simp_all [AV.cells])
 | sl=>exact one h rfl (by grind [AV.cells])
 | rp=>exact one h rfl (by grind [AV.cells])
 | op=>exact one h rfl (by grind [AV.cells])
 | os=>exact one h rfl (by grind [AV.cells])
 | fn=>exact one h rfl (by grind [AV.cells])
 | mp=>exact one h rfl (by grind [AV.cells])
 | bn=>exact one h rfl (by grind [AV.cells])
 | pt=>exact one h rfl (by grind [AV.cells])
 | nq st x =>
  simp only [AV.cells] at hc
  split at hc
  ·rename_i h1;exact one h (by simpa [AV.one] using h1) (Option.some.inj hc).symm
  ·cases hc
 | nil=>exact one h rfl (by grind [AV.cells])
 | _=>simp [AV.cells] at hc
def fX:Value→AV
 | .slice none 0 0=>.nil
 | .func f vs ws=>if vs.size=0∧ws.size=0 then .fn f [] [] else .atom (.func f vs ws)
 | v=>.atom v
def ofConst:Value→AV
 | .agg vs=>.agg (vs.toList.map fX)
 | .tuple vs=>.tup (vs.toList.map fX)
 | v=>fX v
theorem Au (w:World) (S:Nat→Prop) (μ:Mu) (v:Value):ar w S μ v (fX v):=by
 unfold fX
 split
 ·exact .nil
 ·split
  ·rename_i h
   exact .fn (by simpa using h.1) (by simpa using h.2) (fun j c v hc=>by simp at hc) (fun j c v hc=>by simp at hc)
  ·exact .atom _
 ·exact .atom _
theorem HJ (w:World) (S:Nat→Prop) (μ:Mu) (v:Value):ar w S μ v (ofConst v):=by
 have f:∀ (vs:Array Value) (j:Nat) (c:AV) (u:Value),(vs.toList.map fX)[j]?=some c→vs[j]?=some u→ar w S μ u c:=by
  intro vs j c u hc hu
  have Zj:vs.toList[j]?=some u:=by simpa using hu
  rw [List.getElem?_map,Zj] at hc
  simp at hc
  exact hc ▸ Au w S μ u
 unfold ofConst
 split
 ·exact .agg (by simp) (f _)
 ·exact .tup (by simp) (f _)
 ·exact Au w S μ _
def ud (P:Program) (t:TypeId):Option Nat:=(P.info? t).map (·.size)
def wH (P:Program) (t:TypeId):Option Nat:=(P.info? t).map (·.bytes)
def sw (P:Program) (t:TypeId):Option Value:=(P.info? t).bind (·.zero)
theorem eO {P:Program} {t n:Nat} (h:ud P t=some n) (w:World):(sizeOf t).run P w=.ok n w:=by
 unfold ud at h
 cases hi:P.info? t with
 | none=>simp [hi] at h
 | some i=>simp_all [sizeOf,typeInfo]
theorem HK {P:Program} {t:Nat} {z:Value} (h:sw P t=some z) (w:World):(zeroValue t).run P w=.ok z w:=by
 unfold sw at h
 cases hi:P.info? t with
 | none=>simp [hi] at h
 | some i=>simp_all [zeroValue,typeInfo]
theorem wJ {P:Program} {t n b:Nat} {z:Value} (h:ud P t=some n) (hb:wH P t=some b) (hz:sw P t=some z) :
  ∃ i,P.info? t=some i∧i.size=n∧i.bytes=b∧i.zero=some z:=by
 unfold ud at h;unfold wH at hb;unfold sw at hz
 cases hi:P.info? t with
 | none=>simp [hi] at h
 | some i=>simp_all
def Ul (op:BinOp) (k:IntKind) (a b:Int):Option (List Prop×AV) :=
 match op with
 | .add=>some ([],.atom (.int k (k.wrap (a+b))))
 | .sub=>some ([],.atom (.int k (k.wrap (a - b))))
 | .mul=>some ([],.atom (.int k (k.wrap (a * b))))
 | .quo=>some ([b≠0],.atom (.int k (k.wrap (a.tdiv b))))
 | .rem=>some ([b≠0],.atom (.int k (a.tmod b)))
 | .and=>some ([],.atom (.int k (k.wrap (BitVec.ofInt k.bits a &&& BitVec.ofInt k.bits b).toNat)))
 | .or=>some ([],.atom (.int k (k.wrap (BitVec.ofInt k.bits a ||| BitVec.ofInt k.bits b).toNat)))
 | .xor=>some ([],.atom (.int k (k.wrap (BitVec.ofInt k.bits a ^^^ BitVec.ofInt k.bits b).toNat)))
 | .andNot=>some ([],.atom (.int k (k.wrap (BitVec.ofInt k.bits a &&& ~~~BitVec.ofInt k.bits b).toNat)))
 | .eql=>some ([],.atom (.bool (a == b)))
 | .neq=>some ([],.atom (.bool (a != b)))
 | .lss=>some ([],.atom (.bool (decide (a < b))))
 | .leq=>some ([],.atom (.bool (decide (a≤b))))
 | .gtr=>some ([],.atom (.bool (decide (a > b))))
 | .geq=>some ([],.atom (.bool (decide (a≥b))))
 | _=>none
def EP (op:BinOp) (k:IntKind) (a b:Int):Option (List Prop×AV) :=
 match op with
 | .shl=>some ([0≤b],.atom (.int k (k.wrap (a * 2 ^ (min b.toNat k.bits)))))
 | .shr=>some ([0≤b],.atom (.int k (a.fdiv (2 ^ (min b.toNat k.bits)))))
 | _=>none
def lU (a b:ByteArray):Bool:=a.toList == b.toList
def Um (op:BinOp) (a b:ByteArray):Option (List Prop×AV) :=
 match op with
 | .eql=>some ([],.atom (.bool (lU a b)))
 | .neq=>some ([],.atom (.bool (!lU a b)))
 | .lss=>some ([],.atom (.bool (Op.bytesLess a.toList b.toList)))
 | .leq=>some ([],.atom (.bool (Op.bytesLess a.toList b.toList || lU a b)))
 | .gtr=>some ([],.atom (.bool (!(Op.bytesLess a.toList b.toList || lU a b))))
 | .geq=>some ([],.atom (.bool (!Op.bytesLess a.toList b.toList)))
 | .add=>some ([((a.size+b.size:Nat):Int)≤IntKind.i64.max],.atom (.string (a ++ b)))
 | _=>none
def ko (P:Program) (t:TypeId) (cs:List AV) (off:Nat):Option AV :=
 match P.underlying t,ud P t with
 | some d,some n=>match d.isRow with
  | true=>some (.agg ((cs.drop off).take n))
  | false=>cs[off]?
 | _,_=>none
theorem kr {P:Program} {w:World} {S:Nat→Prop} {μ:Mu} {vs:Array Value} {cs:List AV} (hs:vs.size=cs.length)
  (h:∀ (j:Nat) (c:AV) (v:Value),cs[j]?=some c→vs[j]?=some v→ar w S μ v c) {t off:Nat} {x:AV} (hx:ko P t cs off=some x)
  (hle:∀ n,ud P t=some n→off+n≤cs.length) :
  ∃ v,(part t vs off).run P w=.ok v w∧ar w S μ v x:=by
 unfold ko at hx
 cases hu:P.underlying t with
 | none=>simp [hu] at hx
 | some d =>
  cases hn:ud P t with
  | none=>simp [hu,hn] at hx
  | some n =>
   have acK:=hle n hn
   cases hd:d.isRow with
   | true =>
    simp [hu,hn,hd] at hx
    have Oo:(isAgg t).run P w=.ok true w:=by
     unfold isAgg
     rw [bN,run_underlying hu w]
     cases d<;>simp_all
    refine ⟨.agg (vs.extract off (off+n)),by simp [part,Oo,eO hn],?_⟩
    rw [← hx]
    refine .agg (by simp;omega) ?_
    grind
   | false =>
    simp [hu,hn,hd] at hx
    have Oo:(isAgg t).run P w=.ok false w:=by
     unfold isAgg
     rw [bN,run_underlying hu w]
     cases d<;>simp_all
    have gY:off < vs.size:=by rw [hs];exact (dU.1 hx).1
    refine ⟨vs[off],by simp [part,Oo,jR gY],?_⟩
    exact h off x _ hx (jR gY)
mutual
def Cw (P:Program):Nat→TypeId→AV→AV→Option Bool
 | 0,_,_,_=>none
 | d+1,t,x,y =>
  match P.underlying t with
  | some .bool=>match x,y with
   | .atom (.bool a),.atom (.bool b)=>some (a == b)
   | _,_=>none
  | some (.int _)=>match x,y with
   | .atom (.int k a),.atom (.int k' b)=>match decide (k=k') with
    | true=>some (a == b)
    | false=>none
   | _,_=>none
  | some .string=>match x,y with
   | .atom (.string a),.atom (.string b)=>some (lU a b)
   | _,_=>none
  | some (.struct fs)=>match x,y with
   | .agg xs,.agg ys=>match P.stoodInHeld t with
    | false=>Fh P d xs ys fs.toList
    | true=>none
   | _,_=>none
  | some (.array n e)=>match x,y,ud P e with
   | .agg xs,.agg ys,some m=>Af P d e m xs ys 0 n
   | _,_,_=>none
  | _=>none
def Fh (P:Program):Nat→List AV→List AV→List Field→Option Bool
 | _,_,_,[]=>some true
 | 0,_,_,_=>none
 | d+1,xs,ys,f :: fs =>
  match decide (f.name = "_"),ud P f.type with
  | false,some n=>match Nat.ble (f.offset+n) xs.length && Nat.ble (f.offset+n) ys.length,ko P f.type xs f.offset,ko P f.type ys f.offset with
   | true,some a,some b=>match Cw P d f.type a b,Fh P d xs ys fs with
    | some p,some q=>some (p && q)
    | _,_=>none
   | _,_,_=>none
  | _,_=>none
def Af (P:Program):Nat→TypeId→Nat→List AV→List AV→Nat→Nat→Option Bool
 | _,_,_,_,_,_,0=>some true
 | 0,_,_,_,_,_,_=>none
 | d+1,e,m,xs,ys,i,n+1 =>
  match Nat.ble (i * m+m) xs.length && Nat.ble (i * m+m) ys.length,ko P e xs (i * m),ko P e ys (i * m) with
  | true,some a,some b=>match Cw P d e a b,Af P d e m xs ys (i+1) n with
   | some p,some q=>some (p && q)
   | _,_=>none
  | _,_,_=>none
end
end Go.Ab
namespace Go.Ab
theorem dg {w:World} {S:Nat→Prop} {μ:Mu} {v u:Value} (h:ar w S μ v (.atom u)):v=u:=by cases h;rfl
theorem n4 {w:World} {S:Nat→Prop} {μ:Mu} {v:Value} {cs:List AV} (h:ar w S μ v (.agg cs)) :
  ∃ vs:Array Value,v=.agg vs∧vs.size=cs.length∧∀ (j:Nat) (c:AV) (u:Value),cs[j]?=some c→vs[j]?=some u→ar w S μ u c:=by
 cases h with
 | agg h1 h2=>grind
section
variable {P:Program} {w:World} {S:Nat→Prop} {μ:Mu}
theorem Kc {t:TypeId} {fs:Array Field} (h:P.underlying t=some (.struct fs)):P.fieldsOf t=fs:=by
 simp [Program.fieldsOf,h]
theorem Kd:∀ d:Nat,
  (∀ D t x y v u b,d≤D→ar w S μ v x→ar w S μ u y→Cw P d t x y=some b→(Op.equalIn D t v u).run P w=.ok b w) ∧
  (∀ D (vs us:Array Value) xs ys fs b,d≤D→vs.size=xs.length→(∀ (j:Nat) c z,xs[j]?=some c→vs[j]?=some z→ar w S μ z c)→us.size=ys.length →
   (∀ (j:Nat) c z,ys[j]?=some c→us[j]?=some z→ar w S μ z c)→Fh P d xs ys fs=some b→(Op.eqFields D vs us fs).run P w=.ok b w) ∧
  (∀ D (vs us:Array Value) e m xs ys i n b,d≤D→ud P e=some m→vs.size=xs.length→(∀ (j:Nat) c z,xs[j]?=some c→vs[j]?=some z→ar w S μ z c)→us.size=ys.length →
   (∀ (j:Nat) c z,ys[j]?=some c→us[j]?=some z→ar w S μ z c)→Af P d e m xs ys i n=some b →
   (forIn (m:=Sem) (List.range' i n) ((none,()):Option Bool×Unit) fun i _=>do
      let p ← part e vs (i * m)
      let q ← part e us (i * m)
      let r ← Op.equalIn D e p q
      if (!r)=true then pure (ForInStep.done (some false,())) else pure (ForInStep.yield (none,()))).run P w=.ok (if b then none else some false,()) w):=by
 intro d
 induction d with
 | zero =>
  refine ⟨fun D t x y v u b _ _ _ h=>by simp [Cw] at h,?_,?_⟩
  ·intro D vs us xs ys fs b _ _ _ _ _ h
   cases fs with
   | nil=>simp_all [Fh,Op.eqFields]
   | cons f fs=>simp [Fh] at h
  ·intro D vs us e m xs ys i n b _ _ _ _ _ _ h
   cases n with
   | zero=>simp_all [Af]
   | succ n=>simp [Af] at h
 | succ d ih =>
  obtain ⟨Ok,Ol,ih3⟩:=ih
  refine ⟨?_,?_,?_⟩
  ·intro D t x y v u b hD hx hy h
   obtain ⟨D,rfl⟩:∃ D',D=D'+1:=⟨D - 1,by omega⟩
   simp only [Cw] at h
   split at h
   ·rename_i hu
    split at h
    ·cases hx;cases hy
     simp at h;subst h
     simp [Op.equalIn,run_underlying hu]
    ·cases h
   ·rename_i hu
    split at h
    ·rename_i k a k' b'
     cases hx;cases hy
     by_cases hk:k=k'
     ·simp [hk] at h;subst h
      simp [Op.equalIn,run_underlying hu,hk]
     ·simp [hk] at h
    ·cases h
   ·rename_i hu
    split at h
    ·cases hx;cases hy
     simp at h;subst h
     rw [run_equalIn_string w D t _ _ hu];rfl
    ·cases h
   ·rename_i fs hu
    split at h
    ·split at h
     ·rename_i Bk
      obtain ⟨vs,rfl,He,D1⟩:=n4 hx
      obtain ⟨us,rfl,Oq,Ke⟩:=n4 hy
      have hf:=Kc hu
      rw [run_equalIn_struct w D t vs us (hf ▸ hu) Bk,hf]
      exact Ol D vs us _ _ _ b (by omega) He D1 Oq Ke h
     ·cases h
    ·cases h
   ·rename_i n e hu
    split at h
    ·rename_i m hm
     obtain ⟨vs,rfl,He,D1⟩:=n4 hx
     obtain ⟨us,rfl,Oq,Ke⟩:=n4 hy
     simp only [Op.equalIn,bN,run_underlying hu,df,eO hm]
     rw [Std.Legacy.Range.forIn_eq_forIn_range']
     simp only [Std.Legacy.Range.size,Nat.sub_zero,Nat.add_sub_cancel,Nat.div_one]
     rw [ih3 D vs us e m _ _ 0 n b (by omega) hm He D1 Oq Ke h]
     cases b<;>simp
    ·cases h
   ·cases h
  ·intro D vs us xs ys fs b hD He D1 Oq Ke h
   cases fs with
   | nil=>simp [Fh] at h;subst h;simp [Op.eqFields]
   | cons f fs =>
    simp only [Fh] at h
    split at h
    ·rename_i n WX hn
     split at h
     ·rename_i a c hle ha hc
      split at h
      ·rename_i p q hp hq
       simp only [bp,Nat.ble_eq] at hle
       have U0:∀ n',ud P f.type=some n'→f.offset+n'≤xs.length:=fun n' h'=>by rw [hn] at h';cases h';exact hle.1
       have L0:∀ n',ud P f.type=some n'→f.offset+n'≤ys.length:=fun n' h'=>by rw [hn] at h';cases h';exact hle.2
       obtain ⟨v1,r1,x1⟩:=kr He D1 ha U0
       obtain ⟨v2,r2,x2⟩:=kr Oq Ke hc L0
       have e1:=Ok D f.type a c v1 v2 p (by omega) x1 x2 hp
       have e2:=Ol D vs us xs ys fs q (by omega) He D1 Oq Ke hq
       have fx:f.name≠ "_":=sG WX
       simp at h;subst h
       simp only [Op.eqFields,if_pos fx,bN,r1,r2,e1,df]
       cases p
       ·simp
       ·simp [e2]
      ·cases h
     ·cases h
    ·cases h
  ·intro D vs us e m xs ys i n b hD hm He D1 Oq Ke h
   cases n with
   | zero=>simp [Af] at h;subst h;simp
   | succ n =>
    simp only [Af] at h
    split at h
    ·rename_i a c hle ha hc
     split at h
     ·rename_i p q hp hq
      simp only [bp,Nat.ble_eq] at hle
      have U0:∀ n',ud P e=some n'→i * m+n'≤xs.length:=fun n' h'=>by rw [hm] at h';cases h';exact hle.1
      have L0:∀ n',ud P e=some n'→i * m+n'≤ys.length:=fun n' h'=>by rw [hm] at h';cases h';exact hle.2
      obtain ⟨v1,r1,x1⟩:=kr He D1 ha U0
      obtain ⟨v2,r2,x2⟩:=kr Oq Ke hc L0
      have e1:=Ok D e a c v1 v2 p (by omega) x1 x2 hp
      have e2:=ih3 D vs us e m xs ys (i+1) n q (by omega) hm He D1 Oq Ke hq
      simp at h;subst h
      rw [List.range'_succ,List.forIn_cons]
      simp only [bN,r1,r2,e1,df]
      cases p
      ·simp
      ·simpa using e2
     ·cases h
    ·cases h
def Fi (o:BinOp) (q:Bool):Option AV :=
 match o with
 | .eql=>some (.atom (.bool q))
 | .neq=>some (.atom (.bool (!q)))
 | _=>none
def Px:AV→Bool
 | .atom v=>match v with
  | .pointer none=>true
  | _=>false
 | _=>false
def Py (P:Program) (o:BinOp) (t:TypeId) (x y:AV):Option AV :=
 match P.underlying t,y with
 | some (.slice _),.nil=>match x with
  | .nil=>Fi o true
  | .sl n _ | .os _ _ n=>match o with
   | .eql=>some (.bn n)
   | _=>none
  | _=>none
 | some (.pointer _),y=>match Px y with
  | true=>match x with
   | .atom v=>match v with
    | .pointer none=>Fi o true
    | _=>none
   | .rp _ _ | .op _ _ _=>Fi o false
   | .pt b _=>Fi o (!b)
   | _=>none
  | false=>none
 | _,_=>none
theorem ox (op:BinOp) (t:TypeId) (x y:Operand) (a b:Value) (h1:a≠.nilIface) (h2:∀ c,a≠.agg c):(eqGuard op t x y a b).run P w=.ok () w:=by
 simp_all [eqGuard]
theorem M8 {o:BinOp} {t:TypeId} {a b:Option Addr} {l c l' c':Nat} {q:Bool} (h:(Op.equal t (.slice a l c) (.slice b l' c')).run P w=.ok q w) {r:AV} (hr:Fi o q=some r):∃ z,(binOp o t (.slice a l c) (.slice b l' c')).run P w=.ok z w∧ar w S μ z r:=by
 cases o<;>simp only [Fi,aD,reduceCtorEq] at hr<;>subst hr
 ·exact ⟨.bool q,by simp_all [binOp,bN],.atom _⟩
 ·exact ⟨.bool (!q),by simp_all [binOp,bN],.atom _⟩
theorem Bn {o:BinOp} {t:TypeId} {a:Option Addr} {q:Bool} (h:(Op.equal t (.pointer a) (.pointer none)).run P w=.ok q w) {r:AV} (hr:Fi o q=some r):∃ z,(binOp o t (.pointer a) (.pointer none)).run P w=.ok z w∧ar w S μ z r:=by
 cases o<;>simp only [Fi,aD,reduceCtorEq] at hr<;>subst hr
 ·exact ⟨.bool q,by simp_all [binOp,bN],.atom _⟩
 ·exact ⟨.bool (!q),by simp_all [binOp,bN],.atom _⟩
theorem U1 {op:BinOp} {t:TypeId} {x y:AV} {xo yo:Operand} {v u:Value} (hx:ar w S μ v x) (hy:ar w S μ u y) {r:AV} (h:Py P op t x y=some r) :
  ∃ z,(do eqGuard op t xo yo v u;binOp op t v u:Sem Value).run P w=.ok z w∧ar w S μ z r:=by
 have gd:∀ (v u:Value),v≠.nilIface→(∀ c,v≠.agg c)→(∃ z,(binOp op t v u).run P w=.ok z w∧ar w S μ z r)→∃ z,(do eqGuard op t xo yo v u;binOp op t v u:Sem Value).run P w=.ok z w∧ar w S μ z r:=by
  intro v u h1 h2 h3
  have hg:=ox (P:=P) (w:=w) op t xo yo v u h1 h2
  simpa only [bN,hg,df] using h3
 unfold Py at h
 split at h
 ·rename_i e ht
  cases hy
  have sl:∀ (a:Option Addr) (l c:Nat),(Op.equal t (.slice a l c) (.slice none 0 0)).run P w=.ok a.isNone w:=by
   intro a l c
   unfold Op.equal Op.maxDepth Op.equalIn
   rw [bN,run_underlying ht]
   cases a<;>rfl
  split at h
  ·cases hx
   exact gd _ _ (by simp) (by simp) (M8 (sl none 0 0) h)
  ·split at h
   ·cases h
    cases hx with
    | sl b off sz f h1 h2 h3 h4 h5 =>
     rename_i a cap
     refine gd _ _ (by simp) (by simp) ⟨.bool a.isNone,?_,.bn _ fun hn=>?_⟩
     ·simp only [binOp,bN,sl];rfl
     ·refine Nat.eq_zero_of_not_pos fun h0=>?_
      rw [(h1 h0).1] at hn;cases hn
   ·cases h
  ·split at h
   ·cases h
    cases hx with
    | os pl hm h1 h2 h3 =>
     rename_i cap a
     refine gd _ _ (by simp) (by simp) ⟨.bool a.isNone,?_,.bn _ fun hn=>?_⟩
     ·simp only [binOp,bN,sl];rfl
     ·refine Nat.eq_zero_of_not_pos fun h0=>?_
      rw [h1 (by omega)] at hn;cases hn
   ·cases h
  ·cases h
 ·rename_i e ht
  split at h
  ·rename_i Sa
   have hu:u=.pointer none:=by
    unfold Px at Sa
    split at Sa
    ·split at Sa
     ·exact dg hy
     ·cases Sa
    ·cases Sa
   subst hu
   have pt:∀ (a:Option Addr),(Op.equal t (.pointer a) (.pointer none)).run P w=.ok a.isNone w:=by
    intro a
    unfold Op.equal Op.maxDepth Op.equalIn
    rw [bN,run_underlying ht]
    cases a<;>rfl
   split at h
   ·split at h
    ·have:=dg hx;subst this
     exact gd _ _ (by simp) (by simp) (Bn (pt none) h)
    ·cases h
   ·cases hx
    exact gd _ _ (by simp) (by simp) (Bn (pt (some _)) h)
   ·cases hx
    exact gd _ _ (by simp) (by simp) (Bn (pt (some _)) h)
   ·rename_i b cs
    cases hx with
    | pt h1 h2 =>
     cases b with
     | true =>
      have:=h1 rfl
      cases this
      exact gd _ _ (by simp) (by simp) (Bn (pt (some _)) h)
     | false =>
      rw [h2 rfl]
      exact gd _ _ (by simp) (by simp) (Bn (pt none) h)
   ·cases h
  ·cases h
 ·cases h
def WY:Option Bool→Bool
 | some b=>b
 | none=>false
theorem Un {op:BinOp} {t e:TypeId} {st:Option Bool} {x:AV} {xo yo:Operand} {v u:Value} (ht:P.underlying t=some (.slice e)) (hx:ar w S μ v (.nq st x)) (hy:ar w S μ u .nil) {n:Nat}
  (hs:∃ a c,v=.slice a n c∧(0 < n→a.isNone=false)) (hn:st=none→0 < n) {r:AV} (h:Fi op (WY st)=some r) :
  ∃ z,(do eqGuard op t xo yo v u;binOp op t v u:Sem Value).run P w=.ok z w∧ar w S μ z r:=by
 obtain ⟨a,c,rfl,ha⟩:=hs
 cases hy
 have hq:a.isNone=WY st:=by
  cases hx with
  | nq _ h1 h2 =>
   cases st with
   | none=>exact ha (hn rfl)
   | some b=>cases b with
    | true=>have:=h1 rfl;injection this with e1;subst e1;rfl
    | false=>have:=h2 rfl;cases a with
     | none=>cases this
     | some a=>rfl
 have hg:=ox (P:=P) (w:=w) op t xo yo (.slice a n c) (.slice none 0 0) (by simp) (by simp)
 have he:(Op.equal t (.slice a n c) (.slice none 0 0)).run P w=.ok (WY st) w:=by
  rw [← hq]
  unfold Op.equal Op.maxDepth Op.equalIn
  rw [bN,run_underlying ht]
  cases a<;>rfl
 obtain ⟨z,h1,h2⟩:=M8 (S:=S) (μ:=μ) he h
 exact ⟨z,by simpa only [bN,hg,df] using h1,h2⟩
def Pz (P:Program) (op:BinOp) (t:TypeId) (x y:AV):Option (List Prop×AV) :=
 match x,y with
 | .atom (.int k a),.atom (.int k' b)=>match op with
  | .shl=>EP .shl k a b
  | .shr=>EP .shr k a b
  | op=>match decide (k=k') with
   | true=>Ul op k a b
   | false=>none
 | .atom (.string a),.atom (.string b)=>Um op a b
 | .atom (.bool _),.atom (.bool _)=>match op with
  | .eql=>(Cw P 1 t x y).map fun b=>([],.atom (.bool b))
  | .neq=>(Cw P 1 t x y).map fun b=>([],.atom (.bool (!b)))
  | _=>none
 | .agg _,.agg _=>match P.eqGuardType P.depth t with
  | false=>match op with
   | .eql=>(Cw P 60 t x y).map fun b=>([],.atom (.bool b))
   | .neq=>(Cw P 60 t x y).map fun b=>([],.atom (.bool (!b)))
   | _=>none
  | true=>none
 | .nq st x,.nil=>match P.underlying t,x with
  | some (.slice _),.sl n _=>(Fi op (WY st)).map fun v=>([st=none→0 < n],v)
  | some (.slice _),.os _ _ n=>(Fi op (WY st)).map fun v=>([st=none→0 < n],v)
  | _,_=>none
 | x,y=>(Py P op t x y).map fun v=>([],v)
theorem U2 {op:BinOp} {t:TypeId} {x y:AV} {xo yo:Operand} {v u:Value} (hx:ar w S μ v x) (hy:ar w S μ u y) {ps:List Prop} {r:AV} (h:Pz P op t x y=some (ps,r)) (hp:bq ps) :
  ∃ z,(do eqGuard op t xo yo v u;binOp op t v u:Sem Value).run P w=.ok z w∧ar w S μ z r:=by
 unfold Pz at h
 split at h
 ·rename_i k a k' b
  have:=dg hx;subst this
  have:=dg hy;subst this
  have hg:=ox (P:=P) (w:=w) op t xo yo (.int k a) (.int k' b) (by simp) (by simp)
  simp only [bN,hg,df]
  have sh:∀ o,(o=.shl∨o=.shr)→EP o k a b=some (ps,r)→∃ z,(binOp o t (.int k a) (.int k' b)).run P w=.ok z w∧ar w S μ z r:=by
   intro o ho h
   rcases ho with rfl | rfl<;>simp only [EP,aD,aA] at h<;>obtain ⟨rfl,rfl⟩:=h <;>
    (have h0:¬ b < 0:=by have:=hp.1;omega)<;>exact ⟨_,by simp [binOp,Op.shift,h0],.atom _⟩
  split at h
  ·exact sh .shl (.inl rfl) h
  ·exact sh .shr (.inr rfl) h
  ·rename_i n1 n2
   split at h
   ·rename_i hk
    have hk:=qS hk
    subst hk
    cases op<;>simp only [Ul,aD,aA,reduceCtorEq] at h <;>
     first
      | exact absurd rfl n1
      | exact absurd rfl n2
      | (obtain ⟨rfl,rfl⟩:=h
         exact ⟨_,by
         first
          | (simp [binOp,Op.intArith];done)
          | (have hb:¬ b=0:=hp.1
             simp [binOp,Op.intDiv,hb];done)
          | (simp [binOp,Op.intBits];done)
          | (simp [binOp,Op.intCmp];done),.atom _⟩)
   ·cases h
 ·rename_i a b
  have:=dg hx;subst this
  have:=dg hy;subst this
  have hg:=ox (P:=P) (w:=w) op t xo yo (.string a) (.string b) (by simp) (by simp)
  simp only [bN,hg,df]
  cases op<;>simp only [Um,aD,aA,reduceCtorEq] at h<;>obtain ⟨rfl,rfl⟩:=h
  ·have h0:¬ ((a.size+b.size:Nat):Int) > IntKind.i64.max:=by have:=hp.1;omega
   exact ⟨_,by simp only [binOp,Op.stringOp,if_neg h0];rfl,.atom _⟩
  all_goals exact ⟨_,by simp only [binOp,Op.stringOp];rfl,.atom _⟩
 ·rename_i a b
  have:=dg hx;subst this
  have:=dg hy;subst this
  have hg:=ox (P:=P) (w:=w) op t xo yo (.bool a) (.bool b) (by simp) (by simp)
  simp only [bN,hg,df]
  split at h
  ·simp only [aK,aA] at h
   obtain ⟨q,hq,rfl,rfl⟩:=h
   have:=(Kd (w:=w) (S:=S) (μ:=μ) 1).1 10000 t _ _ _ _ q (by omega) hx hy hq
   exact ⟨_,by simp only [binOp,Op.equal,Op.maxDepth,bN,this];rfl,.atom _⟩
  ·simp only [aK,aA] at h
   obtain ⟨q,hq,rfl,rfl⟩:=h
   have:=(Kd (w:=w) (S:=S) (μ:=μ) 1).1 10000 t _ _ _ _ q (by omega) hx hy hq
   exact ⟨_,by simp only [binOp,Op.equal,Op.maxDepth,bN,this];rfl,.atom _⟩
  ·cases h
 ·split at h
  ·rename_i U3
   obtain ⟨vs,rfl,He,D1⟩:=n4 hx
   obtain ⟨us,rfl,Oq,Ke⟩:=n4 hy
   have hg:=run_eqGuard_agg (P:=P) w op t xo yo vs us U3
   simp only [bN,hg,df]
   split at h
   ·simp only [aK,aA] at h
    obtain ⟨q,hq,rfl,rfl⟩:=h
    have:=(Kd (w:=w) (S:=S) (μ:=μ) 60).1 10000 t _ _ _ _ q (by omega) hx hy hq
    exact ⟨_,by rw [run_eql_struct,this];rfl,.atom _⟩
   ·simp only [aK,aA] at h
    obtain ⟨q,hq,rfl,rfl⟩:=h
    have:=(Kd (w:=w) (S:=S) (μ:=μ) 60).1 10000 t _ _ _ _ q (by omega) hx hy hq
    exact ⟨_,by rw [run_neq_struct,this];rfl,.atom _⟩
   ·cases h
  ·cases h
 ·split at h
  ·rename_i e n g ht
   simp only [aK,aA] at h
   obtain ⟨q,hq,rfl,rfl⟩:=h
   refine Un ht hx hy (n:=n) ?_ hp.1 hq
   cases hx with
   | nq h0 _ _=>cases h0 with
    | sl b off sz f h1 h2 h3 h4 h5=>exact ⟨_,_,rfl,fun hn=>by rw [(h1 hn).1];rfl⟩
  ·rename_i e k o n ht
   simp only [aK,aA] at h
   obtain ⟨q,hq,rfl,rfl⟩:=h
   refine Un ht hx hy (n:=n) ?_ hp.1 hq
   cases hx with
   | nq h0 _ _=>cases h0 with
    | os pl hm h1 h2 h3=>exact ⟨_,_,rfl,fun hn=>by rw [h1 (by omega)];rfl⟩
  ·cases h
 ·simp only [aK,aA] at h
  obtain ⟨q,hq,rfl,rfl⟩:=h
  exact U1 hx hy hq
def U4 (op:UnOp) (x:AV):Option AV :=
 match op,x with
 | .neg,.atom (.int k n)=>some (.atom (.int k (k.wrap (0 - n))))
 | .not,.atom (.bool b)=>some (.atom (.bool (!b)))
 | _,_=>none
theorem WZ {op:UnOp} {x:AV} {v:Value} (hx:ar w S μ v x) {r:AV} (h:U4 op x=some r):∃ z,(Op.unary op v).run P w=.ok z w∧ar w S μ z r:=by
 unfold U4 at h
 split at h<;>cases h<;>(have:=dg hx;subst this)
 ·exact ⟨_,by rfl,.atom _⟩
 ·exact ⟨_,by simp [Op.unary],.atom _⟩
def L1 (P:Program) (src dst:TypeId) (x:AV):Option AV :=
 match P.underlying src,P.underlying dst,x with
 | some _,some (.int k),.atom (.int _ n)=>some (.atom (.int k (k.wrap n)))
 | some _,some .string,.atom (.string s)=>some (.atom (.string s))
 | _,_,_=>none
theorem Sr {src dst:TypeId} {x:AV} {v:Value} (hx:ar w S μ v x) {r:AV} (h:L1 P src dst x=some r):∃ z,(convert src dst v).run P w=.ok z w∧ar w S μ z r:=by
 unfold L1 at h
 split at h
 ·rename_i h1 h2
  cases h;have:=dg hx;subst this
  exact ⟨_,by simp_all [convert,run_underlying,Conv.intToInt],.atom _⟩
 ·rename_i h1 h2
  cases h;have:=dg hx;simp_all [convert,run_underlying]
 ·cases h
end
end Go.Ab
namespace Go.Ab
abbrev sx:=List (Nat×Option Ob)
def Step (P:Program) (E:Env) (nk:Nat) (σ:dD) (S:Nat→Prop) (μ:Mu) (w:World) (s:Sem Value) (val:AV) (mF:sx):Prop :=
 ∃ v w' S' dy,s.run P w=.ok v w'∧Ext w S μ w' S' dy∧Good E (fI σ mF) S' dy w'∧(∀ k,k≠nk→μ k=none→dy k=none)∧ar w' S' dy v val
def RL (w:World) (S:Nat→Prop) (μ:Mu) (vs:Array Value) (cs:List AV):Prop :=
 vs.size=cs.length∧∀ (j:Nat) (c:AV) (v:Value),cs[j]?=some c→vs[j]?=some v→ar w S μ v c
section
variable {P:Program} {E:Env} {nk:Nat} {σ:dD} {S:Nat→Prop} {μ:Mu} {w:World}
theorem Step.pure (g:Good E σ S μ w) {s:Sem Value} {v:Value} {val:AV} (h:s.run P w=.ok v w) (hr:ar w S μ v val):Step P E nk σ S μ w s val [] :=
 ⟨v,w,S,μ,h,Ext.refl w S μ,g,fun _ _ h=>h,hr⟩
theorem RL.mk' {vs:Array Value} {cs:List AV} (h:RL w S μ vs cs):ar w S μ (.agg vs) (.agg cs):=.agg h.1 h.2
theorem RL.pr {vs:Array Value} {cs:List AV} (h:RL w S μ vs cs) {j:Nat} {c:AV} {v:Value} (hc:cs[j]?=some c) (hv:vs[j]?=some v) :
  ar w S (if AV.l8 cs then iW else μ) v c:=by
 split
 ·rename_i hp
  exact (h.2 j c v hc hv).pure (s9 hp hc) iW
 ·exact h.2 j c v hc hv
theorem ny {k n:Nat} (pl:Place) (h:n≠k):ca μ k pl n=μ n:=by simp [ca,h]
theorem Step.Uo (g:Good E σ S μ w) (hk:μ nk=none) (hm:E.m0≤nk) {s:Sem Value} {vs:Array Value} {T:TypeId} {cs:List AV}
  (h:s.run P w=.ok (.pointer (some ⟨w.heap.size,0,none⟩)) (w.alloc (.cells vs T))) (hl:RL w S μ vs cs) (hz:1≤cs.length) :
  Step P E nk σ S μ w s (.op nk 0 0) [(nk,some ⟨true,cs.length,1,AV.l8 cs,fun _=>cs⟩)]:=by
 have ga:=g.alloc hk hm vs T ⟨true,cs.length,1,AV.l8 cs,fun _=>cs⟩ 1 (by simp [hl.1]) (az _) (fun _ _=>rfl) (fun i j x v hi hx hv=>by
  have:i=0:=by simp at hi;exact hi
  subst this
  exact hl.pr hx (by simpa using hv)) (by grind) (fun i=>yd rfl i)
 refine ⟨_,_,_,_,h,ga.1,ga.2,fun k ph hn=>by grind [ny],?_⟩
 have:=ar.op (w:=w.alloc (.cells vs T)) (S:=S) (k:=nk) (i:=0) (j:=0) (μ:=ca μ nk ⟨w.heap.size,1,cs.length⟩) ⟨w.heap.size,1,cs.length⟩ (by simp [ca])
 simpa using this
def IW (P:Program) (nk:Nat) (T:TypeId):Option (AV×sx) :=
 match sw P T with
 | some z=>match Nat.ble 1 (z.cells.toList.map fX).length with
  | true=>some (.op nk 0 0,[(nk,some ⟨true,(z.cells.toList.map fX).length,1,AV.l8 (z.cells.toList.map fX),fun _=>z.cells.toList.map fX⟩)])
  | false=>none
 | none=>none
theorem ye (vs:Array Value):RL w S μ vs (vs.toList.map fX) :=
 ⟨by simp,fun j c v hc hv=>by
  have Zj:vs.toList[j]?=some v:=by simpa using hv
  rw [List.getElem?_map,Zj] at hc
  simp at hc
  exact hc ▸ Au w S μ v⟩
theorem PA (g:Good E σ S μ w) (hk:μ nk=none) (hm:E.m0≤nk) {T:TypeId} {val:AV} {mF:sx} (h:IW P nk T=some (val,mF)) :
  Step P E nk σ S μ w (Instr.alloc T true (.tuple #[])) val mF:=by
 unfold IW at h
 split at h
 ·rename_i z hz
  split at h
  ·rename_i hb
   cases h
   exact Step.Uo g hk hm (vs:=z.cells) (T:=T) (by simp [Instr.alloc,HK hz,newVar,newRow]) (ye _) (Nat.le_of_ble_eq_true hb)
  ·cases h
 ·cases h
def PB (nk:Nat) (x:AV):Option (AV×sx) :=
 match x.cells with
 | some cs=>match Nat.ble 1 cs.length with
  | true=>some (.op nk 0 0,[(nk,some ⟨true,cs.length,1,AV.l8 cs,fun _=>cs⟩)])
  | false=>none
 | none=>none
theorem U5 (g:Good E σ S μ w) (hk:μ nk=none) (hm:E.m0≤nk) {T:TypeId} {x:AV} {v:Value} (hx:ar w S μ v x) {val:AV} {mF:sx} (h:PB nk x=some (val,mF)) :
  Step P E nk σ S μ w (Instr.box T v) val mF:=by
 unfold PB at h
 split at h
 ·rename_i cs hc
  split at h
  ·rename_i hb
   cases h
   exact Step.Uo g hk hm (vs:=v.cells) (T:=T) (by rfl) (hx.cells hc) (Nat.le_of_ble_eq_true hb)
  ·cases h
 ·cases h
def pj (cs:List AV) (off:Nat) (ns:List AV):List AV:=cs.take off ++ (ns ++ cs.drop (off+ns.length))
theorem tq (cs:List AV) (off:Nat) (ns:List AV) (h:off+ns.length≤cs.length) (m:Nat) :
  (pj cs off ns)[m]?=if off≤m∧m < off+ns.length then ns[m - off]? else cs[m]?:=by
 have h1:(cs.take off).length=off:=by simp;omega
 unfold pj
 grind
theorem oy (cs:List AV) (off:Nat) (ns:List AV) (h:off+ns.length≤cs.length):(pj cs off ns).length=cs.length:=by
 simp [pj];omega
theorem foldl_set (off:Nat):∀ (us:List Value) (s:Nat) (vs:Array Value),
  ((us.zipIdx s).foldl (fun cs x=>cs.setIfInBounds (off+x.2) x.1) vs).size=vs.size ∧
  ∀ m,((us.zipIdx s).foldl (fun cs x=>cs.setIfInBounds (off+x.2) x.1) vs)[m]?=if off+s≤m∧m < off+s+us.length∧m < vs.size then us[m - (off+s)]? else vs[m]?
 | [],s,vs=>⟨rfl,fun m=>by simp;intro h1 h2;omega⟩
 | u :: us,s,vs=>by
  obtain ⟨h1,h2⟩:=foldl_set off us (s+1) (vs.setIfInBounds (off+s) u)
  simp only [List.zipIdx_cons,List.foldl_cons]
  grind
theorem RL.pj {vs us:Array Value} {cs ns:List AV} (h:RL w S μ vs cs) (hu:RL w S μ us ns) {off:Nat} (hle:off+ns.length≤cs.length) :
  RL w S μ (us.zipIdx.foldl (fun cs (c,j)=>cs.setIfInBounds (off+j) c) vs) (pj cs off ns):=by
 have f:=foldl_set off us.toList 0 vs
 have e:us.zipIdx.foldl (fun cs (c,j)=>cs.setIfInBounds (off+j) c) vs=(us.toList.zipIdx 0).foldl (fun cs x=>cs.setIfInBounds (off+x.2) x.1) vs:=by
  rw [← Array.foldl_toList]
  simp
 rw [e]
 refine ⟨by rw [f.1,h.1,oy _ _ _ hle],?_⟩
 intro j c v hc hv
 rw [f.2 j] at hv
 rw [tq _ _ _ hle] at hc
 have hl:=hu.1
 have hs:=h.1
 by_cases hj:off≤j∧j < off+ns.length
 ·rw [if_pos hj] at hc
  rw [if_pos (by simp;omega)] at hv
  exact hu.2 (j - off) c v hc (by simpa using hv)
 ·rw [if_neg hj] at hc
  rw [if_neg (by simp;omega)] at hv
  exact h.2 j c v hc hv
def Ag (place:Nat→Option (Nat×Nat)) (cells:List AV):List (Nat×AV)→Option (List AV)
 | []=>some cells
 | (i,x) :: rest =>
  match place i,x.cells with
  | some (off,size),some ns=>match Nat.beq ns.length size && Nat.ble (off+ns.length) cells.length with
   | true=>Ag place (pj cells off ns) rest
   | false=>none
  | _,_=>none
theorem Bo (place:Nat→Option (Nat×Nat)):∀ (parts:List (Nat×AV)) (ku:List (Nat×Value)) (vs:Array Value) (cs out:List AV),
  ku.map (·.1)=parts.map (·.1)→(∀ (j:Nat) x y,parts[j]?=some x→ku[j]?=some y→ar w S μ y.2 x.2)→RL w S μ vs cs→Ag place cs parts=some out →
  ∃ us,Instr.fill place vs ku=some us∧RL w S μ us out
 | [],ku,vs,cs,out,hi,_,h,hf=>by
  simp at hi;subst hi
  simp [Ag] at hf;subst hf
  exact ⟨vs,rfl,h⟩
 | (i,x) :: rest,ku,vs,cs,out,hi,hr,h,hf=>by
  obtain ⟨⟨i',v⟩,W2,rfl⟩:∃ a b,ku=a :: b:=by
   cases ku with
   | nil=>simp at hi
   | cons a b=>exact ⟨a,b,rfl⟩
  simp at hi
  obtain ⟨rfl,hi⟩:=hi
  have hv:ar w S μ v x:=hr 0 (i',x) (i',v) rfl rfl
  simp only [Ag] at hf
  split at hf
  ·rename_i off size ns hp hc
   split at hf
   ·rename_i hb
    simp only [bp,Nat.ble_eq] at hb
    have ss:=bW hb.1
    have Uq:=hv.cells hc
    obtain ⟨us,h1,h2⟩:=Bo place rest W2 _ _ out hi (fun j x y hx hy=>hr (j+1) x y (by simpa using hx) (by simpa using hy)) (h.pj ⟨Uq.1,Uq.2⟩ hb.2) hf
    refine ⟨us,?_,h2⟩
    have c1:¬ v.cells.size≠size:=by rw [Uq.1];omega
    have c2:¬ off+v.cells.size > vs.size:=by rw [Uq.1,h.1];omega
    simp_all [Instr.fill,if_neg,Bool.or_eq_true,decide_eq_true_eq,not_or]
   ·cases hf
  ·cases hf
def IX (P:Program) (t:TypeId) (parts:List (Nat×AV)):Option AV :=
 match sw P t,P.underlying t with
 | some z,some (.struct fs)=>match fs.toList.mapM fun f=>(ud P f.type).map fun n=>(f.offset,n) with
  | some PC=>(Ag (PC[·]?) (z.cells.toList.map fX) parts).map .agg
  | none=>none
 | some z,some (.array _ e)=>match ud P e with
  | some n=>(Ag (fun i=>some (i * n,n)) (z.cells.toList.map fX) parts).map .agg
  | none=>none
 | _,_=>none
theorem PD {t:TypeId} {parts:List (Nat×AV)} {ku:Array (Nat×Value)} (hi:ku.toList.map (·.1)=parts.map (·.1))
  (hr:∀ (j:Nat) x y,parts[j]?=some x→ku.toList[j]?=some y→ar w S μ y.2 x.2) {r:AV} (h:IX P t parts=some r) :
  ∃ v,(Instr.build t ku).run P w=.ok v w∧ar w S μ v r:=by
 unfold IX at h
 split at h
 ·rename_i z fs hz hu
  split at h
  ·rename_i PC hp
   simp only [aK] at h
   obtain ⟨out,ho,rfl⟩:=h
   obtain ⟨us,h1,h2⟩:=Bo (w:=w) (S:=S) (μ:=μ) _ parts ku.toList z.cells _ out hi hr (ye _) ho
   refine ⟨.agg us,run_build w t ku us ?_,h2.mk'⟩
   have Pc:=hz
   unfold sw at Pc
   cases hi:P.info? t with
   | none=>simp [hi] at Pc
   | some i =>
    simp_all [Program.built,ud,Function.comp_def]
  ·cases h
 ·rename_i z n e hz hu
  split at h
  ·rename_i n' hn
   simp only [aK] at h
   obtain ⟨out,ho,rfl⟩:=h
   obtain ⟨us,h1,h2⟩:=Bo (w:=w) (S:=S) (μ:=μ) _ parts ku.toList z.cells _ out hi hr (ye _) ho
   refine ⟨.agg us,run_build w t ku us ?_,h2.mk'⟩
   have Pc:=hz
   unfold sw at Pc
   unfold ud at hn
   cases hi:P.info? t with
   | none=>simp [hi] at Pc
   | some i =>
    simp [hi] at Pc
    cases he:P.info? e with
    | none=>simp [he] at hn
    | some ie =>
     simp_all [Program.built]
  ·cases h
 ·cases h
end
end Go.Ab
namespace Go.Ab
section
variable {P:Program} {E:Env} {nk:Nat} {σ:dD} {S:Nat→Prop} {μ:Mu} {w:World}
theorem Step.PE (g:Good E σ S μ w) (hk:μ nk=none) (hm:E.m0≤nk) {s:Sem Value} {vs:Array Value} {T:TypeId} {len cap sz:Nat} {pr:Bool} {get:Nat→List AV}
  (h:s.run P w=.ok (.slice (some ⟨w.heap.size,0,none⟩) len cap) (w.alloc (.cells vs T))) (xL:cap * sz≤vs.size) (hlen:len≤cap)
  (pY:∀ i,i < len→(get i).length=sz)
  (As:∀ i j x v,i < len→(get i)[j]?=some x→vs[i * sz+j]?=some v→ar w S (if pr then iW else μ) v x) (Cv:sz≠0) (Pw:∀ i,rowOf ⟨false,sz,len,pr,get⟩ i=none) :
  Step P E nk σ S μ w s (.os nk 0 len) [(nk,some ⟨false,sz,len,pr,get⟩)]:=by
 have ga:=g.alloc hk hm vs T ⟨false,sz,len,pr,get⟩ cap xL hlen pY As Cv Pw
 refine ⟨_,_,_,_,h,ga.1,ga.2,fun k ph hn=>by grind [ny],?_⟩
 simp_all [ar.os,ca]
def AV.Ss:AV→Bool
 | .mr _ _ _=>true
 | _=>false
def og:List AV→Bool
 | []=>true
 | c :: cs=>!c.Ss && og cs
theorem HL:∀ {cs:List AV},og cs=true→∀ c∈cs,c.Ss=false
 | [],_,c,h=>by simp at h
 | a :: cs,h,c,hc=>by
  simp only [og,bp,Bool.not_eq_true'] at h
  rcases kI.1 hc with rfl | hc
  ·exact h.1
  ·exact HL h.2 c hc
theorem L3 (v:Value):(fX v).Ss=false:=by
 unfold fX
 split
 ·rfl
 ·split<;>rfl
 ·rfl
theorem yf {o:Ob} {l:List AV} (h:∀ i,i < o.len→∀ c∈o.get i,c∈l) (hl:∀ c∈l,c.Ss=false) (i:Nat):rowOf o i=none:=by
 cases hr:rowOf o i with
 | none=>rfl
 | some x =>
  obtain ⟨_,h1,h2⟩:=di hr
  have:=hl _ (h i h1 (.mr x.1 x.2.1 x.2.2) (by simp_all))
  cases this
theorem pZ {o:Ob} (h:∀ i,i < o.len→AV.fJ (o.get i)=true) (i:Nat):rowOf o i=none:=by
 cases hr:rowOf o i with
 | none=>rfl
 | some x =>
  obtain ⟨_,h1,h2⟩:=di hr
  have:=h i h1
  rw [h2] at this
  cases this
def mY (P:Program) (t:TypeId):Option TypeId :=
 match P.underlying t with
 | some (.slice e)=>some e
 | _=>none
theorem k6 {t e:TypeId} (h:mY P t=some e):P.underlying t=some (.slice e):=by
 grind [mY]
def rows (n:Nat):Nat→List AV→List (List AV)
 | 0,_=>[]
 | k+1,cs=>cs.take n :: rows n k (cs.drop n)
theorem Kf (n:Nat):∀ (k:Nat) (cs:List AV) (i:Nat),i < k→(rows n k cs)[i]?=some ((cs.drop (i * n)).take n)
 | 0,_,i,h=>by omega
 | k+1,cs,0,_=>by simp [rows]
 | k+1,cs,i+1,h=>by
  simp only [rows,EN]
  rw [Kf n k (cs.drop n) i (by omega),List.drop_drop]
  grind
theorem Cx (n k:Nat) (cs:List AV) (i:Nat) (h:i < k):(rows n k cs).getD i []=(cs.drop (i * n)).take n:=by
 rw [fB,Kf n k cs i h];rfl
def DG (z:List AV):Nat→List AV
 | 0=>[]
 | k+1=>z ++ DG z k
theorem wM (z:List AV):∀ k,(DG z k).length=k * z.length
 | 0=>by simp [DG]
 | k+1=>by simp [DG,wM z k,cD];omega
theorem HM (z:List AV) (hz:z.length≠0):∀ (k j:Nat),j < k * z.length→(DG z k)[j]?=z[j % z.length]?
 | 0,j,h=>by simp at h
 | k+1,j,h=>by
  simp only [DG]
  by_cases hj:j < z.length
  ·rw [iH hj,Nat.mod_eq_of_lt hj]
  ·rw [jS (by omega),HM z hz k (j - z.length) (by grind)]
   congr 1
   conv=>rhs;rw [show j=(j - z.length)+z.length by omega]
   simp
theorem PF {z:Value} {n:Nat} (hz:z.cells.size=n) (hn:n≠0) (k:Nat) (c:Array Value) (hc:c=(Array.range (k * n)).map (z.cells[· % z.cells.size]!)) :
  RL w S μ c (DG (z.cells.toList.map fX) k):=by
 subst hc
 have hl:(z.cells.toList.map fX).length=n:=by simp [hz]
 refine ⟨by simp [wM,hz],?_⟩
 intro j x v hx hv
 have hj:j < k * n:=by
  have:=(Array.getElem?_eq_some_iff.1 hv).1
  simpa using this
 rw [HM _ (by omega) k j (by rw [hl];exact hj),hl] at hx
 have gY:j % n < z.cells.size:=by rw [hz];exact Nat.mod_lt _ (by omega)
 have tn:v=z.cells[j % n]:=by
  simp only [Array.getElem?_map] at hv
  rw [Array.getElem?_range,if_pos hj] at hv
  simp at hv
  rw [← hv,hz]
  simp [getElem!_pos,gY]
 refine (ye (w:=w) (S:=S) (μ:=μ) z.cells).2 (j % n) x v hx ?_
 simp_all
def wN (P:Program) (nk:Nat) (t:TypeId) (len:Nat) (parts:List (Nat×AV)):Option (AV×sx) :=
 match mY P t with
 | some e=>match ud P e,wH P e,sw P e with
  | some n,some _,some z=>match Nat.ble 1 (len * n) && Nat.ble (len * n) 16777216 && Nat.beq z.cells.size n with
   | true=>match Ag (fun i=>some (i * n,n)) (DG (z.cells.toList.map fX) len) parts with
    | some cs=>match og cs with
     | true=>some (.os nk 0 len,[(nk,some ⟨false,n,len,AV.l8 cs,fun i=>(rows n len cs).getD i []⟩)])
     | false=>none
    | none=>none
   | false=>match Nat.beq len 0 && Nat.ble 1 n with
    | true=>some (.os nk 0 0,[(nk,some ⟨false,n,0,true,fun _=>[]⟩)])
    | false=>none
  | _,_,_=>none
 | none=>none
theorem D2 {t e:TypeId} {n:Nat} (he:P.underlying t=some (.slice e)) (hn:ud P e=some n) (w:World) :
  (Instr.buildSlice t 0 #[]).run P w=.ok (.slice (some ⟨w.heap.size,0,none⟩) 0 0) (w.alloc (.cells #[] e)):=by
 simp [Instr.buildSlice,run_underlying he,eO hn,Instr.fill,newRow,Array.range_zero']
theorem Hf (g:Good E σ S μ w) (hk:μ nk=none) (hm:E.m0≤nk) {t:TypeId} {len:Nat} {parts:List (Nat×AV)} {ku:Array (Nat×Value)} (hi:ku.toList.map (·.1)=parts.map (·.1))
  (hr:∀ (j:Nat) x y,parts[j]?=some x→ku.toList[j]?=some y→ar w S μ y.2 x.2) {val:AV} {mF:sx} (h:wN P nk t len parts=some (val,mF)) (YA:len=0→parts=[]) :
  Step P E nk σ S μ w (Instr.buildSlice t len ku) val mF:=by
 unfold wN at h
 split at h
 ·rename_i e he
  have he:=k6 he
  split at h
  ·rename_i n b z hn hb hz
   split at h
   ·rename_i Cy
    simp only [bp,Nat.ble_eq] at Cy
    have Wz:=bW Cy.2
    split at h
    ·rename_i cs U6
     split at h
     case h_2=>cases h
     rename_i hmr
     cases h
     have Sb:n≠0:=by rintro rfl;simp at Cy
     have Kg:=PF (w:=w) (S:=S) (μ:=μ) Wz Sb len _ rfl
     obtain ⟨us,h1,h2⟩:=Bo (w:=w) (S:=S) (μ:=μ) _ parts ku.toList _ _ cs hi hr Kg U6
     obtain ⟨ie,ER,su,hby,Pd⟩:=wJ hn hb hz
     subst su
     have lV:=run_buildSlice w t e len ku us ie z he ER Pd (by omega) (by omega) h1
     have hlen:us.size=len * ie.size:=by
      have:=h2.1
      have hf:∀ (parts:List (Nat×AV)) (cs out:List AV),Ag (fun i=>some (i * ie.size,ie.size)) cs parts=some out→out.length=cs.length:=by
       intro parts
       induction parts with
       | nil=>intro cs out h;simp [Ag] at h;rw [h]
       | cons p ps ih =>
        intro cs out h
        simp only [Ag] at h
        split at h
        ·split at h
         ·rename_i ho
          simp only [bp,Nat.ble_eq] at ho
          rw [ih _ _ h,oy _ _ _ ho.2]
         ·cases h
        ·cases h
      rw [this,hf _ _ _ U6,wM];simp [Wz]
     refine Step.PE g hk hm lV (by rw [hlen];exact az _) (az _) ?_ ?_ Sb (yf (l:=cs) (fun i hi c hc=>by
      have hc:c∈(rows ie.size len cs).getD i []:=hc
      rw [Cx _ _ _ _ hi] at hc
      exact List.mem_of_mem_drop (List.mem_of_mem_take hc)) (HL hmr))
     ·intro i hi
      rw [Cx _ _ _ _ hi]
      have:=h2.1
      have:(i+1) * ie.size≤len * ie.size:=dS _ hi
      rw [cD] at this
      simp;omega
     ·intro i j x v hi hx hv
      rw [Cx _ _ _ _ hi,pW] at hx
      split at hx
      ·rw [oS] at hx
       exact h2.pr hx hv
      ·cases hx
    ·cases h
   ·split at h
    ·rename_i Kg
     cases h
     simp only [bp,Nat.ble_eq] at Kg
     obtain ⟨Kg,PG⟩:=Kg
     have:=bW Kg
     subst this
     have YA:=YA rfl
     subst YA
     have:ku=#[]:=by
      have:ku.toList=[]:=by simpa using hi
      exact Array.toList_eq_nil_iff.1 this
     subst this
     exact Step.PE g hk hm (D2 he hn w) (by simp) (az _) (fun i hi=>absurd hi (dT _)) (fun i j x v hi=>absurd hi (dT _)) (by omega) (fun i=>rfl)
    ·cases h
  ·cases h
 ·cases h
def L4 (P:Program) (nk:Nat) (t:TypeId) (l c:AV):Option (List Prop×AV×sx) :=
 match mY P t,l,c with
 | some e,.atom (.int _ l),.atom (.int _ c)=>match ud P e,wH P e,sw P e with
  | some n,some b,some z=>match Nat.ble 1 n && Nat.beq z.cells.size n with
   | true=>some ([0≤l,l≤c,(b:Int) * c≤281474976710656,c≤9223372036854775807],.os nk 0 l.toNat,
     [(nk,some ⟨false,n,l.toNat,AV.l8 (z.cells.toList.map fX),fun _=>z.cells.toList.map fX⟩)])
   | false=>none
  | _,_,_=>none
 | _,_,_=>none
theorem Su (g:Good E σ S μ w) (hk:μ nk=none) (hm:E.m0≤nk) {t:TypeId} {l c:AV} {vl vc:Value} (hl:ar w S μ vl l) (hc:ar w S μ vc c)
  {ps:List Prop} {val:AV} {mF:sx} (h:L4 P nk t l c=some (ps,val,mF)) (hp:bq ps) :
  Step P E nk σ S μ w (Instr.makeSlice t vl vc) val mF:=by
 unfold L4 at h
 split at h
 ·rename_i e k l k' c he
  have he:=k6 he
  have:=dg hl;subst this
  have:=dg hc;subst this
  split at h
  ·rename_i n b z hn hb hz
   split at h
   ·rename_i Cy
    cases h
    simp only [bp,Nat.ble_eq] at Cy
    have Wz:=bW Cy.2
    obtain ⟨h1,h2,h3,h4,_⟩:=hp
    obtain ⟨ie,ER,su,hby,Pd⟩:=wJ hn hb hz
    subst su hby
    have lV:=run_make (P:=P) w t e ie z he ER Pd k k' l c h1 h2 h3 h4
    refine Step.PE g hk hm lV (by rw [size_madeCells];exact az _) (by omega) (fun _ _=>by simp [Wz]) ?_ (by omega) (yf (l:=z.cells.toList.map fX) (fun _ _ c hc=>hc) (fun c hc=>by
     obtain ⟨v,_,rfl⟩:=List.mem_map.1 hc
     exact L3 v))
    intro i j x v hi hx hv
    have hj:j < ie.size:=by
     have:=(dU.1 hx).1
     simpa [Wz] using this
    have tn:z.cells[j]?=some v:=by
     unfold madeCells at hv
     simp only [Array.getElem?_map] at hv
     have gY:i * ie.size+j < c.toNat * ie.size:=by
      have:(i+1) * ie.size≤c.toNat * ie.size:=dS _ (by omega)
      rw [cD] at this
      omega
     rw [Array.getElem?_range,if_pos gY] at hv
     simp only [Option.map_some,aD] at hv
     rw [Wz,pX i,Nat.mul_add_mod,Nat.mod_eq_of_lt hj] at hv
     have hjz:j < z.cells.size:=by omega
     rw [jR hjz]
     rw [getElem!_pos z.cells j hjz] at hv
     exact congrArg some hv
    exact (ye (w:=w) (S:=S) (μ:=μ) z.cells).pr hx tn
   ·cases h
  ·cases h
 ·cases h
def Sv (agg:Bool) (n:Nat) (cs:List AV) (j:Nat):Option AV :=
 match Nat.ble (j+n) cs.length with
 | true=>match agg with
  | true=>some (.agg ((cs.drop j).take n))
  | false=>cs[j]?
 | false=>none
theorem ES {T:TypeId} {d:TypeDesc} {n:Nat} (hu:P.underlying T=some d) (hn:ud P T=some n) {cs:List AV} {j:Nat} {x:AV} (h:Sv d.isRow n cs j=some x) (b o:Nat)
  (f:Nat→Value) (hc:∀ i,i < cs.length→w.cell? ⟨b,o+i,none⟩=some (f i)) (hr:∀ (i:Nat) c,cs[i]?=some c→ar w S μ (f i) c) :
  ∃ v,(Instr.loadAt T (.pointer (some ⟨b,o+j,none⟩))).run P w=.ok v w∧ar w S μ v x:=by
 unfold Sv at h
 split at h
 ·rename_i hle
  simp only [Nat.ble_eq] at hle
  cases hd:d.isRow with
  | true =>
   simp [hd] at h
   have hl:((List.range n).map fun i=>f (j+i)).length=n:=by simp
   refine ⟨.agg ((List.range n).map fun i=>f (j+i)).toArray,run_loadAt_mid w b (o+j) T _ d ?_ hu hd (by simpa [ud] using hn),?_⟩
   ·intro i v hv
    grind
   ·rw [← h]
    refine .agg (by simp;omega) ?_
    grind
  | false =>
   simp [hd] at h
   have hj:j < cs.length:=(dU.1 h).1
   have Oo:(isAgg T).run P w=.ok false w:=by
    unfold isAgg
    rw [bN,run_underlying hu w]
    cases d<;>simp_all
   simp_all [Instr.loadAt,Instr.sureAddr,loadVar]
 ·cases h
def Sw (kd:IntKind):AV→Option Int
 | .atom v=>match v with
  | .int k n=>match decide (k=kd) with
   | true=>some n
   | false=>none
  | _=>none
 | _=>none
def Ah (kd:IntKind):Nat→List AV→Option (List Int)
 | 0,_=>some []
 | m+1,c :: cs=>match Sw kd c,Ah kd m cs with
  | some a,some r=>some (a :: r)
  | _,_=>none
 | _+1,[]=>none
def HN (l:List Int) (n:Nat):Int:=l.getD n 0
def U7 (q t:Nat) (v a:Int):Int:=if q=t then v else a
theorem M9 {kd:IntKind} {c:AV} {a:Int} (h:Sw kd c=some a):c=.atom (.int kd a):=by
 unfold Sw at h
 grind
theorem Cz {kd:IntKind}:∀ {m:Nat} {cs:List AV} {l:List Int},Ah kd m cs=some l→∀ n,n < m→cs[n]?=some (.atom (.int kd (HN l n)))
 | 0,_,_,_,n,hn=>absurd hn (dT n)
 | m+1,[],_,h,_,_=>by simp [Ah] at h
 | m+1,c :: cs,l,h,n,hn=>by
  simp only [Ah] at h
  split at h
  ·rename_i a r h1 h2
   cases h
   cases n with
   | zero=>simp [HN,M9 h1]
   | succ n =>
    have:=Cz h2 n (by omega)
    simpa [HN] using this
  ·cases h
def Na:AV→Option Bool
 | .atom v=>match v with
  | .bool b=>some b
  | _=>none
 | _=>none
def uL:Nat→List AV→Option (List Bool)
 | 0,_=>some []
 | m+1,c :: cs=>match Na c,uL m cs with
  | some a,some r=>some (a :: r)
  | _,_=>none
 | _+1,[]=>none
def HO (l:List Bool) (n:Nat):Bool:=l.getD n false
def U8 (q t:Nat) (v a:Bool):Bool:=if q=t then v else a
theorem Kh {c:AV} {a:Bool} (h:Na c=some a):c=.atom (.bool a):=by
 unfold Na at h
 grind
theorem Av:∀ {m:Nat} {cs:List AV} {l:List Bool},uL m cs=some l→∀ n,n < m→cs[n]?=some (.atom (.bool (HO l n)))
 | 0,_,_,_,n,hn=>absurd hn (dT n)
 | m+1,[],_,h,_,_=>by simp [uL] at h
 | m+1,c :: cs,l,h,n,hn=>by
  simp only [uL] at h
  split at h
  ·rename_i a r h1 h2
   cases h
   cases n with
   | zero=>simp [HO,Kh h1]
   | succ n =>
    have:=Av h2 n (by omega)
    simpa [HO] using this
  ·cases h
def yg (P:Program) (σ:dD) (T:TypeId) (a:AV):Option (List Prop×AV×List Nat) :=
 match P.underlying T,ud P T with
 | some d,some n=>match a with
  | .op k i j=>match au σ k with
   | some o=>(Sv d.isRow n (o.get i) j).map fun x=>([i < o.len],x,[k])
   | none=>none
  | .rp cs j=>(Sv d.isRow n cs j).map fun x=>([],x,[])
  | .ov k i j m q=>match au σ k,d with
   | some o,.int kd=>match Ah kd m ((o.get i).drop j) with
    | some l=>match Nat.beq n 1 with
     | true=>some ([i < o.len],.atom (.int kd (HN l q)),[k])
     | false=>none
    | none=>none
   | some o,.bool=>match uL m ((o.get i).drop j) with
    | some l=>match Nat.beq n 1 with
     | true=>some ([i < o.len],.atom (.bool (HO l q)),[k])
     | false=>none
    | none=>none
   | _,_=>none
  | _=>none
 | _,_=>none
theorem da {o:Ob} {pl:Place} {c:Array Value} {T:TypeId} (h:gX w S μ o pl c T) {i j:Nat} (hi:i < o.len) (hj:j < o.sz) :
  ∃ v,c[i * o.sz+j]?=some v∧w.cell? ⟨pl.cQ,i * o.sz+j,none⟩=some v:=by
 have gY:i * o.sz+j < c.size:=by
  have h1:(i+1) * o.sz≤pl.cap * o.sz:=dS _ (by have:=h.len;omega)
  have:=h.cap
  rw [cD] at h1
  omega
 exact ⟨c[i * o.sz+j],jR gY,by rw [cell_of_row w _ _ _ _ _ ((h.cQ (by have:=h.len;omega)).trans (by rw [fO (by omega)]))];simp⟩
theorem iX {v:Value} {x:AV} {pr:Bool} (h:ar w S (if pr then iW else μ) v x):ar w S μ v x:=by
 refine h.mono (fun _ h=>h) (fun _ _=>rfl) ?_
 cases pr
 ·exact fun _ _ h=>h
 ·exact fun _ _ h=>by cases h
theorem IY (g:Good E σ S μ w) {T:TypeId} {a:AV} {va:Value} (ha:ar w S μ va a) {ps:List Prop} {x:AV} {rd:List Nat} (h:yg P σ T a=some (ps,x,rd)) (hp:bq ps) :
  ∃ v,(Instr.loadAt T va).run P w=.ok v w∧ar w S μ v x:=by
 unfold yg at h
 split at h
 ·rename_i d n hu hn
  split at h
  ·rename_i k i j
   split at h
   ·rename_i o ho
    simp only [aK,aA] at h
    obtain ⟨y,hy,rfl,rfl,rfl⟩:=h
    obtain ⟨pl,c,T',hm,dh⟩:=g.rep.ob k o ho
    have hi:=hp.1
    cases ha with
    | op kn gZ =>
     rw [hm] at gZ;cases gZ
     rw [dh.sz]
     have hlen:=dh.ub i hi
     refine ES hu hn hy pl.cQ (i * o.sz) (fun j=>(c[i * o.sz+j]?).getD undef) ?_ ?_
     ·grind [da]
     ·intro j cc Ur
      obtain ⟨v,h1,h2⟩:=da dh hi (hlen ▸ (dU.1 Ur).1)
      rw [h1]
      exact iX (dh.rep i j cc v hi Ur h1)
   ·cases h
  ·rename_i cs j
   simp only [aK,aA] at h
   obtain ⟨y,hy,rfl,rfl,rfl⟩:=h
   cases ha with
   | rp b o f h1 h2 h3 =>
    exact ES hu hn hy b o f h2 (fun i c hc=>(h3 i c hc).mono (fun _ h=>h) (fun _ _=>rfl) (fun _ _ h=>by cases h))
  ·rename_i k i j m q
   split at h
   ·rename_i o kd ho
    split at h
    ·rename_i l hl
     split at h
     ·rename_i PG
      have PG:=bW PG
      simp only [aD,aA] at h
      obtain ⟨rfl,rfl,rfl⟩:=h
      obtain ⟨pl,c,T',hm,dh⟩:=g.rep.ob k o ho
      have hi:=hp.1
      cases ha with
      | ov kn gZ hq =>
       rw [hm] at gZ;cases gZ
       rw [dh.sz]
       have hlen:=dh.ub i hi
       have hy:=Cz hl q hq
       rw [oS] at hy
       have hjl:=(dU.1 hy).1
       have UZ:Sv (TypeDesc.int kd).isRow n (o.get i) (j+q)=some (.atom (.int kd (HN l q))):=by
        unfold Sv
        have:Nat.ble (j+q+n) (o.get i).length=true:=by rw [Nat.ble_eq];omega
        rw [this]
        exact hy
       refine ES hu hn UZ pl.cQ (i * o.sz) (fun j=>(c[i * o.sz+j]?).getD undef) ?_ ?_
       ·grind [da]
       ·intro j cc Ur
        obtain ⟨v,h1,h2⟩:=da dh hi (hlen ▸ (dU.1 Ur).1)
        rw [h1]
        exact iX (dh.rep i j cc v hi Ur h1)
     ·cases h
    ·cases h
   ·rename_i o ho
    split at h
    ·rename_i l hl
     split at h
     ·rename_i PG
      have PG:=bW PG
      simp only [aD,aA] at h
      obtain ⟨rfl,rfl,rfl⟩:=h
      obtain ⟨pl,c,T',hm,dh⟩:=g.rep.ob k o ho
      have hi:=hp.1
      cases ha with
      | ov kn gZ hq =>
       rw [hm] at gZ;cases gZ
       rw [dh.sz]
       have hlen:=dh.ub i hi
       have hy:=Av hl q hq
       rw [oS] at hy
       have hjl:=(dU.1 hy).1
       have UZ:Sv (TypeDesc.bool).isRow n (o.get i) (j+q)=some (.atom (.bool (HO l q))):=by
        unfold Sv
        have:Nat.ble (j+q+n) (o.get i).length=true:=by rw [Nat.ble_eq];omega
        rw [this]
        exact hy
       refine ES hu hn UZ pl.cQ (i * o.sz) (fun j=>(c[i * o.sz+j]?).getD undef) ?_ ?_
       ·grind [da]
       ·intro j cc Ur
        obtain ⟨v,h1,h2⟩:=da dh hi (hlen ▸ (dU.1 Ur).1)
        rw [h1]
        exact iX (dh.rep i j cc v hi Ur h1)
     ·cases h
    ·cases h
   ·cases h
  ·cases h
 ·cases h
end
end Go.Ab
namespace Go.Ab
def bC:Nat→Nat→Nat
 | 0,n=>n
 | m+1,n=>m+1+n
theorem dp (m n:Nat):bC m n=m+n:=by cases m<;>simp [bC]
section
variable {P:Program} {E:Env} {nk:Nat} {σ:dD} {S:Nat→Prop} {μ:Mu} {w:World}
def Ob.put (o:Ob) (i:Nat) (cs:List AV) (pr:Bool):Ob :=
 match o.var with
 | true=>{ o with pr:=o.pr && pr,get:=fun _=>cs }
 | false=>{ o with pr:=o.pr && pr,get:=fun m=>if m=i then cs else o.get m }
def W3 (sz:Nat) (cs:List AV) (off:Nat) (ns:List AV):List AV :=
 match Nat.beq ns.length sz with
 | true=>ns
 | false=>pj cs off ns
theorem L5 {sz:Nat} {cs:List AV} {off:Nat} {ns:List AV} (h:off+ns.length≤sz) (hl:cs.length=sz):W3 sz cs off ns=pj cs off ns:=by
 unfold W3
 split
 ·rename_i hb
  have hb:=bW hb
  have h0:off=0:=by omega
  subst h0
  unfold pj
  rw [List.drop_eq_nil_of_le (by omega)]
  simp
 ·rfl
def oz (P:Program) (σ:dD) (T:TypeId) (a x:AV):Option (List Prop×sx×List Nat) :=
 match a,x.cells,ud P T with
 | .op k i j,some ns,some n=>match au σ k with
  | some o=>match Nat.beq ns.length n && AV.fJ ns && Nat.ble (j+n) o.sz && (!o.var || Nat.beq o.len 1) && Nat.ble 1 o.sz with
   | true=>some ([i < o.len],[(k,some (o.put i (W3 o.sz (o.get i) j ns) (AV.l8 ns)))],[k])
   | false=>none
  | none=>none
 | _,_,_=>none
theorem CA (g:Good E σ S μ w) {T:TypeId} {a x:AV} {va vx:Value} (ha:ar w S μ va a) (hx:ar w S μ vx x) {ps:List Prop} {mF:sx} {rd:List Nat}
  (h:oz P σ T a x=some (ps,mF,rd)) (hp:bq ps) :
  ∃ w',(Instr.storeAt T va vx).run P w=.ok () w'∧Ext w S μ w' S μ∧Good E (fI σ mF) S μ w':=by
 unfold oz at h
 split at h
 ·rename_i k i j ns n hns hn
  split at h
  ·rename_i o ho
   split at h
   ·rename_i hb
    simp only [aD,aA] at h
    obtain ⟨rfl,rfl,rfl⟩:=h
    simp only [bp,Nat.ble_eq] at hb
    obtain ⟨⟨⟨⟨ss,pB⟩,Pe⟩,Sx⟩,YB⟩:=hb
    have ss:=bW ss
    have hi:i < o.len:=hp.1
    obtain ⟨pl,c,T',hm,dh⟩:=g.rep.ob k o ho
    cases ha with
    | op kn gZ =>
     rw [hm] at gZ;cases gZ
     have xL:0 < pl.cap:=by have:=dh.len;omega
     have wG:i * o.sz+o.sz≤c.size:=by
      have h1:(i+1) * o.sz≤pl.cap * o.sz:=dS _ (by have:=dh.len;omega)
      have:=dh.cap
      rw [cD] at h1
      omega
     obtain ⟨U6,hcr⟩:=hx.cells hns
     have Hg:∀ v∈vx.cells.toList,v.oneCell'=true:=by
      intro v hv
      obtain ⟨q,hq⟩:=List.getElem?_of_mem hv
      have gY:q < ns.length:=by
       have:=(dU.1 hq).1
       simp at this;omega
      exact (hcr q _ v (pT gY) (by simpa using hq)).IV (Fg pB (pT gY))
     have Bk:=run_storeCells_at P pl.cQ (i * pl.sz+j) T' vx.cells.toList 0 c w ((dh.cQ xL).trans (by grind [fO])) (by rw [dh.sz];simp;omega) Hg
     simp only [Nat.add_zero] at Bk
     generalize oU:(c.toList.take (i * pl.sz+j) ++ vx.cells.toList ++ c.toList.drop (i * pl.sz+j+vx.cells.toList.length)).toArray=c' at Bk
     have yh:(c.toList.take (i * pl.sz+j)).length=i * o.sz+j:=by rw [dh.sz];simp;omega
     have Nb:vx.cells.toList.length=n:=by simp;omega
     have IZ:c'.size=c.size:=by
      rw [← oU]
      simp only [List.size_toArray,kH,List.length_drop,Nb,dh.sz]
      simp;omega
     have qB:∀ m,c'[m]?=if i * o.sz+j≤m∧m < i * o.sz+j+n then vx.cells[m - (i * o.sz+j)]? else c[m]?:=by
      intro m
      rw [← oU]
      simp only [List.getElem?_toArray,wD]
      by_cases h1:m < i * o.sz+j
      ·grind
      ·rw [jS (by omega),yh]
       by_cases h2:m < i * o.sz+j+n
       ·rw [iH (by omega),if_pos (by omega)]
        simp
       ·rw [jS (by omega),if_neg (by omega),oS,Nb,dh.sz]
        simp only [Array.getElem?_toList]
        congr 1;omega
     have Us:=dh.ub i hi
     have Pf:∀ (o':Ob),o'.sz=o.sz→o'.len=o.len→o'.var=o.var→o'.pr=(o.pr && AV.l8 ns)→(o'.get i=pj (o.get i) j ns)→(∀ m,m < o.len→m≠i→o'.get m=o.get m) →
       Ext w S μ (w.setRow pl.cQ c') S μ∧Good E (sset σ k o') S μ (w.setRow pl.cQ c'):=by
      intro o' e1 e2 ev e3 e4 e5
      have fx:∀ m q,m≠i→q < o.sz→¬ (i * o.sz+j≤m * o.sz+q∧m * o.sz+q < i * o.sz+j+n):=by
       rintro m q Bp hq ⟨h1,h2⟩
       rcases Nat.lt_or_gt_of_ne Bp with h3 | h3
       ·have:(m+1) * o.sz≤i * o.sz:=dS _ h3
        rw [cD] at this;omega
       ·have:(i+1) * o.sz≤m * o.sz:=dS _ h3
        rw [cD] at this;omega
      refine g.write ho hm xL dh (by omega) o' c' e1 IZ (by rw [e2];exact dh.len) ?_ ?_ ?_
      rotate_left 2
      ·intro m x hx
       obtain ⟨q1,q2,q3⟩:=di hx
       rw [e2] at q2
       rw [ev] at q1
       rw [qB]
       by_cases Bp:m=i
       ·subst Bp
        rw [e4] at q3
        cases n with
        | zero =>
         have:ns=[]:=List.eq_nil_of_length_eq_zero ss
         rw [this] at q3
         refine ⟨k5 q1 q2 (by rw [← q3];unfold pj;simp),if_neg (by omega)⟩
        | succ n =>
         have h1:=oy (o.get m) j ns (by omega)
         rw [q3] at h1
         have YD:j=0:=by simp at h1;omega
         have h2:=tq (o.get m) j ns (by omega) 0
         rw [q3,if_pos (by omega)] at h2
         have h3:=Fg pB (j:=0 - j) (c:=.mr x.1 x.2.1 x.2.2) (by rw [← h2];rfl)
         cases h3
       ·rw [e5 m q2 Bp] at q3
        exact ⟨k5 q1 q2 q3,if_neg (fx m 0 Bp (by omega))⟩
      ·intro m hm
       rw [e2] at hm
       by_cases Bp:m=i
       ·subst Bp
        rw [e4,oy _ _ _ (by omega),Us,e1]
       ·rw [e5 m hm Bp,dh.ub m hm,e1]
      ·intro m q y v hm hy hv
       rw [e2] at hm
       rw [e1,qB] at hv
       rw [e3]
       have hq:q < o.sz:=by
        have:=(dU.1 hy).1
        by_cases Bp:m=i
        ·subst Bp;rw [e4,oy _ _ _ (by omega),Us] at this;exact this
        ·rw [e5 m hm Bp,dh.ub m hm] at this;exact this
       have hold:(o.get m)[q]?=some y→c[m * o.sz+q]?=some v→ar w S (if (o.pr && AV.l8 ns)=true then iW else μ) v y:=by
        intro hy hv
        have:=dh.rep m q y v hm hy hv
        cases LS:o.pr
        ·simpa [LS] using this
        ·rw [LS] at this
         split
         ·exact this
         ·exact iX this
       by_cases Bp:m=i
       ·subst Bp
        rw [e4,tq _ _ _ (by omega)] at hy
        by_cases hjq:j≤q∧q < j+n
        ·rw [if_pos (by omega)] at hy hv
         have tn:vx.cells[q - j]?=some v:=by rw [← hv];congr 1;omega
         have:=hcr (q - j) y v hy tn
         split
         ·rename_i YE
          simp only [bp] at YE
          exact this.pure (s9 YE.2 hy) iW
         ·exact this
        ·rw [if_neg (by omega)] at hy hv
         exact hold hy hv
       ·rw [e5 m hm Bp] at hy
        rw [if_neg (fx m q Bp hq)] at hv
        exact hold hy hv
     refine ⟨w.setRow pl.cQ c',?_,?_⟩
     ·simp only [Instr.storeAt,Instr.sureAddr,bN,Sem.run_pure,df,storeVar,eO hn]
      rw [Sem.run_ite,if_neg (by omega)]
      exact Bk
     ·show Ext _ _ _ _ _ _∧Good E (sset σ k _) S μ _
      refine Pf _ ?_ ?_ ?_ ?_ ?_ ?_
      ·unfold Ob.put;split<;>rfl
      ·unfold Ob.put;split<;>rfl
      ·unfold Ob.put;split<;>rfl
      ·unfold Ob.put;split<;>rfl
      ·rw [← L5 (by omega) Us];unfold Ob.put;split<;>simp
      ·intro m hm Bp
       unfold Ob.put
       split
       ·rename_i Bq
        simp only [Bq,Bool.not_true,Bool.false_or] at Sx
        have:=bW Sx
        omega
       ·simp [Bp]
   ·cases h
  ·cases h
 ·cases h
def Ot (kd:IntKind) (q:Nat) (v:Int):Nat→Nat→List AV→List AV
 | t,m+1,c :: cs=>(match Sw kd c with
  | some a=>.atom (.int kd (U7 q t v a))
  | none=>c) :: Ot kd q v (t+1) m cs
 | _,_,cs=>cs
theorem Ki {kd:IntKind} {q:Nat} {v:Int}:∀ {m:Nat} {cs:List AV} {l:List Int} (t:Nat),Ah kd m cs=some l→∀ r,(Ot kd q v t m cs)[r]?=if q=t+r∧r < m then some (.atom (.int kd v)) else cs[r]?
 | 0,cs,_,t,_,r=>by cases cs<;>simp [Ot]
 | m+1,[],_,_,h,_=>by simp [Ah] at h
 | m+1,c :: cs,l,t,h,r=>by
  simp only [Ah] at h
  split at h
  ·rename_i a r' h1 h2
   cases h
   simp only [Ot,h1]
   cases r with
   | zero =>
    simp only [List.getElem?_cons_zero,Nat.add_zero]
    by_cases hq:q=t
    ·simp_all [if_pos,U7]
    ·rw [if_neg (fun h=>hq h.1),U7,if_neg hq,← M9 h1]
   | succ r =>
    simp only [EN]
    rw [Ki (t+1) h2 r]
    grind
  ·cases h
def Ou (q:Nat) (v:Bool):Nat→Nat→List AV→List AV
 | t,m+1,c :: cs=>(match Na c with
  | some a=>.atom (.bool (U8 q t v a))
  | none=>c) :: Ou q v (t+1) m cs
 | _,_,cs=>cs
theorem Kj {q:Nat} {v:Bool}:∀ {m:Nat} {cs:List AV} {l:List Bool} (t:Nat),uL m cs=some l→∀ r,(Ou q v t m cs)[r]?=if q=t+r∧r < m then some (.atom (.bool v)) else cs[r]?
 | 0,cs,_,t,_,r=>by cases cs<;>simp [Ou]
 | m+1,[],_,_,h,_=>by simp [uL] at h
 | m+1,c :: cs,l,t,h,r=>by
  simp only [uL] at h
  split at h
  ·rename_i a r' h1 h2
   cases h
   simp only [Ou,h1]
   cases r with
   | zero =>
    simp only [List.getElem?_cons_zero,Nat.add_zero]
    by_cases hq:q=t
    ·simp_all [if_pos,U8]
    ·rw [if_neg (fun h=>hq h.1),U8,if_neg hq,← Kh h1]
   | succ r =>
    simp only [EN]
    rw [Kj (t+1) h2 r]
    grind
  ·cases h
def ze (P:Program) (σ:dD) (T:TypeId) (a x:AV):Option (List Prop×sx×List Nat) :=
 match a with
 | .ov k i j m q=>match au σ k,x,ud P T with
  | some o,.atom (.int kd v),some n=>match Ah kd m ((o.get i).drop j) with
   | some _=>match Nat.beq n 1 && Nat.ble (j+m) o.sz && Nat.ble (j+m) (o.get i).length && (!o.var || Nat.beq o.len 1) && Nat.ble 1 o.sz with
    | true=>some ([i < o.len],[(k,some (o.put i ((o.get i).take j ++ Ot kd q v 0 m ((o.get i).drop j)) true))],[k])
    | false=>none
   | none=>none
  | some o,.atom (.bool v),some n=>match uL m ((o.get i).drop j) with
   | some _=>match Nat.beq n 1 && Nat.ble (j+m) o.sz && Nat.ble (j+m) (o.get i).length && (!o.var || Nat.beq o.len 1) && Nat.ble 1 o.sz with
    | true=>some ([i < o.len],[(k,some (o.put i ((o.get i).take j ++ Ou q v 0 m ((o.get i).drop j)) true))],[k])
    | false=>none
   | none=>none
  | _,_,_=>none
 | a=>oz P σ T a x
theorem PH (g:Good E σ S μ w) {T:TypeId} {a x:AV} {va vx:Value} (ha:ar w S μ va a) (hx:ar w S μ vx x) {ps:List Prop} {mF:sx} {rd:List Nat}
  (h:ze P σ T a x=some (ps,mF,rd)) (hp:bq ps) :
  ∃ w',(Instr.storeAt T va vx).run P w=.ok () w'∧Ext w S μ w' S μ∧Good E (fI σ mF) S μ w':=by
 unfold ze at h
 split at h
 ·rename_i k i j m q
  split at h
  ·rename_i o kd v n ho hn
   split at h
   ·rename_i l hl
    split at h
    ·rename_i hb
     simp only [aD,aA] at h
     obtain ⟨rfl,rfl,rfl⟩:=h
     simp only [bp,Nat.ble_eq] at hb
     obtain ⟨⟨⟨⟨ss,pB⟩,Pe⟩,Sx⟩,YB⟩:=hb
     cases ha with
     | ov pl hm hq =>
      have hc:(o.get i).take j ++ Ot kd q v 0 m ((o.get i).drop j)=pj (o.get i) (j+q) [.atom (.int kd v)]:=by
       have YF:((o.get i).take j).length=j:=by simp;omega
       apply List.ext_getElem?
       intro r
       rw [tq _ _ _ (by simp;omega)]
       simp only [List.length_singleton]
       by_cases hr:r < j
       ·rw [iH (by omega),pW,if_pos hr,if_neg (by omega)]
       ·rw [jS (by omega),YF,Ki 0 hl]
        by_cases hqr:r=j+q
        ·rw [if_pos (by omega),if_pos (by omega)]
         have:r - (j+q)=0:=by omega
         rw [this];rfl
        ·rw [if_neg (by omega),if_neg (by omega),oS]
         congr 1;omega
      have Us:(o.get i).length=o.sz:=by obtain ⟨_,_,_,_,dh⟩:=g.rep.ob k o ho;exact dh.ub i hp.1
      rw [← L5 (sz:=o.sz) (by simp;omega) Us] at hc
      have h0:oz P σ T (.op k i (j+q)) (.atom (.int kd v))=some ([i < o.len],[(k,some (o.put i (W3 o.sz (o.get i) (j+q) [.atom (.int kd v)]) true))],[k]):=by
       have U9:=bW ss
       subst U9
       have e1:Nat.ble (j+q+1) o.sz=true:=by rw [Nat.ble_eq];omega
       have e2:Nat.ble 1 o.sz=true:=by rw [Nat.ble_eq];exact YB
       unfold oz
       simp only [AV.cells,hn,ho,List.length_singleton,AV.fJ,AV.one,AV.l8,AV.pure,e1,e2,Sx,Bool.and_true,Bool.and_self]
      rw [hc]
      exact CA g (ar.op pl hm) hx h0 hp
    ·cases h
   ·cases h
  ·rename_i o v n ho hn
   split at h
   ·rename_i l hl
    split at h
    ·rename_i hb
     simp only [aD,aA] at h
     obtain ⟨rfl,rfl,rfl⟩:=h
     simp only [bp,Nat.ble_eq] at hb
     obtain ⟨⟨⟨⟨ss,pB⟩,Pe⟩,Sx⟩,YB⟩:=hb
     cases ha with
     | ov pl hm hq =>
      have hc:(o.get i).take j ++ Ou q v 0 m ((o.get i).drop j)=pj (o.get i) (j+q) [.atom (.bool v)]:=by
       have YF:((o.get i).take j).length=j:=by simp;omega
       apply List.ext_getElem?
       intro r
       rw [tq _ _ _ (by simp;omega)]
       simp only [List.length_singleton]
       by_cases hr:r < j
       ·rw [iH (by omega),pW,if_pos hr,if_neg (by omega)]
       ·rw [jS (by omega),YF,Kj 0 hl]
        by_cases hqr:r=j+q
        ·rw [if_pos (by omega),if_pos (by omega)]
         have:r - (j+q)=0:=by omega
         rw [this];rfl
        ·rw [if_neg (by omega),if_neg (by omega),oS]
         congr 1;omega
      have Us:(o.get i).length=o.sz:=by obtain ⟨_,_,_,_,dh⟩:=g.rep.ob k o ho;exact dh.ub i hp.1
      rw [← L5 (sz:=o.sz) (by simp;omega) Us] at hc
      have h0:oz P σ T (.op k i (j+q)) (.atom (.bool v))=some ([i < o.len],[(k,some (o.put i (W3 o.sz (o.get i) (j+q) [.atom (.bool v)]) true))],[k]):=by
       have U9:=bW ss
       subst U9
       have e1:Nat.ble (j+q+1) o.sz=true:=by rw [Nat.ble_eq];omega
       have e2:Nat.ble 1 o.sz=true:=by rw [Nat.ble_eq];exact YB
       unfold oz
       simp only [AV.cells,hn,ho,List.length_singleton,AV.fJ,AV.one,AV.l8,AV.pure,e1,e2,Sx,Bool.and_true,Bool.and_self]
      rw [hc]
      exact CA g (ar.op pl hm) hx h0 hp
    ·cases h
   ·cases h
  ·cases h
 ·exact CA g ha hx h hp
def yi (P:Program) (T:TypeId) (x:AV) (f:Nat):Option AV :=
 match P.underlying T with
 | some (.struct fs)=>match fs[f]? with
  | some fl=>match ud P fl.type with
   | some (_+1)=>match x with
    | .op k i j=>some (.op k i (j+fl.offset))
    | .rp cs j=>some (.rp cs (j+fl.offset))
    | _=>none
   | _=>none
  | none=>none
 | _=>none
theorem I0 {T:TypeId} {x:AV} {f:Nat} {v:Value} (hx:ar w S μ v x) {r:AV} (h:yi P T x f=some r) :
  ∃ u,(Instr.fieldAt T v f).run P w=.ok u w∧ar w S μ u r:=by
 unfold yi at h
 split at h
 ·rename_i fs hu
  split at h
  ·rename_i fl hf
   split at h
   ·rename_i n hn
    split at h
    ·cases h
     cases hx with
     | op pl hm =>
      rename_i k i j
      refine ⟨.pointer (some ⟨pl.cQ,i * pl.sz+(j+fl.offset),none⟩),?_,.op pl hm⟩
      simp_all [Instr.fieldAt,run_underlying,Instr.sureAddr,fieldPlace,eO,Addr.add_mid,Nat.add_assoc]
    ·cases h
     cases hx with
     | rp b o f' h1 h2 h3 =>
      rename_i cs j
      refine ⟨.pointer (some ⟨b,o+(j+fl.offset),none⟩),?_,.rp b o f' h1 h2 h3⟩
      simp_all [Instr.fieldAt,run_underlying,Instr.sureAddr,fieldPlace,eO,Addr.add_mid,Nat.add_assoc]
    ·cases h
   ·cases h
  ·cases h
 ·cases h
def I1 (P:Program) (T:TypeId) (x:AV) (f:Nat):Option AV :=
 match P.underlying T,x with
 | some (.struct fs),.agg cs=>match fs[f]? with
  | some fl=>match ud P fl.type with
   | some n=>match Nat.ble (fl.offset+n) cs.length with
    | true=>ko P fl.type cs fl.offset
    | false=>none
   | none=>none
  | none=>none
 | _,_=>none
theorem PJ {T:TypeId} {x:AV} {f:Nat} {v:Value} (hx:ar w S μ v x) {r:AV} (h:I1 P T x f=some r) :
  ∃ u,(Instr.field T v f).run P w=.ok u w∧ar w S μ u r:=by
 unfold I1 at h
 split at h
 ·rename_i fs cs hu
  split at h
  ·rename_i fl hf
   split at h
   ·rename_i n hn
    split at h
    ·rename_i hle
     simp only [Nat.ble_eq] at hle
     obtain ⟨vs,rfl,He,D1⟩:=n4 hx
     obtain ⟨u,r1,r2⟩:=kr He D1 h (fun n' h'=>by simp_all)
     simp_all [Instr.field,run_underlying,asAgg]
    ·cases h
   ·cases h
  ·cases h
 ·cases h
def pC (P:Program) (σ:dD) (T:TypeId) (x ix:AV):Option (List Prop×AV×List Nat) :=
 match P.underlying T,ix with
 | some (.slice e),.atom (.int _ n)=>match ud P e with
  | some sz=>match x with
   | .os k off len=>match au σ k with
    | some o=>match Nat.beq o.sz sz with
     | true=>some ([0≤n∧n < len],.op k (bC off n.toNat) 0,[k])
     | false=>none
    | none=>none
   | .sl len get=>match Nat.beq (get n.toNat).length sz with
    | true=>some ([0≤n∧n < len],.rp (get n.toNat) 0,[])
    | false=>none
   | _=>none
  | none=>none
 | some (.array len e),.atom (.int _ n)=>match ud P e with
  | some sz=>match x with
   | .op k i j=>match P.underlying e with
    | some (.int _)=>match Nat.beq sz 1 with
     | true=>some ([0≤n∧n < len],.ov k i j len n.toNat,[])
     | false=>none
    | some .bool=>match Nat.beq sz 1 with
     | true=>some ([0≤n∧n < len],.ov k i j len n.toNat,[])
     | false=>none
    | _=>some ([0≤n∧n < len],.op k i (j+n.toNat * sz),[])
   | .rp cs j=>some ([0≤n∧n < len],.rp cs (j+n.toNat * sz),[])
   | _=>none
  | none=>none
 | _,_=>none
theorem I2 (g:Good E σ S μ w) {T:TypeId} {x ix:AV} {v vi:Value} (hx:ar w S μ v x) (hi:ar w S μ vi ix) {ps:List Prop} {r:AV} {rd:List Nat}
  (h:pC P σ T x ix=some (ps,r,rd)) (hp:bq ps) :
  ∃ u,(Instr.indexAt T v vi).run P w=.ok u w∧ar w S μ u r:=by
 unfold pC at h
 split at h
 ·rename_i e kk n hu
  have:=dg hi;subst this
  split at h
  ·rename_i sz su
   split at h
   ·rename_i k off len
    split at h
    ·rename_i o ho
     split at h
     ·rename_i hb
      have hb:=bW hb
      simp only [aD,aA] at h
      obtain ⟨rfl,rfl,rfl⟩:=h
      obtain ⟨pl,c,T',hm,dh⟩:=g.rep.ob k o ho
      have hn:=hp.1
      cases hx with
      | os kn gZ h1 h2 h3 =>
       rename_i cap a
       rw [hm] at gZ;cases gZ
       have ha:=h1 (by omega)
       subst ha
       refine ⟨.pointer (some ⟨pl.cQ,bC off n.toNat * pl.sz+0,none⟩),?_,.op pl hm⟩
       simp only [Instr.indexAt,asIntOf,run_underlying hu,bN,Sem.run_pure,df]
       rw [Sem.run_ite,if_pos hn]
       simp only [bN,eO su,df,Sem.run_pure,Addr.add_mid]
       rw [dp,dh.sz,hb,cD]
       rfl
     ·cases h
    ·cases h
   ·rename_i len get
    split at h
    ·rename_i hb
     have hb:=bW hb
     simp only [aD,aA] at h
     obtain ⟨rfl,rfl,rfl⟩:=h
     have hn:=hp.1
     cases hx with
     | sl b off Ut f h1 h2 h3 h4 _ =>
      rename_i cap a
      have rN:n.toNat < len:=by omega
      obtain ⟨ha,hS⟩:=h1 (by omega)
      subst ha
      have Zk:Ut=sz:=by rw [← h2 n.toNat rN,hb]
      subst Zk
      refine ⟨.pointer (some ⟨b,(off+n.toNat * Ut)+0,none⟩),?_,.rp b (off+n.toNat * Ut) (f n.toNat) hS ?_ ?_⟩
      ·simp only [Instr.indexAt,asIntOf,run_underlying hu,bN,Sem.run_pure,df]
       simp_all [Sem.run_ite,if_pos,bN,eO,df,Sem.run_pure,Addr.add_mid]
      ·simp_all
      simp_all
    ·cases h
   ·cases h
  ·cases h
 ·rename_i len e kk n hu
  have:=dg hi;subst this
  split at h
  ·rename_i sz su
   split at h
   ·rename_i k i j
    have lV:0≤n∧n < len→∀ pl:Place,(Instr.indexAt T (.pointer (some ⟨pl.cQ,i * pl.sz+j,none⟩)) (.int kk n)).run P w=.ok (.pointer (some ⟨pl.cQ,i * pl.sz+(j+n.toNat * sz),none⟩)) w:=by
     intro hn pl
     simp only [Instr.indexAt,Instr.sureAddr,asIntOf,run_underlying hu,bN,Sem.run_pure,df]
     rw [Sem.run_ite,if_pos hn]
     simp only [bN,eO su,df,Sem.run_pure,Addr.add_mid,Nat.add_assoc]
    split at h
    ·split at h
     ·rename_i Ov
      have Ov:=bW Ov
      simp only [aD,aA] at h
      obtain ⟨rfl,rfl,rfl⟩:=h
      have hn:=hp.1
      cases hx with
      | op pl hm =>
       refine ⟨_,lV hn pl,?_⟩
       rw [Ov,Nat.mul_one]
       exact .ov pl hm (by omega)
     ·cases h
    ·split at h
     ·rename_i Ov
      have Ov:=bW Ov
      simp only [aD,aA] at h
      obtain ⟨rfl,rfl,rfl⟩:=h
      have hn:=hp.1
      cases hx with
      | op pl hm =>
       refine ⟨_,lV hn pl,?_⟩
       rw [Ov,Nat.mul_one]
       exact .ov pl hm (by omega)
     ·cases h
    ·simp only [aD,aA] at h
     obtain ⟨rfl,rfl,rfl⟩:=h
     have hn:=hp.1
     cases hx with
     | op pl hm=>exact ⟨_,lV hn pl,.op pl hm⟩
   ·rename_i cs j
    simp only [aD,aA] at h
    obtain ⟨rfl,rfl,rfl⟩:=h
    have hn:=hp.1
    cases hx with
    | rp b o f h1 h2 h3 =>
     refine ⟨.pointer (some ⟨b,o+(j+n.toNat * sz),none⟩),?_,.rp b o f h1 h2 h3⟩
     simp only [Instr.indexAt,Instr.sureAddr,asIntOf,run_underlying hu,bN,Sem.run_pure,df]
     simp_all [Sem.run_ite,if_pos,bN,eO,df,Sem.run_pure,Addr.add_mid,Nat.add_assoc]
   ·cases h
  ·cases h
 ·cases h
def jI (s:ByteArray) (i:Nat):Int:=((s[i]?).getD 0).toNat
def I3 (P:Program) (T:TypeId) (x ix:AV):Option (List Prop×AV) :=
 match P.underlying T,x,ix with
 | some .string,.atom (.string s),.atom (.int _ n)=>some ([0≤n∧n < s.size],.atom (.int .u8 (jI s n.toNat)))
 | some (.array len e),.agg cs,.atom (.int _ n)=>match P.underlying e,ud P e with
  | some (.int kd),some sz=>match Ah kd len cs with
   | some l=>match Nat.beq sz 1 && Nat.beq cs.length len with
    | true=>some ([0≤n∧n < len],.atom (.int kd (HN l n.toNat)))
    | false=>none
   | none=>none
  | some .bool,some sz=>match uL len cs with
   | some l=>match Nat.beq sz 1 && Nat.beq cs.length len with
    | true=>some ([0≤n∧n < len],.atom (.bool (HO l n.toNat)))
    | false=>none
   | none=>none
  | some _,some sz=>match Nat.ble (n.toNat * sz+sz) cs.length with
   | true=>(ko P e cs (n.toNat * sz)).map fun r=>([0≤n∧n < len],r)
   | false=>none
  | _,_=>none
 | _,_,_=>none
theorem PK {T:TypeId} {x ix:AV} {v vi:Value} (hx:ar w S μ v x) (hi:ar w S μ vi ix) {ps:List Prop} {r:AV} (h:I3 P T x ix=some (ps,r)) (hp:bq ps) :
  ∃ u,(Instr.index T v vi).run P w=.ok u w∧ar w S μ u r:=by
 unfold I3 at h
 split at h
 ·rename_i s kk n hu
  simp only [aD,aA] at h
  obtain ⟨rfl,rfl⟩:=h
  have:=dg hi;subst this
  have:=dg hx;subst this
  have hn:=hp.1
  have gY:n.toNat < s.size:=by omega
  refine ⟨_,?_,.atom _⟩
  simp_all [Instr.index,asIntOf,run_underlying,bN,Sem.run_pure,df,if_pos,jI]
 ·rename_i len e cs kk n hu
  have fin:∀ {sz:Nat} {r':AV},ud P e=some sz→n.toNat * sz+sz≤cs.length→ko P e cs (n.toNat * sz)=some r'→0≤n∧n < len →
    ∃ u,(Instr.index T v vi).run P w=.ok u w∧ar w S μ u r':=by
   intro sz r' su hle hr hn
   have:=dg hi;subst this
   obtain ⟨vs,rfl,He,D1⟩:=n4 hx
   obtain ⟨u,r1,r2⟩:=kr He D1 hr (fun n' h'=>by simp_all)
   refine ⟨u,?_,r2⟩
   simp only [Instr.index,asIntOf,run_underlying hu,bN,Sem.run_pure,df]
   rw [Sem.run_ite,if_pos hn]
   simp only [bN,eO su,df,r1]
  split at h
  ·rename_i kd sz he su
   split at h
   ·rename_i l hl
    split at h
    ·rename_i hb
     simp only [bp] at hb
     have ss:=bW hb.1
     have pB:=bW hb.2
     simp only [aD,aA] at h
     obtain ⟨rfl,rfl⟩:=h
     have hn:=hp.1
     refine fin su (by rw [ss];omega) ?_ hn
     have hg:=Cz hl n.toNat (by omega)
     simp_all [ko,Nat.mul_one]
    ·cases h
   ·cases h
  ·rename_i sz he su
   split at h
   ·rename_i l hl
    split at h
    ·rename_i hb
     simp only [bp] at hb
     have ss:=bW hb.1
     have pB:=bW hb.2
     simp only [aD,aA] at h
     obtain ⟨rfl,rfl⟩:=h
     have hn:=hp.1
     refine fin su (by rw [ss];omega) ?_ hn
     have hg:=Av hl n.toNat (by omega)
     simp_all [ko,Nat.mul_one]
    ·cases h
   ·cases h
  ·rename_i d sz he su
   split at h
   ·rename_i hle
    simp only [Nat.ble_eq] at hle
    simp only [aK,aA] at h
    obtain ⟨r',hr,rfl,rfl⟩:=h
    exact fin su hle hr hp.1
   ·cases h
  ·cases h
 ·cases h
def bound (len:Nat):Option AV→Option Nat
 | none=>some len
 | some (.atom (.int _ n))=>some n.toNat
 | _=>none
def uM:Option AV→List Prop
 | some (.atom (.int _ n))=>[0≤n]
 | _=>[]
def zf (P:Program) (σ:dD) (T:TypeId) (x:AV) (lo hi:Option AV):Option (List Prop×AV×List Nat) :=
 match P.underlying T,x with
 | some .string,.atom (.string s)=>match bound 0 lo,bound s.size hi with
  | some l,some h=>some ((l≤h∧h≤s.size) :: (uM lo ++ uM hi),.atom (.string (s.extract l h)),[])
  | _,_=>none
 | some (.slice e),x=>match ud P e with
  | some sz=>match x with
   | .os k off len=>match bound 0 lo,bound len hi,au σ k with
    | some l,some h,some o=>match Nat.beq o.sz sz with
     | true=>some ((l≤h∧h≤len) :: (uM lo ++ uM hi),.os k (bC off l) (h - l),[k])
     | false=>none
    | _,_,_=>none
   | .sl len get=>match bound 0 lo,bound len hi with
    | some l,some h=>match Nat.beq (get l).length sz with
     | true=>some ((l≤h∧h≤len) :: (uM lo ++ uM hi),.sl (h - l) fun i=>get (bC l i),[])
     | false=>none
    | _,_=>none
   | _=>none
  | none=>none
 | _,_=>none
theorem Aw {lo:Option AV} {vlo:Option Value} (hv:(vlo=none↔lo=none)∧∀ a b,lo=some a→vlo=some b→ar w S μ b a) {len l:Nat} (h:bound len lo=some l) :
  (lo=none∧vlo=none∧l=len)∨∃ k n,vlo=some (.int k n)∧lo=some (.atom (.int k n))∧l=n.toNat:=by
 unfold bound at h
 split at h
 ·simp_all
 ·rename_i k n
  right
  cases vlo with
  | none=>simp_all
  | some b =>
   have:=dg (hv.2 _ b rfl rfl)
   grind
 ·cases h
theorem wO (isSlice:Bool) {len cap l h:Nat} {lo hi:Option AV} {vlo vhi:Option Value} (Va:(vlo=none↔lo=none)∧∀ a b,lo=some a→vlo=some b→ar w S μ b a)
  (Ow:(vhi=none↔hi=none)∧∀ a b,hi=some a→vhi=some b→ar w S μ b a) (hl:bound 0 lo=some l) (hh:bound len hi=some h) (hle:l≤h) (xL:h≤cap) (hp:bq (uM lo ++ uM hi)) :
  (Instr.sliceBounds isSlice len cap vlo vhi none).run P w=.ok (l,h,cap) w:=by
 obtain ⟨p1,p2⟩:=bq.app hp
 rcases Aw Va hl with ⟨e1,e2,e3⟩ | ⟨k1,n1,e1,e2,e3⟩
 ·subst e1 e2 e3
  rcases Aw Ow hh with ⟨f1,f2,f3⟩ | ⟨k2,n2,f1,f2,f3⟩
  ·simp_all [Instr.sliceBounds]
  ·subst f1 f2 f3
   have:=p2.1
   simp_all [Instr.sliceBounds,Instr.sliceBound,asIntOf]
 ·subst e1 e2 e3
  have:=p1.1
  rcases Aw Ow hh with ⟨f1,f2,f3⟩ | ⟨k2,n2,f1,f2,f3⟩
  ·simp_all [Instr.sliceBounds,Instr.sliceBound,asIntOf]
  ·subst f1 f2 f3
   have:=p2.1
   have h2:0≤n2∧n2≤cap:=by omega
   have h3:0≤n1∧n1≤(n2.toNat:Int):=by omega
   simp_all [Instr.sliceBounds,Instr.sliceBound,asIntOf,bN,Sem.run_pure,df,Sem.run_ite,if_pos]
theorem PL (g:Good E σ S μ w) {T:TypeId} {x:AV} {v:Value} (hx:ar w S μ v x) {lo hi:Option AV} {vlo vhi:Option Value}
  (Va:(vlo=none↔lo=none)∧∀ a b,lo=some a→vlo=some b→ar w S μ b a)
  (Ow:(vhi=none↔hi=none)∧∀ a b,hi=some a→vhi=some b→ar w S μ b a) {ps:List Prop} {r:AV} {rd:List Nat} (h:zf P σ T x lo hi=some (ps,r,rd)) (hp:bq ps) :
  ∃ u,(Instr.sliceAt T v vlo vhi none).run P w=.ok u w∧ar w S μ u r:=by
 unfold zf at h
 split at h
 ·rename_i s hu
  have:=dg hx;subst this
  split at h
  ·rename_i l hh hl Vb
   simp only [aD,aA] at h
   obtain ⟨rfl,rfl,rfl⟩:=h
   obtain ⟨⟨p1,p2⟩,p3⟩:=hp
   have hb:=wO (P:=P) (w:=w) false (cap:=s.size) Va Ow hl Vb p1 p2 p3
   refine ⟨_,?_,.atom _⟩
   simp [Instr.sliceAt,Instr.slice,run_underlying hu,hb]
  ·cases h
 ·rename_i e hu
  split at h
  ·rename_i sz su
   split at h
   ·rename_i k off len
    split at h
    ·rename_i l hh o hl Vb ho
     split at h
     ·rename_i hb
      have hb:=bW hb
      simp only [aD,aA] at h
      obtain ⟨rfl,rfl,rfl⟩:=h
      obtain ⟨⟨p1,p2⟩,p3⟩:=hp
      obtain ⟨pl,c,T',hm,dh⟩:=g.rep.ob k o ho
      cases hx with
      | os kn gZ h1 h2 h3 =>
       rename_i cap a
       rw [hm] at gZ;cases gZ
       have Vc:=wO (P:=P) (w:=w) true (cap:=cap) Va Ow hl Vb p1 (by omega) p3
       refine ⟨.slice (if cap=l then a else a.map (·.add (l * sz))) (hh - l) (cap - l),?_,?_⟩
       ·simp [Instr.sliceAt,Instr.slice,run_underlying hu,Vc,eO su]
       ·refine .os pl hm ?_ (by omega) (by rw [dp];omega)
        intro hc
        have:=h1 (by omega)
        subst this
        rw [if_neg (by omega)]
        simp only [Option.map_some,Addr.add_mid]
        rw [dp,dh.sz,hb,cD]
     ·cases h
    ·cases h
   ·rename_i len get
    split at h
    ·rename_i l hh hl Vb
     split at h
     ·rename_i hb
      have hb:=bW hb
      simp only [aD,aA] at h
      obtain ⟨rfl,rfl,rfl⟩:=h
      obtain ⟨⟨p1,p2⟩,p3⟩:=hp
      cases hx with
      | sl b off Ut f h1 h2 h3 h4 h5 =>
       rename_i a cap
       have Vc:=wO (P:=P) (w:=w) true (cap:=cap) Va Ow hl Vb p1 (by omega) p3
       have Zk:l < hh→Ut=sz:=fun gY=>by grind
       refine ⟨.slice (if cap=l then a else a.map (·.add (l * sz))) (hh - l) (cap - l),?_,?_⟩
       ·simp [Instr.sliceAt,Instr.slice,run_underlying hu,Vc,eO su]
       ·refine .sl b (off+l * sz) Ut (fun i j=>f (bC l i) j) ?_ (fun i hi=>h2 _ (by rw [dp];omega)) ?_ (fun i j c hi hc=>h4 _ _ _ (by rw [dp];omega) hc) (by omega)
        ·intro hc
         obtain ⟨ha,hS⟩:=h1 (by omega)
         subst ha
         rw [if_neg (by omega)]
         simp_all [Option.map_some,Addr.add_mid,trivial]
        ·intro i j hi hj
         have:=h3 (bC l i) j (by rw [dp];omega) hj
         rw [dp] at this ⊢
         rw [← this,← Zk (by omega),cD]
         congr 2;omega
     ·cases h
    ·cases h
   ·cases h
  ·cases h
 ·cases h
end
end Go.Ab
namespace Go.Ab
section
variable {P:Program} {E:Env} {nk:Nat} {σ:dD} {S:Nat→Prop} {μ:Mu} {w:World}
def PM (P:Program) (T:TypeId) (x:AV):Option AV :=
 match P.underlying T with
 | some .string=>match x with
  | .atom (.string s)=>some (.atom (.int .i64 s.size))
  | _=>none
 | some (.array n _)=>some (.atom (.int .i64 n))
 | some (.slice _)=>match x with
  | .os _ _ n=>some (.atom (.int .i64 n))
  | .sl n _=>some (.atom (.int .i64 n))
  | .nil=>some (.atom (.int .i64 0))
  | _=>none
 | _=>none
theorem Vd {T:TypeId} {x:AV} {v:Value} (hx:ar w S μ v x) {r:AV} (h:PM P T x=some r) (ty:TypeId) :
  ∃ u,(Builtin.len_ #[T] ty #[v]).run P w=.ok u w∧ar w S μ u r:=by
 unfold PM at h
 split at h
 ·rename_i hu
  split at h
  ·cases h
   have:=dg hx;subst this
   exact ⟨_,by simp [Builtin.len_,run_underlying hu,goInt],.atom _⟩
  ·cases h
 ·rename_i n e hu
  cases h
  exact ⟨_,by simp [Builtin.len_,run_underlying hu,goInt],.atom _⟩
 ·rename_i e hu
  split at h
  ·cases h
   cases hx with
   | os pl hm h1 h2 h3=>exact ⟨_,by simp [Builtin.len_,run_underlying hu,goInt],.atom _⟩
  ·cases h
   cases hx with
   | sl b off sz f h1 h2 h3 h4 h5=>exact ⟨_,by simp [Builtin.len_,run_underlying hu,goInt],.atom _⟩
  ·cases h
   cases hx
   exact ⟨_,by simp [Builtin.len_,run_underlying hu,goInt],.atom _⟩
  ·cases h
 ·cases h
def vz (σ:dD) (sz:Nat) (x:AV):Option (Nat×(Nat→List AV)×Bool×List Prop×List Nat) :=
 match x with
 | .nil=>some (0,fun _=>[],true,[],[])
 | .sl n g=>match Nat.beq (g 0).length sz with
  | true=>some (n,g,true,[∀ i,i < n→AV.fJ (g i)=true],[])
  | false=>none
 | .os k off n=>match au σ k with
  | some o=>match Nat.beq o.sz sz with
   | true=>some (n,(fun i=>o.get (bC off i)),o.pr,[off+n≤o.len,∀ i,i < n→AV.fJ (o.get (bC off i))=true],[k])
   | false=>none
  | none=>none
 | _=>none
theorem mI {n:Nat} {g:Nat→List AV} (h:(List.range n).all (fun i=>AV.fJ (g i))=true):∀ i,i < n→AV.fJ (g i)=true :=
 fun i hi=>List.all_eq_true.1 h i (wF.2 hi)
structure Src (P:Program) (w:World) (S:Nat→Prop) (μ:Mu) (sz:Nat) (v:Value) (n:Nat) (g:Nat→List AV) (pr:Bool) (news:List Value):Prop where
 len:∀ w':World,(Builtin.lenOf v).run P w'=.ok n w'
 cells:∀ w':World,w'.heap=w.heap→(Builtin.firstCells sz n v).run P w'=.ok news.toArray w'
 size:news.length=n * sz
 one:∀ u∈news,u.oneCell'=true
 ub:∀ i,i < n→(g i).length=sz
 rep:∀ i j x u,i < n→(g i)[j]?=some x→news[i * sz+j]?=some u→ar w S (if pr then iW else μ) u x
 Sy:∀ i,i < n→AV.fJ (g i)=true
theorem HP {n sz q:Nat} (h:q < n * sz):q / sz < n∧q % sz < sz∧q=q / sz * sz+q % sz:=by
 have h0:0 < sz:=by
  rcases Nat.eq_zero_or_pos sz with h1 | h1
  ·subst h1;simp at h
  ·exact h1
 simp_all [Nat.div_lt_of_lt_mul,pX,Nat.mod_lt,Nat.div_add_mod]
theorem Src.mk' {sz n:Nat} {g:Nat→List AV} {pr:Bool} {b o len cap:Nat} (f:Nat→Nat→Value) (hl:n=len)
  (hc:∀ i j,i < n→j < sz→w.cell? ⟨b,o+i * sz+j,none⟩=some (f i j)) (h1:∀ i,i < n→AV.fJ (g i)=true) (pY:∀ i,i < n→(g i).length=sz)
  (hr:∀ i j x,i < n→(g i)[j]?=some x→ar w S (if pr then iW else μ) (f i j) x) :
  ∃ news,Src P w S μ sz (.slice (some ⟨b,o,none⟩) len cap) n g pr news:=by
 subst hl
 refine ⟨(List.range (n * sz)).map fun q=>f (q / sz) (q % sz),?_⟩
 have qB:∀ q u,((List.range (n * sz)).map fun q=>f (q / sz) (q % sz))[q]?=some u→q < n * sz∧u=f (q / sz) (q % sz):=by
  intro q u hq
  have gY:q < n * sz:=by
   have:=(dU.1 hq).1
   simpa using this
  simp [List.getElem?_range gY] at hq
  exact ⟨gY,hq.symm⟩
 refine ⟨fun w'=>by simp [Builtin.lenOf],fun w' hw=>?_,by simp,?_,pY,?_,h1⟩
 ·have DH:∀ a,w'.cell? a=w.cell? a:=fun a=>by simp [World.cell?,hw]
  refine run_firstCells_some w' sz n ⟨b,o,none⟩ n cap _ (by simp) ?_
  intro q u hq
  obtain ⟨gY,rfl⟩:=qB q u hq
  obtain ⟨h2,h3,h4⟩:=HP gY
  rw [DH,Addr.add_mid]
  have:=hc _ _ h2 h3
  rw [Nat.add_assoc,← h4] at this
  exact this
 ·intro u hu
  obtain ⟨q,hq⟩:=List.getElem?_of_mem hu
  obtain ⟨gY,rfl⟩:=qB q u hq
  obtain ⟨h2,h3,h4⟩:=HP gY
  have hx:(g (q / sz))[q % sz]?=some ((g (q / sz))[q % sz]'(by rw [pY _ h2];exact h3)):=pT _
  exact (hr _ _ _ h2 hx).IV (Fg (h1 _ h2) hx)
 ·intro i j x u hi hx hu
  obtain ⟨gY,rfl⟩:=qB _ u hu
  have hj:j < sz:=by
   have:=(dU.1 hx).1
   rwa [pY i hi] at this
  have e1:(i * sz+j) / sz=i:=by
   rw [pX,Nat.mul_add_div (by omega),Nat.div_eq_of_lt hj];omega
  have e2:(i * sz+j) % sz=j:=by
   rw [pX,Nat.mul_add_mod,Nat.mod_eq_of_lt hj]
  rw [e1,e2]
  exact hr i j x hi hx
theorem Src.empty {sz:Nat} {g:Nat→List AV} {pr:Bool} {a:Option Addr} {cap:Nat}:Src P w S μ sz (.slice a 0 cap) 0 g pr []:=by
 refine ⟨fun w'=>by simp [Builtin.lenOf],fun w' _=>?_,by simp,by simp,fun i h=>absurd h (by omega),fun i j x u h=>absurd h (by omega),fun i h=>absurd h (by omega)⟩
 cases a with
 | none=>simp [Builtin.firstCells]
 | some a=>simp [Builtin.firstCells,loadCells,loadCellsFrom]
theorem yj (g:Good E σ S μ w) {sz:Nat} {x:AV} {v:Value} (hx:ar w S μ v x) {n:Nat} {gt:Nat→List AV} {pr:Bool} {ps:List Prop} {rd:List Nat}
  (h:vz σ sz x=some (n,gt,pr,ps,rd)) (hp:bq ps):∃ news,Src P w S μ sz v n gt pr news:=by
 unfold vz at h
 split at h
 ·simp only [aD,aA] at h
  obtain ⟨rfl,rfl,rfl,rfl,rfl⟩:=h
  cases hx
  exact ⟨[],Src.empty⟩
 ·rename_i n' g'
  split at h
  ·rename_i hb
   have hb:=bW hb
   simp only [aD,aA] at h
   obtain ⟨rfl,rfl,rfl,rfl,rfl⟩:=h
   cases hx with
   | sl b off Ut f h1 h2 h3 h4 h5 =>
    rcases Nat.eq_zero_or_pos n' with h0 | h0
    ·subst h0;exact ⟨[],Src.empty⟩
    ·obtain ⟨ha,_⟩:=h1 h0
     subst ha
     have hs:Ut=sz:=by rw [← h2 0 h0,hb]
     subst hs
     exact Src.mk' f rfl h3 hp.1 h2 (fun i j x hi hx=>h4 i j x hi hx)
  ·cases h
 ·rename_i k off n'
  split at h
  ·rename_i o ho
   split at h
   ·rename_i hb
    have hb:=bW hb
    simp only [aD,aA] at h
    obtain ⟨rfl,hg,rfl,rfl,rfl⟩:=h
    have U3:gt=fun i=>o.get (off+i):=by
     rw [← hg];funext i;rw [dp]
    subst U3
    obtain ⟨hle,Hg,_⟩:=hp
    simp only [dp] at Hg
    obtain ⟨pl,c,T',hm,dh⟩:=g.rep.ob k o ho
    subst hb
    cases hx with
    | os kn gZ h1 h2 h3 =>
     rename_i cap a
     rw [hm] at gZ;cases gZ
     rcases Nat.eq_zero_or_pos n' with h0 | h0
     ·subst h0;exact ⟨[],Src.empty⟩
     ·have ha:=h1 (by omega)
      subst ha
      refine Src.mk' (fun i j=>(c[(off+i) * o.sz+j]?).getD undef) rfl ?_ Hg (fun i hi=>dh.ub _ (by omega)) ?_
      ·intro i j hi hj
       obtain ⟨v,q1,q2⟩:=da dh (i:=off+i) (by omega) hj
       rw [q1,dh.sz,← cD,q2];rfl
      ·intro i j x hi hx
       obtain ⟨v,q1,q2⟩:=da dh (i:=off+i) (by omega) (by have:=(dU.1 hx).1;rwa [dh.ub _ (by omega)] at this)
       rw [q1]
       exact dh.rep _ j x v (by omega) hx q1
   ·cases h
  ·cases h
 ·cases h
def rh (P:Program) (nk:Nat) (σ:dD) (t:TypeId) (s x:AV):Option (List Prop×AV×List Nat×sx) :=
 match mY P t with
 | some e=>match ud P e,wH P e,sw P e with
  | some sz,some b,some z=>match Nat.ble 1 sz && Nat.ble 1 b && Nat.beq z.cells.size sz,vz σ sz x with
   | true,some (n,g,pr,ps,rd)=>match s with
    | .nil=>some ((n * b≤140737488355328) :: ps,.os nk 0 n,rd,[(nk,some ⟨false,sz,n,pr,g⟩)])
    | .os k 0 len=>match au σ k with
     | some o=>match Nat.beq o.sz sz && !o.var with
      | true=>some ((len=o.len) :: ((len+n) * b≤140737488355328) :: ps,.os nk 0 (len+n),k :: rd,
        [(k,none),(nk,some ⟨false,sz,len+n,o.pr && pr,fun m=>if m < len then o.get m else g (m - len)⟩)])
      | false=>none
     | none=>none
    | _=>none
   | _,_=>none
  | _,_,_=>none
 | none=>none
theorem DI {t ty e:TypeId} {i:TypeInfo} (ht:P.underlying t=some (.slice e)) (hi:P.info? e=some i) {sLen sCap n:Nat} {vx:Value} {news:List Value}
  (hl:∀ w':World,(Builtin.lenOf vx).run P w'=.ok n w') (hc:∀ w':World,w'.heap=w.heap→(Builtin.firstCells i.size n vx).run P w'=.ok news.toArray w') (hle:sLen+n≤sCap) :
  (Builtin.append_ #[t,t] ty #[.slice none sLen sCap,vx]).run P w=.ok (.slice none (sLen+n) sCap) w:=by
 simp [Builtin.append_,run_underlying ht,sizeOf,typeInfo,hi,hl,hle,hc w rfl]
theorem Fj {t ty e:TypeId} {i:TypeInfo} (ht:P.underlying t=some (.slice e)) (hi:P.info? e=some i) {g sLen sCap n:Nat} {cur:Array Value} {T:TypeId} (hg:w.heap[g]?=some (.cells cur T (0,0))) {vx:Value} {news:List Value}
  (hl:∀ w':World,(Builtin.lenOf vx).run P w'=.ok n w') (hc:∀ w':World,w'.heap=w.heap→(Builtin.firstCells i.size n vx).run P w'=.ok news.toArray w') (h1:∀ u∈news,u.oneCell'=true)
  (hle:sLen+n≤sCap) (xM:sLen * i.size+news.length≤cur.size) :
  (Builtin.append_ #[t,t] ty #[.slice (some ⟨g,0,none⟩) sLen sCap,vx]).run P w =
   .ok (.slice (some ⟨g,0,none⟩) (sLen+n) sCap) (w.setRow g (cur.toList.take (sLen * i.size) ++ news ++ cur.toList.drop (sLen * i.size+news.length)).toArray):=by
 have Bk:=run_storeCells_at P g (sLen * i.size) T news 0 cur w hg (by simpa using xM) h1
 simp only [Nat.add_zero] at Bk
 simp [Builtin.append_,run_underlying ht,sizeOf,typeInfo,hi,hl,hle,hc w rfl,Addr.add_lit,Bk]
theorem L6 {t ty e:TypeId} {i:TypeInfo} (ht:P.underlying t=some (.slice e)) (hi:P.info? e=some i) {g b sLen sCap n:Nat} {cur:Array Value} {T:TypeId} (hg:w.heap[g]?=some (.cells cur T (0,0))) {vx:Value} {news:List Value}
  (hl:∀ w':World,(Builtin.lenOf vx).run P w'=.ok n w') (hc:∀ w':World,w'.heap=w.heap→(Builtin.firstCells i.size n vx).run P w'=.ok news.toArray w') (h1:∀ u∈news,u.oneCell'=true)
  (hle:sLen+n≤sCap) (xM:b+sLen * i.size+news.length≤cur.size) :
  (Builtin.append_ #[t,t] ty #[.slice (some ⟨g,b,none⟩) sLen sCap,vx]).run P w =
   .ok (.slice (some ⟨g,b,none⟩) (sLen+n) sCap) (w.setRow g (cur.toList.take (b+sLen * i.size) ++ news ++ cur.toList.drop (b+sLen * i.size+news.length)).toArray):=by
 have Bk:=run_storeCells_at P g (b+sLen * i.size) T news 0 cur w hg (by simpa using xM) h1
 simp only [Nat.add_zero] at Bk
 simp [Builtin.append_,run_underlying ht,sizeOf,typeInfo,hi,hl,hle,hc w rfl,Addr.add_lit,Bk]
theorem wP {t ty e:TypeId} {i:TypeInfo} {z:Value} (ht:P.underlying t=some (.slice e)) (hi:P.info? e=some i) (hz:i.zero=some z) {base:Option Addr} {sLen sCap n:Nat} {vx:Value} {olds news:List Value}
  (ho:∀ w':World,w'.heap=w.heap→(Builtin.firstCells i.size sLen (.slice base sLen sCap)).run P w'=.ok olds.toArray w')
  (hl:∀ w':World,(Builtin.lenOf vx).run P w'=.ok n w') (hc:∀ w':World,w'.heap=w.heap→(Builtin.firstCells i.size n vx).run P w'=.ok news.toArray w')
  (hg:sCap < sLen+n) (hb:1≤i.bytes) (xM:(sLen+n) * i.bytes≤140737488355328) :
  (Builtin.append_ #[t,t] ty #[.slice base sLen sCap,vx]).run P w =
   .ok (.slice (some ⟨w.heap.size,0,none⟩) (sLen+n) (grownCap w (sLen+n) sCap e))
    (w.drew.alloc (.cells (olds.toArray ++ news.toArray ++ Builtin.zeroCells z.cells (grownCap w (sLen+n) sCap e - (sLen+n))) e)):=by
 have hn:¬ (sLen+n≤sCap):=by omega
 have Cy:(sLen+n) * 1≤(sLen+n) * i.bytes:=Nat.mul_le_mul_left _ hb
 have Zl:¬ (9223372036854775807 < ((sLen:Int)+(n:Int))):=by omega
 have h48:=growslice_fits hg xM
 have Zm:¬ (281474976710656 < Builtin.nextslicecap (sLen+n) sCap * i.bytes):=by omega
 have e1:=hc w.drew rfl
 have e2:=ho w.drew rfl
 simp [Builtin.append_,run_underlying ht,sizeOf,typeInfo,zeroValue,hi,hz,hl,hn,Zl,Zm,Question.forced,e1,e2,newRow,grownCap]
 grind
theorem Fk (w:World) (W4 xK:Nat) (e:TypeId):W4≤grownCap w W4 xK e:=by simp [grownCap,Question.cut]
theorem Good.grow (g:Good E σ S μ w) (hk:μ nk=none) (hm:E.m0≤nk) {sz n len cap:Nat} {e:TypeId} {olds news:List Value} {rest:Array Value} {pr:Bool} {get:Nat→List AV}
  (ho:olds.length=len * sz) (hn:news.length=n * sz) (hr:rest.size=(cap - (len+n)) * sz) (hle:len+n≤cap)
  (pY:∀ i,i < len+n→(get i).length=sz)
  (As:∀ i j x u,i < len+n→(get i)[j]?=some x→(olds ++ news)[i * sz+j]?=some u→ar w S (if pr then iW else μ) u x) (Cv:sz≠0)
  (Uk:MX E.fp E.w0.heap.size (w.drew.alloc (.cells (olds.toArray ++ news.toArray ++ rest) e)) S (ca μ nk ⟨w.heap.size,cap,sz⟩) (sset σ nk ⟨false,sz,len+n,pr,get⟩)) :
  Ext w S μ (w.drew.alloc (.cells (olds.toArray ++ news.toArray ++ rest) e)) S (ca μ nk ⟨w.heap.size,cap,sz⟩) ∧
  Good E (sset σ nk ⟨false,sz,len+n,pr,get⟩) S (ca μ nk ⟨w.heap.size,cap,sz⟩) (w.drew.alloc (.cells (olds.toArray ++ news.toArray ++ rest) e)):=by
 have su:(olds.toArray ++ news.toArray ++ rest).size=cap * sz:=by
  simp only [Array.size_append,List.size_toArray,ho,hn,hr]
  rw [← cD,← cD];congr 1;omega
 have ga:=g.drew.Pv (nk:=nk) hk hm (olds.toArray ++ news.toArray ++ rest) e ⟨false,sz,len+n,pr,get⟩ cap (by rw [su];exact az _) hle pY ?_ Cv Uk
 ·exact ⟨(Ext.drew w S μ).trans ga.1,ga.2⟩
 ·intro i j x v hi hx hv
  have hj:j < sz:=by
   have:=(dU.1 hx).1
   have e:(get i).length=sz:=pY i hi
   exact e ▸ this
  have gY:i * sz+j < (olds ++ news).length:=by
   have h1:(i+1) * sz≤(len+n) * sz:=dS _ (show i+1≤len+n from hi)
   rw [cD,cD] at h1
   simp only [kH,ho,hn]
   omega
  have tn:(olds ++ news)[i * sz+j]?=some v:=by
   rw [show olds.toArray ++ news.toArray ++ rest=(olds ++ news).toArray ++ rest by simp] at hv
   rw [Array.getElem?_append_left (by simpa using gY)] at hv
   simpa using hv
  have:=As i j x v hi hx tn
  exact ar.mono (w:=w) (w':=w.drew) (S':=S) (fun _ h=>h) (fun _ _=>rfl) this (fun _ _ h=>h)
theorem Good.move (g:Good E σ S μ w) (hk:μ nk=none) (hm:E.m0≤nk) {k:Nat} {o:Ob} {pl:Place} (ho:au σ k=some o) (uN:μ k=some pl) (o':Ob) {c:Array Value} {T:TypeId} (dh:gX w S μ o' pl c T)
  (wG:∀ i x,rowOf o' i=some x→rowOf o i=some x) :
  Ext w S μ w S (ca μ nk pl)∧Good E (sset (vw σ k) nk o') S (ca μ nk pl) w:=by
 have gd:=g.del k
 have Sc:∀ n kn,μ n=some kn→ca μ nk pl n=some kn:=fun n kn h=>by
  grind [ca]
 have ex:Ext w S μ w S (ca μ nk pl):=⟨az _,fun _ h=>h,fun _ _=>rfl,Sc⟩
 refine ⟨ex,⟨g.fr,g.S0,g.S1,g.S2,⟨?_,?_⟩,?_,?_,?_⟩⟩
 rotate_right
 ·have Zn:k≠nk:=fun h=>by simp_all
  have key:∀ q i x v,je w (ca μ nk pl) (sset (vw σ k) nk o') q i x v→(q=nk∧je w μ σ k i x v)∨(q≠nk∧q≠k∧je w μ σ q i x v):=by
   rintro q i x v ⟨o2,sI,h1,h2,h3,h4⟩
   rw [bj] at h1
   unfold ca at h3
   by_cases hq:nk=q
   ·rw [if_pos hq] at h1;cases h1
    rw [if_pos hq.symm] at h3;cases h3
    exact .inl ⟨hq.symm,o,pl,ho,wG i x h2,uN,h4⟩
   ·rw [if_neg hq] at h1
    rw [if_neg (fun h=>hq h.symm)] at h3
    rw [fT] at h1
    split at h1
    ·cases h1
    ·rename_i hkq
     exact .inr ⟨fun h=>hq h.symm,fun h=>hkq h.symm,o2,sI,h1,h2,h3,h4⟩
  refine g.mx.tr (fun q=>if q=nk then k else q) (fun q i x v h=>?_) (fun q i x v q' i' x' v' h h' e=>?_) (fun _ h=>h) (fun _ _=>rfl) (fun q i x v b _ h hb=>⟨rfl,(g.mx.cQ h hb).2.1,fun h=>h⟩) (fun q o2 sI h1 h2 h3=>?_)
  ·grind
  ·grind
  ·rw [bj] at h1
   unfold ca at h2
   by_cases hq:nk=q
   ·grind
   ·rw [if_neg hq,fT] at h1
    grind
 ·intro q oq hq
  rw [bj] at hq
  by_cases Zo:nk=q
  ·rw [if_pos Zo] at hq;cases hq
   exact ⟨pl,c,T,by simp [ca,Zo],dh.ext ex (fun _=>rfl) dh.out⟩
  ·rw [if_neg Zo] at hq
   obtain ⟨sI,c2,T2,DZ,PN⟩:=gd.rep.ob q oq hq
   exact ⟨sI,c2,T2,Sc _ _ DZ,PN.ext ex (fun _=>rfl) PN.out⟩
 ·intro q q' oq oq' Bj sI fx hq Ox DY Fl c1 c2
  rw [bj] at hq Ox
  simp only [ca] at DY Fl
  by_cases e1:nk=q
  ·rw [if_pos e1.symm] at DY;cases DY
   have e2:¬ nk=q':=fun h=>fx (e1.symm.trans h)
   rw [if_neg e2] at Ox;rw [if_neg (fun h=>e2 h.symm)] at Fl
   rw [fT] at Ox
   split at Ox
   ·cases Ox
   ·rename_i e3
    exact g.rep.ne k q' o oq' pl sI e3 ho Ox uN Fl c1 c2
  ·rw [if_neg e1] at hq;rw [if_neg (fun h=>e1 h.symm)] at DY
   rw [fT] at hq
   split at hq
   ·cases hq
   ·rename_i e3
    by_cases e2:nk=q'
    ·rw [if_pos e2.symm] at Fl;cases Fl
     exact g.rep.ne q k oq o Bj pl (fun h=>e3 h.symm) hq ho DY uN c1 c2
    ·rw [if_neg e2] at Ox;rw [if_neg (fun h=>e2 h.symm)] at Fl
     rw [fT] at Ox
     split at Ox
     ·cases Ox
     ·exact g.rep.ne q q' oq oq' Bj sI fx hq Ox DY Fl c1 c2
 ·intro q oq plq hq DY c1
  rw [bj] at hq
  simp only [ca] at DY
  by_cases e1:nk=q
  ·rw [if_pos e1.symm] at DY;cases DY;exact g.own k o _ ho uN c1
  ·rw [if_neg e1] at hq;rw [if_neg (fun h=>e1 h.symm)] at DY
   exact gd.own q oq plq hq DY c1
 ·intro q hq;rw [ny _ (by omega)];exact g.EO q hq
theorem Good.congr {eV:dD} (g:Good E σ S μ w) (h:∀ n,au eV n=au σ n):Good E eV S μ w :=
 ⟨g.fr,g.S0,g.S1,g.S2,⟨fun k o hk=>g.rep.ob k o (h k ▸ hk),fun k k' o o' pl kn fx hk ph=>g.rep.ne k k' o o' pl kn fx (h k ▸ hk) (h k' ▸ ph)⟩,
  fun k o pl hk=>g.own k o pl (h k ▸ hk),g.EO,g.mx.tr id (fun k i x v ⟨o,pl,h1,h2⟩=>⟨o,pl,h k ▸ h1,h2⟩) (fun _ _ _ _ _ _ _ _ _ _ h=>h) (fun _ h=>h) (fun _ _=>rfl)
   (fun k i x v b _ h hb=>⟨rfl,(g.mx.cQ h hb).2.1,fun h=>h⟩) (fun k o pl h1 h2 h3=>.inl ⟨k,o,pl,h k ▸ h1,h2,h3,rfl⟩)⟩
theorem HQ (g:Good E σ S μ w) (hk:μ nk=none) (hm:E.m0≤nk) {t ty:TypeId} {s x:AV} {vs vx:Value} (hs:ar w S μ vs s) (hx:ar w S μ vx x) {ps:List Prop} {val:AV} {rd:List Nat} {mF:sx}
  (h:rh P nk σ t s x=some (ps,val,rd,mF)) (hp:bq ps):Step P E nk σ S μ w (Builtin.append_ #[t,t] ty #[vs,vx]) val mF:=by
 unfold rh at h
 split at h
 ·rename_i e he
  have he:=k6 he
  split at h
  ·rename_i sz b z su hb hz
   obtain ⟨ie,ER,rfl,rfl,Pd⟩:=wJ su hb hz
   split at h
   ·rename_i n gt pr PO Nc Cy vA
    simp only [bp,Nat.ble_eq] at Cy
    obtain ⟨⟨b1,b2⟩,b3⟩:=Cy
    have b3:=bW b3
    split at h
    ·simp only [aD,aA] at h
     obtain ⟨rfl,rfl,rfl,rfl⟩:=h
     obtain ⟨p1,p2⟩:=hp
     obtain ⟨news,sr⟩:=yj (P:=P) g hx vA p2
     cases hs
     rcases Nat.eq_zero_or_pos n with h0 | h0
     ·subst h0
      have lV:=DI (P:=P) (w:=w) (ty:=ty) (sLen:=0) (sCap:=0) he ER sr.len sr.cells (by omega)
      have ga:Good E (sset σ nk ⟨false,ie.size,0,pr,gt⟩) S (ca μ nk ⟨0,0,ie.size⟩) w:=by
       have Sc:∀ k pl,μ k=some pl→ca μ nk ⟨0,0,ie.size⟩ k=some pl:=fun k pl h=>by
        grind [ca]
       have ex:Ext w S μ w S (ca μ nk ⟨0,0,ie.size⟩):=⟨az _,fun _ h=>h,fun _ _=>rfl,Sc⟩
       have Pw:∀ i,rowOf ⟨false,ie.size,0,pr,gt⟩ i=none:=pZ fun i hi=>absurd hi (dT _)
       refine ⟨g.fr,g.S0,g.S1,g.S2,⟨?_,?_⟩,?_,?_,g.Kb hk _ _ (fun h=>absurd h (by simp)) Pw (fun _ _=>rfl) (fun _ h=>h) (fun _ h=>.inl h)⟩
       ·intro k o ho
        rw [bj] at ho
        by_cases xu:nk=k
        ·rw [if_pos xu] at ho;cases ho
         exact ⟨⟨0,0,ie.size⟩,#[],0,by simp [ca,xu],rfl,fun h=>absurd h (by simp),by simp,by simp,fun h=>absurd h (by simp),fun i h=>absurd h (by simp),fun i j x v h=>absurd h (by simp),fun h=>absurd (show ie.size=0 from h) (by omega)⟩
        ·rw [if_neg xu] at ho
         obtain ⟨pl,c,T,gZ,dh⟩:=g.rep.ob k o ho
         exact ⟨pl,c,T,Sc _ _ gZ,dh.ext ex (fun _=>rfl) dh.out⟩
       ·intro k k' o o' pl kn fx ho wA DY Fl c1 c2
        rw [bj] at ho wA
        simp only [ca] at DY Fl
        by_cases h1:nk=k
        ·grind
        ·by_cases h2:nk=k'
         ·grind
         ·rw [if_neg h1] at ho;rw [if_neg h2] at wA
          rw [if_neg (fun h=>h1 h.symm)] at DY;rw [if_neg (fun h=>h2 h.symm)] at Fl
          exact g.rep.ne k k' o o' pl kn fx ho wA DY Fl c1 c2
       ·intro k o pl ho DY c1
        rw [bj] at ho
        simp only [ca] at DY
        by_cases h1:nk=k
        ·grind
        ·rw [if_neg h1] at ho;rw [if_neg (fun h=>h1 h.symm)] at DY
         exact g.own k o pl ho DY c1
       ·intro k ph
        rw [ny _ (by omega)];exact g.EO k ph
      refine ⟨_,w,S,_,lV,⟨az _,fun _ h=>h,fun _ _=>rfl,?_⟩,ga,fun k ph hn=>by grind [ny],?_⟩
      ·grind [ca]
      simp_all [ar.os,ca,absurd]
     ·have lV:=wP (P:=P) (w:=w) (ty:=ty) (base:=none) (sLen:=0) (sCap:=0) (olds:=[]) he ER Pd (fun w' _=>by simp [Builtin.firstCells]) sr.len sr.cells (by omega) b2 (by simpa using p1)
      simp only [Nat.zero_add] at lV
      have xL:=Fk w n 0 e
      have gg:=g.grow (e:=e) hk hm (sz:=ie.size) (n:=n) (len:=0) (cap:=grownCap w n 0 e) (olds:=[]) (news:=news) (rest:=Builtin.zeroCells z.cells (grownCap w n 0 e - n)) (pr:=pr) (get:=gt)
       (by simp) sr.size (by rw [size_zeroCells,b3,Nat.zero_add]) (by omega) (fun i hi=>sr.ub i (by omega)) (fun i j x u hi hx hu=>sr.rep i j x u (by omega) hx (by simpa using hu)) (by omega)
       (g.Kb hk _ _ (fun _=>az _) (pZ fun i hi=>sr.Sy i (by simp_all)) (fun b h=>fC (w:=w.drew) h) (fun _ h=>h) (fun _ h=>.inl h))
      simp only [Nat.zero_add] at gg
      refine ⟨_,_,S,_,lV,gg.1,gg.2,fun k ph hn=>by grind [ny],?_⟩
      simp_all [ar.os,grownCap,ca]
    ·rename_i k len
     split at h
     ·rename_i o ho
      split at h
      ·rename_i J3
       simp only [bp,Bool.not_eq_true'] at J3
       obtain ⟨J3,Bq⟩:=J3
       have J3:=bW J3
       simp only [aD,aA] at h
       obtain ⟨rfl,rfl,rfl,rfl⟩:=h
       obtain ⟨p0,p1,p2⟩:=hp
       subst p0
       obtain ⟨news,sr⟩:=yj (P:=P) g hx vA p2
       obtain ⟨pl,c,T',uN,dh⟩:=g.rep.ob k o ho
       have xu:k≠nk:=fun h=>by simp_all
       show Step P E nk σ S μ w _ _ [(k,none),(nk,some ⟨false,ie.size,o.len+n,o.pr && pr,fun m=>if m < o.len then o.get m else gt (m - o.len)⟩)]
       have pY:∀ i,i < o.len+n→((fun m=>if m < o.len then o.get m else gt (m - o.len)) i).length=ie.size:=by
        intro i hi
        show (if i < o.len then o.get i else gt (i - o.len)).length=_
        split
        ·rw [dh.ub i (by assumption),J3]
        ·exact sr.ub _ (by omega)
       have W5:∀ {u:Value} {x:AV},ar w S (if o.pr then iW else μ) u x→pr=true∨pr=false→ar w S (if (o.pr && pr)=true then iW else μ) u x:=by
        intro u x hh hp
        rcases hp with hp | hp
        ·simp_all
        ·rw [hp,Bool.and_false];exact iX hh
       have Sz:∀ {u:Value} {x:AV},ar w S (if pr then iW else μ) u x→ar w S (if (o.pr && pr)=true then iW else μ) u x:=by
        intro u x hh
        cases hp:o.pr
        ·rw [Bool.false_and];exact iX hh
        ·rw [Bool.true_and];exact hh
       have prb:pr=true∨pr=false:=by cases pr<;>simp
       have wG:∀ i x,rowOf ⟨false,ie.size,o.len+n,o.pr && pr,fun m=>if m < o.len then o.get m else gt (m - o.len)⟩ i=some x→rowOf o i=some x:=by
        intro i x hx
        obtain ⟨_,q2,q3⟩:=di hx
        have q2:i < o.len+n:=q2
        have q3:(if i < o.len then o.get i else gt (i - o.len))=[.mr x.1 x.2.1 x.2.2]:=q3
        split at q3
        ·rename_i h1;exact k5 Bq h1 q3
        ·have:=sr.Sy (i - o.len) (by omega)
         rw [q3] at this;cases this
       cases hs with
       | os kn gZ h1 h2 h3 =>
        rename_i cap a
        rw [uN] at gZ;cases gZ
        by_cases Kk:o.len+n≤cap
        ·rcases Nat.eq_zero_or_pos cap with yk | yk
         ·have Sb:n=0:=by omega
          have Kg:o.len=0:=by omega
          subst Sb
          have Uu:news=[]:=List.length_eq_zero_iff.1 (by rw [sr.size];simp)
          have lV:(Builtin.append_ #[t,t] ty #[.slice a o.len cap,vx]).run P w=.ok (.slice a (o.len+0) cap) w:=by
           subst yk
           cases a with
           | none=>exact DI (P:=P) (w:=w) (ty:=ty) he ER sr.len sr.cells (by omega)
           | some a =>
            have e1:=sr.cells w rfl
            rw [Uu] at e1
            simp [Builtin.append_,run_underlying he,sizeOf,typeInfo,ER,sr.len,Kg,e1,storeCells]
          have gm:=g.move hk hm ho uN ⟨false,ie.size,o.len+0,o.pr && pr,fun m=>if m < o.len then o.get m else gt (m - o.len)⟩ (c:=c) (T:=T')
           ⟨dh.sz.trans J3,J3 ▸ dh.cQ,J3 ▸ dh.cap,dh.len,dh.out,pY,fun i j x v hi=>absurd hi (by show ¬ i < o.len+0;omega),fun h=>absurd (show ie.size=0 from h) (by omega)⟩ wG
          exact ⟨_,w,S,ca μ nk pl,lV,gm.1,gm.2,fun k ph hn=>by rw [ny _ ph];exact hn,ar.os pl (by simp [ca]) h1 (by omega) h3⟩
         ·have ha:=h1 yk
          simp only [Nat.zero_mul] at ha
          subst ha
          have wz:0 < pl.cap:=by omega
          have xM:o.len * ie.size+news.length≤c.size:=by
           have e1:(o.len+n) * ie.size≤pl.cap * ie.size:=dS _ (by omega)
           have e2:=dh.cap
           rw [J3] at e2
           rw [sr.size,← cD];omega
          have lV:=Fj (P:=P) (w:=w) (ty:=ty) he ER ((dh.cQ wz).trans (by rw [fO (by omega)])) sr.len sr.cells sr.one Kk xM
          generalize oU:(c.toList.take (o.len * ie.size) ++ news ++ c.toList.drop (o.len * ie.size+news.length)).toArray=c' at lV
          have yh:(c.toList.take (o.len * ie.size)).length=o.len * ie.size:=by simp;omega
          have IZ:c'.size=c.size:=by
           rw [← oU]
           simp;omega
          have qB:∀ m,m < o.len * ie.size+news.length→c'[m]?=if m < o.len * ie.size then c[m]? else news[m - o.len * ie.size]?:=by
           intro m hm
           rw [← oU]
           simp only [List.getElem?_toArray]
           rw [iH (by simp;omega)]
           by_cases h1:m < o.len * ie.size
           ·rw [iH (by omega),pW,if_pos h1,if_pos h1]
            simp
           ·rw [jS (by omega),yh,if_neg h1]
          have gw:=g.write ho uN wz dh (by omega) ⟨false,ie.size,o.len+n,o.pr && pr,fun m=>if m < o.len then o.get m else gt (m - o.len)⟩ c' J3.symm IZ (by show o.len+n≤_;omega) pY (by
           intro i j x v hi hx hv
           have hi:i < o.len+n:=hi
           have hx:(if i < o.len then o.get i else gt (i - o.len))[j]?=some x:=hx
           have hj:j < ie.size:=by
            have e1:=(dU.1 hx).1
            have e2:(if i < o.len then o.get i else gt (i - o.len)).length=ie.size:=pY i hi
            omega
           have hv:c'[i * ie.size+j]?=some v:=hv
           have ss:(i+1) * ie.size≤(o.len+n) * ie.size:=dS _ hi
           rw [cD,cD] at ss
           rw [qB _ (by rw [sr.size];omega)] at hv
           by_cases G9:i < o.len
           ·have pB:(i+1) * ie.size≤o.len * ie.size:=dS _ G9
            rw [cD] at pB
            rw [if_pos (by omega)] at hv
            rw [if_pos G9] at hx
            exact W5 (dh.rep i j x v G9 hx (by rw [J3];exact hv)) prb
           ·have pB:o.len * ie.size≤i * ie.size:=dS _ (by omega)
            rw [if_neg (by omega)] at hv
            rw [if_neg G9] at hx
            refine Sz (sr.rep (i - o.len) j x v (by omega) hx ?_)
            rw [← hv,Nat.sub_mul];congr 1;omega) (fun i x hx=>⟨wG i x hx,by
           obtain ⟨_,q2,_⟩:=di (wG i x hx)
           have pB:(i+1) * ie.size≤o.len * ie.size:=dS _ q2
           rw [cD] at pB
           rw [J3,qB _ (by omega),if_pos (by omega)]⟩)
          obtain ⟨W6,Ve⟩:=gw
          have hsk:au (sset σ k ⟨false,ie.size,o.len+n,o.pr && pr,fun m=>if m < o.len then o.get m else gt (m - o.len)⟩) k=some ⟨false,ie.size,o.len+n,o.pr && pr,fun m=>if m < o.len then o.get m else gt (m - o.len)⟩:=by
           rw [bj,if_pos rfl]
          obtain ⟨Yz,c3,T3,M7,Zp⟩:=Ve.rep.ob k _ hsk
          rw [uN] at M7;cases M7
          have gm:=Ve.move hk hm hsk uN _ Zp (fun _ _ h=>h)
          refine ⟨_,_,S,ca μ nk pl,lV,W6.trans gm.1,gm.2.congr ?_,fun k ph hn=>by rw [ny _ ph];exact hn,ar.os pl (by simp [ca]) (by simp) Kk h3⟩
          intro n
          show au (sset (vw σ k) nk _) n=_
          rw [bj,bj,fT,fT,bj]
          split
          ·rfl
          ·split
           ·rfl
           ·rfl
        ·have hg:cap < o.len+n:=by omega
         have holds:∃ olds:List Value,olds.length=o.len * ie.size∧(∀ w':World,w'.heap=w.heap→(Builtin.firstCells ie.size o.len (.slice a o.len cap)).run P w'=.ok olds.toArray w') ∧
           (∀ (q:Nat) (u:Value),olds[q]?=some u→c[q]?=some u):=by
          rcases Nat.eq_zero_or_pos o.len with Kg | Kg
          ·refine ⟨[],by simp [Kg],fun w' _=>?_,by simp⟩
           rw [Kg]
           cases a with
           | none=>simp [Builtin.firstCells]
           | some a=>simp [Builtin.firstCells,loadCells,loadCellsFrom]
          ·have wz:0 < pl.cap:=by have:=dh.len;omega
           have ha:=h1 (by omega)
           simp only [Nat.zero_mul] at ha
           subst ha
           have hle:o.len * ie.size≤c.size:=by
            have e1:o.len * ie.size≤pl.cap * ie.size:=dS _ dh.len
            have e2:=dh.cap
            rw [J3] at e2;omega
           refine ⟨c.toList.take (o.len * ie.size),by simp;omega,fun w' Zq=>?_,?_⟩
           ·refine run_firstCells_some w' ie.size o.len _ o.len cap _ (by simp;omega) ?_
            intro q u hq
            rw [Addr.add_lit,Nat.zero_add,cell_of_row w' _ _ _ _ _ (by rw [Zq];exact (dh.cQ wz).trans (by rw [fO (by omega)]))]
            rw [pW] at hq
            split at hq
            ·simpa using hq
            ·cases hq
           ·intro q u hq
            rw [pW] at hq
            split at hq
            ·simpa using hq
            ·cases hq
         obtain ⟨olds,WA,hoc,hoo⟩:=holds
         have lV:=wP (P:=P) (w:=w) (ty:=ty) he ER Pd hoc sr.len sr.cells hg b2 p1
         have xL:=Fk w (o.len+n) cap e
         have gd:=g.del k
         have gg:=gd.grow (e:=e) hk hm (sz:=ie.size) (n:=n) (len:=o.len) (cap:=grownCap w (o.len+n) cap e) (olds:=olds) (news:=news)
          (rest:=Builtin.zeroCells z.cells (grownCap w (o.len+n) cap e - (o.len+n))) (pr:=o.pr && pr) (get:=fun m=>if m < o.len then o.get m else gt (m - o.len))
          WA sr.size (by rw [size_zeroCells,b3]) xL pY (by
           intro i j x u hi hx hu
           have hx:(if i < o.len then o.get i else gt (i - o.len))[j]?=some x:=hx
           have hj:j < ie.size:=by
            have e1:=(dU.1 hx).1
            have e2:(if i < o.len then o.get i else gt (i - o.len)).length=ie.size:=pY i hi
            omega
           by_cases G9:i < o.len
           ·have pB:(i+1) * ie.size≤o.len * ie.size:=dS _ G9
            rw [cD] at pB
            rw [if_pos G9] at hx
            rw [iH (by omega)] at hu
            exact W5 (dh.rep i j x u G9 hx (by rw [J3];exact hoo _ _ hu)) prb
           ·have pB:o.len * ie.size≤i * ie.size:=dS _ (by omega)
            rw [if_neg G9] at hx
            rw [jS (by omega),WA] at hu
            refine Sz (sr.rep (i - o.len) j x u (by omega) hx ?_)
            rw [← hu,Nat.sub_mul];congr 1;omega) (by omega) (by
          have PQ:∀ b,b < w.heap.size→(w.drew.alloc (.cells (olds.toArray ++ news.toArray ++ Builtin.zeroCells z.cells (grownCap w (o.len+n) cap e - (o.len+n))) e)).heap[b]?=w.heap[b]?:=fun b h=>fC (w:=w.drew) h
          have zZ:∀ {q:Nat} {o2:Ob} {sI:Place},au σ q=some o2→μ q=some sI→0 < sI.cap→sI.cQ < w.heap.size:=fun {q o2 sI} h1 h2 h3=>by
           obtain ⟨Yz,c3,T3,M7,LR⟩:=g.rep.ob q o2 h1
           rw [h2] at M7;cases M7
           exact gC (LR.cQ h3)
          refine g.mx.tr (fun q=>if q=nk then k else q) (fun q i x v h=>?_) (fun q i x v q' i' x' v' h h' he=>?_) (fun _ h=>h) (fun b hb=>PQ b (g.S1 b hb)) (fun q i x v b _ h hb=>?_) (fun q o2 sI h1 h2 h3=>?_)
          ·obtain ⟨o2,sI,h1,h2,h3,h4⟩:=h
           rw [bj] at h1
           unfold ca at h3
           by_cases hq:nk=q
           ·rw [if_pos hq] at h1;cases h1
            rw [if_pos hq.symm] at h3;cases h3
            show je w μ σ (if q=nk then k else q) i x v
            rw [if_pos hq.symm]
            have hr:=wG i x h2
            obtain ⟨_,q2,_⟩:=di hr
            refine ⟨o,pl,ho,hr,uN,?_⟩
            have wz:0 < pl.cap:=by have:=dh.len;omega
            have pB:(i+1) * ie.size≤o.len * ie.size:=dS _ q2
            rw [cD] at pB
            have h4:(w.drew.alloc (.cells (olds.toArray ++ news.toArray ++ Builtin.zeroCells z.cells (grownCap w (o.len+n) cap e - (o.len+n))) e)).cell? ⟨w.drew.heap.size,i * ie.size,none⟩=some v:=h4
            rw [cell_of_row _ _ _ _ _ _ (heap_alloc_new w.drew _)] at h4
            rw [Array.getElem?_append_left (by simp;omega),Array.getElem?_append_left (by simp;omega)] at h4
            rw [cell_of_row w _ _ _ _ _ ((dh.cQ wz).trans (by rw [fO (by omega)])),dh.sz,J3]
            exact hoo _ _ (by simpa using h4)
           ·rw [if_neg hq,fT] at h1
            rw [if_neg (fun h=>hq h.symm)] at h3
            split at h1
            ·cases h1
            ·show je w μ σ (if q=nk then k else q) i x v
             rw [if_neg (fun h=>hq h.symm)]
             refine ⟨o2,sI,h1,h2,h3,?_⟩
             obtain ⟨Yz,c3,T3,M7,LR⟩:=g.rep.ob q o2 h1
             rw [h3] at M7;cases M7
             rw [← h4]
             exact (rf (PQ _ (gC (LR.cQ (by have:=(di h2).2.1;have:=LR.len;omega)))) _).symm
          ·have he:(if q=nk then k else q)=(if q'=nk then k else q'):=he
           have Ha:∀ {q i x v},je (w.drew.alloc (.cells (olds.toArray ++ news.toArray ++ Builtin.zeroCells z.cells (grownCap w (o.len+n) cap e - (o.len+n))) e)) (ca μ nk ⟨w.heap.size,grownCap w (o.len+n) cap e,ie.size⟩) (sset (vw σ k) nk ⟨false,ie.size,o.len+n,o.pr && pr,fun m=>if m < o.len then o.get m else gt (m - o.len)⟩) q i x v→q≠nk→q≠k:=by
            rintro q i x v ⟨o2,_,h1,_⟩ hq rfl
            rw [bj,if_neg (fun h=>hq h.symm),fT,if_pos rfl] at h1
            cases h1
           by_cases h1:q=nk<;>by_cases h3:q'=nk
           ·exact h1.trans h3.symm
           ·rw [if_pos h1,if_neg h3] at he;exact absurd he.symm (Ha h' h3)
           ·rw [if_neg h1,if_pos h3] at he;exact absurd he (Ha h h1)
           ·rw [if_neg h1,if_neg h3] at he;exact he
          ·obtain ⟨q1,q2,q3,_⟩:=g.mx.cQ h hb
           exact ⟨PQ b q1,q2,fun h=>h⟩
          ·rw [bj] at h1
           unfold ca at h2
           by_cases hq:nk=q
           ·rw [if_pos hq.symm] at h2;cases h2
            exact .inr (az _)
           ·rw [if_neg hq,fT] at h1
            rw [if_neg (fun h=>hq h.symm)] at h2
            split at h1
            ·cases h1
            ·exact .inl ⟨q,o2,sI,h1,h2,h3,rfl⟩)
         refine ⟨_,_,S,_,lV,gg.1,gg.2,fun k ph hn=>by rw [ny _ ph];exact hn,?_⟩
         exact ar.os ⟨w.heap.size,grownCap w (o.len+n) cap e,ie.size⟩ (by simp [ca]) (by simp) xL (by simp)
      ·cases h
     ·cases h
    ·cases h
   ·cases h
  ·cases h
 ·cases h
end
end Go.Ab
