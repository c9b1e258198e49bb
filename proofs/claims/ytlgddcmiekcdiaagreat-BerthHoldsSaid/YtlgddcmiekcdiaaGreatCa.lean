/- Abstract values over the heap of the machine, and functions read off its code (part 1). No conditions. -/
import Derived.Orders
import Derived.Laws.Cells
import Derived.Laws.World
import Derived.Laws.Rows
import Derived.Laws.Sem
import Derived.KernelRfl
import Derived.Laws.CopyRow
import Derived.Laws.AppendOwn
import Derived.Laws.MakeOwn
import Derived.Laws.StructEq
import Derived.Great.BuildSlice
import Derived.Deep.MidRow
set_option linter.unusedVariables false
set_option linter.unusedSimpArgs false
namespace Go
abbrev aE:=@Option.map_eq_some_iff
abbrev aA:=@Option.some.injEq
abbrev bj:=@Nat.eq_of_beq_eq_true
abbrev ax:=@Prod.mk.injEq
abbrev aR:=@Bool.and_eq_true
abbrev cJ:=@List.getElem?_eq_some_iff
abbrev ft:=@List.getD_eq_getElem?_getD
abbrev dG:=@Option.bind_some
abbrev eb:=@List.length_replicate
abbrev rk:=@Array.getD_eq_getD_getElem?
abbrev gG:=@Array.getElem?_eq_getElem
abbrev gH:=@List.getElem?_append_left
abbrev iW:=@List.getElem?_append_right
abbrev cG:=@Nat.mul_le_mul_right
abbrev iv:=@Int.mul_le_mul_of_nonneg_right
abbrev bc:=@Sem.run_bind
abbrev jy:=@List.take_of_length_le
abbrev n7:=@List.getElem?_eq_getElem
abbrev b7:=@Result.andThen_ok
abbrev a7:=@Nat.le_refl
abbrev x6:=@Bool.and_eq_true_iff
abbrev n8:=@List.getElem?_eq_none
abbrev iw:=@Nat.not_lt_zero
abbrev pe:=@of_decide_eq_true
abbrev pf:=@of_decide_eq_false
abbrev nb:=@Nat.lt_of_lt_of_le
abbrev gp:=@Nat.le_trans
abbrev kU:=@List.length_append
abbrev vY:=@List.length_cons
abbrev Bv:=@List.getElem?_cons_succ
abbrev pg:=@Int.mul_le_mul_of_nonneg_left
abbrev nc:=@List.length_take
abbrev nf:=@List.getElem?_drop
abbrev ph:=@List.getElem?_take
abbrev jW:=@List.mem_cons
abbrev bL:=@Nat.add_mul
abbrev ng:=@Nat.mul_comm
abbrev gI:=@Int.mul_add
abbrev db:=@Int.add_mul
abbrev fI:=@Int.mul_comm
abbrev jz:=@Int.mul_assoc
end Go
namespace Go.Ab
inductive AV where
 | atom (v:Value)
 | agg (cs:List AV)
 | tup (cs:List AV)
 | sl (len:Nat) (get:Nat→List AV)
 | rp (cs:List AV) (off:Nat)
 | op (k i j:Nat)
 | os (k off len:Nat)
 | fn (f:Fn) (first cap:List AV)
 | when (b:Bool) (v:AV)
 | mp (k:Nat)
 | bn (n:Nat)
 | pt (b:Bool) (cs:List AV)
 | ov (k i j m n:Nat)
 | za (k off len:Nat)
 | nq (st:Option Bool) (x:AV)
 | nil
 | k6
 | mr (sz len:Nat) (get:Nat→List AV)
 deriving Inhabited
structure Place where
 bR:Nat
 cap:Nat
 sz:Nat
abbrev Mu:=Nat→Option Place
def fw:Mu:=fun _=>none
def J5:Value→Bool
 | .slice none _ _=>true
 | _=>false
inductive an (w:World) (S:Nat→Prop):Mu→Value→AV→Prop where
 | atom {μ:Mu} (v:Value):an w S μ v (.atom v)
 | agg {μ:Mu} {vs:Array Value} {cs:List AV}:vs.size=cs.length →
   (∀ (j:Nat) (c:AV) (v:Value),cs[j]?=some c→vs[j]?=some v→an w S μ v c)→an w S μ (.agg vs) (.agg cs)
 | tup {μ:Mu} {vs:Array Value} {cs:List AV}:vs.size=cs.length →
   (∀ (j:Nat) (c:AV) (v:Value),cs[j]?=some c→vs[j]?=some v→an w S μ v c)→an w S μ (.tuple vs) (.tup cs)
 | sl {μ:Mu} {a:Option Addr} {len cap:Nat} {get:Nat→List AV} (b off sz:Nat) (f:Nat→Nat→Value) :
   (0 < len→a=some ⟨b,off,none⟩∧S b)→(∀ i,i < len→(get i).length=sz) →
   (∀ i j,i < len→j < sz→w.cell? ⟨b,off+i * sz+j,none⟩=some (f i j)) →
   (∀ i j c,i < len→(get i)[j]?=some c→an w S fw (f i j) c)→len≤cap→an w S μ (.slice a len cap) (.sl len get)
 | rp {μ:Mu} {cs:List AV} {off:Nat} (b o:Nat) (f:Nat→Value):S b →
   (∀ j,j < cs.length→w.cell? ⟨b,o+j,none⟩=some (f j)) →
   (∀ j c,cs[j]?=some c→an w S fw (f j) c)→an w S μ (.pointer (some ⟨b,o+off,none⟩)) (.rp cs off)
 | op {μ:Mu} {k i j:Nat} (pl:Place):μ k=some pl→an w S μ (.pointer (some ⟨pl.bR,i * pl.sz+j,none⟩)) (.op k i j)
 | os {μ:Mu} {k off len cap:Nat} {a:Option Addr} (pl:Place):μ k=some pl →
   (0 < cap→a=some ⟨pl.bR,off * pl.sz,none⟩)→len≤cap→off+cap=pl.cap→an w S μ (.slice a len cap) (.os k off len)
 | fn {μ:Mu} {f:Fn} {vs ws:Array Value} {first cap:List AV}:vs.size=first.length→ws.size=cap.length →
   (∀ (j:Nat) (c:AV) (v:Value),first[j]?=some c→vs[j]?=some v→an w S μ v c) →
   (∀ (j:Nat) (c:AV) (v:Value),cap[j]?=some c→ws[j]?=some v→an w S μ v c)→an w S μ (.func f vs ws) (.fn f first cap)
 | when {μ:Mu} {b:Bool} {v:Value} {x:AV}:(b=true→an w S μ v x)→(b=false→v=undef)→an w S μ v (.when b x)
 | mp {μ:Mu} {k:Nat} (pl:Place):μ k=some pl→an w S μ (.map (some pl.bR)) (.mp k)
 | bn {μ:Mu} {n:Nat} (b:Bool):(b=true→n=0)→an w S μ (.bool b) (.bn n)
 | pt {μ:Mu} {b:Bool} {cs:List AV} {v:Value}:(b=true→an w S μ v (.rp cs 0))→(b=false→v=.pointer none)→an w S μ v (.pt b cs)
 | ov {μ:Mu} {k i j m n:Nat} (pl:Place):μ k=some pl→n < m→an w S μ (.pointer (some ⟨pl.bR,i * pl.sz+(j+n),none⟩)) (.ov k i j m n)
 | za {μ:Mu} {k off len:Nat} {a:Option Addr} (pl:Place):μ k=some pl→(0 < len→a=some ⟨pl.bR,off * pl.sz,none⟩)→off+len=pl.cap→an w S μ (.slice a len len) (.za k off len)
 | nq {μ:Mu} {st:Option Bool} {v:Value} {x:AV}:an w S μ v x→(st=some true→v=.slice none 0 0)→(st=some false→J5 v=false)→an w S μ v (.nq st x)
 | nil {μ:Mu}:an w S μ (.slice none 0 0) .nil
 | k6 {μ:Mu} {v:Value}:an w S μ v .k6
 | mr {μ:Mu} {v:Value} {sz len:Nat} {get:Nat→List AV}:an w S μ v (.mr sz len get)
structure Ext (w:World) (S:Nat→Prop) (μ:Mu) (w':World) (S':Nat→Prop) (cu:Mu):Prop where
 size:w.heap.size≤w'.heap.size
 EI:∀ b,S b→S' b
 bR:∀ b,S b→w'.heap[b]?=w.heap[b]?
 mu:∀ k pl,μ k=some pl→cu k=some pl
theorem Ext.refl (w:World) (S:Nat→Prop) (μ:Mu):Ext w S μ w S μ:=⟨a7 _,fun _ h=>h,fun _ _=>rfl,fun _ _ h=>h⟩
theorem Ext.trans {w w' P0:World} {S S' xX:Nat→Prop} {μ cu BM:Mu} (h:Ext w S μ w' S' cu) (k:Ext w' S' cu P0 xX BM):Ext w S μ P0 xX BM :=
 ⟨gp h.size k.size,fun b hb=>k.EI b (h.EI b hb),fun b hb=>(k.bR b (h.EI b hb)).trans (h.bR b hb),fun i pl hi=>k.mu i pl (h.mu i pl hi)⟩
theorem oj {w w':World} {b:Nat} (h:w'.heap[b]?=w.heap[b]?) (o:Nat):w'.cell? ⟨b,o,none⟩=w.cell? ⟨b,o,none⟩:=by
 simp [World.cell?,h]
theorem an.mono {w w':World} {S S':Nat→Prop} (hS:∀ b,S b→S' b) (hb:∀ b,S b→w'.heap[b]?=w.heap[b]?) {μ:Mu} {v:Value} {x:AV} (h:an w S μ v x) :
  ∀ {cu:Mu},(∀ k pl,μ k=some pl→cu k=some pl)→an w' S' cu v x:=by
 induction h with
 | atom v=>exact fun _=>.atom v
 | agg h1 _ ih=>grind [agg]
 | tup h1 _ ih=>grind [tup]
 | @sl μ a len cap get b off sz f h1 h2 h3 _ h5 ih =>
  intro cu _
  refine .sl b off sz f (fun hl=>⟨(h1 hl).1,hS _ (h1 hl).2⟩) h2 ?_ (fun i j c hi hc=>ih i j c hi hc fun _ _ h=>h) h5
  grind [oj]
 | @rp μ cs off b o f h1 h2 _ ih =>
  intro cu _
  refine .rp b o f (hS _ h1) ?_ (fun j c hc=>ih j c hc fun _ _ h=>h)
  grind [oj]
 | op pl h=>grind [op]
 | os pl h h1 h2 h3=>grind [os]
 | fn h1 h2 _ _ Jg Jh=>grind [fn]
 | when _ hu ih=>grind [when]
 | mp pl h=>grind [mp]
 | bn b h=>exact fun _=>.bn b h
 | pt _ h2 ih=>grind [pt]
 | ov pl h h1=>grind [ov]
 | za pl h h1 h2=>grind [za]
 | nq _ h1 h2 ih=>grind [nq]
 | nil=>exact fun _=>.nil
 | k6=>exact fun _=>.k6
 | mr=>exact fun _=>.mr
theorem an.ext {w w':World} {S S':Nat→Prop} {μ cu:Mu} {v:Value} {x:AV} (h:an w S μ v x) (e:Ext w S μ w' S' cu):an w' S' cu v x :=
 h.mono e.EI e.bR e.mu
mutual
def AV.pure:AV→Bool
 | .atom _ | .sl _ _ | .rp _ _ | .bn _ | .pt _ _ | .nil | .k6=>true
 | .agg cs | .tup cs=>AV.jQ cs
 | .fn _ a b=>AV.jQ a && AV.jQ b
 | .when _ v=>v.pure
 | .nq _ v=>v.pure
 | .op _ _ _ | .os _ _ _ | .mp _ | .ov _ _ _ _ _ | .za _ _ _ | .mr _ _ _=>false
def AV.jQ:List AV→Bool
 | []=>true
 | c :: cs=>c.pure && AV.jQ cs
end
mutual
def AV.flat:AV→Bool
 | .atom _ | .bn _ | .nil=>true
 | .agg cs | .tup cs=>AV.uS cs
 | .fn _ a b=>AV.uS a && AV.uS b
 | _=>false
def AV.uS:List AV→Bool
 | []=>true
 | c :: cs=>c.flat && AV.uS cs
end
theorem pL {cs:List AV} (h:AV.jQ cs=true) {j:Nat} {c:AV} (hc:cs[j]?=some c):c.pure=true:=by
 induction cs generalizing j with
 | nil=>simp at hc
 | cons x xs ih =>
  simp only [AV.jQ,aR] at h
  grind
theorem r8 {cs:List AV} (h:AV.uS cs=true) {j:Nat} {c:AV} (hc:cs[j]?=some c):c.flat=true:=by
 induction cs generalizing j with
 | nil=>simp at hc
 | cons x xs ih =>
  simp only [AV.uS,aR] at h
  grind
theorem an.pure {w:World} {S:Nat→Prop} {μ:Mu} {v:Value} {x:AV} (h:an w S μ v x):x.pure=true→∀ cu,an w S cu v x:=by
 induction h with
 | atom v=>exact fun _ _=>.atom v
 | agg h1 _ ih=>grind [agg,pL,AV.pure]
 | tup h1 _ ih=>grind [tup,pL,AV.pure]
 | sl b off sz f h1 h2 h3 h4 h5 _=>exact fun _ _=>.sl b off sz f h1 h2 h3 h4 h5
 | rp b o f h1 h2 h3 _=>simp_all [rp]
 | op pl h=>grind [AV.pure]
 | os pl h h1 h2 h3=>grind [AV.pure]
 | fn h1 h2 _ _ Jg Jh =>
  intro hp cu
  simp only [AV.pure,aR] at hp
  grind [fn,pL]
 | when _ hu ih=>grind [when,AV.pure]
 | mp pl h=>grind [AV.pure]
 | bn b h=>exact fun _ _=>.bn b h
 | pt _ h2 ih=>exact fun _ cu=>.pt (fun hb=>ih hb rfl cu) h2
 | ov=>grind [AV.pure]
 | za=>grind [AV.pure]
 | nq _ h1 h2 ih=>grind [nq,AV.pure]
 | nil=>exact fun _ _=>.nil
 | k6=>exact fun _ _=>.k6
 | mr=>grind [AV.pure]
theorem an.flat {w:World} {S:Nat→Prop} {μ:Mu} {v:Value} {x:AV} (h:an w S μ v x):x.flat=true→∀ w' S' cu,an w' S' cu v x:=by
 induction h with
 | atom v=>grind [atom]
 | agg h1 _ ih=>grind [agg,r8,AV.flat]
 | tup h1 _ ih=>grind [tup,r8,AV.flat]
 | sl=>grind [AV.flat]
 | rp=>grind [AV.flat]
 | op=>grind [AV.flat]
 | os=>grind [AV.flat]
 | fn h1 h2 _ _ Jg Jh =>
  intro hp w' S' cu
  simp only [AV.flat,aR] at hp
  grind [fn,r8]
 | when=>grind [AV.flat]
 | mp=>grind [AV.flat]
 | bn b h=>grind [bn]
 | pt=>grind [AV.flat]
 | ov=>grind [AV.flat]
 | za=>grind [AV.flat]
 | nq=>grind [AV.flat]
 | nil=>exact fun _ _ _ _=>.nil
 | k6=>grind [AV.flat]
 | mr=>grind [AV.flat]
structure Ob where
 var:Bool
 sz:Nat
 len:Nat
 pr:Bool
 get:Nat→List AV
abbrev cz:=List (Nat×Ob)
def ar:cz→Nat→Option Ob
 | [],_=>none
 | (k,o) :: r,n=>match Nat.beq k n with
  | true=>some o
  | false=>ar r n
def sset:cz→Nat→Ob→cz
 | [],k,o=>[(k,o)]
 | (a,x) :: r,k,o=>match Nat.beq a k with
  | true=>(a,o) :: r
  | false=>(a,x) :: sset r k o
def r9:cz→Nat→cz
 | [],_=>[]
 | (a,x) :: r,k=>match Nat.beq a k with
  | true=>r9 r k
  | false=>(a,x) :: r9 r k
theorem oV {a b:Nat} (h:a=b):Nat.beq a b=true:=by simp_all
theorem mQ {a b:Nat} (h:¬ a=b):Nat.beq a b=false:=Bool.eq_false_iff.2 fun e=>h (bj e)
theorem aP (σ:cz) (k n:Nat) (o:Ob):ar (sset σ k o) n=if k=n then some o else ar σ n:=by
 induction σ with
 | nil =>
  simp only [sset,ar]
  by_cases h:k=n
  ·rw [oV h,if_pos h]
  ·rw [mQ h,if_neg h]
 | cons x r ih =>
  obtain ⟨a,x⟩:=x
  simp only [sset]
  by_cases ha:a=k
  ·rw [oV ha]
   simp only [ar]
   subst ha
   by_cases h:a=n
   ·rw [oV h,if_pos h]
   ·rw [mQ h,if_neg h]
  ·rw [mQ ha]
   simp only [ar,ih]
   by_cases hn:a=n
   ·grind
   ·rw [mQ hn]
theorem dY (σ:cz) (k n:Nat):ar (r9 σ k) n=if k=n then none else ar σ n:=by
 induction σ with
 | nil=>simp [r9,ar]
 | cons x r ih =>
  obtain ⟨a,x⟩:=x
  simp only [r9]
  by_cases ha:a=k
  ·simp_all [oV,ar,if_pos,mQ]
  ·rw [mQ ha]
   simp only [ar,ih]
   by_cases hn:a=n
   ·grind
   ·rw [mQ hn]
def dL:cz→List (Nat×Option Ob)→cz
 | σ,[]=>σ
 | σ,(k,some o) :: r=>dL (sset σ k o) r
 | σ,(k,none) :: r=>dL (r9 σ k) r
def eP (c:Array Value):Array MapEntry:=(Array.range (c.size / 2)).map fun i=>⟨c[2 * i]?.getD undef,c[2 * i+1]?.getD undef,i⟩
def xd (sz:Nat) (c:Array Value) (T:TypeId):Obj :=
 match sz with
 | 0=>.map (eP c) (c.size / 2)
 | _+1=>.cells c T (0,0)
theorem dS {sz:Nat} (h:sz≠0) (c:Array Value) (T:TypeId):xd sz c T=.cells c T (0,0):=by
 cases sz with
 | zero=>exact absurd rfl h
 | succ n=>rfl
theorem xe {sz:Nat} (h:sz=0) (c:Array Value) (T:TypeId):xd sz c T=.map (eP c) (c.size / 2):=by subst h;rfl
structure eJ (w:World) (S:Nat→Prop) (μ:Mu) (o:Ob) (pl:Place) (c:Array Value) (T:TypeId):Prop where
 sz:pl.sz=o.sz
 bR:0 < pl.cap→w.heap[pl.bR]?=some (xd o.sz c T)
 cap:pl.cap * o.sz≤c.size
 len:o.len≤pl.cap
 out:0 < pl.cap→¬ S pl.bR
 qK:∀ i,i < o.len→(o.get i).length=o.sz
 rep:∀ i j x v,i < o.len→(o.get i)[j]?=some x→c[i * o.sz+j]?=some v→an w S (if o.pr then fw else μ) v x
 mp:o.sz=0→0 < pl.cap∧c.size % 2=0∧c.size=(o.get 0).length∧o.pr=true∧∀ (j:Nat) x v,(o.get 0)[j]?=some x→c[j]?=some v→an w S fw v x
structure Qm (w:World) (S:Nat→Prop) (μ:Mu) (σ:cz):Prop where
 ob:∀ k o,ar σ k=some o→∃ pl c T,μ k=some pl∧eJ w S μ o pl c T
 ne:∀ k k' o o' pl hH,k≠k'→ar σ k=some o→ar σ k'=some o'→μ k=some pl→μ k'=some hH→0 < pl.cap→0 < hH.cap→pl.bR≠hH.bR
theorem eJ.ext {w w':World} {S S':Nat→Prop} {μ cu:Mu} {o:Ob} {pl:Place} {c:Array Value} {T:TypeId} (h:eJ w S μ o pl c T) (e:Ext w S μ w' S' cu)
  (hb:0 < pl.cap→w'.heap[pl.bR]?=w.heap[pl.bR]?) (ho:0 < pl.cap→¬ S' pl.bR):eJ w' S' cu o pl c T :=
 { h with
  bR:=fun hc=>(hb hc).trans (h.bR hc)
  out:=ho
  rep:=fun i j x v hi hx hv=>(h.rep i j x v hi hx hv).mono e.EI e.bR (by
   cases o.pr
   ·exact e.mu
   ·exact fun _ _ h=>h)
  mp:=fun hz=>let ⟨h0,h1,h2,h3,h4⟩:=h.mp hz
   ⟨h0,h1,h2,h3,fun j x v hx hv=>(h4 j x v hx hv).mono e.EI e.bR (fun _ _ h=>h)⟩ }
def rowOf (o:Ob) (i:Nat):Option (Nat×Nat×(Nat→List AV)) :=
 match o.var,o.get i with
 | false,[.mr sz len g]=>if i < o.len then some (sz,len,g) else none
 | _,_=>none
def FT (fp:Nat→Prop) (n0:Nat) (w:World) (S:Nat→Prop) (v:Value) (x:Nat×Nat×(Nat→List AV)):Prop :=
 ∃ a cap,v=.slice a x.2.1 cap∧x.2.1≤cap∧(1≤x.1∧∀ j,rowOf ⟨false,x.1,x.2.1,true,x.2.2⟩ j=none)∧(0 < cap→∃ b c T,a=some ⟨b,0,none⟩∧eJ w S fw ⟨false,x.1,x.2.1,true,x.2.2⟩ ⟨b,cap,x.1⟩ c T∧(fp b∨n0≤b))
def ptrTo (v:Value) (b:Nat):Prop:=∃ len cap,v=.slice (some ⟨b,0,none⟩) len cap∧0 < cap
def fJ (w:World) (μ:Mu) (σ:cz) (k i:Nat) (x:Nat×Nat×(Nat→List AV)) (v:Value):Prop :=
 ∃ o pl,ar σ k=some o∧rowOf o i=some x∧μ k=some pl∧w.cell? ⟨pl.bR,i * pl.sz,none⟩=some v
structure MX (fp:Nat→Prop) (n0:Nat) (w:World) (S:Nat→Prop) (μ:Mu) (σ:cz):Prop where
 row:∀ k i x v,fJ w μ σ k i x v→FT fp n0 w S v x
 obj:∀ k i x v b,fJ w μ σ k i x v→ptrTo v b→∀ k' o' hH,ar σ k'=some o'→μ k'=some hH→0 < hH.cap→hH.bR≠b
 two:∀ k i x v b k' i' x' v',fJ w μ σ k i x v→fJ w μ σ k' i' x' v'→ptrTo v b→ptrTo v' b→k=k'∧i=i'
theorem uT {o:Ob} (h:o.var=true) (i:Nat):rowOf o i=none:=by unfold rowOf;rw [h]
theorem ca {o:Ob} {i:Nat} {x:Nat×Nat×(Nat→List AV)} (h:rowOf o i=some x):o.var=false∧i < o.len∧o.get i=[.mr x.1 x.2.1 x.2.2]:=by
 grind [rowOf]
theorem iX {o:Ob} {i:Nat} {x:Nat×Nat×(Nat→List AV)} (h2:o.var=false) (h3:i < o.len) (h4:o.get i=[.mr x.1 x.2.1 x.2.2]):rowOf o i=some x:=by
 grind [rowOf]
theorem MX.bR {fp:Nat→Prop} {n0:Nat} {w:World} {S:Nat→Prop} {μ:Mu} {σ:cz} (h:MX fp n0 w S μ σ) {k i:Nat} {x:Nat×Nat×(Nat→List AV)} {v:Value} {b:Nat} (hr:fJ w μ σ k i x v) (hb:ptrTo v b) :
  b < w.heap.size∧¬ S b∧(fp b∨n0≤b)∧∃ c T,w.heap[b]?=some (.cells c T (0,0)):=by
 obtain ⟨len,cap,rfl,hc⟩:=hb
 obtain ⟨a,Vt,e,h1,h2,h3⟩:=h.row _ _ _ _ hr
 injection e with e1 e2 e3
 subst e1 e2 e3
 obtain ⟨b',c,T,e4,h4,h5⟩:=h3 hc
 injection e4 with e4
 injection e4 with e4
 subst e4
 have Qn:=h4.bR hc
 have td:xd x.1 c T=.cells c T (0,0):=dS (by have:=h2.1;omega) c T
 have Qo:w.heap[b]?=some (.cells c T (0,0)):=by rw [Qn];exact congrArg some td
 exact ⟨(Array.getElem?_eq_some_iff.1 Qo).1,h4.out hc,h5,c,T,Qo⟩
theorem FT.ext {fp NV:Nat→Prop} {n0 NW:Nat} {w w':World} {S S':Nat→Prop} {v:Value} {x:Nat×Nat×(Nat→List AV)} (h:FT fp n0 w S v x) (hS:∀ b,S b→S' b) (hb:∀ b,S b→w'.heap[b]?=w.heap[b]?)
  (hp:∀ b,ptrTo v b→w'.heap[b]?=w.heap[b]?∧¬ S' b∧((fp b∨n0≤b)→(NV b∨NW≤b))):FT NV NW w' S' v x:=by
 obtain ⟨a,cap,rfl,h1,h2,h3⟩:=h
 refine ⟨a,cap,rfl,h1,h2,fun hc=>?_⟩
 obtain ⟨b,c,T,rfl,h4,h5⟩:=h3 hc
 obtain ⟨p1,p2,p3⟩:=hp b ⟨_,_,rfl,hc⟩
 refine ⟨b,c,T,rfl,⟨h4.sz,fun h=>p1.trans (h4.bR h),h4.cap,h4.len,fun _=>p2,h4.qK,fun i j x v hi hx hv=>(h4.rep i j x v hi hx hv).mono hS hb (fun _ _ h=>h),fun hz=>?_⟩,p3 h5⟩
 simp_all
theorem MX.tr {fp NV:Nat→Prop} {n0 NW:Nat} {w w':World} {S S':Nat→Prop} {μ cu:Mu} {σ dm:cz} (h:MX fp n0 w S μ σ) (φ:Nat→Nat)
  (hr:∀ k i x v,fJ w' cu dm k i x v→fJ w μ σ (φ k) i x v)
  (hi:∀ k i x v k' i' x' v',fJ w' cu dm k i x v→fJ w' cu dm k' i' x' v'→φ k=φ k'→k=k')
  (hS:∀ b,S b→S' b) (hb:∀ b,S b→w'.heap[b]?=w.heap[b]?)
  (hp:∀ k i x v b,fJ w' cu dm k i x v→fJ w μ σ (φ k) i x v→ptrTo v b→w'.heap[b]?=w.heap[b]?∧¬ S' b∧((fp b∨n0≤b)→(NV b∨NW≤b)))
  (ho:∀ k o pl,ar dm k=some o→cu k=some pl→0 < pl.cap→(∃ k1 o1 xY,ar σ k1=some o1∧μ k1=some xY∧0 < xY.cap∧xY.bR=pl.bR)∨w.heap.size≤pl.bR):MX NV NW w' S' cu dm:=by
 refine ⟨fun k i x v hv=>(h.row _ _ _ _ (hr _ _ _ _ hv)).ext hS hb fun b wD=>hp _ _ _ _ _ hv (hr _ _ _ _ hv) wD,fun k i x v b hv wD k' o' hH h1 h2 h3 he=>?_,fun k i x v b k' i' x' v' hv pW oW nh=>?_⟩
 ·have UD:=hr _ _ _ _ hv
  rcases ho k' o' hH h1 h2 h3 with ⟨k1,o1,xY,q1,q2,q3,q4⟩ | q
  ·exact h.obj _ _ _ _ b UD wD k1 o1 xY q1 q2 q3 (q4.trans he)
  ·have:=(h.bR UD wD).1;omega
 ·obtain ⟨e1,e2⟩:=h.two _ _ _ _ _ _ _ _ _ (hr _ _ _ _ hv) (hr _ _ _ _ pW) oW nh
  grind
theorem MX.nil {fp:Nat→Prop} {n0:Nat} {w:World} {S:Nat→Prop} {μ:Mu} {σ:cz} (h:∀ k o i,ar σ k=some o→rowOf o i=none):MX fp n0 w S μ σ:=by
 have no:∀ {k i x v},fJ w μ σ k i x v→False:=by
  rintro k i x v ⟨o,pl,h1,h2,_⟩
  rw [h k o i h1] at h2;cases h2
 exact ⟨fun _ _ _ _ h=>(no h).elim,fun _ _ _ _ _ h=>(no h).elim,fun _ _ _ _ _ _ _ _ _ h=>(no h).elim⟩
end Go.Ab
namespace Go.Ab
structure Env where
 w0:World
 S0:Nat→Prop
 fp:Nat→Prop
 Vu:Mu
 m0:Nat
structure Fr (w0:World) (fp:Nat→Prop) (w:World):Prop where
 os:w.os=w0.os
 tape:w.tape=w0.tape
 output:w.output=w0.output
 size:w0.heap.size≤w.heap.size
 bR:∀ b,b < w0.heap.size→¬ fp b→w.heap[b]?=w0.heap[b]?
theorem Fr.refl (w:World) (fp:Nat→Prop):Fr w fp w:=⟨rfl,rfl,rfl,a7 _,fun _ _ _=>rfl⟩
structure Good (E:Env) (σ:cz) (S:Nat→Prop) (μ:Mu) (w:World):Prop where
 fr:Fr E.w0 E.fp w
 S0:∀ b,E.S0 b→S b
 S1:∀ b,S b→b < w.heap.size
 S2:∀ b,S b→E.S0 b∨E.w0.heap.size≤b
 rep:Qm w S μ σ
 own:∀ k o pl,ar σ k=some o→μ k=some pl→0 < pl.cap→E.fp pl.bR∨E.w0.heap.size≤pl.bR
 Bw:∀ k,k < E.m0→μ k=E.Vu k
 mx:MX E.fp E.w0.heap.size w S μ σ
theorem eA {w:World} {b:Nat} {o:Obj} (h:w.heap[b]?=some o):b < w.heap.size:=(Array.getElem?_eq_some_iff.1 h).1
def bz (μ:Mu) (k:Nat) (pl:Place):Mu:=fun n=>if n=k then some pl else μ n
theorem dH {w:World} {o:Obj} {b:Nat} (h:b < w.heap.size):(w.alloc o).heap[b]?=w.heap[b]?:=heap_alloc_old w o b h
theorem fJ.uy {w w':World} {S:Nat→Prop} {μ cu:Mu} {σ dm:cz} (g:Qm w S μ σ) {k k1 i:Nat} {x:Nat×Nat×(Nat→List AV)} {v:Value} (h:fJ w' cu dm k i x v)
  (ho:∀ o,ar dm k=some o→∃ o1,ar σ k1=some o1∧rowOf o1 i=some x) (hm:∀ pl,cu k=some pl→μ k1=some pl)
  (hb:∀ o pl,ar σ k1=some o→μ k1=some pl→0 < pl.cap→w'.heap[pl.bR]?=w.heap[pl.bR]?):fJ w μ σ k1 i x v:=by
 obtain ⟨o,pl,h1,h2,h3,h4⟩:=h
 obtain ⟨o1,h5,h6⟩:=ho o h1
 have h7:=hm pl h3
 refine ⟨o1,pl,h5,h6,h7,?_⟩
 obtain ⟨pj,c,T,h8,h9⟩:=g.ob k1 o1 h5
 rw [h7] at h8;cases h8
 have hc:0 < pl.cap:=by have:=(ca h6).2.1;have:=h9.len;omega
 grind [oj]
theorem fJ.ob {w:World} {μ:Mu} {σ:cz} {k i:Nat} {x:Nat×Nat×(Nat→List AV)} {v:Value} (h:fJ w μ σ k i x v):∃ o,ar σ k=some o∧rowOf o i=some x:=by
 obtain ⟨o,_,h1,h2,_⟩:=h;exact ⟨o,h1,h2⟩
theorem Good.J6 {E:Env} {σ:cz} {S:Nat→Prop} {μ:Mu} {w:World} (g:Good E σ S μ w) {nk:Nat} (hk:μ nk=none) (hm:E.m0≤nk) (c:Array Value) (T:TypeId) (o:Ob) (cap:Nat)
  (uz:cap * o.sz≤c.size) (hlen:o.len≤cap) (ni:∀ i,i < o.len→(o.get i).length=o.sz)
  (xf:∀ i j x v,i < o.len→(o.get i)[j]?=some x→c[i * o.sz+j]?=some v→an w S (if o.pr then fw else μ) v x) (ze:o.sz≠0)
  (NX:MX E.fp E.w0.heap.size (w.alloc (.cells c T)) S (bz μ nk ⟨w.heap.size,cap,o.sz⟩) (sset σ nk o)) :
  Ext w S μ (w.alloc (.cells c T)) S (bz μ nk ⟨w.heap.size,cap,o.sz⟩)∧Good E (sset σ nk o) S (bz μ nk ⟨w.heap.size,cap,o.sz⟩) (w.alloc (.cells c T)):=by
 have e:Ext w S μ (w.alloc (.cells c T)) S (bz μ nk ⟨w.heap.size,cap,o.sz⟩) :=
  ⟨by simp,fun _ h=>h,fun b hb=>dH (g.S1 b hb),fun k pl h=>by
   grind [bz]⟩
 refine ⟨e,⟨⟨g.fr.os,g.fr.tape,g.fr.output,by have:=g.fr.size;simp;omega,fun b hb hf=>(dH (nb hb g.fr.size)).trans (g.fr.bR b hb hf)⟩,
  g.S0,fun b hb=>by have:=g.S1 b hb;simp;omega,g.S2,⟨?_,?_⟩,?_,fun k mE=>?_,NX⟩⟩
 ·intro k x hx
  rw [aP] at hx
  by_cases ua:nk=k
  ·rw [if_pos ua] at hx
   cases hx
   refine ⟨⟨w.heap.size,cap,o.sz⟩,c,T,by simp [bz,ua],rfl,fun _=>(heap_alloc_new w _).trans (by rw [dS ze]),uz,hlen,fun _ hS=>Nat.lt_irrefl _ (g.S1 _ hS),ni,?_,fun h=>absurd h ze⟩
   intro i j x v hi hx hv
   refine (xf i j x v hi hx hv).mono e.EI e.bR ?_
   cases o.pr
   ·exact e.mu
   ·exact fun _ _ h=>h
  ·rw [if_neg ua] at hx
   obtain ⟨pl,c',T',eM,ho⟩:=g.rep.ob k x hx
   exact ⟨pl,c',T',e.mu _ _ eM,ho.ext e (fun hc=>dH (eA (ho.bR hc))) ho.out⟩
 ·intro k k' x x' pl hH iI hx ub hp qL qV Ie
  rw [aP] at hx ub
  simp only [bz] at hp qL
  have lt:∀ {k x pl},nk≠k→ar σ k=some x→μ k=some pl→0 < pl.cap→pl.bR < w.heap.size:=fun {k x pl} _ hx hp hc=>by
   obtain ⟨pj,c',T',eM,ho⟩:=g.rep.ob k x hx
   rw [hp] at eM;cases eM;exact eA (ho.bR hc)
  by_cases h1:nk=k
  ·grind
  ·rw [if_neg h1] at hx
   rw [if_neg (fun h=>h1 h.symm)] at hp
   by_cases h2:nk=k'
   ·grind
   ·rw [if_neg h2] at ub
    rw [if_neg (fun h=>h2 h.symm)] at qL
    exact g.rep.ne k k' x x' pl hH iI hx ub hp qL qV Ie
 ·intro k x pl hx hp hc
  rw [aP] at hx
  simp only [bz] at hp
  by_cases h1:nk=k
  ·rw [if_pos h1.symm] at hp
   cases hp
   exact .inr g.fr.size
  ·rw [if_neg h1] at hx
   rw [if_neg (fun h=>h1 h.symm)] at hp
   exact g.own k x pl hx hp hc
 ·simp only [bz]
  rw [if_neg (by omega)]
  exact g.Bw k mE
theorem Good.FU {E:Env} {σ:cz} {S:Nat→Prop} {μ:Mu} {w w':World} (g:Good E σ S μ w) {nk:Nat} (hk:μ nk=none) (o:Ob) (pl:Place) (AM:0 < pl.cap→w.heap.size≤pl.bR) (J7:∀ i,rowOf o i=none)
  (hw:∀ b,b < w.heap.size→w'.heap[b]?=w.heap[b]?) {S':Nat→Prop} (hS:∀ b,S b→S' b) (Qp:∀ b,S' b→S b∨w.heap.size≤b):MX E.fp E.w0.heap.size w' S' (bz μ nk pl) (sset σ nk o):=by
 have key:∀ k i x v,fJ w' (bz μ nk pl) (sset σ nk o) k i x v→k≠nk:=by
  rintro k i x v h rfl
  obtain ⟨o2,h1,h2⟩:=h.ob
  rw [aP,if_pos rfl] at h1
  cases h1
  rw [J7] at h2;cases h2
 refine g.mx.tr id (fun k i x v h=>?_) (fun _ _ _ _ _ _ _ _ _ _ h=>h) hS (fun b hb=>hw b (g.S1 b hb)) (fun k i x v b _ h hb=>?_) (fun k o2 pj h1 h2 h3=>?_)
 ·have iI:=key _ _ _ _ h
  obtain ⟨o3,h3,h4⟩:=h.ob
  refine h.uy g.rep (fun o2 h1=>?_) (fun pj h2=>?_) (fun o2 pj h1 h2 h3=>?_)
  ·rw [h3] at h1;cases h1
   rw [aP,if_neg (fun e=>iI e.symm)] at h3
   exact ⟨o3,h3,h4⟩
  ·simp_all [bz,if_neg]
  ·obtain ⟨RE,c3,T3,Ig,Hb⟩:=g.rep.ob k o2 h1
   have h2:μ k=some pj:=h2
   rw [h2] at Ig;cases Ig
   exact hw _ (eA (Hb.bR h3))
 ·obtain ⟨q1,q2,q3,_⟩:=g.mx.bR h hb
  grind
 ·by_cases ua:nk=k
  ·simp_all [bz,if_pos]
  ·rw [aP,if_neg ua] at h1
   unfold bz at h2;grind
theorem Good.alloc {E:Env} {σ:cz} {S:Nat→Prop} {μ:Mu} {w:World} (g:Good E σ S μ w) {nk:Nat} (hk:μ nk=none) (hm:E.m0≤nk) (c:Array Value) (T:TypeId) (o:Ob) (cap:Nat)
  (uz:cap * o.sz≤c.size) (hlen:o.len≤cap) (ni:∀ i,i < o.len→(o.get i).length=o.sz)
  (xf:∀ i j x v,i < o.len→(o.get i)[j]?=some x→c[i * o.sz+j]?=some v→an w S (if o.pr then fw else μ) v x) (ze:o.sz≠0) (J7:∀ i,rowOf o i=none) :
  Ext w S μ (w.alloc (.cells c T)) S (bz μ nk ⟨w.heap.size,cap,o.sz⟩)∧Good E (sset σ nk o) S (bz μ nk ⟨w.heap.size,cap,o.sz⟩) (w.alloc (.cells c T)) :=
 g.J6 hk hm c T o cap uz hlen ni xf ze (g.FU hk o _ (fun _=>a7 _) J7 (fun _ h=>dH h) (fun _ h=>h) (fun _ h=>.inl h))
theorem Good.Hi {E:Env} {σ:cz} {S:Nat→Prop} {μ:Mu} {w w':World} (g:Good E σ S μ w)
  (hw:∀ b,b < w.heap.size→w'.heap[b]?=w.heap[b]?) {S':Nat→Prop} (hS:∀ b,S b→S' b) (Qp:∀ b,S' b→S b∨w.heap.size≤b):MX E.fp E.w0.heap.size w' S' μ σ:=by
 refine g.mx.tr id (fun k i x v h=>?_) (fun _ _ _ _ _ _ _ _ _ _ h=>h) hS (fun b hb=>hw b (g.S1 b hb)) (fun k i x v b _ h hb=>?_) (fun k o2 pj h1 h2 h3=>.inl ⟨k,o2,pj,h1,h2,h3,rfl⟩)
 ·obtain ⟨o3,h3,h4⟩:=h.ob
  refine h.uy g.rep (fun o2 h1=>⟨o3,h3,h4⟩) (fun pj h2=>h2) (fun o2 pj h1 h2 h3=>?_)
  obtain ⟨RE,c3,T3,Ig,Hb⟩:=g.rep.ob k o2 h1
  have h2:μ k=some pj:=h2
  rw [h2] at Ig;cases Ig
  exact hw _ (eA (Hb.bR h3))
 ·obtain ⟨q1,q2,q3,_⟩:=g.mx.bR h hb
  grind
theorem Good.Ji {E:Env} {σ:cz} {S:Nat→Prop} {μ:Mu} {w:World} (g:Good E σ S μ w) (o:Obj) :
  Ext w S μ (w.alloc o) (fun b=>S b∨b=w.heap.size) μ∧Good E σ (fun b=>S b∨b=w.heap.size) μ (w.alloc o):=by
 have e:Ext w S μ (w.alloc o) (fun b=>S b∨b=w.heap.size) μ :=
  ⟨by simp,fun _ h=>.inl h,fun b hb=>dH (g.S1 b hb),fun k pl h=>h⟩
 refine ⟨e,⟨⟨g.fr.os,g.fr.tape,g.fr.output,by have:=g.fr.size;simp;omega,fun b hb hf=>(dH (nb hb g.fr.size)).trans (g.fr.bR b hb hf)⟩,
  fun b h=>.inl (g.S0 b h),fun b hb=>?_,fun b hb=>?_,⟨?_,g.rep.ne⟩,g.own,g.Bw,g.Hi (fun _ h=>dH h) (fun _ h=>.inl h) (fun b h=>h.elim .inl (fun h=>.inr (Nat.le_of_eq h.symm)))⟩⟩
 ·rcases hb with hb | hb
  ·have:=g.S1 b hb;simp;omega
  ·simp;omega
 ·rcases hb with hb | hb
  ·exact g.S2 b hb
  ·exact .inr (hb ▸ g.fr.size)
 ·intro k x hx
  obtain ⟨pl,c',T',eM,ho⟩:=g.rep.ob k x hx
  exact ⟨pl,c',T',eM,ho.ext e (fun hc=>dH (eA (ho.bR hc))) (fun hc h=>h.elim (ho.out hc) (by have:=eA (ho.bR hc);omega))⟩
theorem Good.drew {E:Env} {σ:cz} {S:Nat→Prop} {μ:Mu} {w:World} (g:Good E σ S μ w):Good E σ S μ w.drew :=
 ⟨⟨g.fr.os,g.fr.tape,g.fr.output,g.fr.size,g.fr.bR⟩,g.S0,g.S1,g.S2,
  ⟨fun k o h=>let ⟨pl,c,T,hm,ho⟩:=g.rep.ob k o h
   ⟨pl,c,T,hm,ho.ext (w':=w.drew) ⟨a7 _,fun _ h=>h,fun _ _=>rfl,fun _ _ h=>h⟩ (fun _=>rfl) ho.out⟩,g.rep.ne⟩,g.own,g.Bw,g.Hi (w':=w.drew) (fun _ _=>rfl) (fun _ h=>h) (fun _ h=>.inl h)⟩
theorem Ext.drew (w:World) (S:Nat→Prop) (μ:Mu):Ext w S μ w.drew S μ:=⟨a7 _,fun _ h=>h,fun _ _=>rfl,fun _ _ h=>h⟩
theorem Good.del {E:Env} {σ:cz} {S:Nat→Prop} {μ:Mu} {w:World} (g:Good E σ S μ w) (k:Nat):Good E (r9 σ k) S μ w:=by
 have hs:∀ n o,ar (r9 σ k) n=some o→ar σ n=some o:=fun n o h=>by
  grind [dY]
 exact ⟨g.fr,g.S0,g.S1,g.S2,⟨fun n o h=>g.rep.ob n o (hs n o h),fun k k' o o' pl hH iI h h'=>g.rep.ne k k' o o' pl hH iI (hs _ _ h) (hs _ _ h')⟩,
  fun k o pl h=>g.own k o pl (hs _ _ h),g.Bw,g.mx.tr id (fun k i x v ⟨o,pl,h1,h2⟩=>⟨o,pl,hs _ _ h1,h2⟩) (fun _ _ _ _ _ _ _ _ _ _ h=>h) (fun _ h=>h) (fun _ _=>rfl)
   (fun k i x v b _ h hb=>⟨rfl,(g.mx.bR h hb).2.1,fun h=>h⟩) (fun k o pl h1 h2 h3=>.inl ⟨k,o,pl,hs _ _ h1,h2,h3,rfl⟩)⟩
theorem Good.UE {E:Env} {σ:cz} {S:Nat→Prop} {μ:Mu} {w w':World} (g:Good E σ S μ w) {k:Nat} {o:Ob} (hs:ar σ k=some o) {pl:Place} (hm:μ k=some pl) (ta:0 < pl.cap) (hS:¬ S pl.bR)
  (pX:∀ b,b≠pl.bR→w'.heap[b]?=w.heap[b]?) (o':Ob) (td:∀ i x,rowOf o' i=some x→rowOf o i=some x∧∀ v,w'.cell? ⟨pl.bR,i * pl.sz,none⟩=some v→w.cell? ⟨pl.bR,i * pl.sz,none⟩=some v) :
  MX E.fp E.w0.heap.size w' S μ (sset σ k o'):=by
 refine g.mx.tr id (fun n i x v h=>?_) (fun _ _ _ _ _ _ _ _ _ _ h=>h) (fun _ h=>h) (fun b hb=>pX b fun e=>hS (e ▸ hb)) (fun n i x v b _ h hb=>?_) (fun n o2 pj h1 h2 h3=>?_)
 ·by_cases ua:k=n
  ·subst ua
   obtain ⟨o2,pj,h1,h2,h3,h4⟩:=h
   rw [aP,if_pos rfl] at h1;cases h1
   rw [hm] at h3;cases h3
   obtain ⟨q1,q2⟩:=td i x h2
   exact ⟨o,pl,hs,q1,hm,q2 v h4⟩
  ·obtain ⟨o3,h3,h4⟩:=h.ob
   rw [aP,if_neg ua] at h3
   refine h.uy g.rep (fun o2 h1=>⟨o3,h3,h4⟩) (fun pj h2=>h2) (fun o2 pj h1 h2 h3=>?_)
   exact pX _ (g.rep.ne n k o2 o pj pl (fun h=>ua h.symm) h1 hs h2 hm h3 ta)
 ·obtain ⟨q1,q2,q3,_⟩:=g.mx.bR h hb
  exact ⟨pX b fun e=>g.mx.obj _ _ _ _ _ h hb k o pl hs hm ta e.symm,q2,fun h=>h⟩
 ·rw [aP] at h1
  grind
theorem Good.write {E:Env} {σ:cz} {S:Nat→Prop} {μ:Mu} {w:World} (g:Good E σ S μ w) {k:Nat} {o:Ob} (hs:ar σ k=some o) {pl:Place} {c:Array Value} {T:TypeId}
  (hm:μ k=some pl) (ta:0 < pl.cap) (ho:eJ w S μ o pl c T) (ze:o.sz≠0) (o':Ob) (c':Array Value) (oX:o'.sz=o.sz) (hc:c'.size=c.size) (hlen:o'.len≤pl.cap)
  (ni:∀ i,i < o'.len→(o'.get i).length=o'.sz)
  (xf:∀ i j x v,i < o'.len→(o'.get i)[j]?=some x→c'[i * o'.sz+j]?=some v→an w S (if o'.pr then fw else μ) v x)
  (td:∀ i x,rowOf o' i=some x→rowOf o i=some x∧c'[i * o.sz]?=c[i * o.sz]?) :
  Ext w S μ (w.setRow pl.bR c') S μ∧Good E (sset σ k o') S μ (w.setRow pl.bR c'):=by
 have pX:∀ b,b≠pl.bR→(w.setRow pl.bR c').heap[b]?=w.heap[b]?:=fun b hb=>by
  simp only [World.setRow,Array.getElem?_modify]
  grind
 have e:Ext w S μ (w.setRow pl.bR c') S μ :=
  ⟨by simp,fun _ h=>h,fun b hb=>pX b fun h=>ho.out ta (h ▸ hb),fun _ _ h=>h⟩
 refine ⟨e,⟨⟨g.fr.os,g.fr.tape,g.fr.output,by have:=g.fr.size;simpa using this,fun b hb hf=>?_⟩,g.S0,fun b hb=>by simpa using g.S1 b hb,g.S2,⟨?_,?_⟩,?_,g.Bw,?_⟩⟩
 rotate_right
 ·refine g.UE hs hm ta (ho.out ta) pX o' fun i x hx=>⟨(td i x hx).1,fun v hv=>?_⟩
  have h1:=ho.bR ta
  rw [dS ze] at h1
  rw [cell_of_row _ _ _ _ _ _ (setRow_heap w _ c c' T (0,0) h1),ho.sz,(td i x hx).2] at hv
  rw [cell_of_row _ _ _ _ _ _ h1,ho.sz]
  exact hv
 ·rw [pX b,g.fr.bR b hb hf]
  rintro rfl
  rcases g.own k o pl hs hm ta with h | h
  ·exact hf h
  ·omega
 ·intro n x hx
  rw [aP] at hx
  by_cases ua:k=n
  ·rw [if_pos ua] at hx
   cases hx
   refine ⟨pl,c',T,ua ▸ hm,ho.sz.trans oX.symm,fun _=>(setRow_heap w _ c c' T (0,0) ((ho.bR ta).trans (by rw [dS ze]))).trans (by rw [dS (by rw [oX];exact ze)]),?_,hlen,ho.out,ni,?_,fun h=>absurd (oX ▸ h) ze⟩
   ·rw [oX,hc];exact ho.cap
   ·intro i j x v hi hx hv
    refine (xf i j x v hi hx hv).mono e.EI e.bR ?_
    cases o'.pr
    ·exact e.mu
    ·exact fun _ _ h=>h
  ·rw [if_neg ua] at hx
   obtain ⟨pj,c2,T2,BN,Aw⟩:=g.rep.ob n x hx
   exact ⟨pj,c2,T2,BN,Aw.ext e (fun hc=>pX _ (g.rep.ne n k x o pj pl (fun h=>ua h.symm) hx hs BN hm hc ta)) Aw.out⟩
 ·intro n n' x x' p p' iI hx ub hp qL qV Ie
  rw [aP] at hx ub
  have f:∀ {n x},(if k=n then some o' else ar σ n)=some x→∃ y,ar σ n=some y:=fun {n x} h=>by
   split at h
   ·rename_i hh;exact ⟨o,hh ▸ hs⟩
   ·exact ⟨_,h⟩
  obtain ⟨y,hy⟩:=f hx
  obtain ⟨y',OD⟩:=f ub
  exact g.rep.ne n n' y y' p p' iI hy OD hp qL qV Ie
 ·intro n x p hx hp hc
  rw [aP] at hx
  split at hx
  ·rename_i hh;subst hh;exact g.own _ o p hs hp hc
  ·exact g.own n x p hx hp hc
theorem Good.Mj {E:Env} {σ:cz} {S:Nat→Prop} {μ:Mu} {w w':World} (g:Good E σ S μ w) {k:Nat} {o:Ob} (hs:ar σ k=some o) {pl:Place} {c:Array Value} {T:TypeId}
  (hm:μ k=some pl) (ta:0 < pl.cap) (ho:eJ w S μ o pl c T) (h1:w'.os=w.os) (h2:w'.tape=w.tape) (h3:w'.output=w.output) (h4:w'.heap.size=w.heap.size) (pX:∀ b,b≠pl.bR→w'.heap[b]?=w.heap[b]?)
  (o':Ob) (J7:∀ i,rowOf o' i=none) (Mk:Ext w S μ w' S μ→∃ c' T',eJ w' S μ o' pl c' T'):Ext w S μ w' S μ∧Good E (sset σ k o') S μ w':=by
 have e:Ext w S μ w' S μ:=⟨by omega,fun _ h=>h,fun b hb=>pX b fun h=>ho.out ta (h ▸ hb),fun _ _ h=>h⟩
 refine ⟨e,⟨⟨h1.trans g.fr.os,h2.trans g.fr.tape,h3.trans g.fr.output,by have:=g.fr.size;omega,fun b hb hf=>?_⟩,g.S0,fun b hb=>by rw [h4];exact g.S1 b hb,g.S2,⟨?_,?_⟩,?_,g.Bw,g.UE hs hm ta (ho.out ta) pX o' fun i x hx=>by rw [J7] at hx;cases hx⟩⟩
 ·rw [pX b,g.fr.bR b hb hf]
  rintro rfl
  rcases g.own k o pl hs hm ta with h | h
  ·exact hf h
  ·omega
 ·intro n x hx
  rw [aP] at hx
  by_cases ua:k=n
  ·simp_all
  ·rw [if_neg ua] at hx
   obtain ⟨pj,c2,T2,BN,Aw⟩:=g.rep.ob n x hx
   exact ⟨pj,c2,T2,BN,Aw.ext e (fun hc=>pX _ (g.rep.ne n k x o pj pl (fun h=>ua h.symm) hx hs BN hm hc ta)) Aw.out⟩
 ·intro n n' x x' p p' iI hx ub hp qL qV Ie
  rw [aP] at hx ub
  have f:∀ {n x},(if k=n then some o' else ar σ n)=some x→∃ y,ar σ n=some y:=fun {n x} h=>by
   grind
  obtain ⟨y,hy⟩:=f hx
  obtain ⟨y',OD⟩:=f ub
  exact g.rep.ne n n' y y' p p' iI hy OD hp qL qV Ie
 ·intro n x p hx hp hc
  rw [aP] at hx
  split at hx
  ·rename_i hh;subst hh;exact g.own _ o p hs hp hc
  ·exact g.own n x p hx hp hc
theorem Good.allocMap {E:Env} {σ:cz} {S:Nat→Prop} {μ:Mu} {w:World} (g:Good E σ S μ w) {nk:Nat} (hk:μ nk=none) (hm:E.m0≤nk) :
  Ext w S μ (w.alloc (.map #[] 0)) S (bz μ nk ⟨w.heap.size,1,0⟩)∧Good E (sset σ nk ⟨false,0,0,true,fun _=>[]⟩) S (bz μ nk ⟨w.heap.size,1,0⟩) (w.alloc (.map #[] 0)):=by
 have hold:∀ b,b < w.heap.size→(w.alloc (.map #[] 0)).heap[b]?=w.heap[b]?:=fun b h=>dH h
 have e:Ext w S μ (w.alloc (.map #[] 0)) S (bz μ nk ⟨w.heap.size,1,0⟩) :=
  ⟨by simp,fun _ h=>h,fun b hb=>hold b (g.S1 b hb),fun k pl h=>by
   grind [bz]⟩
 have lt:∀ {k x pl},ar σ k=some x→μ k=some pl→0 < pl.cap→pl.bR < w.heap.size:=fun {k x pl} hx hp hc=>by
  obtain ⟨pj,c',T',eM,ho⟩:=g.rep.ob k x hx
  rw [hp] at eM;cases eM;exact eA (ho.bR hc)
 refine ⟨e,⟨⟨g.fr.os,g.fr.tape,g.fr.output,by have:=g.fr.size;simp;omega,fun b hb hf=>(hold b (nb hb g.fr.size)).trans (g.fr.bR b hb hf)⟩,
  g.S0,fun b hb=>by have:=g.S1 b hb;simp;omega,g.S2,⟨?_,?_⟩,?_,fun k mE=>?_,g.FU hk _ _ (fun _=>a7 _) (fun i=>rfl) hold (fun _ h=>h) (fun _ h=>.inl h)⟩⟩
 ·intro k x hx
  rw [aP] at hx
  by_cases ua:nk=k
  ·rw [if_pos ua] at hx
   cases hx
   refine ⟨⟨w.heap.size,1,0⟩,#[],0,by simp [bz,ua],rfl,fun _=>(heap_alloc_new w _).trans (by simp [xd,eP]),by simp,by simp,fun _ hS=>Nat.lt_irrefl _ (g.S1 _ hS),fun i hi=>absurd hi (iw _),fun i j x v hi=>absurd hi (iw _),fun _=>⟨Nat.one_pos,rfl,rfl,rfl,fun j x v hx=>by simp at hx⟩⟩
  ·rw [if_neg ua] at hx
   obtain ⟨pl,c',T',eM,ho⟩:=g.rep.ob k x hx
   exact ⟨pl,c',T',e.mu _ _ eM,ho.ext e (fun hc=>hold _ (eA (ho.bR hc))) ho.out⟩
 ·intro k k' x x' pl hH iI hx ub hp qL qV Ie
  rw [aP] at hx ub
  simp only [bz] at hp qL
  by_cases h1:nk=k
  ·grind
  ·rw [if_neg h1] at hx
   rw [if_neg (fun h=>h1 h.symm)] at hp
   by_cases h2:nk=k'
   ·grind
   ·rw [if_neg h2] at ub
    rw [if_neg (fun h=>h2 h.symm)] at qL
    exact g.rep.ne k k' x x' pl hH iI hx ub hp qL qV Ie
 ·intro k x pl hx hp hc
  rw [aP] at hx
  simp only [bz] at hp
  by_cases h1:nk=k
  ·rw [if_pos h1.symm] at hp
   cases hp
   exact .inr g.fr.size
  ·rw [if_neg h1] at hx
   rw [if_neg (fun h=>h1 h.symm)] at hp
   exact g.own k x pl hx hp hc
 ·simp only [bz]
  rw [if_neg (by omega)]
  exact g.Bw k mE
end Go.Ab
namespace Go.Ab
def aV:List Prop→Prop
 | []=>True
 | p :: ps=>p∧aV ps
theorem aV.app {a b:List Prop} (h:aV (a ++ b)):aV a∧aV b:=by
 induction a with
 | nil=>exact ⟨trivial,h⟩
 | cons p ps ih=>exact ⟨⟨h.1,(ih h.2).1⟩,(ih h.2).2⟩
def AV.strip:AV→AV×List Prop
 | .when b x=>(x.strip.1,(b=true) :: x.strip.2)
 | x=>(x,[])
theorem an.strip {w:World} {S:Nat→Prop} {μ:Mu} {v:Value} {x:AV} (h:an w S μ v x):aV x.strip.2→an w S μ v x.strip.1:=by
 induction h with
 | when h1 _ ih=>exact fun hp=>ih hp.1 hp.2
 | atom v=>exact fun _=>.atom v
 | agg h1 h2 _=>exact fun _=>.agg h1 h2
 | tup h1 h2 _=>exact fun _=>.tup h1 h2
 | sl b off sz f h1 h2 h3 h4 h5 _=>exact fun _=>.sl b off sz f h1 h2 h3 h4 h5
 | rp b o f h1 h2 h3 _=>exact fun _=>.rp b o f h1 h2 h3
 | op pl h=>exact fun _=>.op pl h
 | os pl h h1 h2 h3=>exact fun _=>.os pl h h1 h2 h3
 | fn h1 h2 h3 h4 _ _=>exact fun _=>.fn h1 h2 h3 h4
 | mp pl h=>exact fun _=>.mp pl h
 | bn b h=>exact fun _=>.bn b h
 | pt h1 h2 _=>exact fun _=>.pt h1 h2
 | ov pl h h1=>exact fun _=>.ov pl h h1
 | za pl h h1 h2=>exact fun _=>.za pl h h1 h2
 | nq h h1 h2 _=>exact fun _=>.nq h h1 h2
 | nil=>exact fun _=>.nil
 | k6=>exact fun _=>.k6
 | mr=>exact fun _=>.mr
def AV.one:AV→Bool
 | .atom v=>match v with
  | .agg _ | .tuple _=>false
  | _=>true
 | .sl _ _ | .rp _ _ | .op _ _ _ | .os _ _ _ | .fn _ _ _ | .mp _ | .bn _ | .pt _ _ | .nil=>true
 | .nq _ x=>x.one
 | _=>false
theorem an.EJ {w:World} {S:Nat→Prop} {μ:Mu} {v:Value} {x:AV} (h:an w S μ v x) (hx:x.one=true):v.oneCell'=true:=by
 induction h with
 | atom v=>cases v<;>simp_all [AV.one,Value.oneCell']
 | nq _ _ _ ih=>grind [AV.one]
 | @pt μ b cs v h1 h2 _ =>
  cases b with
  | false=>rw [h2 rfl];rfl
  | true=>have:=h1 rfl;cases this;rfl
 | _=>first | rfl | (simp [AV.one] at hx;done)
def AV.fx:List AV→Bool
 | []=>true
 | c :: cs=>c.one && AV.fx cs
theorem BO {cs:List AV} (h:AV.fx cs=true) {j:Nat} {c:AV} (hc:cs[j]?=some c):c.one=true:=by
 induction cs generalizing j with
 | nil=>simp at hc
 | cons x xs ih =>
  simp only [AV.fx,aR] at h
  grind
def AV.cells:AV→Option (List AV)
 | .agg cs=>some cs
 | .atom v=>match v with
  | .agg _ | .tuple _=>none
  | v=>some [.atom v]
 | .sl n g=>some [.sl n g]
 | .rp c o=>some [.rp c o]
 | .op k i j=>some [.op k i j]
 | .os k o n=>some [.os k o n]
 | .fn f a b=>some [.fn f a b]
 | .mp k=>some [.mp k]
 | .bn n=>some [.bn n]
 | .pt b cs=>some [.pt b cs]
 | .nq st x=>match x.one with
  | true=>some [.nq st x]
  | false=>none
 | .nil=>some [.nil]
 | _=>none
theorem Jj {v:Value} (h:v.oneCell'=true):v.cells=#[v]:=by
 cases v<;>simp_all [Value.oneCell',Value.cells]
theorem an.cells {w:World} {S:Nat→Prop} {μ:Mu} {v:Value} {x:AV} (h:an w S μ v x) {cs:List AV} (hc:x.cells=some cs) :
  v.cells.size=cs.length∧∀ (j:Nat) (c:AV) (u:Value),cs[j]?=some c→v.cells[j]?=some u→an w S μ u c:=by
 have one:∀ {x:AV},an w S μ v x→x.one=true→cs=[x]→v.cells.size=cs.length∧∀ (j:Nat) (c:AV) (u:Value),cs[j]?=some c→v.cells[j]?=some u→an w S μ u c:=by
  intro x h h1 h2
  rw [Jj (h.EJ h1),h2]
  refine ⟨rfl,?_⟩
  intro j c u hj hu
  cases j with
  | zero=>simp_all
  | succ j=>simp at hj
 cases x with
 | agg l =>
  cases hc
  cases h with
  | agg h1 h2=>exact ⟨h1,fun j c u hj hu=>h2 j c u hj hu⟩
 | atom u =>
  have hu:(AV.atom u).one=true:=by cases u<;>simp_all [AV.cells,AV.one]
  exact one h hu (by cases u<;>simp_all [AV.cells])
 | sl=>exact one h rfl (by grind [AV.cells])
 | rp=>exact one h rfl (by grind [AV.cells])
 | op=>exact one h rfl (by grind [AV.cells])
 | os=>exact one h rfl (by grind [AV.cells])
 | fn=>exact one h rfl (by grind [AV.cells])
 | mp=>exact one h rfl (by grind [AV.cells])
 | bn=>exact one h rfl (by grind [AV.cells])
 | pt=>exact one h rfl (by grind [AV.cells])
 | nq st x =>
  simp only [AV.cells] at hc
  split at hc
  ·rename_i h1;exact one h (by simpa [AV.one] using h1) (Option.some.inj hc).symm
  ·cases hc
 | nil=>exact one h rfl (by grind [AV.cells])
 | _=>simp [AV.cells] at hc
def ec:Value→AV
 | .slice none 0 0=>.nil
 | .func f vs ws=>if vs.size=0∧ws.size=0 then .fn f [] [] else .atom (.func f vs ws)
 | v=>.atom v
def ofConst:Value→AV
 | .agg vs=>.agg (vs.toList.map ec)
 | .tuple vs=>.tup (vs.toList.map ec)
 | v=>ec v
theorem xg (w:World) (S:Nat→Prop) (μ:Mu) (v:Value):an w S μ v (ec v):=by
 unfold ec
 split
 ·exact .nil
 ·split
  ·rename_i h
   exact .fn (by simpa using h.1) (by simpa using h.2) (fun j c v hc=>by simp at hc) (fun j c v hc=>by simp at hc)
  ·exact .atom _
 ·exact .atom _
theorem DT (w:World) (S:Nat→Prop) (μ:Mu) (v:Value):an w S μ v (ofConst v):=by
 have f:∀ (vs:Array Value) (j:Nat) (c:AV) (u:Value),(vs.toList.map ec)[j]?=some c→vs[j]?=some u→an w S μ u c:=by
  intro vs j c u hc hu
  have Sk:vs.toList[j]?=some u:=by simpa using hu
  rw [List.getElem?_map,Sk] at hc
  simp at hc
  exact hc ▸ xg w S μ u
 unfold ofConst
 split
 ·exact .agg (by simp) (f _)
 ·exact .tup (by simp) (f _)
 ·exact xg w S μ _
def qM (P:Program) (t:TypeId):Option Nat:=(P.info? t).map (·.size)
def tf (P:Program) (t:TypeId):Option Nat:=(P.info? t).map (·.bytes)
def oY (P:Program) (t:TypeId):Option Value:=(P.info? t).bind (·.zero)
theorem df {P:Program} {t n:Nat} (h:qM P t=some n) (w:World):(sizeOf t).run P w=.ok n w:=by
 unfold qM at h
 cases hi:P.info? t with
 | none=>simp [hi] at h
 | some i=>simp_all [sizeOf,typeInfo]
theorem DU {P:Program} {t:Nat} {z:Value} (h:oY P t=some z) (w:World):(zeroValue t).run P w=.ok z w:=by
 unfold oY at h
 cases hi:P.info? t with
 | none=>simp [hi] at h
 | some i=>simp_all [zeroValue,typeInfo]
theorem tg {P:Program} {t n b:Nat} {z:Value} (h:qM P t=some n) (hb:tf P t=some b) (hz:oY P t=some z) :
  ∃ i,P.info? t=some i∧i.size=n∧i.bytes=b∧i.zero=some z:=by
 unfold qM at h;unfold tf at hb;unfold oY at hz
 cases hi:P.info? t with
 | none=>simp [hi] at h
 | some i=>simp_all
def NY (op:BinOp) (k:IntKind) (a b:Int):Option (List Prop×AV) :=
 match op with
 | .add=>some ([],.atom (.int k (k.wrap (a+b))))
 | .sub=>some ([],.atom (.int k (k.wrap (a - b))))
 | .mul=>some ([],.atom (.int k (k.wrap (a * b))))
 | .quo=>some ([b≠0],.atom (.int k (k.wrap (a.tdiv b))))
 | .rem=>some ([b≠0],.atom (.int k (a.tmod b)))
 | .and=>some ([],.atom (.int k (k.wrap (BitVec.ofInt k.bits a &&& BitVec.ofInt k.bits b).toNat)))
 | .or=>some ([],.atom (.int k (k.wrap (BitVec.ofInt k.bits a ||| BitVec.ofInt k.bits b).toNat)))
 | .xor=>some ([],.atom (.int k (k.wrap (BitVec.ofInt k.bits a ^^^ BitVec.ofInt k.bits b).toNat)))
 | .andNot=>some ([],.atom (.int k (k.wrap (BitVec.ofInt k.bits a &&& ~~~BitVec.ofInt k.bits b).toNat)))
 | .eql=>some ([],.atom (.bool (a == b)))
 | .neq=>some ([],.atom (.bool (a != b)))
 | .lss=>some ([],.atom (.bool (decide (a < b))))
 | .leq=>some ([],.atom (.bool (decide (a≤b))))
 | .gtr=>some ([],.atom (.bool (decide (a > b))))
 | .geq=>some ([],.atom (.bool (decide (a≥b))))
 | _=>none
def Bx (op:BinOp) (k:IntKind) (a b:Int):Option (List Prop×AV) :=
 match op with
 | .shl=>some ([0≤b],.atom (.int k (k.wrap (a * 2 ^ (min b.toNat k.bits)))))
 | .shr=>some ([0≤b],.atom (.int k (a.fdiv (2 ^ (min b.toNat k.bits)))))
 | _=>none
def pY (a b:ByteArray):Bool:=a.toList == b.toList
def NZ (op:BinOp) (a b:ByteArray):Option (List Prop×AV) :=
 match op with
 | .eql=>some ([],.atom (.bool (pY a b)))
 | .neq=>some ([],.atom (.bool (!pY a b)))
 | .lss=>some ([],.atom (.bool (Op.bytesLess a.toList b.toList)))
 | .leq=>some ([],.atom (.bool (Op.bytesLess a.toList b.toList || pY a b)))
 | .gtr=>some ([],.atom (.bool (!(Op.bytesLess a.toList b.toList || pY a b))))
 | .geq=>some ([],.atom (.bool (!Op.bytesLess a.toList b.toList)))
 | .add=>some ([((a.size+b.size:Nat):Int)≤IntKind.i64.max],.atom (.string (a ++ b)))
 | _=>none
def hI (P:Program) (t:TypeId) (cs:List AV) (off:Nat):Option AV :=
 match P.underlying t,qM P t with
 | some d,some n=>match d.isRow with
  | true=>some (.agg ((cs.drop off).take n))
  | false=>cs[off]?
 | _,_=>none
theorem hO {P:Program} {w:World} {S:Nat→Prop} {μ:Mu} {vs:Array Value} {cs:List AV} (hs:vs.size=cs.length)
  (h:∀ (j:Nat) (c:AV) (v:Value),cs[j]?=some c→vs[j]?=some v→an w S μ v c) {t off:Nat} {x:AV} (hx:hI P t cs off=some x)
  (hle:∀ n,qM P t=some n→off+n≤cs.length) :
  ∃ v,(part t vs off).run P w=.ok v w∧an w S μ v x:=by
 unfold hI at hx
 cases hu:P.underlying t with
 | none=>simp [hu] at hx
 | some d =>
  cases hn:qM P t with
  | none=>simp [hu,hn] at hx
  | some n =>
   have Vv:=hle n hn
   cases hd:d.isRow with
   | true =>
    simp [hu,hn,hd] at hx
    have Jk:(isAgg t).run P w=.ok true w:=by
     unfold isAgg
     rw [bc,run_underlying hu w]
     cases d<;>simp_all
    refine ⟨.agg (vs.extract off (off+n)),by simp [part,Jk,df hn],?_⟩
    rw [← hx]
    refine .agg (by simp;omega) ?_
    grind
   | false =>
    simp [hu,hn,hd] at hx
    have Jk:(isAgg t).run P w=.ok false w:=by
     unfold isAgg
     rw [bc,run_underlying hu w]
     cases d<;>simp_all
    have fY:off < vs.size:=by rw [hs];exact (cJ.1 hx).1
    refine ⟨vs[off],by simp [part,Jk,gG fY],?_⟩
    exact h off x _ hx (gG fY)
mutual
def zf (P:Program):Nat→TypeId→AV→AV→Option Bool
 | 0,_,_,_=>none
 | d+1,t,x,y =>
  match P.underlying t with
  | some .bool=>match x,y with
   | .atom (.bool a),.atom (.bool b)=>some (a == b)
   | _,_=>none
  | some (.int _)=>match x,y with
   | .atom (.int k a),.atom (.int k' b)=>match decide (k=k') with
    | true=>some (a == b)
    | false=>none
   | _,_=>none
  | some .string=>match x,y with
   | .atom (.string a),.atom (.string b)=>some (pY a b)
   | _,_=>none
  | some (.struct fs)=>match x,y with
   | .agg xs,.agg ys=>match P.stoodInHeld t with
    | false=>BP P d xs ys fs.toList
    | true=>none
   | _,_=>none
  | some (.array n e)=>match x,y,qM P e with
   | .agg xs,.agg ys,some m=>wV P d e m xs ys 0 n
   | _,_,_=>none
  | _=>none
def BP (P:Program):Nat→List AV→List AV→List Field→Option Bool
 | _,_,_,[]=>some true
 | 0,_,_,_=>none
 | d+1,xs,ys,f :: fs =>
  match decide (f.name = "_"),qM P f.type with
  | false,some n=>match Nat.ble (f.offset+n) xs.length && Nat.ble (f.offset+n) ys.length,hI P f.type xs f.offset,hI P f.type ys f.offset with
   | true,some a,some b=>match zf P d f.type a b,BP P d xs ys fs with
    | some p,some q=>some (p && q)
    | _,_=>none
   | _,_,_=>none
  | _,_=>none
def wV (P:Program):Nat→TypeId→Nat→List AV→List AV→Nat→Nat→Option Bool
 | _,_,_,_,_,_,0=>some true
 | 0,_,_,_,_,_,_=>none
 | d+1,e,m,xs,ys,i,n+1 =>
  match Nat.ble (i * m+m) xs.length && Nat.ble (i * m+m) ys.length,hI P e xs (i * m),hI P e ys (i * m) with
  | true,some a,some b=>match zf P d e a b,wV P d e m xs ys (i+1) n with
   | some p,some q=>some (p && q)
   | _,_=>none
  | _,_,_=>none
end
end Go.Ab
namespace Go.Ab
theorem b8 {w:World} {S:Nat→Prop} {μ:Mu} {v u:Value} (h:an w S μ v (.atom u)):v=u:=by cases h;rfl
theorem lF {w:World} {S:Nat→Prop} {μ:Mu} {v:Value} {cs:List AV} (h:an w S μ v (.agg cs)) :
  ∃ vs:Array Value,v=.agg vs∧vs.size=cs.length∧∀ (j:Nat) (c:AV) (u:Value),cs[j]?=some c→vs[j]?=some u→an w S μ u c:=by
 cases h with
 | agg h1 h2=>grind
section
variable {P:Program} {w:World} {S:Nat→Prop} {μ:Mu}
theorem FV {t:TypeId} {fs:Array Field} (h:P.underlying t=some (.struct fs)):P.fieldsOf t=fs:=by
 simp [Program.fieldsOf,h]
theorem FX:∀ d:Nat,
  (∀ D t x y v u b,d≤D→an w S μ v x→an w S μ u y→zf P d t x y=some b→(Op.equalIn D t v u).run P w=.ok b w) ∧
  (∀ D (vs us:Array Value) xs ys fs b,d≤D→vs.size=xs.length→(∀ (j:Nat) c z,xs[j]?=some c→vs[j]?=some z→an w S μ z c)→us.size=ys.length →
   (∀ (j:Nat) c z,ys[j]?=some c→us[j]?=some z→an w S μ z c)→BP P d xs ys fs=some b→(Op.eqFields D vs us fs).run P w=.ok b w) ∧
  (∀ D (vs us:Array Value) e m xs ys i n b,d≤D→qM P e=some m→vs.size=xs.length→(∀ (j:Nat) c z,xs[j]?=some c→vs[j]?=some z→an w S μ z c)→us.size=ys.length →
   (∀ (j:Nat) c z,ys[j]?=some c→us[j]?=some z→an w S μ z c)→wV P d e m xs ys i n=some b →
   (forIn (m:=Sem) (List.range' i n) ((none,()):Option Bool×Unit) fun i _=>do
      let p ← part e vs (i * m)
      let q ← part e us (i * m)
      let r ← Op.equalIn D e p q
      if (!r)=true then pure (ForInStep.done (some false,())) else pure (ForInStep.yield (none,()))).run P w=.ok (if b then none else some false,()) w):=by
 intro d
 induction d with
 | zero =>
  refine ⟨fun D t x y v u b _ _ _ h=>by simp [zf] at h,?_,?_⟩
  ·intro D vs us xs ys fs b _ _ _ _ _ h
   cases fs with
   | nil=>simp_all [BP,Op.eqFields]
   | cons f fs=>simp [BP] at h
  ·intro D vs us e m xs ys i n b _ _ _ _ _ _ h
   cases n with
   | zero=>simp_all [wV]
   | succ n=>simp [wV] at h
 | succ d ih =>
  obtain ⟨Jg,Jh,UF⟩:=ih
  refine ⟨?_,?_,?_⟩
  ·intro D t x y v u b hD hx hy h
   obtain ⟨D,rfl⟩:∃ D',D=D'+1:=⟨D - 1,by omega⟩
   simp only [zf] at h
   split at h
   ·rename_i hu
    split at h
    ·cases hx;cases hy
     simp at h;subst h
     simp [Op.equalIn,run_underlying hu]
    ·cases h
   ·rename_i hu
    split at h
    ·rename_i k a k' b'
     cases hx;cases hy
     by_cases hk:k=k'
     ·simp [hk] at h;subst h
      simp [Op.equalIn,run_underlying hu,hk]
     ·simp [hk] at h
    ·cases h
   ·rename_i hu
    split at h
    ·cases hx;cases hy
     simp at h;subst h
     rw [run_equalIn_string w D t _ _ hu];rfl
    ·cases h
   ·rename_i fs hu
    split at h
    ·split at h
     ·rename_i Ax
      obtain ⟨vs,rfl,Dr,AN⟩:=lF hx
      obtain ⟨us,rfl,Jl,FY⟩:=lF hy
      have hf:=FV hu
      rw [run_equalIn_struct w D t vs us (hf ▸ hu) Ax,hf]
      exact Jh D vs us _ _ _ b (by omega) Dr AN Jl FY h
     ·cases h
    ·cases h
   ·rename_i n e hu
    split at h
    ·rename_i m hm
     obtain ⟨vs,rfl,Dr,AN⟩:=lF hx
     obtain ⟨us,rfl,Jl,FY⟩:=lF hy
     simp only [Op.equalIn,bc,run_underlying hu,b7,df hm]
     rw [Std.Legacy.Range.forIn_eq_forIn_range']
     simp only [Std.Legacy.Range.size,Nat.sub_zero,Nat.add_sub_cancel,Nat.div_one]
     rw [UF D vs us e m _ _ 0 n b (by omega) hm Dr AN Jl FY h]
     cases b<;>simp
    ·cases h
   ·cases h
  ·intro D vs us xs ys fs b hD Dr AN Jl FY h
   cases fs with
   | nil=>simp [BP] at h;subst h;simp [Op.eqFields]
   | cons f fs =>
    simp only [BP] at h
    split at h
    ·rename_i n Qq hn
     split at h
     ·rename_i a c hle ha hc
      split at h
      ·rename_i p q hp hq
       simp only [aR,Nat.ble_eq] at hle
       have OE:∀ n',qM P f.type=some n'→f.offset+n'≤xs.length:=fun n' h'=>by rw [hn] at h';cases h';exact hle.1
       have Hj:∀ n',qM P f.type=some n'→f.offset+n'≤ys.length:=fun n' h'=>by rw [hn] at h';cases h';exact hle.2
       obtain ⟨v1,r1,x1⟩:=hO Dr AN ha OE
       obtain ⟨v2,r2,x2⟩:=hO Jl FY hc Hj
       have e1:=Jg D f.type a c v1 v2 p (by omega) x1 x2 hp
       have e2:=Jh D vs us xs ys fs q (by omega) Dr AN Jl FY hq
       have iI:f.name≠"_":=pf Qq
       simp at h;subst h
       simp only [Op.eqFields,if_pos iI,bc,r1,r2,e1,b7]
       cases p
       ·simp
       ·simp [e2]
      ·cases h
     ·cases h
    ·cases h
  ·intro D vs us e m xs ys i n b hD hm Dr AN Jl FY h
   cases n with
   | zero=>simp [wV] at h;subst h;simp
   | succ n =>
    simp only [wV] at h
    split at h
    ·rename_i a c hle ha hc
     split at h
     ·rename_i p q hp hq
      simp only [aR,Nat.ble_eq] at hle
      have OE:∀ n',qM P e=some n'→i * m+n'≤xs.length:=fun n' h'=>by rw [hm] at h';cases h';exact hle.1
      have Hj:∀ n',qM P e=some n'→i * m+n'≤ys.length:=fun n' h'=>by rw [hm] at h';cases h';exact hle.2
      obtain ⟨v1,r1,x1⟩:=hO Dr AN ha OE
      obtain ⟨v2,r2,x2⟩:=hO Jl FY hc Hj
      have e1:=Jg D e a c v1 v2 p (by omega) x1 x2 hp
      have e2:=UF D vs us e m xs ys (i+1) n q (by omega) hm Dr AN Jl FY hq
      simp at h;subst h
      rw [List.range'_succ,List.forIn_cons]
      simp only [bc,r1,r2,e1,b7]
      cases p
      ·simp
      ·simpa using e2
     ·cases h
    ·cases h
def BQ (o:BinOp) (q:Bool):Option AV :=
 match o with
 | .eql=>some (.atom (.bool q))
 | .neq=>some (.atom (.bool (!q)))
 | _=>none
def J8:AV→Bool
 | .atom v=>match v with
  | .pointer none=>true
  | _=>false
 | _=>false
def J9 (P:Program) (o:BinOp) (t:TypeId) (x y:AV):Option AV :=
 match P.underlying t,y with
 | some (.slice _),.nil=>match x with
  | .nil=>BQ o true
  | .sl n _ | .os _ _ n=>match o with
   | .eql=>some (.bn n)
   | _=>none
  | _=>none
 | some (.pointer _),y=>match J8 y with
  | true=>match x with
   | .atom v=>match v with
    | .pointer none=>BQ o true
    | _=>none
   | .rp _ _ | .op _ _ _=>BQ o false
   | .pt b _=>BQ o (!b)
   | _=>none
  | false=>none
 | _,_=>none
theorem l9 (op:BinOp) (t:TypeId) (x y:Operand) (a b:Value) (h1:a≠.nilIface) (h2:∀ c,a≠.agg c):(eqGuard op t x y a b).run P w=.ok () w:=by
 simp_all [eqGuard]
theorem Ih {o:BinOp} {t:TypeId} {a b:Option Addr} {l c l' c':Nat} {q:Bool} (h:(Op.equal t (.slice a l c) (.slice b l' c')).run P w=.ok q w) {r:AV} (hr:BQ o q=some r):∃ z,(binOp o t (.slice a l c) (.slice b l' c')).run P w=.ok z w∧an w S μ z r:=by
 cases o<;>simp only [BQ,aA,reduceCtorEq] at hr<;>subst hr
 ·exact ⟨.bool q,by simp_all [binOp,bc],.atom _⟩
 ·exact ⟨.bool (!q),by simp_all [binOp,bc],.atom _⟩
theorem x7 {o:BinOp} {t:TypeId} {a:Option Addr} {q:Bool} (h:(Op.equal t (.pointer a) (.pointer none)).run P w=.ok q w) {r:AV} (hr:BQ o q=some r):∃ z,(binOp o t (.pointer a) (.pointer none)).run P w=.ok z w∧an w S μ z r:=by
 cases o<;>simp only [BQ,aA,reduceCtorEq] at hr<;>subst hr
 ·exact ⟨.bool q,by simp_all [binOp,bc],.atom _⟩
 ·exact ⟨.bool (!q),by simp_all [binOp,bc],.atom _⟩
theorem OF {op:BinOp} {t:TypeId} {x y:AV} {xo yo:Operand} {v u:Value} (hx:an w S μ v x) (hy:an w S μ u y) {r:AV} (h:J9 P op t x y=some r) :
  ∃ z,(do eqGuard op t xo yo v u;binOp op t v u:Sem Value).run P w=.ok z w∧an w S μ z r:=by
 have gd:∀ (v u:Value),v≠.nilIface→(∀ c,v≠.agg c)→(∃ z,(binOp op t v u).run P w=.ok z w∧an w S μ z r)→∃ z,(do eqGuard op t xo yo v u;binOp op t v u:Sem Value).run P w=.ok z w∧an w S μ z r:=by
  intro v u h1 h2 h3
  have hg:=l9 (P:=P) (w:=w) op t xo yo v u h1 h2
  simpa only [bc,hg,b7] using h3
 unfold J9 at h
 split at h
 ·rename_i e ht
  cases hy
  have sl:∀ (a:Option Addr) (l c:Nat),(Op.equal t (.slice a l c) (.slice none 0 0)).run P w=.ok a.isNone w:=by
   intro a l c
   unfold Op.equal Op.maxDepth Op.equalIn
   rw [bc,run_underlying ht]
   cases a<;>rfl
  split at h
  ·cases hx
   exact gd _ _ (by simp) (by simp) (Ih (sl none 0 0) h)
  ·split at h
   ·cases h
    cases hx with
    | sl b off sz f h1 h2 h3 h4 h5 =>
     rename_i a cap
     refine gd _ _ (by simp) (by simp) ⟨.bool a.isNone,?_,.bn _ fun hn=>?_⟩
     ·simp only [binOp,bc,sl];rfl
     ·refine Nat.eq_zero_of_not_pos fun h0=>?_
      rw [(h1 h0).1] at hn;cases hn
   ·cases h
  ·split at h
   ·cases h
    cases hx with
    | os pl hm h1 h2 h3 =>
     rename_i cap a
     refine gd _ _ (by simp) (by simp) ⟨.bool a.isNone,?_,.bn _ fun hn=>?_⟩
     ·simp only [binOp,bc,sl];rfl
     ·refine Nat.eq_zero_of_not_pos fun h0=>?_
      rw [h1 (by omega)] at hn;cases hn
   ·cases h
  ·cases h
 ·rename_i e ht
  split at h
  ·rename_i L8
   have hu:u=.pointer none:=by
    unfold J8 at L8
    split at L8
    ·split at L8
     ·exact b8 hy
     ·cases L8
    ·cases L8
   subst hu
   have pt:∀ (a:Option Addr),(Op.equal t (.pointer a) (.pointer none)).run P w=.ok a.isNone w:=by
    intro a
    unfold Op.equal Op.maxDepth Op.equalIn
    rw [bc,run_underlying ht]
    cases a<;>rfl
   split at h
   ·split at h
    ·have:=b8 hx;subst this
     exact gd _ _ (by simp) (by simp) (x7 (pt none) h)
    ·cases h
   ·cases hx
    exact gd _ _ (by simp) (by simp) (x7 (pt (some _)) h)
   ·cases hx
    exact gd _ _ (by simp) (by simp) (x7 (pt (some _)) h)
   ·rename_i b cs
    cases hx with
    | pt h1 h2 =>
     cases b with
     | true =>
      have:=h1 rfl
      cases this
      exact gd _ _ (by simp) (by simp) (x7 (pt (some _)) h)
     | false =>
      rw [h2 rfl]
      exact gd _ _ (by simp) (by simp) (x7 (pt none) h)
   ·cases h
  ·cases h
 ·cases h
def Qr:Option Bool→Bool
 | some b=>b
 | none=>false
theorem N3 {op:BinOp} {t e:TypeId} {st:Option Bool} {x:AV} {xo yo:Operand} {v u:Value} (ht:P.underlying t=some (.slice e)) (hx:an w S μ v (.nq st x)) (hy:an w S μ u .nil) {n:Nat}
  (hs:∃ a c,v=.slice a n c∧(0 < n→a.isNone=false)) (hn:st=none→0 < n) {r:AV} (h:BQ op (Qr st)=some r) :
  ∃ z,(do eqGuard op t xo yo v u;binOp op t v u:Sem Value).run P w=.ok z w∧an w S μ z r:=by
 obtain ⟨a,c,rfl,ha⟩:=hs
 cases hy
 have hq:a.isNone=Qr st:=by
  cases hx with
  | nq _ h1 h2 =>
   cases st with
   | none=>exact ha (hn rfl)
   | some b=>cases b with
    | true=>have:=h1 rfl;injection this with e1;subst e1;rfl
    | false=>have:=h2 rfl;cases a with
     | none=>cases this
     | some a=>rfl
 have hg:=l9 (P:=P) (w:=w) op t xo yo (.slice a n c) (.slice none 0 0) (by simp) (by simp)
 have he:(Op.equal t (.slice a n c) (.slice none 0 0)).run P w=.ok (Qr st) w:=by
  rw [← hq]
  unfold Op.equal Op.maxDepth Op.equalIn
  rw [bc,run_underlying ht]
  cases a<;>rfl
 obtain ⟨z,h1,h2⟩:=Ih (S:=S) (μ:=μ) he h
 exact ⟨z,by simpa only [bc,hg,b7] using h1,h2⟩
def Ka (P:Program) (op:BinOp) (t:TypeId) (x y:AV):Option (List Prop×AV) :=
 match x,y with
 | .atom (.int k a),.atom (.int k' b)=>match op with
  | .shl=>Bx .shl k a b
  | .shr=>Bx .shr k a b
  | op=>match decide (k=k') with
   | true=>NY op k a b
   | false=>none
 | .atom (.string a),.atom (.string b)=>NZ op a b
 | .atom (.bool _),.atom (.bool _)=>match op with
  | .eql=>(zf P 1 t x y).map fun b=>([],.atom (.bool b))
  | .neq=>(zf P 1 t x y).map fun b=>([],.atom (.bool (!b)))
  | _=>none
 | .agg _,.agg _=>match P.eqGuardType P.depth t with
  | false=>match op with
   | .eql=>(zf P 60 t x y).map fun b=>([],.atom (.bool b))
   | .neq=>(zf P 60 t x y).map fun b=>([],.atom (.bool (!b)))
   | _=>none
  | true=>none
 | .nq st x,.nil=>match P.underlying t,x with
  | some (.slice _),.sl n _=>(BQ op (Qr st)).map fun v=>([st=none→0 < n],v)
  | some (.slice _),.os _ _ n=>(BQ op (Qr st)).map fun v=>([st=none→0 < n],v)
  | _,_=>none
 | x,y=>(J9 P op t x y).map fun v=>([],v)
theorem OG {op:BinOp} {t:TypeId} {x y:AV} {xo yo:Operand} {v u:Value} (hx:an w S μ v x) (hy:an w S μ u y) {ps:List Prop} {r:AV} (h:Ka P op t x y=some (ps,r)) (hp:aV ps) :
  ∃ z,(do eqGuard op t xo yo v u;binOp op t v u:Sem Value).run P w=.ok z w∧an w S μ z r:=by
 unfold Ka at h
 split at h
 ·rename_i k a k' b
  have:=b8 hx;subst this
  have:=b8 hy;subst this
  have hg:=l9 (P:=P) (w:=w) op t xo yo (.int k a) (.int k' b) (by simp) (by simp)
  simp only [bc,hg,b7]
  have sh:∀ o,(o=.shl∨o=.shr)→Bx o k a b=some (ps,r)→∃ z,(binOp o t (.int k a) (.int k' b)).run P w=.ok z w∧an w S μ z r:=by
   intro o ho h
   rcases ho with rfl | rfl<;>simp only [Bx,aA,ax] at h<;>obtain ⟨rfl,rfl⟩:=h <;>
    (have h0:¬ b < 0:=by have:=hp.1;omega)<;>exact ⟨_,by simp [binOp,Op.shift,h0],.atom _⟩
  split at h
  ·exact sh .shl (.inl rfl) h
  ·exact sh .shr (.inr rfl) h
  ·rename_i n1 n2
   split at h
   ·rename_i hk
    have hk:=pe hk
    subst hk
    cases op<;>simp only [NY,aA,ax,reduceCtorEq] at h <;>
     first
      | exact absurd rfl n1
      | exact absurd rfl n2
      | (obtain ⟨rfl,rfl⟩:=h
         exact ⟨_,by
         first
          | (simp [binOp,Op.intArith];done)
          | (have hb:¬ b=0:=hp.1
             simp [binOp,Op.intDiv,hb];done)
          | (simp [binOp,Op.intBits];done)
          | (simp [binOp,Op.intCmp];done),.atom _⟩)
   ·cases h
 ·rename_i a b
  have:=b8 hx;subst this
  have:=b8 hy;subst this
  have hg:=l9 (P:=P) (w:=w) op t xo yo (.string a) (.string b) (by simp) (by simp)
  simp only [bc,hg,b7]
  cases op<;>simp only [NZ,aA,ax,reduceCtorEq] at h<;>obtain ⟨rfl,rfl⟩:=h
  ·have h0:¬ ((a.size+b.size:Nat):Int) > IntKind.i64.max:=by have:=hp.1;omega
   exact ⟨_,by simp only [binOp,Op.stringOp,if_neg h0];rfl,.atom _⟩
  all_goals exact ⟨_,by simp only [binOp,Op.stringOp];rfl,.atom _⟩
 ·rename_i a b
  have:=b8 hx;subst this
  have:=b8 hy;subst this
  have hg:=l9 (P:=P) (w:=w) op t xo yo (.bool a) (.bool b) (by simp) (by simp)
  simp only [bc,hg,b7]
  split at h
  ·simp only [aE,ax] at h
   obtain ⟨q,hq,rfl,rfl⟩:=h
   have:=(FX (w:=w) (S:=S) (μ:=μ) 1).1 10000 t _ _ _ _ q (by omega) hx hy hq
   exact ⟨_,by simp only [binOp,Op.equal,Op.maxDepth,bc,this];rfl,.atom _⟩
  ·simp only [aE,ax] at h
   obtain ⟨q,hq,rfl,rfl⟩:=h
   have:=(FX (w:=w) (S:=S) (μ:=μ) 1).1 10000 t _ _ _ _ q (by omega) hx hy hq
   exact ⟨_,by simp only [binOp,Op.equal,Op.maxDepth,bc,this];rfl,.atom _⟩
  ·cases h
 ·split at h
  ·rename_i OH
   obtain ⟨vs,rfl,Dr,AN⟩:=lF hx
   obtain ⟨us,rfl,Jl,FY⟩:=lF hy
   have hg:=run_eqGuard_agg (P:=P) w op t xo yo vs us OH
   simp only [bc,hg,b7]
   split at h
   ·simp only [aE,ax] at h
    obtain ⟨q,hq,rfl,rfl⟩:=h
    have:=(FX (w:=w) (S:=S) (μ:=μ) 60).1 10000 t _ _ _ _ q (by omega) hx hy hq
    exact ⟨_,by rw [run_eql_struct,this];rfl,.atom _⟩
   ·simp only [aE,ax] at h
    obtain ⟨q,hq,rfl,rfl⟩:=h
    have:=(FX (w:=w) (S:=S) (μ:=μ) 60).1 10000 t _ _ _ _ q (by omega) hx hy hq
    exact ⟨_,by rw [run_neq_struct,this];rfl,.atom _⟩
   ·cases h
  ·cases h
 ·split at h
  ·rename_i e n g ht
   simp only [aE,ax] at h
   obtain ⟨q,hq,rfl,rfl⟩:=h
   refine N3 ht hx hy (n:=n) ?_ hp.1 hq
   cases hx with
   | nq h0 _ _=>cases h0 with
    | sl b off sz f h1 h2 h3 h4 h5=>exact ⟨_,_,rfl,fun hn=>by rw [(h1 hn).1];rfl⟩
  ·rename_i e k o n ht
   simp only [aE,ax] at h
   obtain ⟨q,hq,rfl,rfl⟩:=h
   refine N3 ht hx hy (n:=n) ?_ hp.1 hq
   cases hx with
   | nq h0 _ _=>cases h0 with
    | os pl hm h1 h2 h3=>exact ⟨_,_,rfl,fun hn=>by rw [h1 (by omega)];rfl⟩
  ·cases h
 ·simp only [aE,ax] at h
  obtain ⟨q,hq,rfl,rfl⟩:=h
  exact OF hx hy hq
def OI (op:UnOp) (x:AV):Option AV :=
 match op,x with
 | .neg,.atom (.int k n)=>some (.atom (.int k (k.wrap (0 - n))))
 | .not,.atom (.bool b)=>some (.atom (.bool (!b)))
 | _,_=>none
theorem Qs {op:UnOp} {x:AV} {v:Value} (hx:an w S μ v x) {r:AV} (h:OI op x=some r):∃ z,(Op.unary op v).run P w=.ok z w∧an w S μ z r:=by
 unfold OI at h
 split at h<;>cases h<;>(have:=b8 hx;subst this)
 ·exact ⟨_,by rfl,.atom _⟩
 ·exact ⟨_,by simp [Op.unary],.atom _⟩
def Hk (P:Program) (src dst:TypeId) (x:AV):Option AV :=
 match P.underlying src,P.underlying dst,x with
 | some _,some (.int k),.atom (.int _ n)=>some (.atom (.int k (k.wrap n)))
 | some _,some .string,.atom (.string s)=>some (.atom (.string s))
 | _,_,_=>none
theorem Ml {src dst:TypeId} {x:AV} {v:Value} (hx:an w S μ v x) {r:AV} (h:Hk P src dst x=some r):∃ z,(convert src dst v).run P w=.ok z w∧an w S μ z r:=by
 unfold Hk at h
 split at h
 ·rename_i h1 h2
  cases h;have:=b8 hx;subst this
  exact ⟨_,by simp_all [convert,run_underlying,Conv.intToInt],.atom _⟩
 ·rename_i h1 h2
  cases h;have:=b8 hx;simp_all [convert,run_underlying]
 ·cases h
end
end Go.Ab
namespace Go.Ab
abbrev oZ:=List (Nat×Option Ob)
def Step (P:Program) (E:Env) (nk:Nat) (σ:cz) (S:Nat→Prop) (μ:Mu) (w:World) (s:Sem Value) (val:AV) (ko:oZ):Prop :=
 ∃ v w' S' cu,s.run P w=.ok v w'∧Ext w S μ w' S' cu∧Good E (dL σ ko) S' cu w'∧(∀ k,k≠nk→μ k=none→cu k=none)∧an w' S' cu v val
def RL (w:World) (S:Nat→Prop) (μ:Mu) (vs:Array Value) (cs:List AV):Prop :=
 vs.size=cs.length∧∀ (j:Nat) (c:AV) (v:Value),cs[j]?=some c→vs[j]?=some v→an w S μ v c
section
variable {P:Program} {E:Env} {nk:Nat} {σ:cz} {S:Nat→Prop} {μ:Mu} {w:World}
theorem Step.pure (g:Good E σ S μ w) {s:Sem Value} {v:Value} {val:AV} (h:s.run P w=.ok v w) (hr:an w S μ v val):Step P E nk σ S μ w s val [] :=
 ⟨v,w,S,μ,h,Ext.refl w S μ,g,fun _ _ h=>h,hr⟩
theorem RL.mk' {vs:Array Value} {cs:List AV} (h:RL w S μ vs cs):an w S μ (.agg vs) (.agg cs):=.agg h.1 h.2
theorem RL.pr {vs:Array Value} {cs:List AV} (h:RL w S μ vs cs) {j:Nat} {c:AV} {v:Value} (hc:cs[j]?=some c) (hv:vs[j]?=some v) :
  an w S (if AV.jQ cs then fw else μ) v c:=by
 split
 ·rename_i hp
  exact (h.2 j c v hc hv).pure (pL hp hc) fw
 ·exact h.2 j c v hc hv
theorem k9 {k n:Nat} (pl:Place) (h:n≠k):bz μ k pl n=μ n:=by simp [bz,h]
theorem Step.N4 (g:Good E σ S μ w) (hk:μ nk=none) (hm:E.m0≤nk) {s:Sem Value} {vs:Array Value} {T:TypeId} {cs:List AV}
  (h:s.run P w=.ok (.pointer (some ⟨w.heap.size,0,none⟩)) (w.alloc (.cells vs T))) (hl:RL w S μ vs cs) (hz:1≤cs.length) :
  Step P E nk σ S μ w s (.op nk 0 0) [(nk,some ⟨true,cs.length,1,AV.jQ cs,fun _=>cs⟩)]:=by
 have ga:=g.alloc hk hm vs T ⟨true,cs.length,1,AV.jQ cs,fun _=>cs⟩ 1 (by simp [hl.1]) (a7 _) (fun _ _=>rfl) (fun i j x v hi hx hv=>by
  have:i=0:=by simp at hi;exact hi
  subst this
  exact hl.pr hx (by simpa using hv)) (by grind) (fun i=>uT rfl i)
 refine ⟨_,_,_,_,h,ga.1,ga.2,fun k mE hn=>by grind [k9],?_⟩
 have:=an.op (w:=w.alloc (.cells vs T)) (S:=S) (k:=nk) (i:=0) (j:=0) (μ:=bz μ nk ⟨w.heap.size,1,cs.length⟩) ⟨w.heap.size,1,cs.length⟩ (by simp [bz])
 simpa using this
def EK (P:Program) (nk:Nat) (T:TypeId):Option (AV×oZ) :=
 match oY P T with
 | some z=>match Nat.ble 1 (z.cells.toList.map ec).length with
  | true=>some (.op nk 0 0,[(nk,some ⟨true,(z.cells.toList.map ec).length,1,AV.jQ (z.cells.toList.map ec),fun _=>z.cells.toList.map ec⟩)])
  | false=>none
 | none=>none
theorem uU (vs:Array Value):RL w S μ vs (vs.toList.map ec) :=
 ⟨by simp,fun j c v hc hv=>by
  have Sk:vs.toList[j]?=some v:=by simpa using hv
  rw [List.getElem?_map,Sk] at hc
  simp at hc
  exact hc ▸ xg w S μ v⟩
theorem Kb (g:Good E σ S μ w) (hk:μ nk=none) (hm:E.m0≤nk) {T:TypeId} {val:AV} {ko:oZ} (h:EK P nk T=some (val,ko)) :
  Step P E nk σ S μ w (Instr.alloc T true (.tuple #[])) val ko:=by
 unfold EK at h
 split at h
 ·rename_i z hz
  split at h
  ·rename_i hb
   cases h
   exact Step.N4 g hk hm (vs:=z.cells) (T:=T) (by simp [Instr.alloc,DU hz,newVar,newRow]) (uU _) (Nat.le_of_ble_eq_true hb)
  ·cases h
 ·cases h
def Kc (nk:Nat) (x:AV):Option (AV×oZ) :=
 match x.cells with
 | some cs=>match Nat.ble 1 cs.length with
  | true=>some (.op nk 0 0,[(nk,some ⟨true,cs.length,1,AV.jQ cs,fun _=>cs⟩)])
  | false=>none
 | none=>none
theorem OJ (g:Good E σ S μ w) (hk:μ nk=none) (hm:E.m0≤nk) {T:TypeId} {x:AV} {v:Value} (hx:an w S μ v x) {val:AV} {ko:oZ} (h:Kc nk x=some (val,ko)) :
  Step P E nk σ S μ w (Instr.box T v) val ko:=by
 unfold Kc at h
 split at h
 ·rename_i cs hc
  split at h
  ·rename_i hb
   cases h
   exact Step.N4 g hk hm (vs:=v.cells) (T:=T) (by rfl) (hx.cells hc) (Nat.le_of_ble_eq_true hb)
  ·cases h
 ·cases h
def mF (cs:List AV) (off:Nat) (ns:List AV):List AV:=cs.take off ++ (ns ++ cs.drop (off+ns.length))
theorem pZ (cs:List AV) (off:Nat) (ns:List AV) (h:off+ns.length≤cs.length) (m:Nat) :
  (mF cs off ns)[m]?=if off≤m∧m < off+ns.length then ns[m - off]? else cs[m]?:=by
 have h1:(cs.take off).length=off:=by simp;omega
 unfold mF
 grind
theorem ma (cs:List AV) (off:Nat) (ns:List AV) (h:off+ns.length≤cs.length):(mF cs off ns).length=cs.length:=by
 simp [mF];omega
theorem foldl_set (off:Nat):∀ (us:List Value) (s:Nat) (vs:Array Value),
  ((us.zipIdx s).foldl (fun cs x=>cs.setIfInBounds (off+x.2) x.1) vs).size=vs.size ∧
  ∀ m,((us.zipIdx s).foldl (fun cs x=>cs.setIfInBounds (off+x.2) x.1) vs)[m]?=if off+s≤m∧m < off+s+us.length∧m < vs.size then us[m - (off+s)]? else vs[m]?
 | [],s,vs=>⟨rfl,fun m=>by simp;intro h1 h2;omega⟩
 | u :: us,s,vs=>by
  obtain ⟨h1,h2⟩:=foldl_set off us (s+1) (vs.setIfInBounds (off+s) u)
  simp only [List.zipIdx_cons,List.foldl_cons]
  grind
theorem RL.mF {vs us:Array Value} {cs ns:List AV} (h:RL w S μ vs cs) (hu:RL w S μ us ns) {off:Nat} (hle:off+ns.length≤cs.length) :
  RL w S μ (us.zipIdx.foldl (fun cs (c,j)=>cs.setIfInBounds (off+j) c) vs) (mF cs off ns):=by
 have f:=foldl_set off us.toList 0 vs
 have e:us.zipIdx.foldl (fun cs (c,j)=>cs.setIfInBounds (off+j) c) vs=(us.toList.zipIdx 0).foldl (fun cs x=>cs.setIfInBounds (off+x.2) x.1) vs:=by
  rw [← Array.foldl_toList]
  simp
 rw [e]
 refine ⟨by rw [f.1,h.1,ma _ _ _ hle],?_⟩
 intro j c v hc hv
 rw [f.2 j] at hv
 rw [pZ _ _ _ hle] at hc
 have hl:=hu.1
 have hs:=h.1
 by_cases hj:off≤j∧j < off+ns.length
 ·rw [if_pos hj] at hc
  rw [if_pos (by simp;omega)] at hv
  exact hu.2 (j - off) c v hc (by simpa using hv)
 ·rw [if_neg hj] at hc
  rw [if_neg (by simp;omega)] at hv
  exact h.2 j c v hc hv
def wW (place:Nat→Option (Nat×Nat)) (cells:List AV):List (Nat×AV)→Option (List AV)
 | []=>some cells
 | (i,x) :: rest =>
  match place i,x.cells with
  | some (off,size),some ns=>match Nat.beq ns.length size && Nat.ble (off+ns.length) cells.length with
   | true=>wW place (mF cells off ns) rest
   | false=>none
  | _,_=>none
theorem x8 (place:Nat→Option (Nat×Nat)):∀ (parts:List (Nat×AV)) (hT:List (Nat×Value)) (vs:Array Value) (cs out:List AV),
  hT.map (·.1)=parts.map (·.1)→(∀ (j:Nat) x y,parts[j]?=some x→hT[j]?=some y→an w S μ y.2 x.2)→RL w S μ vs cs→wW place cs parts=some out →
  ∃ us,Instr.fill place vs hT=some us∧RL w S μ us out
 | [],hT,vs,cs,out,hi,_,h,hf=>by
  simp at hi;subst hi
  simp [wW] at hf;subst hf
  exact ⟨vs,rfl,h⟩
 | (i,x) :: rest,hT,vs,cs,out,hi,hr,h,hf=>by
  obtain ⟨⟨i',v⟩,Qt,rfl⟩:∃ a b,hT=a :: b:=by
   cases hT with
   | nil=>simp at hi
   | cons a b=>exact ⟨a,b,rfl⟩
  simp at hi
  obtain ⟨rfl,hi⟩:=hi
  have hv:an w S μ v x:=hr 0 (i',x) (i',v) rfl rfl
  simp only [wW] at hf
  split at hf
  ·rename_i off size ns hp hc
   split at hf
   ·rename_i hb
    simp only [aR,Nat.ble_eq] at hb
    have oW:=bj hb.1
    have N5:=hv.cells hc
    obtain ⟨us,h1,h2⟩:=x8 place rest Qt _ _ out hi (fun j x y hx hy=>hr (j+1) x y (by simpa using hx) (by simpa using hy)) (h.mF ⟨N5.1,N5.2⟩ hb.2) hf
    refine ⟨us,?_,h2⟩
    have c1:¬ v.cells.size≠size:=by rw [N5.1];omega
    have c2:¬ off+v.cells.size > vs.size:=by rw [N5.1,h.1];omega
    simp_all [Instr.fill,if_neg,Bool.or_eq_true,decide_eq_true_eq,not_or]
   ·cases hf
  ·cases hf
def EL (P:Program) (t:TypeId) (parts:List (Nat×AV)):Option AV :=
 match oY P t,P.underlying t with
 | some z,some (.struct fs)=>match fs.toList.mapM fun f=>(qM P f.type).map fun n=>(f.offset,n) with
  | some Kd=>(wW (Kd[·]?) (z.cells.toList.map ec) parts).map .agg
  | none=>none
 | some z,some (.array _ e)=>match qM P e with
  | some n=>(wW (fun i=>some (i * n,n)) (z.cells.toList.map ec) parts).map .agg
  | none=>none
 | _,_=>none
theorem Ke {t:TypeId} {parts:List (Nat×AV)} {hT:Array (Nat×Value)} (hi:hT.toList.map (·.1)=parts.map (·.1))
  (hr:∀ (j:Nat) x y,parts[j]?=some x→hT.toList[j]?=some y→an w S μ y.2 x.2) {r:AV} (h:EL P t parts=some r) :
  ∃ v,(Instr.build t hT).run P w=.ok v w∧an w S μ v r:=by
 unfold EL at h
 split at h
 ·rename_i z fs hz hu
  split at h
  ·rename_i Kd hp
   simp only [aE] at h
   obtain ⟨out,ho,rfl⟩:=h
   obtain ⟨us,h1,h2⟩:=x8 (w:=w) (S:=S) (μ:=μ) _ parts hT.toList z.cells _ out hi hr (uU _) ho
   refine ⟨.agg us,run_build w t hT us ?_,h2.mk'⟩
   have JW:=hz
   unfold oY at JW
   cases hi:P.info? t with
   | none=>simp [hi] at JW
   | some i =>
    simp_all [Program.built,qM,Function.comp_def]
  ·cases h
 ·rename_i z n e hz hu
  split at h
  ·rename_i n' hn
   simp only [aE] at h
   obtain ⟨out,ho,rfl⟩:=h
   obtain ⟨us,h1,h2⟩:=x8 (w:=w) (S:=S) (μ:=μ) _ parts hT.toList z.cells _ out hi hr (uU _) ho
   refine ⟨.agg us,run_build w t hT us ?_,h2.mk'⟩
   have JW:=hz
   unfold oY at JW
   unfold qM at hn
   cases hi:P.info? t with
   | none=>simp [hi] at JW
   | some i =>
    simp [hi] at JW
    cases he:P.info? e with
    | none=>simp [he] at hn
    | some ie =>
     simp_all [Program.built]
  ·cases h
 ·cases h
end
end Go.Ab
namespace Go.Ab
section
variable {P:Program} {E:Env} {nk:Nat} {σ:cz} {S:Nat→Prop} {μ:Mu} {w:World}
theorem Step.Kf (g:Good E σ S μ w) (hk:μ nk=none) (hm:E.m0≤nk) {s:Sem Value} {vs:Array Value} {T:TypeId} {len cap sz:Nat} {pr:Bool} {get:Nat→List AV}
  (h:s.run P w=.ok (.slice (some ⟨w.heap.size,0,none⟩) len cap) (w.alloc (.cells vs T))) (uz:cap * sz≤vs.size) (hlen:len≤cap)
  (ni:∀ i,i < len→(get i).length=sz)
  (xf:∀ i j x v,i < len→(get i)[j]?=some x→vs[i * sz+j]?=some v→an w S (if pr then fw else μ) v x) (ze:sz≠0) (J7:∀ i,rowOf ⟨false,sz,len,pr,get⟩ i=none) :
  Step P E nk σ S μ w s (.os nk 0 len) [(nk,some ⟨false,sz,len,pr,get⟩)]:=by
 have ga:=g.alloc hk hm vs T ⟨false,sz,len,pr,get⟩ cap uz hlen ni xf ze J7
 refine ⟨_,_,_,_,h,ga.1,ga.2,fun k mE hn=>by grind [k9],?_⟩
 simp_all [an.os,bz]
def AV.Mm:AV→Bool
 | .mr _ _ _=>true
 | _=>false
def lW:List AV→Bool
 | []=>true
 | c :: cs=>!c.Mm && lW cs
theorem DV:∀ {cs:List AV},lW cs=true→∀ c∈cs,c.Mm=false
 | [],_,c,h=>by simp at h
 | a :: cs,h,c,hc=>by
  simp only [lW,aR,Bool.not_eq_true'] at h
  rcases jW.1 hc with rfl | hc
  ·exact h.1
  ·exact DV h.2 c hc
theorem Hl (v:Value):(ec v).Mm=false:=by
 unfold ec
 split
 ·rfl
 ·split<;>rfl
 ·rfl
theorem uV {o:Ob} {l:List AV} (h:∀ i,i < o.len→∀ c∈o.get i,c∈l) (hl:∀ c∈l,c.Mm=false) (i:Nat):rowOf o i=none:=by
 cases hr:rowOf o i with
 | none=>rfl
 | some x =>
  obtain ⟨_,h1,h2⟩:=ca hr
  have:=hl _ (h i h1 (.mr x.1 x.2.1 x.2.2) (by simp_all))
  cases this
theorem nj {o:Ob} (h:∀ i,i < o.len→AV.fx (o.get i)=true) (i:Nat):rowOf o i=none:=by
 cases hr:rowOf o i with
 | none=>rfl
 | some x =>
  obtain ⟨_,h1,h2⟩:=ca hr
  have:=h i h1
  rw [h2] at this
  cases this
def kK (P:Program) (t:TypeId):Option TypeId :=
 match P.underlying t with
 | some (.slice e)=>some e
 | _=>none
theorem iY {t e:TypeId} (h:kK P t=some e):P.underlying t=some (.slice e):=by
 grind [kK]
def rows (n:Nat):Nat→List AV→List (List AV)
 | 0,_=>[]
 | k+1,cs=>cs.take n :: rows n k (cs.drop n)
theorem FZ (n:Nat):∀ (k:Nat) (cs:List AV) (i:Nat),i < k→(rows n k cs)[i]?=some ((cs.drop (i * n)).take n)
 | 0,_,i,h=>by omega
 | k+1,cs,0,_=>by simp [rows]
 | k+1,cs,i+1,h=>by
  simp only [rows,Bv]
  rw [FZ n k (cs.drop n) i (by omega),List.drop_drop]
  grind
theorem zg (n k:Nat) (cs:List AV) (i:Nat) (h:i < k):(rows n k cs).getD i []=(cs.drop (i * n)).take n:=by
 rw [ft,FZ n k cs i h];rfl
def Ay (z:List AV):Nat→List AV
 | 0=>[]
 | k+1=>z ++ Ay z k
theorem th (z:List AV):∀ k,(Ay z k).length=k * z.length
 | 0=>by simp [Ay]
 | k+1=>by simp [Ay,th z k,bL];omega
theorem DW (z:List AV) (hz:z.length≠0):∀ (k j:Nat),j < k * z.length→(Ay z k)[j]?=z[j % z.length]?
 | 0,j,h=>by simp at h
 | k+1,j,h=>by
  simp only [Ay]
  by_cases hj:j < z.length
  ·rw [gH hj,Nat.mod_eq_of_lt hj]
  ·rw [iW (by omega),DW z hz k (j - z.length) (by grind)]
   congr 1
   conv=>rhs;rw [show j=(j - z.length)+z.length by omega]
   simp
theorem Kg {z:Value} {n:Nat} (hz:z.cells.size=n) (hn:n≠0) (k:Nat) (c:Array Value) (hc:c=(Array.range (k * n)).map (z.cells[· % z.cells.size]!)) :
  RL w S μ c (Ay (z.cells.toList.map ec) k):=by
 subst hc
 have hl:(z.cells.toList.map ec).length=n:=by simp [hz]
 refine ⟨by simp [th,hz],?_⟩
 intro j x v hx hv
 have hj:j < k * n:=by
  have:=(Array.getElem?_eq_some_iff.1 hv).1
  simpa using this
 rw [DW _ (by omega) k j (by rw [hl];exact hj),hl] at hx
 have fY:j % n < z.cells.size:=by rw [hz];exact Nat.mod_lt _ (by omega)
 have pW:v=z.cells[j % n]:=by
  simp only [Array.getElem?_map] at hv
  rw [Array.getElem?_range,if_pos hj] at hv
  simp at hv
  rw [← hv,hz]
  simp [getElem!_pos,fY]
 refine (uU (w:=w) (S:=S) (μ:=μ) z.cells).2 (j % n) x v hx ?_
 simp_all
def ti (P:Program) (nk:Nat) (t:TypeId) (len:Nat) (parts:List (Nat×AV)):Option (AV×oZ) :=
 match kK P t with
 | some e=>match qM P e,tf P e,oY P e with
  | some n,some _,some z=>match Nat.ble 1 (len * n) && Nat.ble (len * n) 16777216 && Nat.beq z.cells.size n with
   | true=>match wW (fun i=>some (i * n,n)) (Ay (z.cells.toList.map ec) len) parts with
    | some cs=>match lW cs with
     | true=>some (.os nk 0 len,[(nk,some ⟨false,n,len,AV.jQ cs,fun i=>(rows n len cs).getD i []⟩)])
     | false=>none
    | none=>none
   | false=>match Nat.beq len 0 && Nat.ble 1 n with
    | true=>some (.os nk 0 0,[(nk,some ⟨false,n,0,true,fun _=>[]⟩)])
    | false=>none
  | _,_,_=>none
 | none=>none
theorem AO {t e:TypeId} {n:Nat} (he:P.underlying t=some (.slice e)) (hn:qM P e=some n) (w:World) :
  (Instr.buildSlice t 0 #[]).run P w=.ok (.slice (some ⟨w.heap.size,0,none⟩) 0 0) (w.alloc (.cells #[] e)):=by
 simp [Instr.buildSlice,run_underlying he,df hn,Instr.fill,newRow,Array.range_zero']
theorem Ds (g:Good E σ S μ w) (hk:μ nk=none) (hm:E.m0≤nk) {t:TypeId} {len:Nat} {parts:List (Nat×AV)} {hT:Array (Nat×Value)} (hi:hT.toList.map (·.1)=parts.map (·.1))
  (hr:∀ (j:Nat) x y,parts[j]?=some x→hT.toList[j]?=some y→an w S μ y.2 x.2) {val:AV} {ko:oZ} (h:ti P nk t len parts=some (val,ko)) (Sl:len=0→parts=[]) :
  Step P E nk σ S μ w (Instr.buildSlice t len hT) val ko:=by
 unfold ti at h
 split at h
 ·rename_i e he
  have he:=iY he
  split at h
  ·rename_i n b z hn hb hz
   split at h
   ·rename_i zh
    simp only [aR,Nat.ble_eq] at zh
    have P1:=bj zh.2
    split at h
    ·rename_i cs OK
     split at h
     case h_2=>cases h
     rename_i Vw
     cases h
     have Mn:n≠0:=by rintro rfl;simp at zh
     have F0:=Kg (w:=w) (S:=S) (μ:=μ) P1 Mn len _ rfl
     obtain ⟨us,h1,h2⟩:=x8 (w:=w) (S:=S) (μ:=μ) _ parts hT.toList _ _ cs hi hr F0 OK
     obtain ⟨ie,Bz,oX,UG,JX⟩:=tg hn hb hz
     subst oX
     have jC:=run_buildSlice w t e len hT us ie z he Bz JX (by omega) (by omega) h1
     have hlen:us.size=len * ie.size:=by
      have:=h2.1
      have hf:∀ (parts:List (Nat×AV)) (cs out:List AV),wW (fun i=>some (i * ie.size,ie.size)) cs parts=some out→out.length=cs.length:=by
       intro parts
       induction parts with
       | nil=>intro cs out h;simp [wW] at h;rw [h]
       | cons p ps ih =>
        intro cs out h
        simp only [wW] at h
        split at h
        ·split at h
         ·rename_i ho
          simp only [aR,Nat.ble_eq] at ho
          rw [ih _ _ h,ma _ _ _ ho.2]
         ·cases h
        ·cases h
      rw [this,hf _ _ _ OK,th];simp [P1]
     refine Step.Kf g hk hm jC (by rw [hlen];exact a7 _) (a7 _) ?_ ?_ Mn (uV (l:=cs) (fun i hi c hc=>by
      have hc:c∈(rows ie.size len cs).getD i []:=hc
      rw [zg _ _ _ _ hi] at hc
      exact List.mem_of_mem_drop (List.mem_of_mem_take hc)) (DV Vw))
     ·intro i hi
      rw [zg _ _ _ _ hi]
      have:=h2.1
      have:(i+1) * ie.size≤len * ie.size:=cG _ hi
      rw [bL] at this
      simp;omega
     ·intro i j x v hi hx hv
      rw [zg _ _ _ _ hi,ph] at hx
      split at hx
      ·rw [nf] at hx
       exact h2.pr hx hv
      ·cases hx
    ·cases h
   ·split at h
    ·rename_i F0
     cases h
     simp only [aR,Nat.ble_eq] at F0
     obtain ⟨F0,Kh⟩:=F0
     have:=bj F0
     subst this
     have Sl:=Sl rfl
     subst Sl
     have:hT=#[]:=by
      have:hT.toList=[]:=by simpa using hi
      exact Array.toList_eq_nil_iff.1 this
     subst this
     exact Step.Kf g hk hm (AO he hn w) (by simp) (a7 _) (fun i hi=>absurd hi (iw _)) (fun i j x v hi=>absurd hi (iw _)) (by omega) (fun i=>rfl)
    ·cases h
  ·cases h
 ·cases h
def Hm (P:Program) (nk:Nat) (t:TypeId) (l c:AV):Option (List Prop×AV×oZ) :=
 match kK P t,l,c with
 | some e,.atom (.int _ l),.atom (.int _ c)=>match qM P e,tf P e,oY P e with
  | some n,some b,some z=>match Nat.ble 1 n && Nat.beq z.cells.size n with
   | true=>some ([0≤l,l≤c,(b:Int) * c≤281474976710656,c≤9223372036854775807],.os nk 0 l.toNat,
     [(nk,some ⟨false,n,l.toNat,AV.jQ (z.cells.toList.map ec),fun _=>z.cells.toList.map ec⟩)])
   | false=>none
  | _,_,_=>none
 | _,_,_=>none
theorem Mo (g:Good E σ S μ w) (hk:μ nk=none) (hm:E.m0≤nk) {t:TypeId} {l c:AV} {vl vc:Value} (hl:an w S μ vl l) (hc:an w S μ vc c)
  {ps:List Prop} {val:AV} {ko:oZ} (h:Hm P nk t l c=some (ps,val,ko)) (hp:aV ps) :
  Step P E nk σ S μ w (Instr.makeSlice t vl vc) val ko:=by
 unfold Hm at h
 split at h
 ·rename_i e k l k' c he
  have he:=iY he
  have:=b8 hl;subst this
  have:=b8 hc;subst this
  split at h
  ·rename_i n b z hn hb hz
   split at h
   ·rename_i zh
    cases h
    simp only [aR,Nat.ble_eq] at zh
    have P1:=bj zh.2
    obtain ⟨h1,h2,h3,h4,_⟩:=hp
    obtain ⟨ie,Bz,oX,UG,JX⟩:=tg hn hb hz
    subst oX UG
    have jC:=run_make (P:=P) w t e ie z he Bz JX k k' l c h1 h2 h3 h4
    refine Step.Kf g hk hm jC (by rw [size_madeCells];exact a7 _) (by omega) (fun _ _=>by simp [P1]) ?_ (by omega) (uV (l:=z.cells.toList.map ec) (fun _ _ c hc=>hc) (fun c hc=>by
     obtain ⟨v,_,rfl⟩:=List.mem_map.1 hc
     exact Hl v))
    intro i j x v hi hx hv
    have hj:j < ie.size:=by
     have:=(cJ.1 hx).1
     simpa [P1] using this
    have pW:z.cells[j]?=some v:=by
     unfold madeCells at hv
     simp only [Array.getElem?_map] at hv
     have fY:i * ie.size+j < c.toNat * ie.size:=by
      have:(i+1) * ie.size≤c.toNat * ie.size:=cG _ (by omega)
      rw [bL] at this
      omega
     rw [Array.getElem?_range,if_pos fY] at hv
     simp only [Option.map_some,aA] at hv
     rw [P1,ng i,Nat.mul_add_mod,Nat.mod_eq_of_lt hj] at hv
     have UH:j < z.cells.size:=by omega
     rw [gG UH]
     rw [getElem!_pos z.cells j UH] at hv
     exact congrArg some hv
    exact (uU (w:=w) (S:=S) (μ:=μ) z.cells).pr hx pW
   ·cases h
  ·cases h
 ·cases h
def Mp (agg:Bool) (n:Nat) (cs:List AV) (j:Nat):Option AV :=
 match Nat.ble (j+n) cs.length with
 | true=>match agg with
  | true=>some (.agg ((cs.drop j).take n))
  | false=>cs[j]?
 | false=>none
theorem BA {T:TypeId} {d:TypeDesc} {n:Nat} (hu:P.underlying T=some d) (hn:qM P T=some n) {cs:List AV} {j:Nat} {x:AV} (h:Mp d.isRow n cs j=some x) (b o:Nat)
  (f:Nat→Value) (hc:∀ i,i < cs.length→w.cell? ⟨b,o+i,none⟩=some (f i)) (hr:∀ (i:Nat) c,cs[i]?=some c→an w S μ (f i) c) :
  ∃ v,(Instr.loadAt T (.pointer (some ⟨b,o+j,none⟩))).run P w=.ok v w∧an w S μ v x:=by
 unfold Mp at h
 split at h
 ·rename_i hle
  simp only [Nat.ble_eq] at hle
  cases hd:d.isRow with
  | true =>
   simp [hd] at h
   have hl:((List.range n).map fun i=>f (j+i)).length=n:=by simp
   refine ⟨.agg ((List.range n).map fun i=>f (j+i)).toArray,run_loadAt_mid w b (o+j) T _ d ?_ hu hd (by simpa [qM] using hn),?_⟩
   ·intro i v hv
    grind
   ·rw [← h]
    refine .agg (by simp;omega) ?_
    grind
  | false =>
   simp [hd] at h
   have hj:j < cs.length:=(cJ.1 h).1
   have Jk:(isAgg T).run P w=.ok false w:=by
    unfold isAgg
    rw [bc,run_underlying hu w]
    cases d<;>simp_all
   simp_all [Instr.loadAt,Instr.sureAddr,loadVar]
 ·cases h
def Mq (kd:IntKind):AV→Option Int
 | .atom v=>match v with
  | .int k n=>match decide (k=kd) with
   | true=>some n
   | false=>none
  | _=>none
 | _=>none
def wX (kd:IntKind):Nat→List AV→Option (List Int)
 | 0,_=>some []
 | m+1,c :: cs=>match Mq kd c,wX kd m cs with
  | some a,some r=>some (a :: r)
  | _,_=>none
 | _+1,[]=>none
def DX (l:List Int) (n:Nat):Int:=l.getD n 0
def OL (q t:Nat) (v a:Int):Int:=if q=t then v else a
theorem Ii {kd:IntKind} {c:AV} {a:Int} (h:Mq kd c=some a):c=.atom (.int kd a):=by
 unfold Mq at h
 grind
theorem zk {kd:IntKind}:∀ {m:Nat} {cs:List AV} {l:List Int},wX kd m cs=some l→∀ n,n < m→cs[n]?=some (.atom (.int kd (DX l n)))
 | 0,_,_,_,n,hn=>absurd hn (iw n)
 | m+1,[],_,h,_,_=>by simp [wX] at h
 | m+1,c :: cs,l,h,n,hn=>by
  simp only [wX] at h
  split at h
  ·rename_i a r h1 h2
   cases h
   cases n with
   | zero=>simp [DX,Ii h1]
   | succ n =>
    have:=zk h2 n (by omega)
    simpa [DX] using this
  ·cases h
def Ij:AV→Option Bool
 | .atom v=>match v with
  | .bool b=>some b
  | _=>none
 | _=>none
def rl:Nat→List AV→Option (List Bool)
 | 0,_=>some []
 | m+1,c :: cs=>match Ij c,rl m cs with
  | some a,some r=>some (a :: r)
  | _,_=>none
 | _+1,[]=>none
def DY (l:List Bool) (n:Nat):Bool:=l.getD n false
def OM (q t:Nat) (v a:Bool):Bool:=if q=t then v else a
theorem F1 {c:AV} {a:Bool} (h:Ij c=some a):c=.atom (.bool a):=by
 unfold Ij at h
 grind
theorem xh:∀ {m:Nat} {cs:List AV} {l:List Bool},rl m cs=some l→∀ n,n < m→cs[n]?=some (.atom (.bool (DY l n)))
 | 0,_,_,_,n,hn=>absurd hn (iw n)
 | m+1,[],_,h,_,_=>by simp [rl] at h
 | m+1,c :: cs,l,h,n,hn=>by
  simp only [rl] at h
  split at h
  ·rename_i a r h1 h2
   cases h
   cases n with
   | zero=>simp [DY,F1 h1]
   | succ n =>
    have:=xh h2 n (by omega)
    simpa [DY] using this
  ·cases h
def uW (P:Program) (σ:cz) (T:TypeId) (a:AV):Option (List Prop×AV×List Nat) :=
 match P.underlying T,qM P T with
 | some d,some n=>match a with
  | .op k i j=>match ar σ k with
   | some o=>(Mp d.isRow n (o.get i) j).map fun x=>([i < o.len],x,[k])
   | none=>none
  | .rp cs j=>(Mp d.isRow n cs j).map fun x=>([],x,[])
  | .ov k i j m q=>match ar σ k,d with
   | some o,.int kd=>match wX kd m ((o.get i).drop j) with
    | some l=>match Nat.beq n 1 with
     | true=>some ([i < o.len],.atom (.int kd (DX l q)),[k])
     | false=>none
    | none=>none
   | some o,.bool=>match rl m ((o.get i).drop j) with
    | some l=>match Nat.beq n 1 with
     | true=>some ([i < o.len],.atom (.bool (DY l q)),[k])
     | false=>none
    | none=>none
   | _,_=>none
  | _=>none
 | _,_=>none
theorem bW {o:Ob} {pl:Place} {c:Array Value} {T:TypeId} (h:eJ w S μ o pl c T) {i j:Nat} (hi:i < o.len) (hj:j < o.sz) :
  ∃ v,c[i * o.sz+j]?=some v∧w.cell? ⟨pl.bR,i * o.sz+j,none⟩=some v:=by
 have fY:i * o.sz+j < c.size:=by
  have h1:(i+1) * o.sz≤pl.cap * o.sz:=cG _ (by have:=h.len;omega)
  have:=h.cap
  rw [bL] at h1
  omega
 exact ⟨c[i * o.sz+j],gG fY,by rw [cell_of_row w _ _ _ _ _ ((h.bR (by have:=h.len;omega)).trans (by rw [dS (by omega)]))];simp⟩
theorem fy {v:Value} {x:AV} {pr:Bool} (h:an w S (if pr then fw else μ) v x):an w S μ v x:=by
 refine h.mono (fun _ h=>h) (fun _ _=>rfl) ?_
 cases pr
 ·exact fun _ _ h=>h
 ·exact fun _ _ h=>by cases h
theorem EM (g:Good E σ S μ w) {T:TypeId} {a:AV} {va:Value} (ha:an w S μ va a) {ps:List Prop} {x:AV} {rd:List Nat} (h:uW P σ T a=some (ps,x,rd)) (hp:aV ps) :
  ∃ v,(Instr.loadAt T va).run P w=.ok v w∧an w S μ v x:=by
 unfold uW at h
 split at h
 ·rename_i d n hu hn
  split at h
  ·rename_i k i j
   split at h
   ·rename_i o ho
    simp only [aE,ax] at h
    obtain ⟨y,hy,rfl,rfl,rfl⟩:=h
    obtain ⟨pl,c,T',hm,b9⟩:=g.rep.ob k o ho
    have hi:=hp.1
    cases ha with
    | op hH eM =>
     rw [hm] at eM;cases eM
     rw [b9.sz]
     have hlen:=b9.qK i hi
     refine BA hu hn hy pl.bR (i * o.sz) (fun j=>(c[i * o.sz+j]?).getD undef) ?_ ?_
     ·grind [bW]
     ·intro j cc N6
      obtain ⟨v,h1,h2⟩:=bW b9 hi (hlen ▸ (cJ.1 N6).1)
      rw [h1]
      exact fy (b9.rep i j cc v hi N6 h1)
   ·cases h
  ·rename_i cs j
   simp only [aE,ax] at h
   obtain ⟨y,hy,rfl,rfl,rfl⟩:=h
   cases ha with
   | rp b o f h1 h2 h3 =>
    exact BA hu hn hy b o f h2 (fun i c hc=>(h3 i c hc).mono (fun _ h=>h) (fun _ _=>rfl) (fun _ _ h=>by cases h))
  ·rename_i k i j m q
   split at h
   ·rename_i o kd ho
    split at h
    ·rename_i l hl
     split at h
     ·rename_i Kh
      have Kh:=bj Kh
      simp only [aA,ax] at h
      obtain ⟨rfl,rfl,rfl⟩:=h
      obtain ⟨pl,c,T',hm,b9⟩:=g.rep.ob k o ho
      have hi:=hp.1
      cases ha with
      | ov hH eM hq =>
       rw [hm] at eM;cases eM
       rw [b9.sz]
       have hlen:=b9.qK i hi
       have hy:=zk hl q hq
       rw [nf] at hy
       have Vx:=(cJ.1 hy).1
       have OD:Mp (TypeDesc.int kd).isRow n (o.get i) (j+q)=some (.atom (.int kd (DX l q))):=by
        unfold Mp
        have:Nat.ble (j+q+n) (o.get i).length=true:=by rw [Nat.ble_eq];omega
        rw [this]
        exact hy
       refine BA hu hn OD pl.bR (i * o.sz) (fun j=>(c[i * o.sz+j]?).getD undef) ?_ ?_
       ·grind [bW]
       ·intro j cc N6
        obtain ⟨v,h1,h2⟩:=bW b9 hi (hlen ▸ (cJ.1 N6).1)
        rw [h1]
        exact fy (b9.rep i j cc v hi N6 h1)
     ·cases h
    ·cases h
   ·rename_i o ho
    split at h
    ·rename_i l hl
     split at h
     ·rename_i Kh
      have Kh:=bj Kh
      simp only [aA,ax] at h
      obtain ⟨rfl,rfl,rfl⟩:=h
      obtain ⟨pl,c,T',hm,b9⟩:=g.rep.ob k o ho
      have hi:=hp.1
      cases ha with
      | ov hH eM hq =>
       rw [hm] at eM;cases eM
       rw [b9.sz]
       have hlen:=b9.qK i hi
       have hy:=xh hl q hq
       rw [nf] at hy
       have Vx:=(cJ.1 hy).1
       have OD:Mp (TypeDesc.bool).isRow n (o.get i) (j+q)=some (.atom (.bool (DY l q))):=by
        unfold Mp
        have:Nat.ble (j+q+n) (o.get i).length=true:=by rw [Nat.ble_eq];omega
        rw [this]
        exact hy
       refine BA hu hn OD pl.bR (i * o.sz) (fun j=>(c[i * o.sz+j]?).getD undef) ?_ ?_
       ·grind [bW]
       ·intro j cc N6
        obtain ⟨v,h1,h2⟩:=bW b9 hi (hlen ▸ (cJ.1 N6).1)
        rw [h1]
        exact fy (b9.rep i j cc v hi N6 h1)
     ·cases h
    ·cases h
   ·cases h
  ·cases h
 ·cases h
end
end Go.Ab
namespace Go.Ab
def a8:Nat→Nat→Nat
 | 0,n=>n
 | m+1,n=>m+1+n
theorem cl (m n:Nat):a8 m n=m+n:=by cases m<;>simp [a8]
section
variable {P:Program} {E:Env} {nk:Nat} {σ:cz} {S:Nat→Prop} {μ:Mu} {w:World}
def Ob.put (o:Ob) (i:Nat) (cs:List AV) (pr:Bool):Ob :=
 match o.var with
 | true=>{ o with pr:=o.pr && pr,get:=fun _=>cs }
 | false=>{ o with pr:=o.pr && pr,get:=fun m=>if m=i then cs else o.get m }
def Qu (sz:Nat) (cs:List AV) (off:Nat) (ns:List AV):List AV :=
 match Nat.beq ns.length sz with
 | true=>ns
 | false=>mF cs off ns
theorem Hn {sz:Nat} {cs:List AV} {off:Nat} {ns:List AV} (h:off+ns.length≤sz) (hl:cs.length=sz):Qu sz cs off ns=mF cs off ns:=by
 unfold Qu
 split
 ·rename_i hb
  have hb:=bj hb
  have h0:off=0:=by omega
  subst h0
  unfold mF
  rw [List.drop_eq_nil_of_le (by omega)]
  simp
 ·rfl
def mb (P:Program) (σ:cz) (T:TypeId) (a x:AV):Option (List Prop×oZ×List Nat) :=
 match a,x.cells,qM P T with
 | .op k i j,some ns,some n=>match ar σ k with
  | some o=>match Nat.beq ns.length n && AV.fx ns && Nat.ble (j+n) o.sz && (!o.var || Nat.beq o.len 1) && Nat.ble 1 o.sz with
   | true=>some ([i < o.len],[(k,some (o.put i (Qu o.sz (o.get i) j ns) (AV.jQ ns)))],[k])
   | false=>none
  | none=>none
 | _,_,_=>none
theorem zl (g:Good E σ S μ w) {T:TypeId} {a x:AV} {va vx:Value} (ha:an w S μ va a) (hx:an w S μ vx x) {ps:List Prop} {ko:oZ} {rd:List Nat}
  (h:mb P σ T a x=some (ps,ko,rd)) (hp:aV ps) :
  ∃ w',(Instr.storeAt T va vx).run P w=.ok () w'∧Ext w S μ w' S μ∧Good E (dL σ ko) S μ w':=by
 unfold mb at h
 split at h
 ·rename_i k i j ns n Vy hn
  split at h
  ·rename_i o ho
   split at h
   ·rename_i hb
    simp only [aA,ax] at h
    obtain ⟨rfl,rfl,rfl⟩:=h
    simp only [aR,Nat.ble_eq] at hb
    obtain ⟨⟨⟨⟨oW,nh⟩,JY⟩,Mr⟩,RF⟩:=hb
    have oW:=bj oW
    have hi:i < o.len:=hp.1
    obtain ⟨pl,c,T',hm,b9⟩:=g.rep.ob k o ho
    cases ha with
    | op hH eM =>
     rw [hm] at eM;cases eM
     have uz:0 < pl.cap:=by have:=b9.len;omega
     have td:i * o.sz+o.sz≤c.size:=by
      have h1:(i+1) * o.sz≤pl.cap * o.sz:=cG _ (by have:=b9.len;omega)
      have:=b9.cap
      rw [bL] at h1
      omega
     obtain ⟨OK,UI⟩:=hx.cells Vy
     have Dt:∀ v∈vx.cells.toList,v.oneCell'=true:=by
      intro v hv
      obtain ⟨q,hq⟩:=List.getElem?_of_mem hv
      have fY:q < ns.length:=by
       have:=(cJ.1 hq).1
       simp at this;omega
      exact (UI q _ v (n7 fY) (by simpa using hq)).EJ (BO nh (n7 fY))
     have Ax:=run_storeCells_at P pl.bR (i * pl.sz+j) T' vx.cells.toList 0 c w ((b9.bR uz).trans (by grind [dS])) (by rw [b9.sz];simp;omega) Dt
     simp only [Nat.add_zero] at Ax
     generalize ml:(c.toList.take (i * pl.sz+j) ++ vx.cells.toList ++ c.toList.drop (i * pl.sz+j+vx.cells.toList.length)).toArray=c' at Ax
     have uX:(c.toList.take (i * pl.sz+j)).length=i * o.sz+j:=by rw [b9.sz];simp;omega
     have Ik:vx.cells.toList.length=n:=by simp;omega
     have EN:c'.size=c.size:=by
      rw [← ml]
      simp only [List.size_toArray,kU,List.length_drop,Ik,b9.sz]
      simp;omega
     have nR:∀ m,c'[m]?=if i * o.sz+j≤m∧m < i * o.sz+j+n then vx.cells[m - (i * o.sz+j)]? else c[m]?:=by
      intro m
      rw [← ml]
      simp only [List.getElem?_toArray,List.append_assoc]
      by_cases h1:m < i * o.sz+j
      ·grind
      ·rw [iW (by omega),uX]
       by_cases h2:m < i * o.sz+j+n
       ·rw [gH (by omega),if_pos (by omega)]
        simp
       ·rw [iW (by omega),if_neg (by omega),nf,Ik,b9.sz]
        simp only [Array.getElem?_toList]
        congr 1;omega
     have N7:=b9.qK i hi
     have JZ:∀ (o':Ob),o'.sz=o.sz→o'.len=o.len→o'.var=o.var→o'.pr=(o.pr && AV.jQ ns)→(o'.get i=mF (o.get i) j ns)→(∀ m,m < o.len→m≠i→o'.get m=o.get m) →
       Ext w S μ (w.setRow pl.bR c') S μ∧Good E (sset σ k o') S μ (w.setRow pl.bR c'):=by
      intro o' e1 e2 ev e3 e4 e5
      have iI:∀ m q,m≠i→q < o.sz→¬ (i * o.sz+j≤m * o.sz+q∧m * o.sz+q < i * o.sz+j+n):=by
       rintro m q x9 hq ⟨h1,h2⟩
       rcases Nat.lt_or_gt_of_ne x9 with h3 | h3
       ·have:(m+1) * o.sz≤i * o.sz:=cG _ h3
        rw [bL] at this;omega
       ·have:(i+1) * o.sz≤m * o.sz:=cG _ h3
        rw [bL] at this;omega
      refine g.write ho hm uz b9 (by omega) o' c' e1 EN (by rw [e2];exact b9.len) ?_ ?_ ?_
      rotate_left 2
      ·intro m x hx
       obtain ⟨q1,q2,q3⟩:=ca hx
       rw [e2] at q2
       rw [ev] at q1
       rw [nR]
       by_cases x9:m=i
       ·subst x9
        rw [e4] at q3
        cases n with
        | zero =>
         have:ns=[]:=List.eq_nil_of_length_eq_zero oW
         rw [this] at q3
         refine ⟨iX q1 q2 (by rw [← q3];unfold mF;simp),if_neg (by omega)⟩
        | succ n =>
         have h1:=ma (o.get m) j ns (by omega)
         rw [q3] at h1
         have UJ:j=0:=by simp at h1;omega
         have h2:=pZ (o.get m) j ns (by omega) 0
         rw [q3,if_pos (by omega)] at h2
         have h3:=BO nh (j:=0 - j) (c:=.mr x.1 x.2.1 x.2.2) (by rw [← h2];rfl)
         cases h3
       ·rw [e5 m q2 x9] at q3
        exact ⟨iX q1 q2 q3,if_neg (iI m 0 x9 (by omega))⟩
      ·intro m hm
       rw [e2] at hm
       by_cases x9:m=i
       ·subst x9
        rw [e4,ma _ _ _ (by omega),N7,e1]
       ·rw [e5 m hm x9,b9.qK m hm,e1]
      ·intro m q y v hm hy hv
       rw [e2] at hm
       rw [e1,nR] at hv
       rw [e3]
       have hq:q < o.sz:=by
        have:=(cJ.1 hy).1
        by_cases x9:m=i
        ·subst x9;rw [e4,ma _ _ _ (by omega),N7] at this;exact this
        ·rw [e5 m hm x9,b9.qK m hm] at this;exact this
       have hold:(o.get m)[q]?=some y→c[m * o.sz+q]?=some v→an w S (if (o.pr && AV.jQ ns)=true then fw else μ) v y:=by
        intro hy hv
        have:=b9.rep m q y v hm hy hv
        cases Hc:o.pr
        ·simpa [Hc] using this
        ·rw [Hc] at this
         split
         ·exact this
         ·exact fy this
       by_cases x9:m=i
       ·subst x9
        rw [e4,pZ _ _ _ (by omega)] at hy
        by_cases Xg:j≤q∧q < j+n
        ·rw [if_pos (by omega)] at hy hv
         have pW:vx.cells[q - j]?=some v:=by rw [← hv];congr 1;omega
         have:=UI (q - j) y v hy pW
         split
         ·rename_i RG
          simp only [aR] at RG
          exact this.pure (pL RG.2 hy) fw
         ·exact this
        ·rw [if_neg (by omega)] at hy hv
         exact hold hy hv
       ·rw [e5 m hm x9] at hy
        rw [if_neg (iI m q x9 hq)] at hv
        exact hold hy hv
     refine ⟨w.setRow pl.bR c',?_,?_⟩
     ·simp only [Instr.storeAt,Instr.sureAddr,bc,Sem.run_pure,b7,storeVar,df hn]
      rw [Sem.run_ite,if_neg (by omega)]
      exact Ax
     ·show Ext _ _ _ _ _ _∧Good E (sset σ k _) S μ _
      refine JZ _ ?_ ?_ ?_ ?_ ?_ ?_
      ·unfold Ob.put;split<;>rfl
      ·unfold Ob.put;split<;>rfl
      ·unfold Ob.put;split<;>rfl
      ·unfold Ob.put;split<;>rfl
      ·rw [← Hn (by omega) N7];unfold Ob.put;split<;>simp
      ·intro m hm x9
       unfold Ob.put
       split
       ·rename_i ya
        simp only [ya,Bool.not_true,Bool.false_or] at Mr
        have:=bj Mr
        omega
       ·simp [x9]
   ·cases h
  ·cases h
 ·cases h
def Jm (kd:IntKind) (q:Nat) (v:Int):Nat→Nat→List AV→List AV
 | t,m+1,c :: cs=>(match Mq kd c with
  | some a=>.atom (.int kd (OL q t v a))
  | none=>c) :: Jm kd q v (t+1) m cs
 | _,_,cs=>cs
theorem F2 {kd:IntKind} {q:Nat} {v:Int}:∀ {m:Nat} {cs:List AV} {l:List Int} (t:Nat),wX kd m cs=some l→∀ r,(Jm kd q v t m cs)[r]?=if q=t+r∧r < m then some (.atom (.int kd v)) else cs[r]?
 | 0,cs,_,t,_,r=>by cases cs<;>simp [Jm]
 | m+1,[],_,_,h,_=>by simp [wX] at h
 | m+1,c :: cs,l,t,h,r=>by
  simp only [wX] at h
  split at h
  ·rename_i a r' h1 h2
   cases h
   simp only [Jm,h1]
   cases r with
   | zero =>
    simp only [List.getElem?_cons_zero,Nat.add_zero]
    by_cases hq:q=t
    ·simp_all [if_pos,OL]
    ·rw [if_neg (fun h=>hq h.1),OL,if_neg hq,← Ii h1]
   | succ r =>
    simp only [Bv]
    rw [F2 (t+1) h2 r]
    grind
  ·cases h
def Jn (q:Nat) (v:Bool):Nat→Nat→List AV→List AV
 | t,m+1,c :: cs=>(match Ij c with
  | some a=>.atom (.bool (OM q t v a))
  | none=>c) :: Jn q v (t+1) m cs
 | _,_,cs=>cs
theorem F3 {q:Nat} {v:Bool}:∀ {m:Nat} {cs:List AV} {l:List Bool} (t:Nat),rl m cs=some l→∀ r,(Jn q v t m cs)[r]?=if q=t+r∧r < m then some (.atom (.bool v)) else cs[r]?
 | 0,cs,_,t,_,r=>by cases cs<;>simp [Jn]
 | m+1,[],_,_,h,_=>by simp [rl] at h
 | m+1,c :: cs,l,t,h,r=>by
  simp only [rl] at h
  split at h
  ·rename_i a r' h1 h2
   cases h
   simp only [Jn,h1]
   cases r with
   | zero =>
    simp only [List.getElem?_cons_zero,Nat.add_zero]
    by_cases hq:q=t
    ·simp_all [if_pos,OM]
    ·rw [if_neg (fun h=>hq h.1),OM,if_neg hq,← F1 h1]
   | succ r =>
    simp only [Bv]
    rw [F3 (t+1) h2 r]
    grind
  ·cases h
def vZ (P:Program) (σ:cz) (T:TypeId) (a x:AV):Option (List Prop×oZ×List Nat) :=
 match a with
 | .ov k i j m q=>match ar σ k,x,qM P T with
  | some o,.atom (.int kd v),some n=>match wX kd m ((o.get i).drop j) with
   | some _=>match Nat.beq n 1 && Nat.ble (j+m) o.sz && Nat.ble (j+m) (o.get i).length && (!o.var || Nat.beq o.len 1) && Nat.ble 1 o.sz with
    | true=>some ([i < o.len],[(k,some (o.put i ((o.get i).take j ++ Jm kd q v 0 m ((o.get i).drop j)) true))],[k])
    | false=>none
   | none=>none
  | some o,.atom (.bool v),some n=>match rl m ((o.get i).drop j) with
   | some _=>match Nat.beq n 1 && Nat.ble (j+m) o.sz && Nat.ble (j+m) (o.get i).length && (!o.var || Nat.beq o.len 1) && Nat.ble 1 o.sz with
    | true=>some ([i < o.len],[(k,some (o.put i ((o.get i).take j ++ Jn q v 0 m ((o.get i).drop j)) true))],[k])
    | false=>none
   | none=>none
  | _,_,_=>none
 | a=>mb P σ T a x
theorem Ki (g:Good E σ S μ w) {T:TypeId} {a x:AV} {va vx:Value} (ha:an w S μ va a) (hx:an w S μ vx x) {ps:List Prop} {ko:oZ} {rd:List Nat}
  (h:vZ P σ T a x=some (ps,ko,rd)) (hp:aV ps) :
  ∃ w',(Instr.storeAt T va vx).run P w=.ok () w'∧Ext w S μ w' S μ∧Good E (dL σ ko) S μ w':=by
 unfold vZ at h
 split at h
 ·rename_i k i j m q
  split at h
  ·rename_i o kd v n ho hn
   split at h
   ·rename_i l hl
    split at h
    ·rename_i hb
     simp only [aA,ax] at h
     obtain ⟨rfl,rfl,rfl⟩:=h
     simp only [aR,Nat.ble_eq] at hb
     obtain ⟨⟨⟨⟨oW,nh⟩,JY⟩,Mr⟩,RF⟩:=hb
     cases ha with
     | ov pl hm hq =>
      have hc:(o.get i).take j ++ Jm kd q v 0 m ((o.get i).drop j)=mF (o.get i) (j+q) [.atom (.int kd v)]:=by
       have RH:((o.get i).take j).length=j:=by simp;omega
       apply List.ext_getElem?
       intro r
       rw [pZ _ _ _ (by simp;omega)]
       simp only [List.length_singleton]
       by_cases hr:r < j
       ·rw [gH (by omega),ph,if_pos hr,if_neg (by omega)]
       ·rw [iW (by omega),RH,F2 0 hl]
        by_cases Vz:r=j+q
        ·rw [if_pos (by omega),if_pos (by omega)]
         have:r - (j+q)=0:=by omega
         rw [this];rfl
        ·rw [if_neg (by omega),if_neg (by omega),nf]
         congr 1;omega
      have N7:(o.get i).length=o.sz:=by obtain ⟨_,_,_,_,b9⟩:=g.rep.ob k o ho;exact b9.qK i hp.1
      rw [← Hn (sz:=o.sz) (by simp;omega) N7] at hc
      have h0:mb P σ T (.op k i (j+q)) (.atom (.int kd v))=some ([i < o.len],[(k,some (o.put i (Qu o.sz (o.get i) (j+q) [.atom (.int kd v)]) true))],[k]):=by
       have ON:=bj oW
       subst ON
       have e1:Nat.ble (j+q+1) o.sz=true:=by rw [Nat.ble_eq];omega
       have e2:Nat.ble 1 o.sz=true:=by rw [Nat.ble_eq];exact RF
       unfold mb
       simp only [AV.cells,hn,ho,List.length_singleton,AV.fx,AV.one,AV.jQ,AV.pure,e1,e2,Mr,Bool.and_true,Bool.and_self]
      rw [hc]
      exact zl g (an.op pl hm) hx h0 hp
    ·cases h
   ·cases h
  ·rename_i o v n ho hn
   split at h
   ·rename_i l hl
    split at h
    ·rename_i hb
     simp only [aA,ax] at h
     obtain ⟨rfl,rfl,rfl⟩:=h
     simp only [aR,Nat.ble_eq] at hb
     obtain ⟨⟨⟨⟨oW,nh⟩,JY⟩,Mr⟩,RF⟩:=hb
     cases ha with
     | ov pl hm hq =>
      have hc:(o.get i).take j ++ Jn q v 0 m ((o.get i).drop j)=mF (o.get i) (j+q) [.atom (.bool v)]:=by
       have RH:((o.get i).take j).length=j:=by simp;omega
       apply List.ext_getElem?
       intro r
       rw [pZ _ _ _ (by simp;omega)]
       simp only [List.length_singleton]
       by_cases hr:r < j
       ·rw [gH (by omega),ph,if_pos hr,if_neg (by omega)]
       ·rw [iW (by omega),RH,F3 0 hl]
        by_cases Vz:r=j+q
        ·rw [if_pos (by omega),if_pos (by omega)]
         have:r - (j+q)=0:=by omega
         rw [this];rfl
        ·rw [if_neg (by omega),if_neg (by omega),nf]
         congr 1;omega
      have N7:(o.get i).length=o.sz:=by obtain ⟨_,_,_,_,b9⟩:=g.rep.ob k o ho;exact b9.qK i hp.1
      rw [← Hn (sz:=o.sz) (by simp;omega) N7] at hc
      have h0:mb P σ T (.op k i (j+q)) (.atom (.bool v))=some ([i < o.len],[(k,some (o.put i (Qu o.sz (o.get i) (j+q) [.atom (.bool v)]) true))],[k]):=by
       have ON:=bj oW
       subst ON
       have e1:Nat.ble (j+q+1) o.sz=true:=by rw [Nat.ble_eq];omega
       have e2:Nat.ble 1 o.sz=true:=by rw [Nat.ble_eq];exact RF
       unfold mb
       simp only [AV.cells,hn,ho,List.length_singleton,AV.fx,AV.one,AV.jQ,AV.pure,e1,e2,Mr,Bool.and_true,Bool.and_self]
      rw [hc]
      exact zl g (an.op pl hm) hx h0 hp
    ·cases h
   ·cases h
  ·cases h
 ·exact zl g ha hx h hp
def uY (P:Program) (T:TypeId) (x:AV) (f:Nat):Option AV :=
 match P.underlying T with
 | some (.struct fs)=>match fs[f]? with
  | some fl=>match qM P fl.type with
   | some (_+1)=>match x with
    | .op k i j=>some (.op k i (j+fl.offset))
    | .rp cs j=>some (.rp cs (j+fl.offset))
    | _=>none
   | _=>none
  | none=>none
 | _=>none
theorem EO {T:TypeId} {x:AV} {f:Nat} {v:Value} (hx:an w S μ v x) {r:AV} (h:uY P T x f=some r) :
  ∃ u,(Instr.fieldAt T v f).run P w=.ok u w∧an w S μ u r:=by
 unfold uY at h
 split at h
 ·rename_i fs hu
  split at h
  ·rename_i fl hf
   split at h
   ·rename_i n hn
    split at h
    ·cases h
     cases hx with
     | op pl hm =>
      rename_i k i j
      refine ⟨.pointer (some ⟨pl.bR,i * pl.sz+(j+fl.offset),none⟩),?_,.op pl hm⟩
      simp_all [Instr.fieldAt,run_underlying,Instr.sureAddr,fieldPlace,df,Addr.add_mid,Nat.add_assoc]
    ·cases h
     cases hx with
     | rp b o f' h1 h2 h3 =>
      rename_i cs j
      refine ⟨.pointer (some ⟨b,o+(j+fl.offset),none⟩),?_,.rp b o f' h1 h2 h3⟩
      simp_all [Instr.fieldAt,run_underlying,Instr.sureAddr,fieldPlace,df,Addr.add_mid,Nat.add_assoc]
    ·cases h
   ·cases h
  ·cases h
 ·cases h
def EP (P:Program) (T:TypeId) (x:AV) (f:Nat):Option AV :=
 match P.underlying T,x with
 | some (.struct fs),.agg cs=>match fs[f]? with
  | some fl=>match qM P fl.type with
   | some n=>match Nat.ble (fl.offset+n) cs.length with
    | true=>hI P fl.type cs fl.offset
    | false=>none
   | none=>none
  | none=>none
 | _,_=>none
theorem Kj {T:TypeId} {x:AV} {f:Nat} {v:Value} (hx:an w S μ v x) {r:AV} (h:EP P T x f=some r) :
  ∃ u,(Instr.field T v f).run P w=.ok u w∧an w S μ u r:=by
 unfold EP at h
 split at h
 ·rename_i fs cs hu
  split at h
  ·rename_i fl hf
   split at h
   ·rename_i n hn
    split at h
    ·rename_i hle
     simp only [Nat.ble_eq] at hle
     obtain ⟨vs,rfl,Dr,AN⟩:=lF hx
     obtain ⟨u,r1,r2⟩:=hO Dr AN h (fun n' h'=>by simp_all)
     simp_all [Instr.field,run_underlying,asAgg]
    ·cases h
   ·cases h
  ·cases h
 ·cases h
def mS (P:Program) (σ:cz) (T:TypeId) (x ix:AV):Option (List Prop×AV×List Nat) :=
 match P.underlying T,ix with
 | some (.slice e),.atom (.int _ n)=>match qM P e with
  | some sz=>match x with
   | .os k off len=>match ar σ k with
    | some o=>match Nat.beq o.sz sz with
     | true=>some ([0≤n∧n < len],.op k (a8 off n.toNat) 0,[k])
     | false=>none
    | none=>none
   | .sl len get=>match Nat.beq (get n.toNat).length sz with
    | true=>some ([0≤n∧n < len],.rp (get n.toNat) 0,[])
    | false=>none
   | _=>none
  | none=>none
 | some (.array len e),.atom (.int _ n)=>match qM P e with
  | some sz=>match x with
   | .op k i j=>match P.underlying e with
    | some (.int _)=>match Nat.beq sz 1 with
     | true=>some ([0≤n∧n < len],.ov k i j len n.toNat,[])
     | false=>none
    | some .bool=>match Nat.beq sz 1 with
     | true=>some ([0≤n∧n < len],.ov k i j len n.toNat,[])
     | false=>none
    | _=>some ([0≤n∧n < len],.op k i (j+n.toNat * sz),[])
   | .rp cs j=>some ([0≤n∧n < len],.rp cs (j+n.toNat * sz),[])
   | _=>none
  | none=>none
 | _,_=>none
theorem ER (g:Good E σ S μ w) {T:TypeId} {x ix:AV} {v vi:Value} (hx:an w S μ v x) (hi:an w S μ vi ix) {ps:List Prop} {r:AV} {rd:List Nat}
  (h:mS P σ T x ix=some (ps,r,rd)) (hp:aV ps) :
  ∃ u,(Instr.indexAt T v vi).run P w=.ok u w∧an w S μ u r:=by
 unfold mS at h
 split at h
 ·rename_i e kk n hu
  have:=b8 hi;subst this
  split at h
  ·rename_i sz oX
   split at h
   ·rename_i k off len
    split at h
    ·rename_i o ho
     split at h
     ·rename_i hb
      have hb:=bj hb
      simp only [aA,ax] at h
      obtain ⟨rfl,rfl,rfl⟩:=h
      obtain ⟨pl,c,T',hm,b9⟩:=g.rep.ob k o ho
      have hn:=hp.1
      cases hx with
      | os hH eM h1 h2 h3 =>
       rename_i cap a
       rw [hm] at eM;cases eM
       have ha:=h1 (by omega)
       subst ha
       refine ⟨.pointer (some ⟨pl.bR,a8 off n.toNat * pl.sz+0,none⟩),?_,.op pl hm⟩
       simp only [Instr.indexAt,asIntOf,run_underlying hu,bc,Sem.run_pure,b7]
       rw [Sem.run_ite,if_pos hn]
       simp only [bc,df oX,b7,Sem.run_pure,Addr.add_mid]
       rw [cl,b9.sz,hb,bL]
       rfl
     ·cases h
    ·cases h
   ·rename_i len get
    split at h
    ·rename_i hb
     have hb:=bj hb
     simp only [aA,ax] at h
     obtain ⟨rfl,rfl,rfl⟩:=h
     have hn:=hp.1
     cases hx with
     | sl b off N8 f h1 h2 h3 h4 _ =>
      rename_i cap a
      have pM:n.toNat < len:=by omega
      obtain ⟨ha,hS⟩:=h1 (by omega)
      subst ha
      have Sm:N8=sz:=by rw [← h2 n.toNat pM,hb]
      subst Sm
      refine ⟨.pointer (some ⟨b,(off+n.toNat * N8)+0,none⟩),?_,.rp b (off+n.toNat * N8) (f n.toNat) hS ?_ ?_⟩
      ·simp only [Instr.indexAt,asIntOf,run_underlying hu,bc,Sem.run_pure,b7]
       simp_all [Sem.run_ite,if_pos,bc,df,b7,Sem.run_pure,Addr.add_mid]
      ·simp_all
      simp_all
    ·cases h
   ·cases h
  ·cases h
 ·rename_i len e kk n hu
  have:=b8 hi;subst this
  split at h
  ·rename_i sz oX
   split at h
   ·rename_i k i j
    have jC:0≤n∧n < len→∀ pl:Place,(Instr.indexAt T (.pointer (some ⟨pl.bR,i * pl.sz+j,none⟩)) (.int kk n)).run P w=.ok (.pointer (some ⟨pl.bR,i * pl.sz+(j+n.toNat * sz),none⟩)) w:=by
     intro hn pl
     simp only [Instr.indexAt,Instr.sureAddr,asIntOf,run_underlying hu,bc,Sem.run_pure,b7]
     rw [Sem.run_ite,if_pos hn]
     simp only [bc,df oX,b7,Sem.run_pure,Addr.add_mid,Nat.add_assoc]
    split at h
    ·split at h
     ·rename_i Ms
      have Ms:=bj Ms
      simp only [aA,ax] at h
      obtain ⟨rfl,rfl,rfl⟩:=h
      have hn:=hp.1
      cases hx with
      | op pl hm =>
       refine ⟨_,jC hn pl,?_⟩
       rw [Ms,Nat.mul_one]
       exact .ov pl hm (by omega)
     ·cases h
    ·split at h
     ·rename_i Ms
      have Ms:=bj Ms
      simp only [aA,ax] at h
      obtain ⟨rfl,rfl,rfl⟩:=h
      have hn:=hp.1
      cases hx with
      | op pl hm =>
       refine ⟨_,jC hn pl,?_⟩
       rw [Ms,Nat.mul_one]
       exact .ov pl hm (by omega)
     ·cases h
    ·simp only [aA,ax] at h
     obtain ⟨rfl,rfl,rfl⟩:=h
     have hn:=hp.1
     cases hx with
     | op pl hm=>exact ⟨_,jC hn pl,.op pl hm⟩
   ·rename_i cs j
    simp only [aA,ax] at h
    obtain ⟨rfl,rfl,rfl⟩:=h
    have hn:=hp.1
    cases hx with
    | rp b o f h1 h2 h3 =>
     refine ⟨.pointer (some ⟨b,o+(j+n.toNat * sz),none⟩),?_,.rp b o f h1 h2 h3⟩
     simp only [Instr.indexAt,Instr.sureAddr,asIntOf,run_underlying hu,bc,Sem.run_pure,b7]
     simp_all [Sem.run_ite,if_pos,bc,df,b7,Sem.run_pure,Addr.add_mid,Nat.add_assoc]
   ·cases h
  ·cases h
 ·cases h
def xi (s:ByteArray) (i:Nat):Int:=((s[i]?).getD 0).toNat
def ES (P:Program) (T:TypeId) (x ix:AV):Option (List Prop×AV) :=
 match P.underlying T,x,ix with
 | some .string,.atom (.string s),.atom (.int _ n)=>some ([0≤n∧n < s.size],.atom (.int .u8 (xi s n.toNat)))
 | some (.array len e),.agg cs,.atom (.int _ n)=>match P.underlying e,qM P e with
  | some (.int kd),some sz=>match wX kd len cs with
   | some l=>match Nat.beq sz 1 && Nat.beq cs.length len with
    | true=>some ([0≤n∧n < len],.atom (.int kd (DX l n.toNat)))
    | false=>none
   | none=>none
  | some .bool,some sz=>match rl len cs with
   | some l=>match Nat.beq sz 1 && Nat.beq cs.length len with
    | true=>some ([0≤n∧n < len],.atom (.bool (DY l n.toNat)))
    | false=>none
   | none=>none
  | some _,some sz=>match Nat.ble (n.toNat * sz+sz) cs.length with
   | true=>(hI P e cs (n.toNat * sz)).map fun r=>([0≤n∧n < len],r)
   | false=>none
  | _,_=>none
 | _,_,_=>none
theorem Kk {T:TypeId} {x ix:AV} {v vi:Value} (hx:an w S μ v x) (hi:an w S μ vi ix) {ps:List Prop} {r:AV} (h:ES P T x ix=some (ps,r)) (hp:aV ps) :
  ∃ u,(Instr.index T v vi).run P w=.ok u w∧an w S μ u r:=by
 unfold ES at h
 split at h
 ·rename_i s kk n hu
  simp only [aA,ax] at h
  obtain ⟨rfl,rfl⟩:=h
  have:=b8 hi;subst this
  have:=b8 hx;subst this
  have hn:=hp.1
  have fY:n.toNat < s.size:=by omega
  refine ⟨_,?_,.atom _⟩
  simp_all [Instr.index,asIntOf,run_underlying,bc,Sem.run_pure,b7,if_pos,xi]
 ·rename_i len e cs kk n hu
  have fin:∀ {sz:Nat} {r':AV},qM P e=some sz→n.toNat * sz+sz≤cs.length→hI P e cs (n.toNat * sz)=some r'→0≤n∧n < len →
    ∃ u,(Instr.index T v vi).run P w=.ok u w∧an w S μ u r':=by
   intro sz r' oX hle hr hn
   have:=b8 hi;subst this
   obtain ⟨vs,rfl,Dr,AN⟩:=lF hx
   obtain ⟨u,r1,r2⟩:=hO Dr AN hr (fun n' h'=>by simp_all)
   refine ⟨u,?_,r2⟩
   simp only [Instr.index,asIntOf,run_underlying hu,bc,Sem.run_pure,b7]
   rw [Sem.run_ite,if_pos hn]
   simp only [bc,df oX,b7,r1]
  split at h
  ·rename_i kd sz he oX
   split at h
   ·rename_i l hl
    split at h
    ·rename_i hb
     simp only [aR] at hb
     have oW:=bj hb.1
     have nh:=bj hb.2
     simp only [aA,ax] at h
     obtain ⟨rfl,rfl⟩:=h
     have hn:=hp.1
     refine fin oX (by rw [oW];omega) ?_ hn
     have hg:=zk hl n.toNat (by omega)
     simp_all [hI,Nat.mul_one]
    ·cases h
   ·cases h
  ·rename_i sz he oX
   split at h
   ·rename_i l hl
    split at h
    ·rename_i hb
     simp only [aR] at hb
     have oW:=bj hb.1
     have nh:=bj hb.2
     simp only [aA,ax] at h
     obtain ⟨rfl,rfl⟩:=h
     have hn:=hp.1
     refine fin oX (by rw [oW];omega) ?_ hn
     have hg:=xh hl n.toNat (by omega)
     simp_all [hI,Nat.mul_one]
    ·cases h
   ·cases h
  ·rename_i d sz he oX
   split at h
   ·rename_i hle
    simp only [Nat.ble_eq] at hle
    simp only [aE,ax] at h
    obtain ⟨r',hr,rfl,rfl⟩:=h
    exact fin oX hle hr hp.1
   ·cases h
  ·cases h
 ·cases h
def bound (len:Nat):Option AV→Option Nat
 | none=>some len
 | some (.atom (.int _ n))=>some n.toNat
 | _=>none
def rm:Option AV→List Prop
 | some (.atom (.int _ n))=>[0≤n]
 | _=>[]
def v3 (P:Program) (σ:cz) (T:TypeId) (x:AV) (lo hi:Option AV):Option (List Prop×AV×List Nat) :=
 match P.underlying T,x with
 | some .string,.atom (.string s)=>match bound 0 lo,bound s.size hi with
  | some l,some h=>some ((l≤h∧h≤s.size) :: (rm lo ++ rm hi),.atom (.string (s.extract l h)),[])
  | _,_=>none
 | some (.slice e),x=>match qM P e with
  | some sz=>match x with
   | .os k off len=>match bound 0 lo,bound len hi,ar σ k with
    | some l,some h,some o=>match Nat.beq o.sz sz with
     | true=>some ((l≤h∧h≤len) :: (rm lo ++ rm hi),.os k (a8 off l) (h - l),[k])
     | false=>none
    | _,_,_=>none
   | .sl len get=>match bound 0 lo,bound len hi with
    | some l,some h=>match Nat.beq (get l).length sz with
     | true=>some ((l≤h∧h≤len) :: (rm lo ++ rm hi),.sl (h - l) fun i=>get (a8 l i),[])
     | false=>none
    | _,_=>none
   | _=>none
  | none=>none
 | _,_=>none
theorem xj {lo:Option AV} {vlo:Option Value} (hv:(vlo=none↔lo=none)∧∀ a b,lo=some a→vlo=some b→an w S μ b a) {len l:Nat} (h:bound len lo=some l) :
  (lo=none∧vlo=none∧l=len)∨∃ k n,vlo=some (.int k n)∧lo=some (.atom (.int k n))∧l=n.toNat:=by
 unfold bound at h
 split at h
 ·simp_all
 ·rename_i k n
  right
  cases vlo with
  | none=>simp_all
  | some b =>
   have:=b8 (hv.2 _ b rfl rfl)
   grind
 ·cases h
theorem tj (isSlice:Bool) {len cap l h:Nat} {lo hi:Option AV} {vlo vhi:Option Value} (OO:(vlo=none↔lo=none)∧∀ a b,lo=some a→vlo=some b→an w S μ b a)
  (Jo:(vhi=none↔hi=none)∧∀ a b,hi=some a→vhi=some b→an w S μ b a) (hl:bound 0 lo=some l) (hh:bound len hi=some h) (hle:l≤h) (uz:h≤cap) (hp:aV (rm lo ++ rm hi)) :
  (Instr.sliceBounds isSlice len cap vlo vhi none).run P w=.ok (l,h,cap) w:=by
 obtain ⟨p1,p2⟩:=aV.app hp
 rcases xj OO hl with ⟨e1,e2,e3⟩ | ⟨k1,n1,e1,e2,e3⟩
 ·subst e1 e2 e3
  rcases xj Jo hh with ⟨f1,f2,f3⟩ | ⟨k2,n2,f1,f2,f3⟩
  ·simp_all [Instr.sliceBounds]
  ·subst f1 f2 f3
   have:=p2.1
   simp_all [Instr.sliceBounds,Instr.sliceBound,asIntOf]
 ·subst e1 e2 e3
  have:=p1.1
  rcases xj Jo hh with ⟨f1,f2,f3⟩ | ⟨k2,n2,f1,f2,f3⟩
  ·simp_all [Instr.sliceBounds,Instr.sliceBound,asIntOf]
  ·subst f1 f2 f3
   have:=p2.1
   have h2:0≤n2∧n2≤cap:=by omega
   have h3:0≤n1∧n1≤(n2.toNat:Int):=by omega
   simp_all [Instr.sliceBounds,Instr.sliceBound,asIntOf,bc,Sem.run_pure,b7,Sem.run_ite,if_pos]
theorem Kl (g:Good E σ S μ w) {T:TypeId} {x:AV} {v:Value} (hx:an w S μ v x) {lo hi:Option AV} {vlo vhi:Option Value}
  (OO:(vlo=none↔lo=none)∧∀ a b,lo=some a→vlo=some b→an w S μ b a)
  (Jo:(vhi=none↔hi=none)∧∀ a b,hi=some a→vhi=some b→an w S μ b a) {ps:List Prop} {r:AV} {rd:List Nat} (h:v3 P σ T x lo hi=some (ps,r,rd)) (hp:aV ps) :
  ∃ u,(Instr.sliceAt T v vlo vhi none).run P w=.ok u w∧an w S μ u r:=by
 unfold v3 at h
 split at h
 ·rename_i s hu
  have:=b8 hx;subst this
  split at h
  ·rename_i l hh hl OP
   simp only [aA,ax] at h
   obtain ⟨rfl,rfl,rfl⟩:=h
   obtain ⟨⟨p1,p2⟩,p3⟩:=hp
   have hb:=tj (P:=P) (w:=w) false (cap:=s.size) OO Jo hl OP p1 p2 p3
   refine ⟨_,?_,.atom _⟩
   simp [Instr.sliceAt,Instr.slice,run_underlying hu,hb]
  ·cases h
 ·rename_i e hu
  split at h
  ·rename_i sz oX
   split at h
   ·rename_i k off len
    split at h
    ·rename_i l hh o hl OP ho
     split at h
     ·rename_i hb
      have hb:=bj hb
      simp only [aA,ax] at h
      obtain ⟨rfl,rfl,rfl⟩:=h
      obtain ⟨⟨p1,p2⟩,p3⟩:=hp
      obtain ⟨pl,c,T',hm,b9⟩:=g.rep.ob k o ho
      cases hx with
      | os hH eM h1 h2 h3 =>
       rename_i cap a
       rw [hm] at eM;cases eM
       have OQ:=tj (P:=P) (w:=w) true (cap:=cap) OO Jo hl OP p1 (by omega) p3
       refine ⟨.slice (if cap=l then a else a.map (·.add (l * sz))) (hh - l) (cap - l),?_,?_⟩
       ·simp [Instr.sliceAt,Instr.slice,run_underlying hu,OQ,df oX]
       ·refine .os pl hm ?_ (by omega) (by rw [cl];omega)
        intro hc
        have:=h1 (by omega)
        subst this
        rw [if_neg (by omega)]
        simp only [Option.map_some,Addr.add_mid]
        rw [cl,b9.sz,hb,bL]
     ·cases h
    ·cases h
   ·rename_i len get
    split at h
    ·rename_i l hh hl OP
     split at h
     ·rename_i hb
      have hb:=bj hb
      simp only [aA,ax] at h
      obtain ⟨rfl,rfl,rfl⟩:=h
      obtain ⟨⟨p1,p2⟩,p3⟩:=hp
      cases hx with
      | sl b off N8 f h1 h2 h3 h4 h5 =>
       rename_i a cap
       have OQ:=tj (P:=P) (w:=w) true (cap:=cap) OO Jo hl OP p1 (by omega) p3
       have Sm:l < hh→N8=sz:=fun fY=>by grind
       refine ⟨.slice (if cap=l then a else a.map (·.add (l * sz))) (hh - l) (cap - l),?_,?_⟩
       ·simp [Instr.sliceAt,Instr.slice,run_underlying hu,OQ,df oX]
       ·refine .sl b (off+l * sz) N8 (fun i j=>f (a8 l i) j) ?_ (fun i hi=>h2 _ (by rw [cl];omega)) ?_ (fun i j c hi hc=>h4 _ _ _ (by rw [cl];omega) hc) (by omega)
        ·intro hc
         obtain ⟨ha,hS⟩:=h1 (by omega)
         subst ha
         rw [if_neg (by omega)]
         simp_all [Option.map_some,Addr.add_mid,trivial]
        ·intro i j hi hj
         have:=h3 (a8 l i) j (by rw [cl];omega) hj
         rw [cl] at this ⊢
         rw [← this,← Sm (by omega),bL]
         congr 2;omega
     ·cases h
    ·cases h
   ·cases h
  ·cases h
 ·cases h
end
end Go.Ab
namespace Go.Ab
section
variable {P:Program} {E:Env} {nk:Nat} {σ:cz} {S:Nat→Prop} {μ:Mu} {w:World}
def Km (P:Program) (T:TypeId) (x:AV):Option AV :=
 match P.underlying T with
 | some .string=>match x with
  | .atom (.string s)=>some (.atom (.int .i64 s.size))
  | _=>none
 | some (.array n _)=>some (.atom (.int .i64 n))
 | some (.slice _)=>match x with
  | .os _ _ n=>some (.atom (.int .i64 n))
  | .sl n _=>some (.atom (.int .i64 n))
  | .nil=>some (.atom (.int .i64 0))
  | _=>none
 | _=>none
theorem OS {T:TypeId} {x:AV} {v:Value} (hx:an w S μ v x) {r:AV} (h:Km P T x=some r) (ty:TypeId) :
  ∃ u,(Builtin.len_ #[T] ty #[v]).run P w=.ok u w∧an w S μ u r:=by
 unfold Km at h
 split at h
 ·rename_i hu
  split at h
  ·cases h
   have:=b8 hx;subst this
   exact ⟨_,by simp [Builtin.len_,run_underlying hu,goInt],.atom _⟩
  ·cases h
 ·rename_i n e hu
  cases h
  exact ⟨_,by simp [Builtin.len_,run_underlying hu,goInt],.atom _⟩
 ·rename_i e hu
  split at h
  ·cases h
   cases hx with
   | os pl hm h1 h2 h3=>exact ⟨_,by simp [Builtin.len_,run_underlying hu,goInt],.atom _⟩
  ·cases h
   cases hx with
   | sl b off sz f h1 h2 h3 h4 h5=>exact ⟨_,by simp [Builtin.len_,run_underlying hu,goInt],.atom _⟩
  ·cases h
   cases hx
   exact ⟨_,by simp [Builtin.len_,run_underlying hu,goInt],.atom _⟩
  ·cases h
 ·cases h
def sa (σ:cz) (sz:Nat) (x:AV):Option (Nat×(Nat→List AV)×Bool×List Prop×List Nat) :=
 match x with
 | .nil=>some (0,fun _=>[],true,[],[])
 | .sl n g=>match Nat.beq (g 0).length sz with
  | true=>some (n,g,true,[∀ i,i < n→AV.fx (g i)=true],[])
  | false=>none
 | .os k off n=>match ar σ k with
  | some o=>match Nat.beq o.sz sz with
   | true=>some (n,(fun i=>o.get (a8 off i)),o.pr,[off+n≤o.len,∀ i,i < n→AV.fx (o.get (a8 off i))=true],[k])
   | false=>none
  | none=>none
 | _=>none
theorem om {n:Nat} {g:Nat→List AV} (h:(List.range n).all (fun i=>AV.fx (g i))=true):∀ i,i < n→AV.fx (g i)=true :=
 fun i hi=>List.all_eq_true.1 h i (List.mem_range.2 hi)
structure Src (P:Program) (w:World) (S:Nat→Prop) (μ:Mu) (sz:Nat) (v:Value) (n:Nat) (g:Nat→List AV) (pr:Bool) (news:List Value):Prop where
 len:∀ w':World,(Builtin.lenOf v).run P w'=.ok n w'
 cells:∀ w':World,w'.heap=w.heap→(Builtin.firstCells sz n v).run P w'=.ok news.toArray w'
 size:news.length=n * sz
 one:∀ u∈news,u.oneCell'=true
 qK:∀ i,i < n→(g i).length=sz
 rep:∀ i j x u,i < n→(g i)[j]?=some x→news[i * sz+j]?=some u→an w S (if pr then fw else μ) u x
 Mt:∀ i,i < n→AV.fx (g i)=true
theorem DZ {n sz q:Nat} (h:q < n * sz):q / sz < n∧q % sz < sz∧q=q / sz * sz+q % sz:=by
 have h0:0 < sz:=by
  rcases Nat.eq_zero_or_pos sz with h1 | h1
  ·subst h1;simp at h
  ·exact h1
 simp_all [Nat.div_lt_of_lt_mul,ng,Nat.mod_lt,Nat.div_add_mod]
theorem Src.mk' {sz n:Nat} {g:Nat→List AV} {pr:Bool} {b o len cap:Nat} (f:Nat→Nat→Value) (hl:n=len)
  (hc:∀ i j,i < n→j < sz→w.cell? ⟨b,o+i * sz+j,none⟩=some (f i j)) (h1:∀ i,i < n→AV.fx (g i)=true) (ni:∀ i,i < n→(g i).length=sz)
  (hr:∀ i j x,i < n→(g i)[j]?=some x→an w S (if pr then fw else μ) (f i j) x) :
  ∃ news,Src P w S μ sz (.slice (some ⟨b,o,none⟩) len cap) n g pr news:=by
 subst hl
 refine ⟨(List.range (n * sz)).map fun q=>f (q / sz) (q % sz),?_⟩
 have nR:∀ q u,((List.range (n * sz)).map fun q=>f (q / sz) (q % sz))[q]?=some u→q < n * sz∧u=f (q / sz) (q % sz):=by
  intro q u hq
  have fY:q < n * sz:=by
   have:=(cJ.1 hq).1
   simpa using this
  simp [List.getElem?_range fY] at hq
  exact ⟨fY,hq.symm⟩
 refine ⟨fun w'=>by simp [Builtin.lenOf],fun w' hw=>?_,by simp,?_,ni,?_,h1⟩
 ·have Az:∀ a,w'.cell? a=w.cell? a:=fun a=>by simp [World.cell?,hw]
  refine run_firstCells_some w' sz n ⟨b,o,none⟩ n cap _ (by simp) ?_
  intro q u hq
  obtain ⟨fY,rfl⟩:=nR q u hq
  obtain ⟨h2,h3,h4⟩:=DZ fY
  rw [Az,Addr.add_mid]
  have:=hc _ _ h2 h3
  rw [Nat.add_assoc,← h4] at this
  exact this
 ·intro u hu
  obtain ⟨q,hq⟩:=List.getElem?_of_mem hu
  obtain ⟨fY,rfl⟩:=nR q u hq
  obtain ⟨h2,h3,h4⟩:=DZ fY
  have hx:(g (q / sz))[q % sz]?=some ((g (q / sz))[q % sz]'(by rw [ni _ h2];exact h3)):=n7 _
  exact (hr _ _ _ h2 hx).EJ (BO (h1 _ h2) hx)
 ·intro i j x u hi hx hu
  obtain ⟨fY,rfl⟩:=nR _ u hu
  have hj:j < sz:=by
   have:=(cJ.1 hx).1
   rwa [ni i hi] at this
  have e1:(i * sz+j) / sz=i:=by
   rw [ng,Nat.mul_add_div (by omega),Nat.div_eq_of_lt hj];omega
  have e2:(i * sz+j) % sz=j:=by
   rw [ng,Nat.mul_add_mod,Nat.mod_eq_of_lt hj]
  rw [e1,e2]
  exact hr i j x hi hx
theorem Src.empty {sz:Nat} {g:Nat→List AV} {pr:Bool} {a:Option Addr} {cap:Nat}:Src P w S μ sz (.slice a 0 cap) 0 g pr []:=by
 refine ⟨fun w'=>by simp [Builtin.lenOf],fun w' _=>?_,by simp,by simp,fun i h=>absurd h (by omega),fun i j x u h=>absurd h (by omega),fun i h=>absurd h (by omega)⟩
 cases a with
 | none=>simp [Builtin.firstCells]
 | some a=>simp [Builtin.firstCells,loadCells,loadCellsFrom]
theorem uZ (g:Good E σ S μ w) {sz:Nat} {x:AV} {v:Value} (hx:an w S μ v x) {n:Nat} {gt:Nat→List AV} {pr:Bool} {ps:List Prop} {rd:List Nat}
  (h:sa σ sz x=some (n,gt,pr,ps,rd)) (hp:aV ps):∃ news,Src P w S μ sz v n gt pr news:=by
 unfold sa at h
 split at h
 ·simp only [aA,ax] at h
  obtain ⟨rfl,rfl,rfl,rfl,rfl⟩:=h
  cases hx
  exact ⟨[],Src.empty⟩
 ·rename_i n' g'
  split at h
  ·rename_i hb
   have hb:=bj hb
   simp only [aA,ax] at h
   obtain ⟨rfl,rfl,rfl,rfl,rfl⟩:=h
   cases hx with
   | sl b off N8 f h1 h2 h3 h4 h5 =>
    rcases Nat.eq_zero_or_pos n' with h0 | h0
    ·subst h0;exact ⟨[],Src.empty⟩
    ·obtain ⟨ha,_⟩:=h1 h0
     subst ha
     have hs:N8=sz:=by rw [← h2 0 h0,hb]
     subst hs
     exact Src.mk' f rfl h3 hp.1 h2 (fun i j x hi hx=>h4 i j x hi hx)
  ·cases h
 ·rename_i k off n'
  split at h
  ·rename_i o ho
   split at h
   ·rename_i hb
    have hb:=bj hb
    simp only [aA,ax] at h
    obtain ⟨rfl,hg,rfl,rfl,rfl⟩:=h
    have OH:gt=fun i=>o.get (off+i):=by
     rw [← hg];funext i;rw [cl]
    subst OH
    obtain ⟨hle,Dt,_⟩:=hp
    simp only [cl] at Dt
    obtain ⟨pl,c,T',hm,b9⟩:=g.rep.ob k o ho
    subst hb
    cases hx with
    | os hH eM h1 h2 h3 =>
     rename_i cap a
     rw [hm] at eM;cases eM
     rcases Nat.eq_zero_or_pos n' with h0 | h0
     ·subst h0;exact ⟨[],Src.empty⟩
     ·have ha:=h1 (by omega)
      subst ha
      refine Src.mk' (fun i j=>(c[(off+i) * o.sz+j]?).getD undef) rfl ?_ Dt (fun i hi=>b9.qK _ (by omega)) ?_
      ·intro i j hi hj
       obtain ⟨v,q1,q2⟩:=bW b9 (i:=off+i) (by omega) hj
       rw [q1,b9.sz,← bL,q2];rfl
      ·intro i j x hi hx
       obtain ⟨v,q1,q2⟩:=bW b9 (i:=off+i) (by omega) (by have:=(cJ.1 hx).1;rwa [b9.qK _ (by omega)] at this)
       rw [q1]
       exact b9.rep _ j x v (by omega) hx q1
   ·cases h
  ·cases h
 ·cases h
def ot (P:Program) (nk:Nat) (σ:cz) (t:TypeId) (s x:AV):Option (List Prop×AV×List Nat×oZ) :=
 match kK P t with
 | some e=>match qM P e,tf P e,oY P e with
  | some sz,some b,some z=>match Nat.ble 1 sz && Nat.ble 1 b && Nat.beq z.cells.size sz,sa σ sz x with
   | true,some (n,g,pr,ps,rd)=>match s with
    | .nil=>some ((n * b≤140737488355328) :: ps,.os nk 0 n,rd,[(nk,some ⟨false,sz,n,pr,g⟩)])
    | .os k 0 len=>match ar σ k with
     | some o=>match Nat.beq o.sz sz && !o.var with
      | true=>some ((len=o.len) :: ((len+n) * b≤140737488355328) :: ps,.os nk 0 (len+n),k :: rd,
        [(k,none),(nk,some ⟨false,sz,len+n,o.pr && pr,fun m=>if m < len then o.get m else g (m - len)⟩)])
      | false=>none
     | none=>none
    | _=>none
   | _,_=>none
  | _,_,_=>none
 | none=>none
theorem AA {t ty e:TypeId} {i:TypeInfo} (ht:P.underlying t=some (.slice e)) (hi:P.info? e=some i) {sLen sCap n:Nat} {vx:Value} {news:List Value}
  (hl:∀ w':World,(Builtin.lenOf vx).run P w'=.ok n w') (hc:∀ w':World,w'.heap=w.heap→(Builtin.firstCells i.size n vx).run P w'=.ok news.toArray w') (hle:sLen+n≤sCap) :
  (Builtin.append_ #[t,t] ty #[.slice none sLen sCap,vx]).run P w=.ok (.slice none (sLen+n) sCap) w:=by
 simp [Builtin.append_,run_underlying ht,sizeOf,typeInfo,hi,hl,hle,hc w rfl]
theorem BR {t ty e:TypeId} {i:TypeInfo} (ht:P.underlying t=some (.slice e)) (hi:P.info? e=some i) {g sLen sCap n:Nat} {cur:Array Value} {T:TypeId} (hg:w.heap[g]?=some (.cells cur T (0,0))) {vx:Value} {news:List Value}
  (hl:∀ w':World,(Builtin.lenOf vx).run P w'=.ok n w') (hc:∀ w':World,w'.heap=w.heap→(Builtin.firstCells i.size n vx).run P w'=.ok news.toArray w') (h1:∀ u∈news,u.oneCell'=true)
  (hle:sLen+n≤sCap) (uA:sLen * i.size+news.length≤cur.size) :
  (Builtin.append_ #[t,t] ty #[.slice (some ⟨g,0,none⟩) sLen sCap,vx]).run P w =
   .ok (.slice (some ⟨g,0,none⟩) (sLen+n) sCap) (w.setRow g (cur.toList.take (sLen * i.size) ++ news ++ cur.toList.drop (sLen * i.size+news.length)).toArray):=by
 have Ax:=run_storeCells_at P g (sLen * i.size) T news 0 cur w hg (by simpa using uA) h1
 simp only [Nat.add_zero] at Ax
 simp [Builtin.append_,run_underlying ht,sizeOf,typeInfo,hi,hl,hle,hc w rfl,Addr.add_lit,Ax]
theorem Ho {t ty e:TypeId} {i:TypeInfo} (ht:P.underlying t=some (.slice e)) (hi:P.info? e=some i) {g b sLen sCap n:Nat} {cur:Array Value} {T:TypeId} (hg:w.heap[g]?=some (.cells cur T (0,0))) {vx:Value} {news:List Value}
  (hl:∀ w':World,(Builtin.lenOf vx).run P w'=.ok n w') (hc:∀ w':World,w'.heap=w.heap→(Builtin.firstCells i.size n vx).run P w'=.ok news.toArray w') (h1:∀ u∈news,u.oneCell'=true)
  (hle:sLen+n≤sCap) (uA:b+sLen * i.size+news.length≤cur.size) :
  (Builtin.append_ #[t,t] ty #[.slice (some ⟨g,b,none⟩) sLen sCap,vx]).run P w =
   .ok (.slice (some ⟨g,b,none⟩) (sLen+n) sCap) (w.setRow g (cur.toList.take (b+sLen * i.size) ++ news ++ cur.toList.drop (b+sLen * i.size+news.length)).toArray):=by
 have Ax:=run_storeCells_at P g (b+sLen * i.size) T news 0 cur w hg (by simpa using uA) h1
 simp only [Nat.add_zero] at Ax
 simp [Builtin.append_,run_underlying ht,sizeOf,typeInfo,hi,hl,hle,hc w rfl,Addr.add_lit,Ax]
theorem tk {t ty e:TypeId} {i:TypeInfo} {z:Value} (ht:P.underlying t=some (.slice e)) (hi:P.info? e=some i) (hz:i.zero=some z) {base:Option Addr} {sLen sCap n:Nat} {vx:Value} {olds news:List Value}
  (ho:∀ w':World,w'.heap=w.heap→(Builtin.firstCells i.size sLen (.slice base sLen sCap)).run P w'=.ok olds.toArray w')
  (hl:∀ w':World,(Builtin.lenOf vx).run P w'=.ok n w') (hc:∀ w':World,w'.heap=w.heap→(Builtin.firstCells i.size n vx).run P w'=.ok news.toArray w')
  (hg:sCap < sLen+n) (hb:1≤i.bytes) (uA:(sLen+n) * i.bytes≤140737488355328) :
  (Builtin.append_ #[t,t] ty #[.slice base sLen sCap,vx]).run P w =
   .ok (.slice (some ⟨w.heap.size,0,none⟩) (sLen+n) (grownCap w (sLen+n) sCap e))
    (w.drew.alloc (.cells (olds.toArray ++ news.toArray ++ Builtin.zeroCells z.cells (grownCap w (sLen+n) sCap e - (sLen+n))) e)):=by
 have hn:¬ (sLen+n≤sCap):=by omega
 have zh:(sLen+n) * 1≤(sLen+n) * i.bytes:=Nat.mul_le_mul_left _ hb
 have Sn:¬ (9223372036854775807 < ((sLen:Int)+(n:Int))):=by omega
 have Xh:=growslice_fits hg uA
 have So:¬ (281474976710656 < Builtin.nextslicecap (sLen+n) sCap * i.bytes):=by omega
 have e1:=hc w.drew rfl
 have e2:=ho w.drew rfl
 simp [Builtin.append_,run_underlying ht,sizeOf,typeInfo,zeroValue,hi,hz,hl,hn,Sn,So,Question.forced,e1,e2,newRow,grownCap]
 grind
theorem BS (w:World) (Qv uy:Nat) (e:TypeId):Qv≤grownCap w Qv uy e:=by simp [grownCap,Question.cut]
theorem Good.grow (g:Good E σ S μ w) (hk:μ nk=none) (hm:E.m0≤nk) {sz n len cap:Nat} {e:TypeId} {olds news:List Value} {rest:Array Value} {pr:Bool} {get:Nat→List AV}
  (ho:olds.length=len * sz) (hn:news.length=n * sz) (hr:rest.size=(cap - (len+n)) * sz) (hle:len+n≤cap)
  (ni:∀ i,i < len+n→(get i).length=sz)
  (xf:∀ i j x u,i < len+n→(get i)[j]?=some x→(olds ++ news)[i * sz+j]?=some u→an w S (if pr then fw else μ) u x) (ze:sz≠0)
  (NX:MX E.fp E.w0.heap.size (w.drew.alloc (.cells (olds.toArray ++ news.toArray ++ rest) e)) S (bz μ nk ⟨w.heap.size,cap,sz⟩) (sset σ nk ⟨false,sz,len+n,pr,get⟩)) :
  Ext w S μ (w.drew.alloc (.cells (olds.toArray ++ news.toArray ++ rest) e)) S (bz μ nk ⟨w.heap.size,cap,sz⟩) ∧
  Good E (sset σ nk ⟨false,sz,len+n,pr,get⟩) S (bz μ nk ⟨w.heap.size,cap,sz⟩) (w.drew.alloc (.cells (olds.toArray ++ news.toArray ++ rest) e)):=by
 have oX:(olds.toArray ++ news.toArray ++ rest).size=cap * sz:=by
  simp only [Array.size_append,List.size_toArray,ho,hn,hr]
  rw [← bL,← bL];congr 1;omega
 have ga:=g.drew.J6 (nk:=nk) hk hm (olds.toArray ++ news.toArray ++ rest) e ⟨false,sz,len+n,pr,get⟩ cap (by rw [oX];exact a7 _) hle ni ?_ ze NX
 ·exact ⟨(Ext.drew w S μ).trans ga.1,ga.2⟩
 ·intro i j x v hi hx hv
  have hj:j < sz:=by
   have:=(cJ.1 hx).1
   have e:(get i).length=sz:=ni i hi
   exact e ▸ this
  have fY:i * sz+j < (olds ++ news).length:=by
   have h1:(i+1) * sz≤(len+n) * sz:=cG _ (show i+1≤len+n from hi)
   rw [bL,bL] at h1
   simp only [kU,ho,hn]
   omega
  have pW:(olds ++ news)[i * sz+j]?=some v:=by
   rw [show olds.toArray ++ news.toArray ++ rest=(olds ++ news).toArray ++ rest by simp] at hv
   rw [Array.getElem?_append_left (by simpa using fY)] at hv
   simpa using hv
  have:=xf i j x v hi hx pW
  exact an.mono (w:=w) (w':=w.drew) (S':=S) (fun _ h=>h) (fun _ _=>rfl) this (fun _ _ h=>h)
theorem Good.move (g:Good E σ S μ w) (hk:μ nk=none) (hm:E.m0≤nk) {k:Nat} {o:Ob} {pl:Place} (ho:ar σ k=some o) (rn:μ k=some pl) (o':Ob) {c:Array Value} {T:TypeId} (b9:eJ w S μ o' pl c T)
  (td:∀ i x,rowOf o' i=some x→rowOf o i=some x) :
  Ext w S μ w S (bz μ nk pl)∧Good E (sset (r9 σ k) nk o') S (bz μ nk pl) w:=by
 have gd:=g.del k
 have L9:∀ n hH,μ n=some hH→bz μ nk pl n=some hH:=fun n hH h=>by
  grind [bz]
 have ex:Ext w S μ w S (bz μ nk pl):=⟨a7 _,fun _ h=>h,fun _ _=>rfl,L9⟩
 refine ⟨ex,⟨g.fr,g.S0,g.S1,g.S2,⟨?_,?_⟩,?_,?_,?_⟩⟩
 rotate_right
 ·have Sp:k≠nk:=fun h=>by simp_all
  have key:∀ q i x v,fJ w (bz μ nk pl) (sset (r9 σ k) nk o') q i x v→(q=nk∧fJ w μ σ k i x v)∨(q≠nk∧q≠k∧fJ w μ σ q i x v):=by
   rintro q i x v ⟨o2,pj,h1,h2,h3,h4⟩
   rw [aP] at h1
   unfold bz at h3
   by_cases hq:nk=q
   ·rw [if_pos hq] at h1;cases h1
    rw [if_pos hq.symm] at h3;cases h3
    exact .inl ⟨hq.symm,o,pl,ho,td i x h2,rn,h4⟩
   ·rw [if_neg hq] at h1
    rw [if_neg (fun h=>hq h.symm)] at h3
    rw [dY] at h1
    split at h1
    ·cases h1
    ·rename_i UK
     exact .inr ⟨fun h=>hq h.symm,fun h=>UK h.symm,o2,pj,h1,h2,h3,h4⟩
  refine g.mx.tr (fun q=>if q=nk then k else q) (fun q i x v h=>?_) (fun q i x v q' i' x' v' h h' e=>?_) (fun _ h=>h) (fun _ _=>rfl) (fun q i x v b _ h hb=>⟨rfl,(g.mx.bR h hb).2.1,fun h=>h⟩) (fun q o2 pj h1 h2 h3=>?_)
  ·grind
  ·grind
  ·rw [aP] at h1
   unfold bz at h2
   by_cases hq:nk=q
   ·grind
   ·rw [if_neg hq,dY] at h1
    grind
 ·intro q oq hq
  rw [aP] at hq
  by_cases Sq:nk=q
  ·rw [if_pos Sq] at hq;cases hq
   exact ⟨pl,c,T,by simp [bz,Sq],b9.ext ex (fun _=>rfl) b9.out⟩
  ·rw [if_neg Sq] at hq
   obtain ⟨pj,c2,T2,BN,Kn⟩:=gd.rep.ob q oq hq
   exact ⟨pj,c2,T2,L9 _ _ BN,Kn.ext ex (fun _=>rfl) Kn.out⟩
 ·intro q q' oq UL xY pj iI hq Jp AM BT c1 c2
  rw [aP] at hq Jp
  simp only [bz] at AM BT
  by_cases e1:nk=q
  ·rw [if_pos e1.symm] at AM;cases AM
   have e2:¬ nk=q':=fun h=>iI (e1.symm.trans h)
   rw [if_neg e2] at Jp;rw [if_neg (fun h=>e2 h.symm)] at BT
   rw [dY] at Jp
   split at Jp
   ·cases Jp
   ·rename_i e3
    exact g.rep.ne k q' o UL pl pj e3 ho Jp rn BT c1 c2
  ·rw [if_neg e1] at hq;rw [if_neg (fun h=>e1 h.symm)] at AM
   rw [dY] at hq
   split at hq
   ·cases hq
   ·rename_i e3
    by_cases e2:nk=q'
    ·rw [if_pos e2.symm] at BT;cases BT
     exact g.rep.ne q k oq o xY pl (fun h=>e3 h.symm) hq ho AM rn c1 c2
    ·rw [if_neg e2] at Jp;rw [if_neg (fun h=>e2 h.symm)] at BT
     rw [dY] at Jp
     split at Jp
     ·cases Jp
     ·exact g.rep.ne q q' oq UL xY pj iI hq Jp AM BT c1 c2
 ·intro q oq VA hq AM c1
  rw [aP] at hq
  simp only [bz] at AM
  by_cases e1:nk=q
  ·rw [if_pos e1.symm] at AM;cases AM;exact g.own k o _ ho rn c1
  ·rw [if_neg e1] at hq;rw [if_neg (fun h=>e1 h.symm)] at AM
   exact gd.own q oq VA hq AM c1
 ·intro q hq;rw [k9 _ (by omega)];exact g.Bw q hq
theorem Good.congr {dm:cz} (g:Good E σ S μ w) (h:∀ n,ar dm n=ar σ n):Good E dm S μ w :=
 ⟨g.fr,g.S0,g.S1,g.S2,⟨fun k o hk=>g.rep.ob k o (h k ▸ hk),fun k k' o o' pl hH iI hk mE=>g.rep.ne k k' o o' pl hH iI (h k ▸ hk) (h k' ▸ mE)⟩,
  fun k o pl hk=>g.own k o pl (h k ▸ hk),g.Bw,g.mx.tr id (fun k i x v ⟨o,pl,h1,h2⟩=>⟨o,pl,h k ▸ h1,h2⟩) (fun _ _ _ _ _ _ _ _ _ _ h=>h) (fun _ h=>h) (fun _ _=>rfl)
   (fun k i x v b _ h hb=>⟨rfl,(g.mx.bR h hb).2.1,fun h=>h⟩) (fun k o pl h1 h2 h3=>.inl ⟨k,o,pl,h k ▸ h1,h2,h3,rfl⟩)⟩
theorem D0 (g:Good E σ S μ w) (hk:μ nk=none) (hm:E.m0≤nk) {t ty:TypeId} {s x:AV} {vs vx:Value} (hs:an w S μ vs s) (hx:an w S μ vx x) {ps:List Prop} {val:AV} {rd:List Nat} {ko:oZ}
  (h:ot P nk σ t s x=some (ps,val,rd,ko)) (hp:aV ps):Step P E nk σ S μ w (Builtin.append_ #[t,t] ty #[vs,vx]) val ko:=by
 unfold ot at h
 split at h
 ·rename_i e he
  have he:=iY he
  split at h
  ·rename_i sz b z oX hb hz
   obtain ⟨ie,Bz,rfl,rfl,JX⟩:=tg oX hb hz
   split at h
   ·rename_i n gt pr Ko Il zh sb
    simp only [aR,Nat.ble_eq] at zh
    obtain ⟨⟨b1,b2⟩,b3⟩:=zh
    have b3:=bj b3
    split at h
    ·simp only [aA,ax] at h
     obtain ⟨rfl,rfl,rfl,rfl⟩:=h
     obtain ⟨p1,p2⟩:=hp
     obtain ⟨news,sr⟩:=uZ (P:=P) g hx sb p2
     cases hs
     rcases Nat.eq_zero_or_pos n with h0 | h0
     ·subst h0
      have jC:=AA (P:=P) (w:=w) (ty:=ty) (sLen:=0) (sCap:=0) he Bz sr.len sr.cells (by omega)
      have ga:Good E (sset σ nk ⟨false,ie.size,0,pr,gt⟩) S (bz μ nk ⟨0,0,ie.size⟩) w:=by
       have L9:∀ k pl,μ k=some pl→bz μ nk ⟨0,0,ie.size⟩ k=some pl:=fun k pl h=>by
        grind [bz]
       have ex:Ext w S μ w S (bz μ nk ⟨0,0,ie.size⟩):=⟨a7 _,fun _ h=>h,fun _ _=>rfl,L9⟩
       have J7:∀ i,rowOf ⟨false,ie.size,0,pr,gt⟩ i=none:=nj fun i hi=>absurd hi (iw _)
       refine ⟨g.fr,g.S0,g.S1,g.S2,⟨?_,?_⟩,?_,?_,g.FU hk _ _ (fun h=>absurd h (by simp)) J7 (fun _ _=>rfl) (fun _ h=>h) (fun _ h=>.inl h)⟩
       ·intro k o ho
        rw [aP] at ho
        by_cases ua:nk=k
        ·rw [if_pos ua] at ho;cases ho
         exact ⟨⟨0,0,ie.size⟩,#[],0,by simp [bz,ua],rfl,fun h=>absurd h (by simp),by simp,by simp,fun h=>absurd h (by simp),fun i h=>absurd h (by simp),fun i j x v h=>absurd h (by simp),fun h=>absurd (show ie.size=0 from h) (by omega)⟩
        ·rw [if_neg ua] at ho
         obtain ⟨pl,c,T,eM,b9⟩:=g.rep.ob k o ho
         exact ⟨pl,c,T,L9 _ _ eM,b9.ext ex (fun _=>rfl) b9.out⟩
       ·intro k k' o o' pl hH iI ho tc AM BT c1 c2
        rw [aP] at ho tc
        simp only [bz] at AM BT
        by_cases h1:nk=k
        ·grind
        ·by_cases h2:nk=k'
         ·grind
         ·rw [if_neg h1] at ho;rw [if_neg h2] at tc
          rw [if_neg (fun h=>h1 h.symm)] at AM;rw [if_neg (fun h=>h2 h.symm)] at BT
          exact g.rep.ne k k' o o' pl hH iI ho tc AM BT c1 c2
       ·intro k o pl ho AM c1
        rw [aP] at ho
        simp only [bz] at AM
        by_cases h1:nk=k
        ·grind
        ·rw [if_neg h1] at ho;rw [if_neg (fun h=>h1 h.symm)] at AM
         exact g.own k o pl ho AM c1
       ·intro k mE
        rw [k9 _ (by omega)];exact g.Bw k mE
      refine ⟨_,w,S,_,jC,⟨a7 _,fun _ h=>h,fun _ _=>rfl,?_⟩,ga,fun k mE hn=>by grind [k9],?_⟩
      ·grind [bz]
      simp_all [an.os,bz,absurd]
     ·have jC:=tk (P:=P) (w:=w) (ty:=ty) (base:=none) (sLen:=0) (sCap:=0) (olds:=[]) he Bz JX (fun w' _=>by simp [Builtin.firstCells]) sr.len sr.cells (by omega) b2 (by simpa using p1)
      simp only [Nat.zero_add] at jC
      have uz:=BS w n 0 e
      have gg:=g.grow (e:=e) hk hm (sz:=ie.size) (n:=n) (len:=0) (cap:=grownCap w n 0 e) (olds:=[]) (news:=news) (rest:=Builtin.zeroCells z.cells (grownCap w n 0 e - n)) (pr:=pr) (get:=gt)
       (by simp) sr.size (by rw [size_zeroCells,b3,Nat.zero_add]) (by omega) (fun i hi=>sr.qK i (by omega)) (fun i j x u hi hx hu=>sr.rep i j x u (by omega) hx (by simpa using hu)) (by omega)
       (g.FU hk _ _ (fun _=>a7 _) (nj fun i hi=>sr.Mt i (by simp_all)) (fun b h=>dH (w:=w.drew) h) (fun _ h=>h) (fun _ h=>.inl h))
      simp only [Nat.zero_add] at gg
      refine ⟨_,_,S,_,jC,gg.1,gg.2,fun k mE hn=>by grind [k9],?_⟩
      simp_all [an.os,grownCap,bz]
    ·rename_i k len
     split at h
     ·rename_i o ho
      split at h
      ·rename_i FK
       simp only [aR,Bool.not_eq_true'] at FK
       obtain ⟨FK,ya⟩:=FK
       have FK:=bj FK
       simp only [aA,ax] at h
       obtain ⟨rfl,rfl,rfl,rfl⟩:=h
       obtain ⟨p0,p1,p2⟩:=hp
       subst p0
       obtain ⟨news,sr⟩:=uZ (P:=P) g hx sb p2
       obtain ⟨pl,c,T',rn,b9⟩:=g.rep.ob k o ho
       have ua:k≠nk:=fun h=>by simp_all
       show Step P E nk σ S μ w _ _ [(k,none),(nk,some ⟨false,ie.size,o.len+n,o.pr && pr,fun m=>if m < o.len then o.get m else gt (m - o.len)⟩)]
       have ni:∀ i,i < o.len+n→((fun m=>if m < o.len then o.get m else gt (m - o.len)) i).length=ie.size:=by
        intro i hi
        show (if i < o.len then o.get i else gt (i - o.len)).length=_
        split
        ·rw [b9.qK i (by assumption),FK]
        ·exact sr.qK _ (by omega)
       have Qw:∀ {u:Value} {x:AV},an w S (if o.pr then fw else μ) u x→pr=true∨pr=false→an w S (if (o.pr && pr)=true then fw else μ) u x:=by
        intro u x hh hp
        rcases hp with hp | hp
        ·simp_all
        ·rw [hp,Bool.and_false];exact fy hh
       have Mv:∀ {u:Value} {x:AV},an w S (if pr then fw else μ) u x→an w S (if (o.pr && pr)=true then fw else μ) u x:=by
        intro u x hh
        cases hp:o.pr
        ·rw [Bool.false_and];exact fy hh
        ·rw [Bool.true_and];exact hh
       have UM:pr=true∨pr=false:=by cases pr<;>simp
       have td:∀ i x,rowOf ⟨false,ie.size,o.len+n,o.pr && pr,fun m=>if m < o.len then o.get m else gt (m - o.len)⟩ i=some x→rowOf o i=some x:=by
        intro i x hx
        obtain ⟨_,q2,q3⟩:=ca hx
        have q2:i < o.len+n:=q2
        have q3:(if i < o.len then o.get i else gt (i - o.len))=[.mr x.1 x.2.1 x.2.2]:=q3
        split at q3
        ·rename_i h1;exact iX ya h1 q3
        ·have:=sr.Mt (i - o.len) (by omega)
         rw [q3] at this;cases this
       cases hs with
       | os hH eM h1 h2 h3 =>
        rename_i cap a
        rw [rn] at eM;cases eM
        by_cases F4:o.len+n≤cap
        ·rcases Nat.eq_zero_or_pos cap with xZ | xZ
         ·have Mn:n=0:=by omega
          have F0:o.len=0:=by omega
          subst Mn
          have N9:news=[]:=List.length_eq_zero_iff.1 (by rw [sr.size];simp)
          have jC:(Builtin.append_ #[t,t] ty #[.slice a o.len cap,vx]).run P w=.ok (.slice a (o.len+0) cap) w:=by
           subst xZ
           cases a with
           | none=>exact AA (P:=P) (w:=w) (ty:=ty) he Bz sr.len sr.cells (by omega)
           | some a =>
            have e1:=sr.cells w rfl
            rw [N9] at e1
            simp [Builtin.append_,run_underlying he,sizeOf,typeInfo,Bz,sr.len,F0,e1,storeCells]
          have gm:=g.move hk hm ho rn ⟨false,ie.size,o.len+0,o.pr && pr,fun m=>if m < o.len then o.get m else gt (m - o.len)⟩ (c:=c) (T:=T')
           ⟨b9.sz.trans FK,FK ▸ b9.bR,FK ▸ b9.cap,b9.len,b9.out,ni,fun i j x v hi=>absurd hi (by show ¬ i < o.len+0;omega),fun h=>absurd (show ie.size=0 from h) (by omega)⟩ td
          exact ⟨_,w,S,bz μ nk pl,jC,gm.1,gm.2,fun k mE hn=>by rw [k9 _ mE];exact hn,an.os pl (by simp [bz]) h1 (by omega) h3⟩
         ·have ha:=h1 xZ
          simp only [Nat.zero_mul] at ha
          subst ha
          have ta:0 < pl.cap:=by omega
          have uA:o.len * ie.size+news.length≤c.size:=by
           have e1:(o.len+n) * ie.size≤pl.cap * ie.size:=cG _ (by omega)
           have e2:=b9.cap
           rw [FK] at e2
           rw [sr.size,← bL];omega
          have jC:=BR (P:=P) (w:=w) (ty:=ty) he Bz ((b9.bR ta).trans (by rw [dS (by omega)])) sr.len sr.cells sr.one F4 uA
          generalize ml:(c.toList.take (o.len * ie.size) ++ news ++ c.toList.drop (o.len * ie.size+news.length)).toArray=c' at jC
          have uX:(c.toList.take (o.len * ie.size)).length=o.len * ie.size:=by simp;omega
          have EN:c'.size=c.size:=by
           rw [← ml]
           simp;omega
          have nR:∀ m,m < o.len * ie.size+news.length→c'[m]?=if m < o.len * ie.size then c[m]? else news[m - o.len * ie.size]?:=by
           intro m hm
           rw [← ml]
           simp only [List.getElem?_toArray]
           rw [gH (by simp;omega)]
           by_cases h1:m < o.len * ie.size
           ·rw [gH (by omega),ph,if_pos h1,if_pos h1]
            simp
           ·rw [iW (by omega),uX,if_neg h1]
          have gw:=g.write ho rn ta b9 (by omega) ⟨false,ie.size,o.len+n,o.pr && pr,fun m=>if m < o.len then o.get m else gt (m - o.len)⟩ c' FK.symm EN (by show o.len+n≤_;omega) ni (by
           intro i j x v hi hx hv
           have hi:i < o.len+n:=hi
           have hx:(if i < o.len then o.get i else gt (i - o.len))[j]?=some x:=hx
           have hj:j < ie.size:=by
            have e1:=(cJ.1 hx).1
            have e2:(if i < o.len then o.get i else gt (i - o.len)).length=ie.size:=ni i hi
            omega
           have hv:c'[i * ie.size+j]?=some v:=hv
           have oW:(i+1) * ie.size≤(o.len+n) * ie.size:=cG _ hi
           rw [bL,bL] at oW
           rw [nR _ (by rw [sr.size];omega)] at hv
           by_cases Dp:i < o.len
           ·have nh:(i+1) * ie.size≤o.len * ie.size:=cG _ Dp
            rw [bL] at nh
            rw [if_pos (by omega)] at hv
            rw [if_pos Dp] at hx
            exact Qw (b9.rep i j x v Dp hx (by rw [FK];exact hv)) UM
           ·have nh:o.len * ie.size≤i * ie.size:=cG _ (by omega)
            rw [if_neg (by omega)] at hv
            rw [if_neg Dp] at hx
            refine Mv (sr.rep (i - o.len) j x v (by omega) hx ?_)
            rw [← hv,Nat.sub_mul];congr 1;omega) (fun i x hx=>⟨td i x hx,by
           obtain ⟨_,q2,_⟩:=ca (td i x hx)
           have nh:(i+1) * ie.size≤o.len * ie.size:=cG _ q2
           rw [bL] at nh
           rw [FK,nR _ (by omega),if_pos (by omega)]⟩)
          obtain ⟨Qx,OT⟩:=gw
          have UN:ar (sset σ k ⟨false,ie.size,o.len+n,o.pr && pr,fun m=>if m < o.len then o.get m else gt (m - o.len)⟩) k=some ⟨false,ie.size,o.len+n,o.pr && pr,fun m=>if m < o.len then o.get m else gt (m - o.len)⟩:=by
           rw [aP,if_pos rfl]
          obtain ⟨RE,c3,T3,Ig,Sr⟩:=OT.rep.ob k _ UN
          rw [rn] at Ig;cases Ig
          have gm:=OT.move hk hm UN rn _ Sr (fun _ _ h=>h)
          refine ⟨_,_,S,bz μ nk pl,jC,Qx.trans gm.1,gm.2.congr ?_,fun k mE hn=>by rw [k9 _ mE];exact hn,an.os pl (by simp [bz]) (by simp) F4 h3⟩
          intro n
          show ar (sset (r9 σ k) nk _) n=_
          rw [aP,aP,dY,dY,aP]
          split
          ·rfl
          ·split
           ·rfl
           ·rfl
        ·have hg:cap < o.len+n:=by omega
         have holds:∃ olds:List Value,olds.length=o.len * ie.size∧(∀ w':World,w'.heap=w.heap→(Builtin.firstCells ie.size o.len (.slice a o.len cap)).run P w'=.ok olds.toArray w') ∧
           (∀ (q:Nat) (u:Value),olds[q]?=some u→c[q]?=some u):=by
          rcases Nat.eq_zero_or_pos o.len with F0 | F0
          ·refine ⟨[],by simp [F0],fun w' _=>?_,by simp⟩
           rw [F0]
           cases a with
           | none=>simp [Builtin.firstCells]
           | some a=>simp [Builtin.firstCells,loadCells,loadCellsFrom]
          ·have ta:0 < pl.cap:=by have:=b9.len;omega
           have ha:=h1 (by omega)
           simp only [Nat.zero_mul] at ha
           subst ha
           have hle:o.len * ie.size≤c.size:=by
            have e1:o.len * ie.size≤pl.cap * ie.size:=cG _ b9.len
            have e2:=b9.cap
            rw [FK] at e2;omega
           refine ⟨c.toList.take (o.len * ie.size),by simp;omega,fun w' Ss=>?_,?_⟩
           ·refine run_firstCells_some w' ie.size o.len _ o.len cap _ (by simp;omega) ?_
            intro q u hq
            rw [Addr.add_lit,Nat.zero_add,cell_of_row w' _ _ _ _ _ (by rw [Ss];exact (b9.bR ta).trans (by rw [dS (by omega)]))]
            rw [ph] at hq
            split at hq
            ·simpa using hq
            ·cases hq
           ·intro q u hq
            rw [ph] at hq
            split at hq
            ·simpa using hq
            ·cases hq
         obtain ⟨olds,P2,VC,UO⟩:=holds
         have jC:=tk (P:=P) (w:=w) (ty:=ty) he Bz JX VC sr.len sr.cells hg b2 p1
         have uz:=BS w (o.len+n) cap e
         have gd:=g.del k
         have gg:=gd.grow (e:=e) hk hm (sz:=ie.size) (n:=n) (len:=o.len) (cap:=grownCap w (o.len+n) cap e) (olds:=olds) (news:=news)
          (rest:=Builtin.zeroCells z.cells (grownCap w (o.len+n) cap e - (o.len+n))) (pr:=o.pr && pr) (get:=fun m=>if m < o.len then o.get m else gt (m - o.len))
          P2 sr.size (by rw [size_zeroCells,b3]) uz ni (by
           intro i j x u hi hx hu
           have hx:(if i < o.len then o.get i else gt (i - o.len))[j]?=some x:=hx
           have hj:j < ie.size:=by
            have e1:=(cJ.1 hx).1
            have e2:(if i < o.len then o.get i else gt (i - o.len)).length=ie.size:=ni i hi
            omega
           by_cases Dp:i < o.len
           ·have nh:(i+1) * ie.size≤o.len * ie.size:=cG _ Dp
            rw [bL] at nh
            rw [if_pos Dp] at hx
            rw [gH (by omega)] at hu
            exact Qw (b9.rep i j x u Dp hx (by rw [FK];exact UO _ _ hu)) UM
           ·have nh:o.len * ie.size≤i * ie.size:=cG _ (by omega)
            rw [if_neg Dp] at hx
            rw [iW (by omega),P2] at hu
            refine Mv (sr.rep (i - o.len) j x u (by omega) hx ?_)
            rw [← hu,Nat.sub_mul];congr 1;omega) (by omega) (by
          have Kp:∀ b,b < w.heap.size→(w.drew.alloc (.cells (olds.toArray ++ news.toArray ++ Builtin.zeroCells z.cells (grownCap w (o.len+n) cap e - (o.len+n))) e)).heap[b]?=w.heap[b]?:=fun b h=>dH (w:=w.drew) h
          have Im:∀ {q:Nat} {o2:Ob} {pj:Place},ar σ q=some o2→μ q=some pj→0 < pj.cap→pj.bR < w.heap.size:=fun {q o2 pj} h1 h2 h3=>by
           obtain ⟨RE,c3,T3,Ig,Hb⟩:=g.rep.ob q o2 h1
           rw [h2] at Ig;cases Ig
           exact eA (Hb.bR h3)
          refine g.mx.tr (fun q=>if q=nk then k else q) (fun q i x v h=>?_) (fun q i x v q' i' x' v' h h' he=>?_) (fun _ h=>h) (fun b hb=>Kp b (g.S1 b hb)) (fun q i x v b _ h hb=>?_) (fun q o2 pj h1 h2 h3=>?_)
          ·obtain ⟨o2,pj,h1,h2,h3,h4⟩:=h
           rw [aP] at h1
           unfold bz at h3
           by_cases hq:nk=q
           ·rw [if_pos hq] at h1;cases h1
            rw [if_pos hq.symm] at h3;cases h3
            show fJ w μ σ (if q=nk then k else q) i x v
            rw [if_pos hq.symm]
            have hr:=td i x h2
            obtain ⟨_,q2,_⟩:=ca hr
            refine ⟨o,pl,ho,hr,rn,?_⟩
            have ta:0 < pl.cap:=by have:=b9.len;omega
            have nh:(i+1) * ie.size≤o.len * ie.size:=cG _ q2
            rw [bL] at nh
            have h4:(w.drew.alloc (.cells (olds.toArray ++ news.toArray ++ Builtin.zeroCells z.cells (grownCap w (o.len+n) cap e - (o.len+n))) e)).cell? ⟨w.drew.heap.size,i * ie.size,none⟩=some v:=h4
            rw [cell_of_row _ _ _ _ _ _ (heap_alloc_new w.drew _)] at h4
            rw [Array.getElem?_append_left (by simp;omega),Array.getElem?_append_left (by simp;omega)] at h4
            rw [cell_of_row w _ _ _ _ _ ((b9.bR ta).trans (by rw [dS (by omega)])),b9.sz,FK]
            exact UO _ _ (by simpa using h4)
           ·rw [if_neg hq,dY] at h1
            rw [if_neg (fun h=>hq h.symm)] at h3
            split at h1
            ·cases h1
            ·show fJ w μ σ (if q=nk then k else q) i x v
             rw [if_neg (fun h=>hq h.symm)]
             refine ⟨o2,pj,h1,h2,h3,?_⟩
             obtain ⟨RE,c3,T3,Ig,Hb⟩:=g.rep.ob q o2 h1
             rw [h3] at Ig;cases Ig
             rw [← h4]
             exact (oj (Kp _ (eA (Hb.bR (by have:=(ca h2).2.1;have:=Hb.len;omega)))) _).symm
          ·have he:(if q=nk then k else q)=(if q'=nk then k else q'):=he
           have Dq:∀ {q i x v},fJ (w.drew.alloc (.cells (olds.toArray ++ news.toArray ++ Builtin.zeroCells z.cells (grownCap w (o.len+n) cap e - (o.len+n))) e)) (bz μ nk ⟨w.heap.size,grownCap w (o.len+n) cap e,ie.size⟩) (sset (r9 σ k) nk ⟨false,ie.size,o.len+n,o.pr && pr,fun m=>if m < o.len then o.get m else gt (m - o.len)⟩) q i x v→q≠nk→q≠k:=by
            rintro q i x v ⟨o2,_,h1,_⟩ hq rfl
            rw [aP,if_neg (fun h=>hq h.symm),dY,if_pos rfl] at h1
            cases h1
           by_cases h1:q=nk<;>by_cases h3:q'=nk
           ·exact h1.trans h3.symm
           ·rw [if_pos h1,if_neg h3] at he;exact absurd he.symm (Dq h' h3)
           ·rw [if_neg h1,if_pos h3] at he;exact absurd he (Dq h h1)
           ·rw [if_neg h1,if_neg h3] at he;exact he
          ·obtain ⟨q1,q2,q3,_⟩:=g.mx.bR h hb
           exact ⟨Kp b q1,q2,fun h=>h⟩
          ·rw [aP] at h1
           unfold bz at h2
           by_cases hq:nk=q
           ·rw [if_pos hq.symm] at h2;cases h2
            exact .inr (a7 _)
           ·rw [if_neg hq,dY] at h1
            rw [if_neg (fun h=>hq h.symm)] at h2
            split at h1
            ·cases h1
            ·exact .inl ⟨q,o2,pj,h1,h2,h3,rfl⟩)
         refine ⟨_,_,S,_,jC,gg.1,gg.2,fun k mE hn=>by rw [k9 _ mE];exact hn,?_⟩
         exact an.os ⟨w.heap.size,grownCap w (o.len+n) cap e,ie.size⟩ (by simp [bz]) (by simp) uz (by simp)
      ·cases h
     ·cases h
    ·cases h
   ·cases h
  ·cases h
 ·cases h
end
end Go.Ab
