/- Abstract values over the heap of the machine, and functions read off its code (part 1). No conditions. -/
import Derived.Orders
import Derived.Laws.Cells
import Derived.Laws.World
import Derived.Laws.Rows
import Derived.Laws.Sem
import Derived.KernelRfl
import Derived.Laws.CopyRow
import Derived.Laws.AppendOwn
import Derived.Laws.MakeOwn
import Derived.Laws.StructEq
import Derived.Great.BuildSlice
import Derived.Deep.MidRow
set_option linter.unusedVariables false
set_option linter.unusedSimpArgs false
namespace Go
abbrev aG:=@Option.map_eq_some_iff
abbrev aA:=@Option.some.injEq
abbrev bK:=@Nat.eq_of_beq_eq_true
abbrev az:=@Prod.mk.injEq
abbrev bc:=@Bool.and_eq_true
abbrev dD:=@List.getElem?_eq_some_iff
abbrev fk:=@List.getD_eq_getElem?_getD
abbrev cn:=@Option.bind_some
abbrev dj:=@List.length_replicate
abbrev se:=@Array.getD_eq_getD_getElem?
abbrev jd:=@Array.getElem?_eq_getElem
abbrev ia:=@List.getElem?_append_left
abbrev jt:=@List.getElem?_append_right
abbrev dE:=@Nat.mul_le_mul_right
abbrev j6:=@Int.mul_le_mul_of_nonneg_right
abbrev bD:=@Sem.run_bind
abbrev je:=@List.take_of_length_le
abbrev o6:=@List.getElem?_eq_getElem
abbrev cV:=@Result.andThen_ok
abbrev aF:=@Nat.le_refl
abbrev Av:=@Bool.and_eq_true_iff
abbrev n8:=@List.getElem?_eq_none
abbrev cW:=@Nat.not_lt_zero
abbrev o7:=@Classical.byContradiction
abbrev rA:=@of_decide_eq_true
abbrev rB:=@of_decide_eq_false
abbrev nc:=@Nat.lt_of_lt_of_le
abbrev dU:=@Nat.le_trans
abbrev lD:=@List.length_append
abbrev ye:=@List.length_cons
abbrev DL:=@List.getElem?_cons_succ
abbrev rC:=@Int.mul_le_mul_of_nonneg_left
abbrev vk:=@Nat.lt_irrefl
abbrev n9:=@List.length_take
abbrev oa:=@List.getElem?_drop
abbrev o8:=@List.getElem?_take
abbrev vn:=@List.mem_range
abbrev kz:=@List.mem_cons
abbrev cr:=@Nat.add_mul
abbrev o9:=@Nat.mul_comm
abbrev ic:=@Int.mul_add
abbrev ep:=@Int.add_mul
abbrev gB:=@Int.mul_comm
abbrev kA:=@Int.mul_assoc
end Go
namespace Go.Ab
inductive AV where
 | atom (v:Value)
 | agg (cs:List AV)
 | tup (cs:List AV)
 | sl (len:Nat) (get:Nat→List AV)
 | rp (cs:List AV) (off:Nat)
 | op (k i j:Nat)
 | os (k off len:Nat)
 | fn (f:Fn) (first cap:List AV)
 | when (b:Bool) (v:AV)
 | mp (k:Nat)
 | bn (n:Nat)
 | pt (b:Bool) (cs:List AV)
 | ov (k i j m n:Nat)
 | Bw (k off len:Nat)
 | nq (st:Option Bool) (x:AV)
 | nil
 | mn
 | mr (sz len:Nat) (get:Nat→List AV)
 deriving Inhabited
structure Place where
 cy:Nat
 cap:Nat
 sz:Nat
abbrev Mu:=Nat→Option Place
def iI:Mu:=fun _=>none
def Oa:Value→Bool
 | .slice none _ _=>true
 | _=>false
inductive ao (w:World) (S:Nat→Prop):Mu→Value→AV→Prop where
 | atom {μ:Mu} (v:Value):ao w S μ v (.atom v)
 | agg {μ:Mu} {vs:Array Value} {cs:List AV}:vs.size=cs.length →
   (∀ (j:Nat) (c:AV) (v:Value),cs[j]?=some c→vs[j]?=some v→ao w S μ v c)→ao w S μ (.agg vs) (.agg cs)
 | tup {μ:Mu} {vs:Array Value} {cs:List AV}:vs.size=cs.length →
   (∀ (j:Nat) (c:AV) (v:Value),cs[j]?=some c→vs[j]?=some v→ao w S μ v c)→ao w S μ (.tuple vs) (.tup cs)
 | sl {μ:Mu} {a:Option Addr} {len cap:Nat} {get:Nat→List AV} (b off sz:Nat) (f:Nat→Nat→Value) :
   (0 < len→a=some ⟨b,off,none⟩∧S b)→(∀ i,i < len→(get i).length=sz) →
   (∀ i j,i < len→j < sz→w.cell? ⟨b,off+i * sz+j,none⟩=some (f i j)) →
   (∀ i j c,i < len→(get i)[j]?=some c→ao w S iI (f i j) c)→len≤cap→ao w S μ (.slice a len cap) (.sl len get)
 | rp {μ:Mu} {cs:List AV} {off:Nat} (b o:Nat) (f:Nat→Value):S b →
   (∀ j,j < cs.length→w.cell? ⟨b,o+j,none⟩=some (f j)) →
   (∀ j c,cs[j]?=some c→ao w S iI (f j) c)→ao w S μ (.pointer (some ⟨b,o+off,none⟩)) (.rp cs off)
 | op {μ:Mu} {k i j:Nat} (pl:Place):μ k=some pl→ao w S μ (.pointer (some ⟨pl.cy,i * pl.sz+j,none⟩)) (.op k i j)
 | os {μ:Mu} {k off len cap:Nat} {a:Option Addr} (pl:Place):μ k=some pl →
   (0 < cap→a=some ⟨pl.cy,off * pl.sz,none⟩)→len≤cap→off+cap=pl.cap→ao w S μ (.slice a len cap) (.os k off len)
 | fn {μ:Mu} {f:Fn} {vs ws:Array Value} {first cap:List AV}:vs.size=first.length→ws.size=cap.length →
   (∀ (j:Nat) (c:AV) (v:Value),first[j]?=some c→vs[j]?=some v→ao w S μ v c) →
   (∀ (j:Nat) (c:AV) (v:Value),cap[j]?=some c→ws[j]?=some v→ao w S μ v c)→ao w S μ (.func f vs ws) (.fn f first cap)
 | when {μ:Mu} {b:Bool} {v:Value} {x:AV}:(b=true→ao w S μ v x)→(b=false→v=undef)→ao w S μ v (.when b x)
 | mp {μ:Mu} {k:Nat} (pl:Place):μ k=some pl→ao w S μ (.map (some pl.cy)) (.mp k)
 | bn {μ:Mu} {n:Nat} (b:Bool):(b=true→n=0)→ao w S μ (.bool b) (.bn n)
 | pt {μ:Mu} {b:Bool} {cs:List AV} {v:Value}:(b=true→ao w S μ v (.rp cs 0))→(b=false→v=.pointer none)→ao w S μ v (.pt b cs)
 | ov {μ:Mu} {k i j m n:Nat} (pl:Place):μ k=some pl→n < m→ao w S μ (.pointer (some ⟨pl.cy,i * pl.sz+(j+n),none⟩)) (.ov k i j m n)
 | Bw {μ:Mu} {k off len:Nat} {a:Option Addr} (pl:Place):μ k=some pl→(0 < len→a=some ⟨pl.cy,off * pl.sz,none⟩)→off+len=pl.cap→ao w S μ (.slice a len len) (.Bw k off len)
 | nq {μ:Mu} {st:Option Bool} {v:Value} {x:AV}:ao w S μ v x→(st=some true→v=.slice none 0 0)→(st=some false→Oa v=false)→ao w S μ v (.nq st x)
 | nil {μ:Mu}:ao w S μ (.slice none 0 0) .nil
 | mn {μ:Mu} {v:Value}:ao w S μ v .mn
 | mr {μ:Mu} {v:Value} {sz len:Nat} {get:Nat→List AV}:ao w S μ v (.mr sz len get)
structure Ext (w:World) (S:Nat→Prop) (μ:Mu) (w':World) (S':Nat→Prop) (da:Mu):Prop where
 size:w.heap.size≤w'.heap.size
 Hy:∀ b,S b→S' b
 cy:∀ b,S b→w'.heap[b]?=w.heap[b]?
 mu:∀ k pl,μ k=some pl→da k=some pl
theorem Ext.refl (w:World) (S:Nat→Prop) (μ:Mu):Ext w S μ w S μ:=⟨aF _,fun _ h=>h,fun _ _=>rfl,fun _ _ h=>h⟩
theorem Ext.trans {w w' Vf:World} {S S' Aq:Nat→Prop} {μ da D9:Mu} (h:Ext w S μ w' S' da) (k:Ext w' S' da Vf Aq D9):Ext w S μ Vf Aq D9 :=
 ⟨dU h.size k.size,fun b hb=>k.Hy b (h.Hy b hb),fun b hb=>(k.cy b (h.Hy b hb)).trans (h.cy b hb),fun i pl hi=>k.mu i pl (h.mu i pl hi)⟩
theorem qu {w w':World} {b:Nat} (h:w'.heap[b]?=w.heap[b]?) (o:Nat):w'.cell? ⟨b,o,none⟩=w.cell? ⟨b,o,none⟩:=by
 simp [World.cell?,h]
theorem ao.mono {w w':World} {S S':Nat→Prop} (hS:∀ b,S b→S' b) (hb:∀ b,S b→w'.heap[b]?=w.heap[b]?) {μ:Mu} {v:Value} {x:AV} (h:ao w S μ v x) :
  ∀ {da:Mu},(∀ k pl,μ k=some pl→da k=some pl)→ao w' S' da v x:=by
 induction h with
 | atom v=>exact fun _=>.atom v
 | agg h1 _ ih=>grind [agg]
 | tup h1 _ ih=>grind [tup]
 | @sl μ a len cap get b off sz f h1 h2 h3 _ h5 ih =>
  intro da _
  refine .sl b off sz f (fun hl=>⟨(h1 hl).1,hS _ (h1 hl).2⟩) h2 ?_ (fun i j c hi hc=>ih i j c hi hc fun _ _ h=>h) h5
  grind [qu]
 | @rp μ cs off b o f h1 h2 _ ih =>
  intro da _
  refine .rp b o f (hS _ h1) ?_ (fun j c hc=>ih j c hc fun _ _ h=>h)
  grind [qu]
 | op pl h=>grind [op]
 | os pl h h1 h2 h3=>grind [os]
 | fn h1 h2 _ _ MQ MR=>grind [fn]
 | when _ hu ih=>grind [when]
 | mp pl h=>grind [mp]
 | bn b h=>exact fun _=>.bn b h
 | pt _ h2 ih=>grind [pt]
 | ov pl h h1=>grind [ov]
 | Bw pl h h1 h2=>grind [Bw]
 | nq _ h1 h2 ih=>grind [nq]
 | nil=>exact fun _=>.nil
 | mn=>exact fun _=>.mn
 | mr=>exact fun _=>.mr
theorem ao.ext {w w':World} {S S':Nat→Prop} {μ da:Mu} {v:Value} {x:AV} (h:ao w S μ v x) (e:Ext w S μ w' S' da):ao w' S' da v x :=
 h.mono e.Hy e.cy e.mu
mutual
def AV.pure:AV→Bool
 | .atom _ | .sl _ _ | .rp _ _ | .bn _ | .pt _ _ | .nil | .mn=>true
 | .agg cs | .tup cs=>AV.lz cs
 | .fn _ a b=>AV.lz a && AV.lz b
 | .when _ v=>v.pure
 | .nq _ v=>v.pure
 | .op _ _ _ | .os _ _ _ | .mp _ | .ov _ _ _ _ _ | .Bw _ _ _ | .mr _ _ _=>false
def AV.lz:List AV→Bool
 | []=>true
 | c :: cs=>c.pure && AV.lz cs
end
mutual
def AV.flat:AV→Bool
 | .atom _ | .bn _ | .nil=>true
 | .agg cs | .tup cs=>AV.xd cs
 | .fn _ a b=>AV.xd a && AV.xd b
 | _=>false
def AV.xd:List AV→Bool
 | []=>true
 | c :: cs=>c.flat && AV.xd cs
end
theorem rU {cs:List AV} (h:AV.lz cs=true) {j:Nat} {c:AV} (hc:cs[j]?=some c):c.pure=true:=by
 induction cs generalizing j with
 | nil=>simp at hc
 | cons x xs ih =>
  simp only [AV.lz,bc] at h
  grind
theorem um {cs:List AV} (h:AV.xd cs=true) {j:Nat} {c:AV} (hc:cs[j]?=some c):c.flat=true:=by
 induction cs generalizing j with
 | nil=>simp at hc
 | cons x xs ih =>
  simp only [AV.xd,bc] at h
  grind
theorem ao.pure {w:World} {S:Nat→Prop} {μ:Mu} {v:Value} {x:AV} (h:ao w S μ v x):x.pure=true→∀ da,ao w S da v x:=by
 induction h with
 | atom v=>exact fun _ _=>.atom v
 | agg h1 _ ih=>grind [agg,rU,AV.pure]
 | tup h1 _ ih=>grind [tup,rU,AV.pure]
 | sl b off sz f h1 h2 h3 h4 h5 _=>exact fun _ _=>.sl b off sz f h1 h2 h3 h4 h5
 | rp b o f h1 h2 h3 _=>simp_all [rp]
 | op pl h=>grind [AV.pure]
 | os pl h h1 h2 h3=>grind [AV.pure]
 | fn h1 h2 _ _ MQ MR =>
  intro hp da
  simp only [AV.pure,bc] at hp
  grind [fn,rU]
 | when _ hu ih=>grind [when,AV.pure]
 | mp pl h=>grind [AV.pure]
 | bn b h=>exact fun _ _=>.bn b h
 | pt _ h2 ih=>exact fun _ da=>.pt (fun hb=>ih hb rfl da) h2
 | ov=>grind [AV.pure]
 | Bw=>grind [AV.pure]
 | nq _ h1 h2 ih=>grind [nq,AV.pure]
 | nil=>exact fun _ _=>.nil
 | mn=>exact fun _ _=>.mn
 | mr=>grind [AV.pure]
theorem ao.flat {w:World} {S:Nat→Prop} {μ:Mu} {v:Value} {x:AV} (h:ao w S μ v x):x.flat=true→∀ w' S' da,ao w' S' da v x:=by
 induction h with
 | atom v=>grind [atom]
 | agg h1 _ ih=>grind [agg,um,AV.flat]
 | tup h1 _ ih=>grind [tup,um,AV.flat]
 | sl=>grind [AV.flat]
 | rp=>grind [AV.flat]
 | op=>grind [AV.flat]
 | os=>grind [AV.flat]
 | fn h1 h2 _ _ MQ MR =>
  intro hp w' S' da
  simp only [AV.flat,bc] at hp
  grind [fn,um]
 | when=>grind [AV.flat]
 | mp=>grind [AV.flat]
 | bn b h=>grind [bn]
 | pt=>grind [AV.flat]
 | ov=>grind [AV.flat]
 | Bw=>grind [AV.flat]
 | nq=>grind [AV.flat]
 | nil=>exact fun _ _ _ _=>.nil
 | mn=>grind [AV.flat]
 | mr=>grind [AV.flat]
structure Ob where
 var:Bool
 sz:Nat
 len:Nat
 pr:Bool
 get:Nat→List AV
abbrev dn:=List (Nat×Ob)
def ar:dn→Nat→Option Ob
 | [],_=>none
 | (k,o) :: r,n=>match Nat.beq k n with
  | true=>some o
  | false=>ar r n
def sset:dn→Nat→Ob→dn
 | [],k,o=>[(k,o)]
 | (a,x) :: r,k,o=>match Nat.beq a k with
  | true=>(a,o) :: r
  | false=>(a,x) :: sset r k o
def uq:dn→Nat→dn
 | [],_=>[]
 | (a,x) :: r,k=>match Nat.beq a k with
  | true=>uq r k
  | false=>(a,x) :: uq r k
theorem rm {a b:Nat} (h:a=b):Nat.beq a b=true:=by simp_all
theorem oH {a b:Nat} (h:¬ a=b):Nat.beq a b=false:=Bool.eq_false_iff.2 fun e=>h (bK e)
theorem aX (σ:dn) (k n:Nat) (o:Ob):ar (sset σ k o) n=if k=n then some o else ar σ n:=by
 induction σ with
 | nil =>
  simp only [sset,ar]
  by_cases h:k=n
  ·rw [rm h,if_pos h]
  ·rw [oH h,if_neg h]
 | cons x r ih =>
  obtain ⟨a,x⟩:=x
  simp only [sset]
  by_cases ha:a=k
  ·rw [rm ha]
   simp only [ar]
   subst ha
   by_cases h:a=n
   ·rw [rm h,if_pos h]
   ·rw [oH h,if_neg h]
  ·rw [oH ha]
   simp only [ar,ih]
   by_cases hn:a=n
   ·grind
   ·rw [oH hn]
theorem fz (σ:dn) (k n:Nat):ar (uq σ k) n=if k=n then none else ar σ n:=by
 induction σ with
 | nil=>simp [uq,ar]
 | cons x r ih =>
  obtain ⟨a,x⟩:=x
  simp only [uq]
  by_cases ha:a=k
  ·simp_all [rm,ar,if_pos,oH]
  ·rw [oH ha]
   simp only [ar,ih]
   by_cases hn:a=n
   ·grind
   ·rw [oH hn]
def eF:dn→List (Nat×Option Ob)→dn
 | σ,[]=>σ
 | σ,(k,some o) :: r=>eF (sset σ k o) r
 | σ,(k,none) :: r=>eF (uq σ k) r
def gI (c:Array Value):Array MapEntry:=(Array.range (c.size / 2)).map fun i=>⟨c[2 * i]?.getD undef,c[2 * i+1]?.getD undef,i⟩
def zB (sz:Nat) (c:Array Value) (T:TypeId):Obj :=
 match sz with
 | 0=>.map (gI c) (c.size / 2)
 | _+1=>.cells c T (0,0)
theorem fm {sz:Nat} (h:sz≠0) (c:Array Value) (T:TypeId):zB sz c T=.cells c T (0,0):=by
 cases sz with
 | zero=>exact absurd rfl h
 | succ n=>rfl
theorem zC {sz:Nat} (h:sz=0) (c:Array Value) (T:TypeId):zB sz c T=.map (gI c) (c.size / 2):=by subst h;rfl
structure gD (w:World) (S:Nat→Prop) (μ:Mu) (o:Ob) (pl:Place) (c:Array Value) (T:TypeId):Prop where
 sz:pl.sz=o.sz
 cy:0 < pl.cap→w.heap[pl.cy]?=some (zB o.sz c T)
 cap:pl.cap * o.sz≤c.size
 len:o.len≤pl.cap
 out:0 < pl.cap→¬ S pl.cy
 s8:∀ i,i < o.len→(o.get i).length=o.sz
 rep:∀ i j x v,i < o.len→(o.get i)[j]?=some x→c[i * o.sz+j]?=some v→ao w S (if o.pr then iI else μ) v x
 mp:o.sz=0→0 < pl.cap∧c.size % 2=0∧c.size=(o.get 0).length∧o.pr=true∧∀ (j:Nat) x v,(o.get 0)[j]?=some x→c[j]?=some v→ao w S iI v x
structure Vx (w:World) (S:Nat→Prop) (μ:Mu) (σ:dn):Prop where
 ob:∀ k o,ar σ k=some o→∃ pl c T,μ k=some pl∧gD w S μ o pl c T
 ne:∀ k k' o o' pl jQ,k≠k'→ar σ k=some o→ar σ k'=some o'→μ k=some pl→μ k'=some jQ→0 < pl.cap→0 < jQ.cap→pl.cy≠jQ.cy
theorem gD.ext {w w':World} {S S':Nat→Prop} {μ da:Mu} {o:Ob} {pl:Place} {c:Array Value} {T:TypeId} (h:gD w S μ o pl c T) (e:Ext w S μ w' S' da)
  (hb:0 < pl.cap→w'.heap[pl.cy]?=w.heap[pl.cy]?) (ho:0 < pl.cap→¬ S' pl.cy):gD w' S' da o pl c T :=
 { h with
  cy:=fun hc=>(hb hc).trans (h.cy hc)
  out:=ho
  rep:=fun i j x v hi hx hv=>(h.rep i j x v hi hx hv).mono e.Hy e.cy (by
   cases o.pr
   ·exact e.mu
   ·exact fun _ _ h=>h)
  mp:=fun hz=>let ⟨h0,h1,h2,h3,h4⟩:=h.mp hz
   ⟨h0,h1,h2,h3,fun j x v hx hv=>(h4 j x v hx hv).mono e.Hy e.cy (fun _ _ h=>h)⟩ }
def rowOf (o:Ob) (i:Nat):Option (Nat×Nat×(Nat→List AV)) :=
 match o.var,o.get i with
 | false,[.mr sz len g]=>if i < o.len then some (sz,len,g) else none
 | _,_=>none
def IY (fp:Nat→Prop) (n0:Nat) (w:World) (S:Nat→Prop) (v:Value) (x:Nat×Nat×(Nat→List AV)):Prop :=
 ∃ a cap,v=.slice a x.2.1 cap∧x.2.1≤cap∧(1≤x.1∧∀ j,rowOf ⟨false,x.1,x.2.1,true,x.2.2⟩ j=none)∧(0 < cap→∃ b c T,a=some ⟨b,0,none⟩∧gD w S iI ⟨false,x.1,x.2.1,true,x.2.2⟩ ⟨b,cap,x.1⟩ c T∧(fp b∨n0≤b))
def ptrTo (v:Value) (b:Nat):Prop:=∃ len cap,v=.slice (some ⟨b,0,none⟩) len cap∧0 < cap
def iJ (w:World) (μ:Mu) (σ:dn) (k i:Nat) (x:Nat×Nat×(Nat→List AV)) (v:Value):Prop :=
 ∃ o pl,ar σ k=some o∧rowOf o i=some x∧μ k=some pl∧w.cell? ⟨pl.cy,i * pl.sz,none⟩=some v
structure MX (fp:Nat→Prop) (n0:Nat) (w:World) (S:Nat→Prop) (μ:Mu) (σ:dn):Prop where
 row:∀ k i x v,iJ w μ σ k i x v→IY fp n0 w S v x
 obj:∀ k i x v b,iJ w μ σ k i x v→ptrTo v b→∀ k' o' jQ,ar σ k'=some o'→μ k'=some jQ→0 < jQ.cap→jQ.cy≠b
 two:∀ k i x v b k' i' x' v',iJ w μ σ k i x v→iJ w μ σ k' i' x' v'→ptrTo v b→ptrTo v' b→k=k'∧i=i'
theorem xe {o:Ob} (h:o.var=true) (i:Nat):rowOf o i=none:=by unfold rowOf;rw [h]
theorem db {o:Ob} {i:Nat} {x:Nat×Nat×(Nat→List AV)} (h:rowOf o i=some x):o.var=false∧i < o.len∧o.get i=[.mr x.1 x.2.1 x.2.2]:=by
 grind [rowOf]
theorem kB {o:Ob} {i:Nat} {x:Nat×Nat×(Nat→List AV)} (h2:o.var=false) (h3:i < o.len) (h4:o.get i=[.mr x.1 x.2.1 x.2.2]):rowOf o i=some x:=by
 grind [rowOf]
theorem MX.cy {fp:Nat→Prop} {n0:Nat} {w:World} {S:Nat→Prop} {μ:Mu} {σ:dn} (h:MX fp n0 w S μ σ) {k i:Nat} {x:Nat×Nat×(Nat→List AV)} {v:Value} {b:Nat} (hr:iJ w μ σ k i x v) (hb:ptrTo v b) :
  b < w.heap.size∧¬ S b∧(fp b∨n0≤b)∧∃ c T,w.heap[b]?=some (.cells c T (0,0)):=by
 obtain ⟨len,cap,rfl,hc⟩:=hb
 obtain ⟨a,abz,e,h1,h2,h3⟩:=h.row _ _ _ _ hr
 injection e with e1 e2 e3
 subst e1 e2 e3
 obtain ⟨b',c,T,e4,h4,h5⟩:=h3 hc
 injection e4 with e4
 injection e4 with e4
 subst e4
 have Vy:=h4.cy hc
 have vo:zB x.1 c T=.cells c T (0,0):=fm (by have:=h2.1;omega) c T
 have Vz:w.heap[b]?=some (.cells c T (0,0)):=by rw [Vy];exact congrArg some vo
 exact ⟨(Array.getElem?_eq_some_iff.1 Vz).1,h4.out hc,h5,c,T,Vz⟩
theorem IY.ext {fp SX:Nat→Prop} {n0 SY:Nat} {w w':World} {S S':Nat→Prop} {v:Value} {x:Nat×Nat×(Nat→List AV)} (h:IY fp n0 w S v x) (hS:∀ b,S b→S' b) (hb:∀ b,S b→w'.heap[b]?=w.heap[b]?)
  (hp:∀ b,ptrTo v b→w'.heap[b]?=w.heap[b]?∧¬ S' b∧((fp b∨n0≤b)→(SX b∨SY≤b))):IY SX SY w' S' v x:=by
 obtain ⟨a,cap,rfl,h1,h2,h3⟩:=h
 refine ⟨a,cap,rfl,h1,h2,fun hc=>?_⟩
 obtain ⟨b,c,T,rfl,h4,h5⟩:=h3 hc
 obtain ⟨p1,p2,p3⟩:=hp b ⟨_,_,rfl,hc⟩
 refine ⟨b,c,T,rfl,⟨h4.sz,fun h=>p1.trans (h4.cy h),h4.cap,h4.len,fun _=>p2,h4.s8,fun i j x v hi hx hv=>(h4.rep i j x v hi hx hv).mono hS hb (fun _ _ h=>h),fun hz=>?_⟩,p3 h5⟩
 simp_all
theorem MX.tr {fp SX:Nat→Prop} {n0 SY:Nat} {w w':World} {S S':Nat→Prop} {μ da:Mu} {σ dX:dn} (h:MX fp n0 w S μ σ) (φ:Nat→Nat)
  (hr:∀ k i x v,iJ w' da dX k i x v→iJ w μ σ (φ k) i x v)
  (hi:∀ k i x v k' i' x' v',iJ w' da dX k i x v→iJ w' da dX k' i' x' v'→φ k=φ k'→k=k')
  (hS:∀ b,S b→S' b) (hb:∀ b,S b→w'.heap[b]?=w.heap[b]?)
  (hp:∀ k i x v b,iJ w' da dX k i x v→iJ w μ σ (φ k) i x v→ptrTo v b→w'.heap[b]?=w.heap[b]?∧¬ S' b∧((fp b∨n0≤b)→(SX b∨SY≤b)))
  (ho:∀ k o pl,ar dX k=some o→da k=some pl→0 < pl.cap→(∃ k1 o1 Ar,ar σ k1=some o1∧μ k1=some Ar∧0 < Ar.cap∧Ar.cy=pl.cy)∨w.heap.size≤pl.cy):MX SX SY w' S' da dX:=by
 refine ⟨fun k i x v hv=>(h.row _ _ _ _ (hr _ _ _ _ hv)).ext hS hb fun b tp=>hp _ _ _ _ _ hv (hr _ _ _ _ hv) tp,fun k i x v b hv tp k' o' jQ h1 h2 h3 he=>?_,fun k i x v b k' i' x' v' hv sf qQ oc=>?_⟩
 ·have hv0:=hr _ _ _ _ hv
  rcases ho k' o' jQ h1 h2 h3 with ⟨k1,o1,Ar,q1,q2,q3,q4⟩ | q
  ·exact h.obj _ _ _ _ b hv0 tp k1 o1 Ar q1 q2 q3 (q4.trans he)
  ·have:=(h.cy hv0 tp).1;omega
 ·obtain ⟨e1,e2⟩:=h.two _ _ _ _ _ _ _ _ _ (hr _ _ _ _ hv) (hr _ _ _ _ sf) qQ oc
  grind
theorem MX.nil {fp:Nat→Prop} {n0:Nat} {w:World} {S:Nat→Prop} {μ:Mu} {σ:dn} (h:∀ k o i,ar σ k=some o→rowOf o i=none):MX fp n0 w S μ σ:=by
 have no:∀ {k i x v},iJ w μ σ k i x v→False:=by
  rintro k i x v ⟨o,pl,h1,h2,_⟩
  rw [h k o i h1] at h2;cases h2
 exact ⟨fun _ _ _ _ h=>(no h).elim,fun _ _ _ _ _ h=>(no h).elim,fun _ _ _ _ _ _ _ _ _ h=>(no h).elim⟩
end Go.Ab
namespace Go.Ab
structure Env where
 w0:World
 S0:Nat→Prop
 fp:Nat→Prop
 μ0:Mu
 m0:Nat
structure Fr (w0:World) (fp:Nat→Prop) (w:World):Prop where
 os:w.os=w0.os
 tape:w.tape=w0.tape
 output:w.output=w0.output
 size:w0.heap.size≤w.heap.size
 cy:∀ b,b < w0.heap.size→¬ fp b→w.heap[b]?=w0.heap[b]?
theorem Fr.refl (w:World) (fp:Nat→Prop):Fr w fp w:=⟨rfl,rfl,rfl,aF _,fun _ _ _=>rfl⟩
structure Good (E:Env) (σ:dn) (S:Nat→Prop) (μ:Mu) (w:World):Prop where
 fr:Fr E.w0 E.fp w
 S0:∀ b,E.S0 b→S b
 S1:∀ b,S b→b < w.heap.size
 S2:∀ b,S b→E.S0 b∨E.w0.heap.size≤b
 rep:Vx w S μ σ
 own:∀ k o pl,ar σ k=some o→μ k=some pl→0 < pl.cap→E.fp pl.cy∨E.w0.heap.size≤pl.cy
 CC:∀ k,k < E.m0→μ k=E.μ0 k
 mx:MX E.fp E.w0.heap.size w S μ σ
theorem gj {w:World} {b:Nat} {o:Obj} (h:w.heap[b]?=some o):b < w.heap.size:=(Array.getElem?_eq_some_iff.1 h).1
def bT (μ:Mu) (k:Nat) (pl:Place):Mu:=fun n=>if n=k then some pl else μ n
theorem eB {w:World} {o:Obj} {b:Nat} (h:b < w.heap.size):(w.alloc o).heap[b]?=w.heap[b]?:=heap_alloc_old w o b h
theorem iJ.wG {w w':World} {S:Nat→Prop} {μ da:Mu} {σ dX:dn} (g:Vx w S μ σ) {k k1 i:Nat} {x:Nat×Nat×(Nat→List AV)} {v:Value} (h:iJ w' da dX k i x v)
  (ho:∀ o,ar dX k=some o→∃ o1,ar σ k1=some o1∧rowOf o1 i=some x) (hm:∀ pl,da k=some pl→μ k1=some pl)
  (hb:∀ o pl,ar σ k1=some o→μ k1=some pl→0 < pl.cap→w'.heap[pl.cy]?=w.heap[pl.cy]?):iJ w μ σ k1 i x v:=by
 obtain ⟨o,pl,h1,h2,h3,h4⟩:=h
 obtain ⟨o1,h5,h6⟩:=ho o h1
 have h7:=hm pl h3
 refine ⟨o1,pl,h5,h6,h7,?_⟩
 obtain ⟨rD,c,T,h8,h9⟩:=g.ob k1 o1 h5
 rw [h7] at h8;cases h8
 have hc:0 < pl.cap:=by have:=(db h6).2.1;have:=h9.len;omega
 grind [qu]
theorem iJ.ob {w:World} {μ:Mu} {σ:dn} {k i:Nat} {x:Nat×Nat×(Nat→List AV)} {v:Value} (h:iJ w μ σ k i x v):∃ o,ar σ k=some o∧rowOf o i=some x:=by
 obtain ⟨o,_,h1,h2,_⟩:=h;exact ⟨o,h1,h2⟩
theorem Good.Oc {E:Env} {σ:dn} {S:Nat→Prop} {μ:Mu} {w:World} (g:Good E σ S μ w) {nk:Nat} (hk:μ nk=none) (hm:E.m0≤nk) (c:Array Value) (T:TypeId) (o:Ob) (cap:Nat)
  (wH:cap * o.sz≤c.size) (hlen:o.len≤cap) (pe:∀ i,i < o.len→(o.get i).length=o.sz)
  (zD:∀ i j x v,i < o.len→(o.get i)[j]?=some x→c[i * o.sz+j]?=some v→ao w S (if o.pr then iI else μ) v x) (BC:o.sz≠0)
  (SZ:MX E.fp E.w0.heap.size (w.alloc (.cells c T)) S (bT μ nk ⟨w.heap.size,cap,o.sz⟩) (sset σ nk o)) :
  Ext w S μ (w.alloc (.cells c T)) S (bT μ nk ⟨w.heap.size,cap,o.sz⟩)∧Good E (sset σ nk o) S (bT μ nk ⟨w.heap.size,cap,o.sz⟩) (w.alloc (.cells c T)):=by
 have e:Ext w S μ (w.alloc (.cells c T)) S (bT μ nk ⟨w.heap.size,cap,o.sz⟩) :=
  ⟨by simp,fun _ h=>h,fun b hb=>eB (g.S1 b hb),fun k pl h=>by
   grind [bT]⟩
 refine ⟨e,⟨⟨g.fr.os,g.fr.tape,g.fr.output,by have:=g.fr.size;simp;omega,fun b hb hf=>(eB (nc hb g.fr.size)).trans (g.fr.cy b hb hf)⟩,
  g.S0,fun b hb=>by have:=g.S1 b hb;simp;omega,g.S2,⟨?_,?_⟩,?_,fun k nL=>?_,SZ⟩⟩
 ·intro k x hx
  rw [aX] at hx
  by_cases wc:nk=k
  ·rw [if_pos wc] at hx
   cases hx
   refine ⟨⟨w.heap.size,cap,o.sz⟩,c,T,by simp [bT,wc],rfl,fun _=>(heap_alloc_new w _).trans (by rw [fm BC]),wH,hlen,fun _ hS=>vk _ (g.S1 _ hS),pe,?_,fun h=>absurd h BC⟩
   intro i j x v hi hx hv
   refine (zD i j x v hi hx hv).mono e.Hy e.cy ?_
   cases o.pr
   ·exact e.mu
   ·exact fun _ _ h=>h
  ·rw [if_neg wc] at hx
   obtain ⟨pl,c',T',gF,ho⟩:=g.rep.ob k x hx
   exact ⟨pl,c',T',e.mu _ _ gF,ho.ext e (fun hc=>eB (gj (ho.cy hc))) ho.out⟩
 ·intro k k' x x' pl jQ fP hx we hp rV s9 IJ
  rw [aX] at hx we
  simp only [bT] at hp rV
  have lt:∀ {k x pl},nk≠k→ar σ k=some x→μ k=some pl→0 < pl.cap→pl.cy < w.heap.size:=fun {k x pl} _ hx hp hc=>by
   obtain ⟨rD,c',T',gF,ho⟩:=g.rep.ob k x hx
   rw [hp] at gF;cases gF;exact gj (ho.cy hc)
  by_cases h1:nk=k
  ·grind
  ·rw [if_neg h1] at hx
   rw [if_neg (fun h=>h1 h.symm)] at hp
   by_cases h2:nk=k'
   ·grind
   ·rw [if_neg h2] at we
    rw [if_neg (fun h=>h2 h.symm)] at rV
    exact g.rep.ne k k' x x' pl jQ fP hx we hp rV s9 IJ
 ·intro k x pl hx hp hc
  rw [aX] at hx
  simp only [bT] at hp
  by_cases h1:nk=k
  ·rw [if_pos h1.symm] at hp
   cases hp
   exact .inr g.fr.size
  ·rw [if_neg h1] at hx
   rw [if_neg (fun h=>h1 h.symm)] at hp
   exact g.own k x pl hx hp hc
 ·simp only [bT]
  rw [if_neg (by omega)]
  exact g.CC k nL
theorem Good.IZ {E:Env} {σ:dn} {S:Nat→Prop} {μ:Mu} {w w':World} (g:Good E σ S μ w) {nk:Nat} (hk:μ nk=none) (o:Ob) (pl:Place) (CX:0 < pl.cap→w.heap.size≤pl.cy) (Oe:∀ i,rowOf o i=none)
  (hw:∀ b,b < w.heap.size→w'.heap[b]?=w.heap[b]?) {S':Nat→Prop} (hS:∀ b,S b→S' b) (VA:∀ b,S' b→S b∨w.heap.size≤b):MX E.fp E.w0.heap.size w' S' (bT μ nk pl) (sset σ nk o):=by
 have key:∀ k i x v,iJ w' (bT μ nk pl) (sset σ nk o) k i x v→k≠nk:=by
  rintro k i x v h rfl
  obtain ⟨o2,h1,h2⟩:=h.ob
  rw [aX,if_pos rfl] at h1
  cases h1
  rw [Oe] at h2;cases h2
 refine g.mx.tr id (fun k i x v h=>?_) (fun _ _ _ _ _ _ _ _ _ _ h=>h) hS (fun b hb=>hw b (g.S1 b hb)) (fun k i x v b _ h hb=>?_) (fun k o2 rD h1 h2 h3=>?_)
 ·have fP:=key _ _ _ _ h
  obtain ⟨o3,h3,h4⟩:=h.ob
  refine h.wG g.rep (fun o2 h1=>?_) (fun rD h2=>?_) (fun o2 rD h1 h2 h3=>?_)
  ·rw [h3] at h1;cases h1
   rw [aX,if_neg (fun e=>fP e.symm)] at h3
   exact ⟨o3,h3,h4⟩
  ·simp_all [bT,if_neg]
  ·obtain ⟨Xb,c3,T3,LD,Km⟩:=g.rep.ob k o2 h1
   have h2:μ k=some rD:=h2
   rw [h2] at LD;cases LD
   exact hw _ (gj (Km.cy h3))
 ·obtain ⟨q1,q2,q3,_⟩:=g.mx.cy h hb
  grind
 ·by_cases wc:nk=k
  ·simp_all [bT,if_pos]
  ·rw [aX,if_neg wc] at h1
   unfold bT at h2;grind
theorem Good.alloc {E:Env} {σ:dn} {S:Nat→Prop} {μ:Mu} {w:World} (g:Good E σ S μ w) {nk:Nat} (hk:μ nk=none) (hm:E.m0≤nk) (c:Array Value) (T:TypeId) (o:Ob) (cap:Nat)
  (wH:cap * o.sz≤c.size) (hlen:o.len≤cap) (pe:∀ i,i < o.len→(o.get i).length=o.sz)
  (zD:∀ i j x v,i < o.len→(o.get i)[j]?=some x→c[i * o.sz+j]?=some v→ao w S (if o.pr then iI else μ) v x) (BC:o.sz≠0) (Oe:∀ i,rowOf o i=none) :
  Ext w S μ (w.alloc (.cells c T)) S (bT μ nk ⟨w.heap.size,cap,o.sz⟩)∧Good E (sset σ nk o) S (bT μ nk ⟨w.heap.size,cap,o.sz⟩) (w.alloc (.cells c T)) :=
 g.Oc hk hm c T o cap wH hlen pe zD BC (g.IZ hk o _ (fun _=>aF _) Oe (fun _ h=>eB h) (fun _ h=>h) (fun _ h=>.inl h))
theorem Good.Kr {E:Env} {σ:dn} {S:Nat→Prop} {μ:Mu} {w w':World} (g:Good E σ S μ w)
  (hw:∀ b,b < w.heap.size→w'.heap[b]?=w.heap[b]?) {S':Nat→Prop} (hS:∀ b,S b→S' b) (VA:∀ b,S' b→S b∨w.heap.size≤b):MX E.fp E.w0.heap.size w' S' μ σ:=by
 refine g.mx.tr id (fun k i x v h=>?_) (fun _ _ _ _ _ _ _ _ _ _ h=>h) hS (fun b hb=>hw b (g.S1 b hb)) (fun k i x v b _ h hb=>?_) (fun k o2 rD h1 h2 h3=>.inl ⟨k,o2,rD,h1,h2,h3,rfl⟩)
 ·obtain ⟨o3,h3,h4⟩:=h.ob
  refine h.wG g.rep (fun o2 h1=>⟨o3,h3,h4⟩) (fun rD h2=>h2) (fun o2 rD h1 h2 h3=>?_)
  obtain ⟨Xb,c3,T3,LD,Km⟩:=g.rep.ob k o2 h1
  have h2:μ k=some rD:=h2
  rw [h2] at LD;cases LD
  exact hw _ (gj (Km.cy h3))
 ·obtain ⟨q1,q2,q3,_⟩:=g.mx.cy h hb
  grind
theorem Good.MT {E:Env} {σ:dn} {S:Nat→Prop} {μ:Mu} {w:World} (g:Good E σ S μ w) (o:Obj) :
  Ext w S μ (w.alloc o) (fun b=>S b∨b=w.heap.size) μ∧Good E σ (fun b=>S b∨b=w.heap.size) μ (w.alloc o):=by
 have e:Ext w S μ (w.alloc o) (fun b=>S b∨b=w.heap.size) μ :=
  ⟨by simp,fun _ h=>.inl h,fun b hb=>eB (g.S1 b hb),fun k pl h=>h⟩
 refine ⟨e,⟨⟨g.fr.os,g.fr.tape,g.fr.output,by have:=g.fr.size;simp;omega,fun b hb hf=>(eB (nc hb g.fr.size)).trans (g.fr.cy b hb hf)⟩,
  fun b h=>.inl (g.S0 b h),fun b hb=>?_,fun b hb=>?_,⟨?_,g.rep.ne⟩,g.own,g.CC,g.Kr (fun _ h=>eB h) (fun _ h=>.inl h) (fun b h=>h.elim .inl (fun h=>.inr (Nat.le_of_eq h.symm)))⟩⟩
 ·rcases hb with hb | hb
  ·have:=g.S1 b hb;simp;omega
  ·simp;omega
 ·rcases hb with hb | hb
  ·exact g.S2 b hb
  ·exact .inr (hb ▸ g.fr.size)
 ·intro k x hx
  obtain ⟨pl,c',T',gF,ho⟩:=g.rep.ob k x hx
  exact ⟨pl,c',T',gF,ho.ext e (fun hc=>eB (gj (ho.cy hc))) (fun hc h=>h.elim (ho.out hc) (by have:=gj (ho.cy hc);omega))⟩
theorem Good.drew {E:Env} {σ:dn} {S:Nat→Prop} {μ:Mu} {w:World} (g:Good E σ S μ w):Good E σ S μ w.drew :=
 ⟨⟨g.fr.os,g.fr.tape,g.fr.output,g.fr.size,g.fr.cy⟩,g.S0,g.S1,g.S2,
  ⟨fun k o h=>let ⟨pl,c,T,hm,ho⟩:=g.rep.ob k o h
   ⟨pl,c,T,hm,ho.ext (w':=w.drew) ⟨aF _,fun _ h=>h,fun _ _=>rfl,fun _ _ h=>h⟩ (fun _=>rfl) ho.out⟩,g.rep.ne⟩,g.own,g.CC,g.Kr (w':=w.drew) (fun _ _=>rfl) (fun _ h=>h) (fun _ h=>.inl h)⟩
theorem Ext.drew (w:World) (S:Nat→Prop) (μ:Mu):Ext w S μ w.drew S μ:=⟨aF _,fun _ h=>h,fun _ _=>rfl,fun _ _ h=>h⟩
theorem Good.del {E:Env} {σ:dn} {S:Nat→Prop} {μ:Mu} {w:World} (g:Good E σ S μ w) (k:Nat):Good E (uq σ k) S μ w:=by
 have hs:∀ n o,ar (uq σ k) n=some o→ar σ n=some o:=fun n o h=>by
  grind [fz]
 exact ⟨g.fr,g.S0,g.S1,g.S2,⟨fun n o h=>g.rep.ob n o (hs n o h),fun k k' o o' pl jQ fP h h'=>g.rep.ne k k' o o' pl jQ fP (hs _ _ h) (hs _ _ h')⟩,
  fun k o pl h=>g.own k o pl (hs _ _ h),g.CC,g.mx.tr id (fun k i x v ⟨o,pl,h1,h2⟩=>⟨o,pl,hs _ _ h1,h2⟩) (fun _ _ _ _ _ _ _ _ _ _ h=>h) (fun _ h=>h) (fun _ _=>rfl)
   (fun k i x v b _ h hb=>⟨rfl,(g.mx.cy h hb).2.1,fun h=>h⟩) (fun k o pl h1 h2 h3=>.inl ⟨k,o,pl,hs _ _ h1,h2,h3,rfl⟩)⟩
theorem Good.mxW {E:Env} {σ:dn} {S:Nat→Prop} {μ:Mu} {w w':World} (g:Good E σ S μ w) {k:Nat} {o:Ob} (hs:ar σ k=some o) {pl:Place} (hm:μ k=some pl) (vg:0 < pl.cap) (hS:¬ S pl.cy)
  (si:∀ b,b≠pl.cy→w'.heap[b]?=w.heap[b]?) (o':Ob) (vo:∀ i x,rowOf o' i=some x→rowOf o i=some x∧∀ v,w'.cell? ⟨pl.cy,i * pl.sz,none⟩=some v→w.cell? ⟨pl.cy,i * pl.sz,none⟩=some v) :
  MX E.fp E.w0.heap.size w' S μ (sset σ k o'):=by
 refine g.mx.tr id (fun n i x v h=>?_) (fun _ _ _ _ _ _ _ _ _ _ h=>h) (fun _ h=>h) (fun b hb=>si b fun e=>hS (e ▸ hb)) (fun n i x v b _ h hb=>?_) (fun n o2 rD h1 h2 h3=>?_)
 ·by_cases wc:k=n
  ·subst wc
   obtain ⟨o2,rD,h1,h2,h3,h4⟩:=h
   rw [aX,if_pos rfl] at h1;cases h1
   rw [hm] at h3;cases h3
   obtain ⟨q1,q2⟩:=vo i x h2
   exact ⟨o,pl,hs,q1,hm,q2 v h4⟩
  ·obtain ⟨o3,h3,h4⟩:=h.ob
   rw [aX,if_neg wc] at h3
   refine h.wG g.rep (fun o2 h1=>⟨o3,h3,h4⟩) (fun rD h2=>h2) (fun o2 rD h1 h2 h3=>?_)
   exact si _ (g.rep.ne n k o2 o rD pl (fun h=>wc h.symm) h1 hs h2 hm h3 vg)
 ·obtain ⟨q1,q2,q3,_⟩:=g.mx.cy h hb
  exact ⟨si b fun e=>g.mx.obj _ _ _ _ _ h hb k o pl hs hm vg e.symm,q2,fun h=>h⟩
 ·rw [aX] at h1
  grind
theorem Good.write {E:Env} {σ:dn} {S:Nat→Prop} {μ:Mu} {w:World} (g:Good E σ S μ w) {k:Nat} {o:Ob} (hs:ar σ k=some o) {pl:Place} {c:Array Value} {T:TypeId}
  (hm:μ k=some pl) (vg:0 < pl.cap) (ho:gD w S μ o pl c T) (BC:o.sz≠0) (o':Ob) (c':Array Value) (qR:o'.sz=o.sz) (hc:c'.size=c.size) (hlen:o'.len≤pl.cap)
  (pe:∀ i,i < o'.len→(o'.get i).length=o'.sz)
  (zD:∀ i j x v,i < o'.len→(o'.get i)[j]?=some x→c'[i * o'.sz+j]?=some v→ao w S (if o'.pr then iI else μ) v x)
  (vo:∀ i x,rowOf o' i=some x→rowOf o i=some x∧c'[i * o.sz]?=c[i * o.sz]?) :
  Ext w S μ (w.setRow pl.cy c') S μ∧Good E (sset σ k o') S μ (w.setRow pl.cy c'):=by
 have si:∀ b,b≠pl.cy→(w.setRow pl.cy c').heap[b]?=w.heap[b]?:=fun b hb=>by
  simp only [World.setRow,Array.getElem?_modify]
  grind
 have e:Ext w S μ (w.setRow pl.cy c') S μ :=
  ⟨by simp,fun _ h=>h,fun b hb=>si b fun h=>ho.out vg (h ▸ hb),fun _ _ h=>h⟩
 refine ⟨e,⟨⟨g.fr.os,g.fr.tape,g.fr.output,by have:=g.fr.size;simpa using this,fun b hb hf=>?_⟩,g.S0,fun b hb=>by simpa using g.S1 b hb,g.S2,⟨?_,?_⟩,?_,g.CC,?_⟩⟩
 rotate_right
 ·refine g.mxW hs hm vg (ho.out vg) si o' fun i x hx=>⟨(vo i x hx).1,fun v hv=>?_⟩
  have h1:=ho.cy vg
  rw [fm BC] at h1
  rw [cell_of_row _ _ _ _ _ _ (setRow_heap w _ c c' T (0,0) h1),ho.sz,(vo i x hx).2] at hv
  rw [cell_of_row _ _ _ _ _ _ h1,ho.sz]
  exact hv
 ·rw [si b,g.fr.cy b hb hf]
  rintro rfl
  rcases g.own k o pl hs hm vg with h | h
  ·exact hf h
  ·omega
 ·intro n x hx
  rw [aX] at hx
  by_cases wc:k=n
  ·rw [if_pos wc] at hx
   cases hx
   refine ⟨pl,c',T,wc ▸ hm,ho.sz.trans qR.symm,fun _=>(setRow_heap w _ c c' T (0,0) ((ho.cy vg).trans (by rw [fm BC]))).trans (by rw [fm (by rw [qR];exact BC)]),?_,hlen,ho.out,pe,?_,fun h=>absurd (qR ▸ h) BC⟩
   ·rw [qR,hc];exact ho.cap
   ·intro i j x v hi hx hv
    refine (zD i j x v hi hx hv).mono e.Hy e.cy ?_
    cases o'.pr
    ·exact e.mu
    ·exact fun _ _ h=>h
  ·rw [if_neg wc] at hx
   obtain ⟨rD,c2,T2,CY,CD⟩:=g.rep.ob n x hx
   exact ⟨rD,c2,T2,CY,CD.ext e (fun hc=>si _ (g.rep.ne n k x o rD pl (fun h=>wc h.symm) hx hs CY hm hc vg)) CD.out⟩
 ·intro n n' x x' p p' fP hx we hp rV s9 IJ
  rw [aX] at hx we
  have f:∀ {n x},(if k=n then some o' else ar σ n)=some x→∃ y,ar σ n=some y:=fun {n x} h=>by
   split at h
   ·rename_i hh;exact ⟨o,hh ▸ hs⟩
   ·exact ⟨_,h⟩
  obtain ⟨y,hy⟩:=f hx
  obtain ⟨y',TH⟩:=f we
  exact g.rep.ne n n' y y' p p' fP hy TH hp rV s9 IJ
 ·intro n x p hx hp hc
  rw [aX] at hx
  split at hx
  ·rename_i hh;subst hh;exact g.own _ o p hs hp hc
  ·exact g.own n x p hx hp hc
theorem Good.Q5 {E:Env} {σ:dn} {S:Nat→Prop} {μ:Mu} {w w':World} (g:Good E σ S μ w) {k:Nat} {o:Ob} (hs:ar σ k=some o) {pl:Place} {c:Array Value} {T:TypeId}
  (hm:μ k=some pl) (vg:0 < pl.cap) (ho:gD w S μ o pl c T) (h1:w'.os=w.os) (h2:w'.tape=w.tape) (h3:w'.output=w.output) (h4:w'.heap.size=w.heap.size) (si:∀ b,b≠pl.cy→w'.heap[b]?=w.heap[b]?)
  (o':Ob) (Oe:∀ i,rowOf o' i=none) (Q6:Ext w S μ w' S μ→∃ c' T',gD w' S μ o' pl c' T'):Ext w S μ w' S μ∧Good E (sset σ k o') S μ w':=by
 have e:Ext w S μ w' S μ:=⟨by omega,fun _ h=>h,fun b hb=>si b fun h=>ho.out vg (h ▸ hb),fun _ _ h=>h⟩
 refine ⟨e,⟨⟨h1.trans g.fr.os,h2.trans g.fr.tape,h3.trans g.fr.output,by have:=g.fr.size;omega,fun b hb hf=>?_⟩,g.S0,fun b hb=>by rw [h4];exact g.S1 b hb,g.S2,⟨?_,?_⟩,?_,g.CC,g.mxW hs hm vg (ho.out vg) si o' fun i x hx=>by rw [Oe] at hx;cases hx⟩⟩
 ·rw [si b,g.fr.cy b hb hf]
  rintro rfl
  rcases g.own k o pl hs hm vg with h | h
  ·exact hf h
  ·omega
 ·intro n x hx
  rw [aX] at hx
  by_cases wc:k=n
  ·simp_all
  ·rw [if_neg wc] at hx
   obtain ⟨rD,c2,T2,CY,CD⟩:=g.rep.ob n x hx
   exact ⟨rD,c2,T2,CY,CD.ext e (fun hc=>si _ (g.rep.ne n k x o rD pl (fun h=>wc h.symm) hx hs CY hm hc vg)) CD.out⟩
 ·intro n n' x x' p p' fP hx we hp rV s9 IJ
  rw [aX] at hx we
  have f:∀ {n x},(if k=n then some o' else ar σ n)=some x→∃ y,ar σ n=some y:=fun {n x} h=>by
   grind
  obtain ⟨y,hy⟩:=f hx
  obtain ⟨y',TH⟩:=f we
  exact g.rep.ne n n' y y' p p' fP hy TH hp rV s9 IJ
 ·intro n x p hx hp hc
  rw [aX] at hx
  split at hx
  ·rename_i hh;subst hh;exact g.own _ o p hs hp hc
  ·exact g.own n x p hx hp hc
theorem Good.allocMap {E:Env} {σ:dn} {S:Nat→Prop} {μ:Mu} {w:World} (g:Good E σ S μ w) {nk:Nat} (hk:μ nk=none) (hm:E.m0≤nk) :
  Ext w S μ (w.alloc (.map #[] 0)) S (bT μ nk ⟨w.heap.size,1,0⟩)∧Good E (sset σ nk ⟨false,0,0,true,fun _=>[]⟩) S (bT μ nk ⟨w.heap.size,1,0⟩) (w.alloc (.map #[] 0)):=by
 have hold:∀ b,b < w.heap.size→(w.alloc (.map #[] 0)).heap[b]?=w.heap[b]?:=fun b h=>eB h
 have e:Ext w S μ (w.alloc (.map #[] 0)) S (bT μ nk ⟨w.heap.size,1,0⟩) :=
  ⟨by simp,fun _ h=>h,fun b hb=>hold b (g.S1 b hb),fun k pl h=>by
   grind [bT]⟩
 have lt:∀ {k x pl},ar σ k=some x→μ k=some pl→0 < pl.cap→pl.cy < w.heap.size:=fun {k x pl} hx hp hc=>by
  obtain ⟨rD,c',T',gF,ho⟩:=g.rep.ob k x hx
  rw [hp] at gF;cases gF;exact gj (ho.cy hc)
 refine ⟨e,⟨⟨g.fr.os,g.fr.tape,g.fr.output,by have:=g.fr.size;simp;omega,fun b hb hf=>(hold b (nc hb g.fr.size)).trans (g.fr.cy b hb hf)⟩,
  g.S0,fun b hb=>by have:=g.S1 b hb;simp;omega,g.S2,⟨?_,?_⟩,?_,fun k nL=>?_,g.IZ hk _ _ (fun _=>aF _) (fun i=>rfl) hold (fun _ h=>h) (fun _ h=>.inl h)⟩⟩
 ·intro k x hx
  rw [aX] at hx
  by_cases wc:nk=k
  ·rw [if_pos wc] at hx
   cases hx
   refine ⟨⟨w.heap.size,1,0⟩,#[],0,by simp [bT,wc],rfl,fun _=>(heap_alloc_new w _).trans (by simp [zB,gI]),by simp,by simp,fun _ hS=>vk _ (g.S1 _ hS),fun i hi=>absurd hi (cW _),fun i j x v hi=>absurd hi (cW _),fun _=>⟨Nat.one_pos,rfl,rfl,rfl,fun j x v hx=>by simp at hx⟩⟩
  ·rw [if_neg wc] at hx
   obtain ⟨pl,c',T',gF,ho⟩:=g.rep.ob k x hx
   exact ⟨pl,c',T',e.mu _ _ gF,ho.ext e (fun hc=>hold _ (gj (ho.cy hc))) ho.out⟩
 ·intro k k' x x' pl jQ fP hx we hp rV s9 IJ
  rw [aX] at hx we
  simp only [bT] at hp rV
  by_cases h1:nk=k
  ·grind
  ·rw [if_neg h1] at hx
   rw [if_neg (fun h=>h1 h.symm)] at hp
   by_cases h2:nk=k'
   ·grind
   ·rw [if_neg h2] at we
    rw [if_neg (fun h=>h2 h.symm)] at rV
    exact g.rep.ne k k' x x' pl jQ fP hx we hp rV s9 IJ
 ·intro k x pl hx hp hc
  rw [aX] at hx
  simp only [bT] at hp
  by_cases h1:nk=k
  ·rw [if_pos h1.symm] at hp
   cases hp
   exact .inr g.fr.size
  ·rw [if_neg h1] at hx
   rw [if_neg (fun h=>h1 h.symm)] at hp
   exact g.own k x pl hx hp hc
 ·simp only [bT]
  rw [if_neg (by omega)]
  exact g.CC k nL
end Go.Ab
namespace Go.Ab
def bg:List Prop→Prop
 | []=>True
 | p :: ps=>p∧bg ps
theorem bg.app {a b:List Prop} (h:bg (a ++ b)):bg a∧bg b:=by
 induction a with
 | nil=>exact ⟨trivial,h⟩
 | cons p ps ih=>exact ⟨⟨h.1,(ih h.2).1⟩,(ih h.2).2⟩
def AV.strip:AV→AV×List Prop
 | .when b x=>(x.strip.1,(b=true) :: x.strip.2)
 | x=>(x,[])
theorem ao.strip {w:World} {S:Nat→Prop} {μ:Mu} {v:Value} {x:AV} (h:ao w S μ v x):bg x.strip.2→ao w S μ v x.strip.1:=by
 induction h with
 | when h1 _ ih=>exact fun hp=>ih hp.1 hp.2
 | atom v=>exact fun _=>.atom v
 | agg h1 h2 _=>exact fun _=>.agg h1 h2
 | tup h1 h2 _=>exact fun _=>.tup h1 h2
 | sl b off sz f h1 h2 h3 h4 h5 _=>exact fun _=>.sl b off sz f h1 h2 h3 h4 h5
 | rp b o f h1 h2 h3 _=>exact fun _=>.rp b o f h1 h2 h3
 | op pl h=>exact fun _=>.op pl h
 | os pl h h1 h2 h3=>exact fun _=>.os pl h h1 h2 h3
 | fn h1 h2 h3 h4 _ _=>exact fun _=>.fn h1 h2 h3 h4
 | mp pl h=>exact fun _=>.mp pl h
 | bn b h=>exact fun _=>.bn b h
 | pt h1 h2 _=>exact fun _=>.pt h1 h2
 | ov pl h h1=>exact fun _=>.ov pl h h1
 | Bw pl h h1 h2=>exact fun _=>.Bw pl h h1 h2
 | nq h h1 h2 _=>exact fun _=>.nq h h1 h2
 | nil=>exact fun _=>.nil
 | mn=>exact fun _=>.mn
 | mr=>exact fun _=>.mr
def AV.one:AV→Bool
 | .atom v=>match v with
  | .agg _ | .tuple _=>false
  | _=>true
 | .sl _ _ | .rp _ _ | .op _ _ _ | .os _ _ _ | .fn _ _ _ | .mp _ | .bn _ | .pt _ _ | .nil=>true
 | .nq _ x=>x.one
 | _=>false
theorem ao.Hz {w:World} {S:Nat→Prop} {μ:Mu} {v:Value} {x:AV} (h:ao w S μ v x) (hx:x.one=true):v.oneCell'=true:=by
 induction h with
 | atom v=>cases v<;>simp_all [AV.one,Value.oneCell']
 | nq _ _ _ ih=>grind [AV.one]
 | @pt μ b cs v h1 h2 _ =>
  cases b with
  | false=>rw [h2 rfl];rfl
  | true=>have:=h1 rfl;cases this;rfl
 | _=>first | rfl | (simp [AV.one] at hx;done)
def AV.iy:List AV→Bool
 | []=>true
 | c :: cs=>c.one && AV.iy cs
theorem Ea {cs:List AV} (h:AV.iy cs=true) {j:Nat} {c:AV} (hc:cs[j]?=some c):c.one=true:=by
 induction cs generalizing j with
 | nil=>simp at hc
 | cons x xs ih =>
  simp only [AV.iy,bc] at h
  grind
def AV.cells:AV→Option (List AV)
 | .agg cs=>some cs
 | .atom v=>match v with
  | .agg _ | .tuple _=>none
  | v=>some [.atom v]
 | .sl n g=>some [.sl n g]
 | .rp c o=>some [.rp c o]
 | .op k i j=>some [.op k i j]
 | .os k o n=>some [.os k o n]
 | .fn f a b=>some [.fn f a b]
 | .mp k=>some [.mp k]
 | .bn n=>some [.bn n]
 | .pt b cs=>some [.pt b cs]
 | .nq st x=>match x.one with
  | true=>some [.nq st x]
  | false=>none
 | .nil=>some [.nil]
 | _=>none
theorem MU {v:Value} (h:v.oneCell'=true):v.cells=#[v]:=by
 cases v<;>simp_all [Value.oneCell',Value.cells]
theorem ao.cells {w:World} {S:Nat→Prop} {μ:Mu} {v:Value} {x:AV} (h:ao w S μ v x) {cs:List AV} (hc:x.cells=some cs) :
  v.cells.size=cs.length∧∀ (j:Nat) (c:AV) (u:Value),cs[j]?=some c→v.cells[j]?=some u→ao w S μ u c:=by
 have one:∀ {x:AV},ao w S μ v x→x.one=true→cs=[x]→v.cells.size=cs.length∧∀ (j:Nat) (c:AV) (u:Value),cs[j]?=some c→v.cells[j]?=some u→ao w S μ u c:=by
  intro x h h1 h2
  rw [MU (h.Hz h1),h2]
  refine ⟨rfl,?_⟩
  intro j c u hj hu
  cases j with
  | zero=>simp_all
  | succ j=>simp at hj
 cases x with
 | agg l =>
  cases hc
  cases h with
  | agg h1 h2=>exact ⟨h1,fun j c u hj hu=>h2 j c u hj hu⟩
 | atom u =>
  have hu:(AV.atom u).one=true:=by cases u<;>simp_all [AV.cells,AV.one]
  exact one h hu (by cases u<;>simp_all [AV.cells])
 | sl=>exact one h rfl (by grind [AV.cells])
 | rp=>exact one h rfl (by grind [AV.cells])
 | op=>exact one h rfl (by grind [AV.cells])
 | os=>exact one h rfl (by grind [AV.cells])
 | fn=>exact one h rfl (by grind [AV.cells])
 | mp=>exact one h rfl (by grind [AV.cells])
 | bn=>exact one h rfl (by grind [AV.cells])
 | pt=>exact one h rfl (by grind [AV.cells])
 | nq st x =>
  simp only [AV.cells] at hc
  split at hc
  ·rename_i h1;exact one h (by simpa [AV.one] using h1) (Option.some.inj hc).symm
  ·cases hc
 | nil=>exact one h rfl (by grind [AV.cells])
 | _=>simp [AV.cells] at hc
def fE:Value→AV
 | .slice none 0 0=>.nil
 | .func f vs ws=>if vs.size=0∧ws.size=0 then .fn f [] [] else .atom (.func f vs ws)
 | v=>.atom v
def ofConst:Value→AV
 | .agg vs=>.agg (vs.toList.map fE)
 | .tuple vs=>.tup (vs.toList.map fE)
 | v=>fE v
theorem zE (w:World) (S:Nat→Prop) (μ:Mu) (v:Value):ao w S μ v (fE v):=by
 unfold fE
 split
 ·exact .nil
 ·split
  ·rename_i h
   exact .fn (by simpa using h.1) (by simpa using h.2) (fun j c v hc=>by simp at hc) (fun j c v hc=>by simp at hc)
  ·exact .atom _
 ·exact .atom _
theorem GG (w:World) (S:Nat→Prop) (μ:Mu) (v:Value):ao w S μ v (ofConst v):=by
 have f:∀ (vs:Array Value) (j:Nat) (c:AV) (u:Value),(vs.toList.map fE)[j]?=some c→vs[j]?=some u→ao w S μ u c:=by
  intro vs j c u hc hu
  have X1:vs.toList[j]?=some u:=by simpa using hu
  rw [List.getElem?_map,X1] at hc
  simp at hc
  exact hc ▸ zE w S μ u
 unfold ofConst
 split
 ·exact .agg (by simp) (f _)
 ·exact .tup (by simp) (f _)
 ·exact zE w S μ _
def ta (P:Program) (t:TypeId):Option Nat:=(P.info? t).map (·.size)
def vp (P:Program) (t:TypeId):Option Nat:=(P.info? t).map (·.bytes)
def rr (P:Program) (t:TypeId):Option Value:=(P.info? t).bind (·.zero)
theorem ey {P:Program} {t n:Nat} (h:ta P t=some n) (w:World):(sizeOf t).run P w=.ok n w:=by
 unfold ta at h
 cases hi:P.info? t with
 | none=>simp [hi] at h
 | some i=>simp_all [sizeOf,typeInfo]
theorem GH {P:Program} {t:Nat} {z:Value} (h:rr P t=some z) (w:World):(zeroValue t).run P w=.ok z w:=by
 unfold rr at h
 cases hi:P.info? t with
 | none=>simp [hi] at h
 | some i=>simp_all [zeroValue,typeInfo]
theorem vq {P:Program} {t n b:Nat} {z:Value} (h:ta P t=some n) (hb:vp P t=some b) (hz:rr P t=some z) :
  ∃ i,P.info? t=some i∧i.size=n∧i.bytes=b∧i.zero=some z:=by
 unfold ta at h;unfold vp at hb;unfold rr at hz
 cases hi:P.info? t with
 | none=>simp [hi] at h
 | some i=>simp_all
def S3 (op:BinOp) (k:IntKind) (a b:Int):Option (List Prop×AV) :=
 match op with
 | .add=>some ([],.atom (.int k (k.wrap (a+b))))
 | .sub=>some ([],.atom (.int k (k.wrap (a - b))))
 | .mul=>some ([],.atom (.int k (k.wrap (a * b))))
 | .quo=>some ([b≠0],.atom (.int k (k.wrap (a.tdiv b))))
 | .rem=>some ([b≠0],.atom (.int k (a.tmod b)))
 | .and=>some ([],.atom (.int k (k.wrap (BitVec.ofInt k.bits a &&& BitVec.ofInt k.bits b).toNat)))
 | .or=>some ([],.atom (.int k (k.wrap (BitVec.ofInt k.bits a ||| BitVec.ofInt k.bits b).toNat)))
 | .xor=>some ([],.atom (.int k (k.wrap (BitVec.ofInt k.bits a ^^^ BitVec.ofInt k.bits b).toNat)))
 | .andNot=>some ([],.atom (.int k (k.wrap (BitVec.ofInt k.bits a &&& ~~~BitVec.ofInt k.bits b).toNat)))
 | .eql=>some ([],.atom (.bool (a == b)))
 | .neq=>some ([],.atom (.bool (a != b)))
 | .lss=>some ([],.atom (.bool (decide (a < b))))
 | .leq=>some ([],.atom (.bool (decide (a≤b))))
 | .gtr=>some ([],.atom (.bool (decide (a > b))))
 | .geq=>some ([],.atom (.bool (decide (a≥b))))
 | _=>none
def DM (op:BinOp) (k:IntKind) (a b:Int):Option (List Prop×AV) :=
 match op with
 | .shl=>some ([0≤b],.atom (.int k (k.wrap (a * 2 ^ (min b.toNat k.bits)))))
 | .shr=>some ([0≤b],.atom (.int k (a.fdiv (2 ^ (min b.toNat k.bits)))))
 | _=>none
def lk (a b:ByteArray):Bool:=a.toList == b.toList
def S4 (op:BinOp) (a b:ByteArray):Option (List Prop×AV) :=
 match op with
 | .eql=>some ([],.atom (.bool (lk a b)))
 | .neq=>some ([],.atom (.bool (!lk a b)))
 | .lss=>some ([],.atom (.bool (Op.bytesLess a.toList b.toList)))
 | .leq=>some ([],.atom (.bool (Op.bytesLess a.toList b.toList || lk a b)))
 | .gtr=>some ([],.atom (.bool (!(Op.bytesLess a.toList b.toList || lk a b))))
 | .geq=>some ([],.atom (.bool (!Op.bytesLess a.toList b.toList)))
 | .add=>some ([((a.size+b.size:Nat):Int)≤IntKind.i64.max],.atom (.string (a ++ b)))
 | _=>none
def jS (P:Program) (t:TypeId) (cs:List AV) (off:Nat):Option AV :=
 match P.underlying t,ta P t with
 | some d,some n=>match d.isRow with
  | true=>some (.agg ((cs.drop off).take n))
  | false=>cs[off]?
 | _,_=>none
theorem jT {P:Program} {w:World} {S:Nat→Prop} {μ:Mu} {vs:Array Value} {cs:List AV} (hs:vs.size=cs.length)
  (h:∀ (j:Nat) (c:AV) (v:Value),cs[j]?=some c→vs[j]?=some v→ao w S μ v c) {t off:Nat} {x:AV} (hx:jS P t cs off=some x)
  (hle:∀ n,ta P t=some n→off+n≤cs.length) :
  ∃ v,(part t vs off).run P w=.ok v w∧ao w S μ v x:=by
 unfold jS at hx
 cases hu:P.underlying t with
 | none=>simp [hu] at hx
 | some d =>
  cases hn:ta P t with
  | none=>simp [hu,hn] at hx
  | some n =>
   have abA:=hle n hn
   cases hd:d.isRow with
   | true =>
    simp [hu,hn,hd] at hx
    have MV:(isAgg t).run P w=.ok true w:=by
     unfold isAgg
     rw [bD,run_underlying hu w]
     cases d<;>simp_all
    refine ⟨.agg (vs.extract off (off+n)),by simp [part,MV,ey hn],?_⟩
    rw [← hx]
    refine .agg (by simp;omega) ?_
    grind
   | false =>
    simp [hu,hn,hd] at hx
    have MV:(isAgg t).run P w=.ok false w:=by
     unfold isAgg
     rw [bD,run_underlying hu w]
     cases d<;>simp_all
    have gk:off < vs.size:=by rw [hs];exact (dD.1 hx).1
    refine ⟨vs[off],by simp [part,MV,jd gk],?_⟩
    exact h off x _ hx (jd gk)
mutual
def BD (P:Program):Nat→TypeId→AV→AV→Option Bool
 | 0,_,_,_=>none
 | d+1,t,x,y =>
  match P.underlying t with
  | some .bool=>match x,y with
   | .atom (.bool a),.atom (.bool b)=>some (a == b)
   | _,_=>none
  | some (.int _)=>match x,y with
   | .atom (.int k a),.atom (.int k' b)=>match decide (k=k') with
    | true=>some (a == b)
    | false=>none
   | _,_=>none
  | some .string=>match x,y with
   | .atom (.string a),.atom (.string b)=>some (lk a b)
   | _,_=>none
  | some (.struct fs)=>match x,y with
   | .agg xs,.agg ys=>match P.stoodInHeld t with
    | false=>Eb P d xs ys fs.toList
    | true=>none
   | _,_=>none
  | some (.array n e)=>match x,y,ta P e with
   | .agg xs,.agg ys,some m=>zf P d e m xs ys 0 n
   | _,_,_=>none
  | _=>none
def Eb (P:Program):Nat→List AV→List AV→List Field→Option Bool
 | _,_,_,[]=>some true
 | 0,_,_,_=>none
 | d+1,xs,ys,f :: fs =>
  match decide (f.name = "_"),ta P f.type with
  | false,some n=>match Nat.ble (f.offset+n) xs.length && Nat.ble (f.offset+n) ys.length,jS P f.type xs f.offset,jS P f.type ys f.offset with
   | true,some a,some b=>match BD P d f.type a b,Eb P d xs ys fs with
    | some p,some q=>some (p && q)
    | _,_=>none
   | _,_,_=>none
  | _,_=>none
def zf (P:Program):Nat→TypeId→Nat→List AV→List AV→Nat→Nat→Option Bool
 | _,_,_,_,_,_,0=>some true
 | 0,_,_,_,_,_,_=>none
 | d+1,e,m,xs,ys,i,n+1 =>
  match Nat.ble (i * m+m) xs.length && Nat.ble (i * m+m) ys.length,jS P e xs (i * m),jS P e ys (i * m) with
  | true,some a,some b=>match BD P d e a b,zf P d e m xs ys (i+1) n with
   | some p,some q=>some (p && q)
   | _,_=>none
  | _,_,_=>none
end
end Go.Ab
namespace Go.Ab
theorem cX {w:World} {S:Nat→Prop} {μ:Mu} {v u:Value} (h:ao w S μ v (.atom u)):v=u:=by cases h;rfl
theorem nf {w:World} {S:Nat→Prop} {μ:Mu} {v:Value} {cs:List AV} (h:ao w S μ v (.agg cs)) :
  ∃ vs:Array Value,v=.agg vs∧vs.size=cs.length∧∀ (j:Nat) (c:AV) (u:Value),cs[j]?=some c→vs[j]?=some u→ao w S μ u c:=by
 cases h with
 | agg h1 h2=>grind
section
variable {P:Program} {w:World} {S:Nat→Prop} {μ:Mu}
theorem I0 {t:TypeId} {fs:Array Field} (h:P.underlying t=some (.struct fs)):P.fieldsOf t=fs:=by
 simp [Program.fieldsOf,h]
theorem I1:∀ d:Nat,
  (∀ D t x y v u b,d≤D→ao w S μ v x→ao w S μ u y→BD P d t x y=some b→(Op.equalIn D t v u).run P w=.ok b w) ∧
  (∀ D (vs us:Array Value) xs ys fs b,d≤D→vs.size=xs.length→(∀ (j:Nat) c z,xs[j]?=some c→vs[j]?=some z→ao w S μ z c)→us.size=ys.length →
   (∀ (j:Nat) c z,ys[j]?=some c→us[j]?=some z→ao w S μ z c)→Eb P d xs ys fs=some b→(Op.eqFields D vs us fs).run P w=.ok b w) ∧
  (∀ D (vs us:Array Value) e m xs ys i n b,d≤D→ta P e=some m→vs.size=xs.length→(∀ (j:Nat) c z,xs[j]?=some c→vs[j]?=some z→ao w S μ z c)→us.size=ys.length →
   (∀ (j:Nat) c z,ys[j]?=some c→us[j]?=some z→ao w S μ z c)→zf P d e m xs ys i n=some b →
   (forIn (m:=Sem) (List.range' i n) ((none,()):Option Bool×Unit) fun i _=>do
      let p ← part e vs (i * m)
      let q ← part e us (i * m)
      let r ← Op.equalIn D e p q
      if (!r)=true then pure (ForInStep.done (some false,())) else pure (ForInStep.yield (none,()))).run P w=.ok (if b then none else some false,()) w):=by
 intro d
 induction d with
 | zero =>
  refine ⟨fun D t x y v u b _ _ _ h=>by simp [BD] at h,?_,?_⟩
  ·intro D vs us xs ys fs b _ _ _ _ _ h
   cases fs with
   | nil=>simp_all [Eb,Op.eqFields]
   | cons f fs=>simp [Eb] at h
  ·intro D vs us e m xs ys i n b _ _ _ _ _ _ h
   cases n with
   | zero=>simp_all [zf]
   | succ n=>simp [zf] at h
 | succ d ih =>
  obtain ⟨MQ,MR,ih3⟩:=ih
  refine ⟨?_,?_,?_⟩
  ·intro D t x y v u b hD hx hy h
   obtain ⟨D,rfl⟩:∃ D',D=D'+1:=⟨D - 1,by omega⟩
   simp only [BD] at h
   split at h
   ·rename_i hu
    split at h
    ·cases hx;cases hy
     simp at h;subst h
     simp [Op.equalIn,run_underlying hu]
    ·cases h
   ·rename_i hu
    split at h
    ·rename_i k a k' b'
     cases hx;cases hy
     by_cases hk:k=k'
     ·simp [hk] at h;subst h
      simp [Op.equalIn,run_underlying hu,hk]
     ·simp [hk] at h
    ·cases h
   ·rename_i hu
    split at h
    ·cases hx;cases hy
     simp at h;subst h
     rw [run_equalIn_string w D t _ _ hu];rfl
    ·cases h
   ·rename_i fs hu
    split at h
    ·split at h
     ·rename_i As
      obtain ⟨vs,rfl,F3,CZ⟩:=nf hx
      obtain ⟨us,rfl,MW,I2⟩:=nf hy
      have hf:=I0 hu
      rw [run_equalIn_struct w D t vs us (hf ▸ hu) As,hf]
      exact MR D vs us _ _ _ b (by omega) F3 CZ MW I2 h
     ·cases h
    ·cases h
   ·rename_i n e hu
    split at h
    ·rename_i m hm
     obtain ⟨vs,rfl,F3,CZ⟩:=nf hx
     obtain ⟨us,rfl,MW,I2⟩:=nf hy
     simp only [Op.equalIn,bD,run_underlying hu,cV,ey hm]
     rw [Std.Legacy.Range.forIn_eq_forIn_range']
     simp only [Std.Legacy.Range.size,Nat.sub_zero,Nat.add_sub_cancel,Nat.div_one]
     rw [ih3 D vs us e m _ _ 0 n b (by omega) hm F3 CZ MW I2 h]
     cases b<;>simp
    ·cases h
   ·cases h
  ·intro D vs us xs ys fs b hD F3 CZ MW I2 h
   cases fs with
   | nil=>simp [Eb] at h;subst h;simp [Op.eqFields]
   | cons f fs =>
    simp only [Eb] at h
    split at h
    ·rename_i n VC hn
     split at h
     ·rename_i a c hle ha hc
      split at h
      ·rename_i p q hp hq
       simp only [bc,Nat.ble_eq] at hle
       have TI:∀ n',ta P f.type=some n'→f.offset+n'≤xs.length:=fun n' h'=>by rw [hn] at h';cases h';exact hle.1
       have Ks:∀ n',ta P f.type=some n'→f.offset+n'≤ys.length:=fun n' h'=>by rw [hn] at h';cases h';exact hle.2
       obtain ⟨v1,r1,x1⟩:=jT F3 CZ ha TI
       obtain ⟨v2,r2,x2⟩:=jT MW I2 hc Ks
       have e1:=MQ D f.type a c v1 v2 p (by omega) x1 x2 hp
       have e2:=MR D vs us xs ys fs q (by omega) F3 CZ MW I2 hq
       have fP:f.name≠ "_":=rB VC
       simp at h;subst h
       simp only [Op.eqFields,if_pos fP,bD,r1,r2,e1,cV]
       cases p
       ·simp
       ·simp [e2]
      ·cases h
     ·cases h
    ·cases h
  ·intro D vs us e m xs ys i n b hD hm F3 CZ MW I2 h
   cases n with
   | zero=>simp [zf] at h;subst h;simp
   | succ n =>
    simp only [zf] at h
    split at h
    ·rename_i a c hle ha hc
     split at h
     ·rename_i p q hp hq
      simp only [bc,Nat.ble_eq] at hle
      have TI:∀ n',ta P e=some n'→i * m+n'≤xs.length:=fun n' h'=>by rw [hm] at h';cases h';exact hle.1
      have Ks:∀ n',ta P e=some n'→i * m+n'≤ys.length:=fun n' h'=>by rw [hm] at h';cases h';exact hle.2
      obtain ⟨v1,r1,x1⟩:=jT F3 CZ ha TI
      obtain ⟨v2,r2,x2⟩:=jT MW I2 hc Ks
      have e1:=MQ D e a c v1 v2 p (by omega) x1 x2 hp
      have e2:=ih3 D vs us e m xs ys (i+1) n q (by omega) hm F3 CZ MW I2 hq
      simp at h;subst h
      rw [List.range'_succ,List.forIn_cons]
      simp only [bD,r1,r2,e1,cV]
      cases p
      ·simp
      ·simpa using e2
     ·cases h
    ·cases h
def Ec (o:BinOp) (q:Bool):Option AV :=
 match o with
 | .eql=>some (.atom (.bool q))
 | .neq=>some (.atom (.bool (!q)))
 | _=>none
def Of:AV→Bool
 | .atom v=>match v with
  | .pointer none=>true
  | _=>false
 | _=>false
def Og (P:Program) (o:BinOp) (t:TypeId) (x y:AV):Option AV :=
 match P.underlying t,y with
 | some (.slice _),.nil=>match x with
  | .nil=>Ec o true
  | .sl n _ | .os _ _ n=>match o with
   | .eql=>some (.bn n)
   | _=>none
  | _=>none
 | some (.pointer _),y=>match Of y with
  | true=>match x with
   | .atom v=>match v with
    | .pointer none=>Ec o true
    | _=>none
   | .rp _ _ | .op _ _ _=>Ec o false
   | .pt b _=>Ec o (!b)
   | _=>none
  | false=>none
 | _,_=>none
theorem nM (op:BinOp) (t:TypeId) (x y:Operand) (a b:Value) (h1:a≠.nilIface) (h2:∀ c,a≠.agg c):(eqGuard op t x y a b).run P w=.ok () w:=by
 simp_all [eqGuard]
theorem LF {o:BinOp} {t:TypeId} {a b:Option Addr} {l c l' c':Nat} {q:Bool} (h:(Op.equal t (.slice a l c) (.slice b l' c')).run P w=.ok q w) {r:AV} (hr:Ec o q=some r):∃ z,(binOp o t (.slice a l c) (.slice b l' c')).run P w=.ok z w∧ao w S μ z r:=by
 cases o<;>simp only [Ec,aA,reduceCtorEq] at hr<;>subst hr
 ·exact ⟨.bool q,by simp_all [binOp,bD],.atom _⟩
 ·exact ⟨.bool (!q),by simp_all [binOp,bD],.atom _⟩
theorem Aw {o:BinOp} {t:TypeId} {a:Option Addr} {q:Bool} (h:(Op.equal t (.pointer a) (.pointer none)).run P w=.ok q w) {r:AV} (hr:Ec o q=some r):∃ z,(binOp o t (.pointer a) (.pointer none)).run P w=.ok z w∧ao w S μ z r:=by
 cases o<;>simp only [Ec,aA,reduceCtorEq] at hr<;>subst hr
 ·exact ⟨.bool q,by simp_all [binOp,bD],.atom _⟩
 ·exact ⟨.bool (!q),by simp_all [binOp,bD],.atom _⟩
theorem TJ {op:BinOp} {t:TypeId} {x y:AV} {xo yo:Operand} {v u:Value} (hx:ao w S μ v x) (hy:ao w S μ u y) {r:AV} (h:Og P op t x y=some r) :
  ∃ z,(do eqGuard op t xo yo v u;binOp op t v u:Sem Value).run P w=.ok z w∧ao w S μ z r:=by
 have gd:∀ (v u:Value),v≠.nilIface→(∀ c,v≠.agg c)→(∃ z,(binOp op t v u).run P w=.ok z w∧ao w S μ z r)→∃ z,(do eqGuard op t xo yo v u;binOp op t v u:Sem Value).run P w=.ok z w∧ao w S μ z r:=by
  intro v u h1 h2 h3
  have hg:=nM (P:=P) (w:=w) op t xo yo v u h1 h2
  simpa only [bD,hg,cV] using h3
 unfold Og at h
 split at h
 ·rename_i e ht
  cases hy
  have sl:∀ (a:Option Addr) (l c:Nat),(Op.equal t (.slice a l c) (.slice none 0 0)).run P w=.ok a.isNone w:=by
   intro a l c
   unfold Op.equal Op.maxDepth Op.equalIn
   rw [bD,run_underlying ht]
   cases a<;>rfl
  split at h
  ·cases hx
   exact gd _ _ (by simp) (by simp) (LF (sl none 0 0) h)
  ·split at h
   ·cases h
    cases hx with
    | sl b off sz f h1 h2 h3 h4 h5 =>
     rename_i a cap
     refine gd _ _ (by simp) (by simp) ⟨.bool a.isNone,?_,.bn _ fun hn=>?_⟩
     ·simp only [binOp,bD,sl];rfl
     ·refine Nat.eq_zero_of_not_pos fun h0=>?_
      rw [(h1 h0).1] at hn;cases hn
   ·cases h
  ·split at h
   ·cases h
    cases hx with
    | os pl hm h1 h2 h3 =>
     rename_i cap a
     refine gd _ _ (by simp) (by simp) ⟨.bool a.isNone,?_,.bn _ fun hn=>?_⟩
     ·simp only [binOp,bD,sl];rfl
     ·refine Nat.eq_zero_of_not_pos fun h0=>?_
      rw [h1 (by omega)] at hn;cases hn
   ·cases h
  ·cases h
 ·rename_i e ht
  split at h
  ·rename_i QT
   have hu:u=.pointer none:=by
    unfold Of at QT
    split at QT
    ·split at QT
     ·exact cX hy
     ·cases QT
    ·cases QT
   subst hu
   have pt:∀ (a:Option Addr),(Op.equal t (.pointer a) (.pointer none)).run P w=.ok a.isNone w:=by
    intro a
    unfold Op.equal Op.maxDepth Op.equalIn
    rw [bD,run_underlying ht]
    cases a<;>rfl
   split at h
   ·split at h
    ·have:=cX hx;subst this
     exact gd _ _ (by simp) (by simp) (Aw (pt none) h)
    ·cases h
   ·cases hx
    exact gd _ _ (by simp) (by simp) (Aw (pt (some _)) h)
   ·cases hx
    exact gd _ _ (by simp) (by simp) (Aw (pt (some _)) h)
   ·rename_i b cs
    cases hx with
    | pt h1 h2 =>
     cases b with
     | true =>
      have:=h1 rfl
      cases this
      exact gd _ _ (by simp) (by simp) (Aw (pt (some _)) h)
     | false =>
      rw [h2 rfl]
      exact gd _ _ (by simp) (by simp) (Aw (pt none) h)
   ·cases h
  ·cases h
 ·cases h
def VD:Option Bool→Bool
 | some b=>b
 | none=>false
theorem S5 {op:BinOp} {t e:TypeId} {st:Option Bool} {x:AV} {xo yo:Operand} {v u:Value} (ht:P.underlying t=some (.slice e)) (hx:ao w S μ v (.nq st x)) (hy:ao w S μ u .nil) {n:Nat}
  (hs:∃ a c,v=.slice a n c∧(0 < n→a.isNone=false)) (hn:st=none→0 < n) {r:AV} (h:Ec op (VD st)=some r) :
  ∃ z,(do eqGuard op t xo yo v u;binOp op t v u:Sem Value).run P w=.ok z w∧ao w S μ z r:=by
 obtain ⟨a,c,rfl,ha⟩:=hs
 cases hy
 have hq:a.isNone=VD st:=by
  cases hx with
  | nq _ h1 h2 =>
   cases st with
   | none=>exact ha (hn rfl)
   | some b=>cases b with
    | true=>have:=h1 rfl;injection this with e1;subst e1;rfl
    | false=>have:=h2 rfl;cases a with
     | none=>cases this
     | some a=>rfl
 have hg:=nM (P:=P) (w:=w) op t xo yo (.slice a n c) (.slice none 0 0) (by simp) (by simp)
 have he:(Op.equal t (.slice a n c) (.slice none 0 0)).run P w=.ok (VD st) w:=by
  rw [← hq]
  unfold Op.equal Op.maxDepth Op.equalIn
  rw [bD,run_underlying ht]
  cases a<;>rfl
 obtain ⟨z,h1,h2⟩:=LF (S:=S) (μ:=μ) he h
 exact ⟨z,by simpa only [bD,hg,cV] using h1,h2⟩
def Oh (P:Program) (op:BinOp) (t:TypeId) (x y:AV):Option (List Prop×AV) :=
 match x,y with
 | .atom (.int k a),.atom (.int k' b)=>match op with
  | .shl=>DM .shl k a b
  | .shr=>DM .shr k a b
  | op=>match decide (k=k') with
   | true=>S3 op k a b
   | false=>none
 | .atom (.string a),.atom (.string b)=>S4 op a b
 | .atom (.bool _),.atom (.bool _)=>match op with
  | .eql=>(BD P 1 t x y).map fun b=>([],.atom (.bool b))
  | .neq=>(BD P 1 t x y).map fun b=>([],.atom (.bool (!b)))
  | _=>none
 | .agg _,.agg _=>match P.eqGuardType P.depth t with
  | false=>match op with
   | .eql=>(BD P 60 t x y).map fun b=>([],.atom (.bool b))
   | .neq=>(BD P 60 t x y).map fun b=>([],.atom (.bool (!b)))
   | _=>none
  | true=>none
 | .nq st x,.nil=>match P.underlying t,x with
  | some (.slice _),.sl n _=>(Ec op (VD st)).map fun v=>([st=none→0 < n],v)
  | some (.slice _),.os _ _ n=>(Ec op (VD st)).map fun v=>([st=none→0 < n],v)
  | _,_=>none
 | x,y=>(Og P op t x y).map fun v=>([],v)
theorem TK {op:BinOp} {t:TypeId} {x y:AV} {xo yo:Operand} {v u:Value} (hx:ao w S μ v x) (hy:ao w S μ u y) {ps:List Prop} {r:AV} (h:Oh P op t x y=some (ps,r)) (hp:bg ps) :
  ∃ z,(do eqGuard op t xo yo v u;binOp op t v u:Sem Value).run P w=.ok z w∧ao w S μ z r:=by
 unfold Oh at h
 split at h
 ·rename_i k a k' b
  have:=cX hx;subst this
  have:=cX hy;subst this
  have hg:=nM (P:=P) (w:=w) op t xo yo (.int k a) (.int k' b) (by simp) (by simp)
  simp only [bD,hg,cV]
  have sh:∀ o,(o=.shl∨o=.shr)→DM o k a b=some (ps,r)→∃ z,(binOp o t (.int k a) (.int k' b)).run P w=.ok z w∧ao w S μ z r:=by
   intro o ho h
   rcases ho with rfl | rfl<;>simp only [DM,aA,az] at h<;>obtain ⟨rfl,rfl⟩:=h <;>
    (have h0:¬ b < 0:=by have:=hp.1;omega)<;>exact ⟨_,by simp [binOp,Op.shift,h0],.atom _⟩
  split at h
  ·exact sh .shl (.inl rfl) h
  ·exact sh .shr (.inr rfl) h
  ·rename_i n1 n2
   split at h
   ·rename_i hk
    have hk:=rA hk
    subst hk
    cases op<;>simp only [S3,aA,az,reduceCtorEq] at h <;>
     first
      | exact absurd rfl n1
      | exact absurd rfl n2
      | (obtain ⟨rfl,rfl⟩:=h
         exact ⟨_,by
         first
          | (simp [binOp,Op.intArith];done)
          | (have hb:¬ b=0:=hp.1
             simp [binOp,Op.intDiv,hb];done)
          | (simp [binOp,Op.intBits];done)
          | (simp [binOp,Op.intCmp];done),.atom _⟩)
   ·cases h
 ·rename_i a b
  have:=cX hx;subst this
  have:=cX hy;subst this
  have hg:=nM (P:=P) (w:=w) op t xo yo (.string a) (.string b) (by simp) (by simp)
  simp only [bD,hg,cV]
  cases op<;>simp only [S4,aA,az,reduceCtorEq] at h<;>obtain ⟨rfl,rfl⟩:=h
  ·have h0:¬ ((a.size+b.size:Nat):Int) > IntKind.i64.max:=by have:=hp.1;omega
   exact ⟨_,by simp only [binOp,Op.stringOp,if_neg h0];rfl,.atom _⟩
  all_goals exact ⟨_,by simp only [binOp,Op.stringOp];rfl,.atom _⟩
 ·rename_i a b
  have:=cX hx;subst this
  have:=cX hy;subst this
  have hg:=nM (P:=P) (w:=w) op t xo yo (.bool a) (.bool b) (by simp) (by simp)
  simp only [bD,hg,cV]
  split at h
  ·simp only [aG,az] at h
   obtain ⟨q,hq,rfl,rfl⟩:=h
   have:=(I1 (w:=w) (S:=S) (μ:=μ) 1).1 10000 t _ _ _ _ q (by omega) hx hy hq
   exact ⟨_,by simp only [binOp,Op.equal,Op.maxDepth,bD,this];rfl,.atom _⟩
  ·simp only [aG,az] at h
   obtain ⟨q,hq,rfl,rfl⟩:=h
   have:=(I1 (w:=w) (S:=S) (μ:=μ) 1).1 10000 t _ _ _ _ q (by omega) hx hy hq
   exact ⟨_,by simp only [binOp,Op.equal,Op.maxDepth,bD,this];rfl,.atom _⟩
  ·cases h
 ·split at h
  ·rename_i TL
   obtain ⟨vs,rfl,F3,CZ⟩:=nf hx
   obtain ⟨us,rfl,MW,I2⟩:=nf hy
   have hg:=run_eqGuard_agg (P:=P) w op t xo yo vs us TL
   simp only [bD,hg,cV]
   split at h
   ·simp only [aG,az] at h
    obtain ⟨q,hq,rfl,rfl⟩:=h
    have:=(I1 (w:=w) (S:=S) (μ:=μ) 60).1 10000 t _ _ _ _ q (by omega) hx hy hq
    exact ⟨_,by rw [run_eql_struct,this];rfl,.atom _⟩
   ·simp only [aG,az] at h
    obtain ⟨q,hq,rfl,rfl⟩:=h
    have:=(I1 (w:=w) (S:=S) (μ:=μ) 60).1 10000 t _ _ _ _ q (by omega) hx hy hq
    exact ⟨_,by rw [run_neq_struct,this];rfl,.atom _⟩
   ·cases h
  ·cases h
 ·split at h
  ·rename_i e n g ht
   simp only [aG,az] at h
   obtain ⟨q,hq,rfl,rfl⟩:=h
   refine S5 ht hx hy (n:=n) ?_ hp.1 hq
   cases hx with
   | nq h0 _ _=>cases h0 with
    | sl b off sz f h1 h2 h3 h4 h5=>exact ⟨_,_,rfl,fun hn=>by rw [(h1 hn).1];rfl⟩
  ·rename_i e k o n ht
   simp only [aG,az] at h
   obtain ⟨q,hq,rfl,rfl⟩:=h
   refine S5 ht hx hy (n:=n) ?_ hp.1 hq
   cases hx with
   | nq h0 _ _=>cases h0 with
    | os pl hm h1 h2 h3=>exact ⟨_,_,rfl,fun hn=>by rw [h1 (by omega)];rfl⟩
  ·cases h
 ·simp only [aG,az] at h
  obtain ⟨q,hq,rfl,rfl⟩:=h
  exact TJ hx hy hq
def TM (op:UnOp) (x:AV):Option AV :=
 match op,x with
 | .neg,.atom (.int k n)=>some (.atom (.int k (k.wrap (0 - n))))
 | .not,.atom (.bool b)=>some (.atom (.bool (!b)))
 | _,_=>none
theorem VE {op:UnOp} {x:AV} {v:Value} (hx:ao w S μ v x) {r:AV} (h:TM op x=some r):∃ z,(Op.unary op v).run P w=.ok z w∧ao w S μ z r:=by
 unfold TM at h
 split at h<;>cases h<;>(have:=cX hx;subst this)
 ·exact ⟨_,by rfl,.atom _⟩
 ·exact ⟨_,by simp [Op.unary],.atom _⟩
def Kt (P:Program) (src dst:TypeId) (x:AV):Option AV :=
 match P.underlying src,P.underlying dst,x with
 | some _,some (.int k),.atom (.int _ n)=>some (.atom (.int k (k.wrap n)))
 | some _,some .string,.atom (.string s)=>some (.atom (.string s))
 | _,_,_=>none
theorem Q7 {src dst:TypeId} {x:AV} {v:Value} (hx:ao w S μ v x) {r:AV} (h:Kt P src dst x=some r):∃ z,(convert src dst v).run P w=.ok z w∧ao w S μ z r:=by
 unfold Kt at h
 split at h
 ·rename_i h1 h2
  cases h;have:=cX hx;subst this
  exact ⟨_,by simp_all [convert,run_underlying,Conv.intToInt],.atom _⟩
 ·rename_i h1 h2
  cases h;have:=cX hx;simp_all [convert,run_underlying]
 ·cases h
end
end Go.Ab
namespace Go.Ab
abbrev qS:=List (Nat×Option Ob)
def Step (P:Program) (E:Env) (nk:Nat) (σ:dn) (S:Nat→Prop) (μ:Mu) (w:World) (s:Sem Value) (val:AV) (ld:qS):Prop :=
 ∃ v w' S' da,s.run P w=.ok v w'∧Ext w S μ w' S' da∧Good E (eF σ ld) S' da w'∧(∀ k,k≠nk→μ k=none→da k=none)∧ao w' S' da v val
def RL (w:World) (S:Nat→Prop) (μ:Mu) (vs:Array Value) (cs:List AV):Prop :=
 vs.size=cs.length∧∀ (j:Nat) (c:AV) (v:Value),cs[j]?=some c→vs[j]?=some v→ao w S μ v c
section
variable {P:Program} {E:Env} {nk:Nat} {σ:dn} {S:Nat→Prop} {μ:Mu} {w:World}
theorem Step.pure (g:Good E σ S μ w) {s:Sem Value} {v:Value} {val:AV} (h:s.run P w=.ok v w) (hr:ao w S μ v val):Step P E nk σ S μ w s val [] :=
 ⟨v,w,S,μ,h,Ext.refl w S μ,g,fun _ _ h=>h,hr⟩
theorem RL.mk' {vs:Array Value} {cs:List AV} (h:RL w S μ vs cs):ao w S μ (.agg vs) (.agg cs):=.agg h.1 h.2
theorem RL.pr {vs:Array Value} {cs:List AV} (h:RL w S μ vs cs) {j:Nat} {c:AV} {v:Value} (hc:cs[j]?=some c) (hv:vs[j]?=some v) :
  ao w S (if AV.lz cs then iI else μ) v c:=by
 split
 ·rename_i hp
  exact (h.2 j c v hc hv).pure (rU hp hc) iI
 ·exact h.2 j c v hc hv
theorem mH {k n:Nat} (pl:Place) (h:n≠k):bT μ k pl n=μ n:=by simp [bT,h]
theorem Step.S6 (g:Good E σ S μ w) (hk:μ nk=none) (hm:E.m0≤nk) {s:Sem Value} {vs:Array Value} {T:TypeId} {cs:List AV}
  (h:s.run P w=.ok (.pointer (some ⟨w.heap.size,0,none⟩)) (w.alloc (.cells vs T))) (hl:RL w S μ vs cs) (hz:1≤cs.length) :
  Step P E nk σ S μ w s (.op nk 0 0) [(nk,some ⟨true,cs.length,1,AV.lz cs,fun _=>cs⟩)]:=by
 have ga:=g.alloc hk hm vs T ⟨true,cs.length,1,AV.lz cs,fun _=>cs⟩ 1 (by simp [hl.1]) (aF _) (fun _ _=>rfl) (fun i j x v hi hx hv=>by
  have:i=0:=by simp at hi;exact hi
  subst this
  exact hl.pr hx (by simpa using hv)) (by grind) (fun i=>xe rfl i)
 refine ⟨_,_,_,_,h,ga.1,ga.2,fun k nL hn=>by grind [mH],?_⟩
 have:=ao.op (w:=w.alloc (.cells vs T)) (S:=S) (k:=nk) (i:=0) (j:=0) (μ:=bT μ nk ⟨w.heap.size,1,cs.length⟩) ⟨w.heap.size,1,cs.length⟩ (by simp [bT])
 simpa using this
def HA (P:Program) (nk:Nat) (T:TypeId):Option (AV×qS) :=
 match rr P T with
 | some z=>match Nat.ble 1 (z.cells.toList.map fE).length with
  | true=>some (.op nk 0 0,[(nk,some ⟨true,(z.cells.toList.map fE).length,1,AV.lz (z.cells.toList.map fE),fun _=>z.cells.toList.map fE⟩)])
  | false=>none
 | none=>none
theorem xf (vs:Array Value):RL w S μ vs (vs.toList.map fE) :=
 ⟨by simp,fun j c v hc hv=>by
  have X1:vs.toList[j]?=some v:=by simpa using hv
  rw [List.getElem?_map,X1] at hc
  simp at hc
  exact hc ▸ zE w S μ v⟩
theorem Oi (g:Good E σ S μ w) (hk:μ nk=none) (hm:E.m0≤nk) {T:TypeId} {val:AV} {ld:qS} (h:HA P nk T=some (val,ld)) :
  Step P E nk σ S μ w (Instr.alloc T true (.tuple #[])) val ld:=by
 unfold HA at h
 split at h
 ·rename_i z hz
  split at h
  ·rename_i hb
   cases h
   exact Step.S6 g hk hm (vs:=z.cells) (T:=T) (by simp [Instr.alloc,GH hz,newVar,newRow]) (xf _) (Nat.le_of_ble_eq_true hb)
  ·cases h
 ·cases h
def Oj (nk:Nat) (x:AV):Option (AV×qS) :=
 match x.cells with
 | some cs=>match Nat.ble 1 cs.length with
  | true=>some (.op nk 0 0,[(nk,some ⟨true,cs.length,1,AV.lz cs,fun _=>cs⟩)])
  | false=>none
 | none=>none
theorem TN (g:Good E σ S μ w) (hk:μ nk=none) (hm:E.m0≤nk) {T:TypeId} {x:AV} {v:Value} (hx:ao w S μ v x) {val:AV} {ld:qS} (h:Oj nk x=some (val,ld)) :
  Step P E nk σ S μ w (Instr.box T v) val ld:=by
 unfold Oj at h
 split at h
 ·rename_i cs hc
  split at h
  ·rename_i hb
   cases h
   exact Step.S6 g hk hm (vs:=v.cells) (T:=T) (by rfl) (hx.cells hc) (Nat.le_of_ble_eq_true hb)
  ·cases h
 ·cases h
def ox (cs:List AV) (off:Nat) (ns:List AV):List AV:=cs.take off ++ (ns ++ cs.drop (off+ns.length))
theorem sj (cs:List AV) (off:Nat) (ns:List AV) (h:off+ns.length≤cs.length) (m:Nat) :
  (ox cs off ns)[m]?=if off≤m∧m < off+ns.length then ns[m - off]? else cs[m]?:=by
 have h1:(cs.take off).length=off:=by simp;omega
 unfold ox
 grind
theorem nN (cs:List AV) (off:Nat) (ns:List AV) (h:off+ns.length≤cs.length):(ox cs off ns).length=cs.length:=by
 simp [ox];omega
theorem foldl_set (off:Nat):∀ (us:List Value) (s:Nat) (vs:Array Value),
  ((us.zipIdx s).foldl (fun cs x=>cs.setIfInBounds (off+x.2) x.1) vs).size=vs.size ∧
  ∀ m,((us.zipIdx s).foldl (fun cs x=>cs.setIfInBounds (off+x.2) x.1) vs)[m]?=if off+s≤m∧m < off+s+us.length∧m < vs.size then us[m - (off+s)]? else vs[m]?
 | [],s,vs=>⟨rfl,fun m=>by simp;intro h1 h2;omega⟩
 | u :: us,s,vs=>by
  obtain ⟨h1,h2⟩:=foldl_set off us (s+1) (vs.setIfInBounds (off+s) u)
  simp only [List.zipIdx_cons,List.foldl_cons]
  grind
theorem RL.ox {vs us:Array Value} {cs ns:List AV} (h:RL w S μ vs cs) (hu:RL w S μ us ns) {off:Nat} (hle:off+ns.length≤cs.length) :
  RL w S μ (us.zipIdx.foldl (fun cs (c,j)=>cs.setIfInBounds (off+j) c) vs) (ox cs off ns):=by
 have f:=foldl_set off us.toList 0 vs
 have e:us.zipIdx.foldl (fun cs (c,j)=>cs.setIfInBounds (off+j) c) vs=(us.toList.zipIdx 0).foldl (fun cs x=>cs.setIfInBounds (off+x.2) x.1) vs:=by
  rw [← Array.foldl_toList]
  simp
 rw [e]
 refine ⟨by rw [f.1,h.1,nN _ _ _ hle],?_⟩
 intro j c v hc hv
 rw [f.2 j] at hv
 rw [sj _ _ _ hle] at hc
 have hl:=hu.1
 have hs:=h.1
 by_cases hj:off≤j∧j < off+ns.length
 ·rw [if_pos hj] at hc
  rw [if_pos (by simp;omega)] at hv
  exact hu.2 (j - off) c v hc (by simpa using hv)
 ·rw [if_neg hj] at hc
  rw [if_neg (by simp;omega)] at hv
  exact h.2 j c v hc hv
def zg (place:Nat→Option (Nat×Nat)) (cells:List AV):List (Nat×AV)→Option (List AV)
 | []=>some cells
 | (i,x) :: rest =>
  match place i,x.cells with
  | some (off,size),some ns=>match Nat.beq ns.length size && Nat.ble (off+ns.length) cells.length with
   | true=>zg place (ox cells off ns) rest
   | false=>none
  | _,_=>none
theorem Ax (place:Nat→Option (Nat×Nat)):∀ (parts:List (Nat×AV)) (jU:List (Nat×Value)) (vs:Array Value) (cs out:List AV),
  jU.map (·.1)=parts.map (·.1)→(∀ (j:Nat) x y,parts[j]?=some x→jU[j]?=some y→ao w S μ y.2 x.2)→RL w S μ vs cs→zg place cs parts=some out →
  ∃ us,Instr.fill place vs jU=some us∧RL w S μ us out
 | [],jU,vs,cs,out,hi,_,h,hf=>by
  simp at hi;subst hi
  simp [zg] at hf;subst hf
  exact ⟨vs,rfl,h⟩
 | (i,x) :: rest,jU,vs,cs,out,hi,hr,h,hf=>by
  obtain ⟨⟨i',v⟩,VF,rfl⟩:∃ a b,jU=a :: b:=by
   cases jU with
   | nil=>simp at hi
   | cons a b=>exact ⟨a,b,rfl⟩
  simp at hi
  obtain ⟨rfl,hi⟩:=hi
  have hv:ao w S μ v x:=hr 0 (i',x) (i',v) rfl rfl
  simp only [zg] at hf
  split at hf
  ·rename_i off size ns hp hc
   split at hf
   ·rename_i hb
    simp only [bc,Nat.ble_eq] at hb
    have qQ:=bK hb.1
    have S7:=hv.cells hc
    obtain ⟨us,h1,h2⟩:=Ax place rest VF _ _ out hi (fun j x y hx hy=>hr (j+1) x y (by simpa using hx) (by simpa using hy)) (h.ox ⟨S7.1,S7.2⟩ hb.2) hf
    refine ⟨us,?_,h2⟩
    have c1:¬ v.cells.size≠size:=by rw [S7.1];omega
    have c2:¬ off+v.cells.size > vs.size:=by rw [S7.1,h.1];omega
    simp_all [Instr.fill,if_neg,Bool.or_eq_true,decide_eq_true_eq,not_or]
   ·cases hf
  ·cases hf
def HC (P:Program) (t:TypeId) (parts:List (Nat×AV)):Option AV :=
 match rr P t,P.underlying t with
 | some z,some (.struct fs)=>match fs.toList.mapM fun f=>(ta P f.type).map fun n=>(f.offset,n) with
  | some Ok=>(zg (Ok[·]?) (z.cells.toList.map fE) parts).map .agg
  | none=>none
 | some z,some (.array _ e)=>match ta P e with
  | some n=>(zg (fun i=>some (i * n,n)) (z.cells.toList.map fE) parts).map .agg
  | none=>none
 | _,_=>none
theorem Ol {t:TypeId} {parts:List (Nat×AV)} {jU:Array (Nat×Value)} (hi:jU.toList.map (·.1)=parts.map (·.1))
  (hr:∀ (j:Nat) x y,parts[j]?=some x→jU.toList[j]?=some y→ao w S μ y.2 x.2) {r:AV} (h:HC P t parts=some r) :
  ∃ v,(Instr.build t jU).run P w=.ok v w∧ao w S μ v r:=by
 unfold HC at h
 split at h
 ·rename_i z fs hz hu
  split at h
  ·rename_i Ok hp
   simp only [aG] at h
   obtain ⟨out,ho,rfl⟩:=h
   obtain ⟨us,h1,h2⟩:=Ax (w:=w) (S:=S) (μ:=μ) _ parts jU.toList z.cells _ out hi hr (xf _) ho
   refine ⟨.agg us,run_build w t jU us ?_,h2.mk'⟩
   have NS:=hz
   unfold rr at NS
   cases hi:P.info? t with
   | none=>simp [hi] at NS
   | some i =>
    simp_all [Program.built,ta,Function.comp_def]
  ·cases h
 ·rename_i z n e hz hu
  split at h
  ·rename_i n' hn
   simp only [aG] at h
   obtain ⟨out,ho,rfl⟩:=h
   obtain ⟨us,h1,h2⟩:=Ax (w:=w) (S:=S) (μ:=μ) _ parts jU.toList z.cells _ out hi hr (xf _) ho
   refine ⟨.agg us,run_build w t jU us ?_,h2.mk'⟩
   have NS:=hz
   unfold rr at NS
   unfold ta at hn
   cases hi:P.info? t with
   | none=>simp [hi] at NS
   | some i =>
    simp [hi] at NS
    cases he:P.info? e with
    | none=>simp [he] at hn
    | some ie =>
     simp_all [Program.built]
  ·cases h
 ·cases h
end
end Go.Ab
namespace Go.Ab
section
variable {P:Program} {E:Env} {nk:Nat} {σ:dn} {S:Nat→Prop} {μ:Mu} {w:World}
theorem Step.Om (g:Good E σ S μ w) (hk:μ nk=none) (hm:E.m0≤nk) {s:Sem Value} {vs:Array Value} {T:TypeId} {len cap sz:Nat} {pr:Bool} {get:Nat→List AV}
  (h:s.run P w=.ok (.slice (some ⟨w.heap.size,0,none⟩) len cap) (w.alloc (.cells vs T))) (wH:cap * sz≤vs.size) (hlen:len≤cap)
  (pe:∀ i,i < len→(get i).length=sz)
  (zD:∀ i j x v,i < len→(get i)[j]?=some x→vs[i * sz+j]?=some v→ao w S (if pr then iI else μ) v x) (BC:sz≠0) (Oe:∀ i,rowOf ⟨false,sz,len,pr,get⟩ i=none) :
  Step P E nk σ S μ w s (.os nk 0 len) [(nk,some ⟨false,sz,len,pr,get⟩)]:=by
 have ga:=g.alloc hk hm vs T ⟨false,sz,len,pr,get⟩ cap wH hlen pe zD BC Oe
 refine ⟨_,_,_,_,h,ga.1,ga.2,fun k nL hn=>by grind [mH],?_⟩
 simp_all [ao.os,bT]
def AV.Q8:AV→Bool
 | .mr _ _ _=>true
 | _=>false
def nB:List AV→Bool
 | []=>true
 | c :: cs=>!c.Q8 && nB cs
theorem GI:∀ {cs:List AV},nB cs=true→∀ c∈cs,c.Q8=false
 | [],_,c,h=>by simp at h
 | a :: cs,h,c,hc=>by
  simp only [nB,bc,Bool.not_eq_true'] at h
  rcases kz.1 hc with rfl | hc
  ·exact h.1
  ·exact GI h.2 c hc
theorem Ku (v:Value):(fE v).Q8=false:=by
 unfold fE
 split
 ·rfl
 ·split<;>rfl
 ·rfl
theorem xg {o:Ob} {l:List AV} (h:∀ i,i < o.len→∀ c∈o.get i,c∈l) (hl:∀ c∈l,c.Q8=false) (i:Nat):rowOf o i=none:=by
 cases hr:rowOf o i with
 | none=>rfl
 | some x =>
  obtain ⟨_,h1,h2⟩:=db hr
  have:=hl _ (h i h1 (.mr x.1 x.2.1 x.2.2) (by simp_all))
  cases this
theorem pf {o:Ob} (h:∀ i,i < o.len→AV.iy (o.get i)=true) (i:Nat):rowOf o i=none:=by
 cases hr:rowOf o i with
 | none=>rfl
 | some x =>
  obtain ⟨_,h1,h2⟩:=db hr
  have:=h i h1
  rw [h2] at this
  cases this
def ma (P:Program) (t:TypeId):Option TypeId :=
 match P.underlying t with
 | some (.slice e)=>some e
 | _=>none
theorem kC {t e:TypeId} (h:ma P t=some e):P.underlying t=some (.slice e):=by
 grind [ma]
def rows (n:Nat):Nat→List AV→List (List AV)
 | 0,_=>[]
 | k+1,cs=>cs.take n :: rows n k (cs.drop n)
theorem I3 (n:Nat):∀ (k:Nat) (cs:List AV) (i:Nat),i < k→(rows n k cs)[i]?=some ((cs.drop (i * n)).take n)
 | 0,_,i,h=>by omega
 | k+1,cs,0,_=>by simp [rows]
 | k+1,cs,i+1,h=>by
  simp only [rows,DL]
  rw [I3 n k (cs.drop n) i (by omega),List.drop_drop]
  grind
theorem BE (n k:Nat) (cs:List AV) (i:Nat) (h:i < k):(rows n k cs).getD i []=(cs.drop (i * n)).take n:=by
 rw [fk,I3 n k cs i h];rfl
def CE (z:List AV):Nat→List AV
 | 0=>[]
 | k+1=>z ++ CE z k
theorem vt (z:List AV):∀ k,(CE z k).length=k * z.length
 | 0=>by simp [CE]
 | k+1=>by simp [CE,vt z k,cr];omega
theorem GJ (z:List AV) (hz:z.length≠0):∀ (k j:Nat),j < k * z.length→(CE z k)[j]?=z[j % z.length]?
 | 0,j,h=>by simp at h
 | k+1,j,h=>by
  simp only [CE]
  by_cases hj:j < z.length
  ·rw [ia hj,Nat.mod_eq_of_lt hj]
  ·rw [jt (by omega),GJ z hz k (j - z.length) (by grind)]
   congr 1
   conv=>rhs;rw [show j=(j - z.length)+z.length by omega]
   simp
theorem On {z:Value} {n:Nat} (hz:z.cells.size=n) (hn:n≠0) (k:Nat) (c:Array Value) (hc:c=(Array.range (k * n)).map (z.cells[· % z.cells.size]!)) :
  RL w S μ c (CE (z.cells.toList.map fE) k):=by
 subst hc
 have hl:(z.cells.toList.map fE).length=n:=by simp [hz]
 refine ⟨by simp [vt,hz],?_⟩
 intro j x v hx hv
 have hj:j < k * n:=by
  have:=(Array.getElem?_eq_some_iff.1 hv).1
  simpa using this
 rw [GJ _ (by omega) k j (by rw [hl];exact hj),hl] at hx
 have gk:j % n < z.cells.size:=by rw [hz];exact Nat.mod_lt _ (by omega)
 have sf:v=z.cells[j % n]:=by
  simp only [Array.getElem?_map] at hv
  rw [Array.getElem?_range,if_pos hj] at hv
  simp at hv
  rw [← hv,hz]
  simp [getElem!_pos,gk]
 refine (xf (w:=w) (S:=S) (μ:=μ) z.cells).2 (j % n) x v hx ?_
 simp_all
def vu (P:Program) (nk:Nat) (t:TypeId) (len:Nat) (parts:List (Nat×AV)):Option (AV×qS) :=
 match ma P t with
 | some e=>match ta P e,vp P e,rr P e with
  | some n,some _,some z=>match Nat.ble 1 (len * n) && Nat.ble (len * n) 16777216 && Nat.beq z.cells.size n with
   | true=>match zg (fun i=>some (i * n,n)) (CE (z.cells.toList.map fE) len) parts with
    | some cs=>match nB cs with
     | true=>some (.os nk 0 len,[(nk,some ⟨false,n,len,AV.lz cs,fun i=>(rows n len cs).getD i []⟩)])
     | false=>none
    | none=>none
   | false=>match Nat.beq len 0 && Nat.ble 1 n with
    | true=>some (.os nk 0 0,[(nk,some ⟨false,n,0,true,fun _=>[]⟩)])
    | false=>none
  | _,_,_=>none
 | none=>none
theorem C6 {t e:TypeId} {n:Nat} (he:P.underlying t=some (.slice e)) (hn:ta P e=some n) (w:World) :
  (Instr.buildSlice t 0 #[]).run P w=.ok (.slice (some ⟨w.heap.size,0,none⟩) 0 0) (w.alloc (.cells #[] e)):=by
 simp [Instr.buildSlice,run_underlying he,ey hn,Instr.fill,newRow,Array.range_zero']
theorem F4 (g:Good E σ S μ w) (hk:μ nk=none) (hm:E.m0≤nk) {t:TypeId} {len:Nat} {parts:List (Nat×AV)} {jU:Array (Nat×Value)} (hi:jU.toList.map (·.1)=parts.map (·.1))
  (hr:∀ (j:Nat) x y,parts[j]?=some x→jU.toList[j]?=some y→ao w S μ y.2 x.2) {val:AV} {ld:qS} (h:vu P nk t len parts=some (val,ld)) (Xc:len=0→parts=[]) :
  Step P E nk σ S μ w (Instr.buildSlice t len jU) val ld:=by
 unfold vu at h
 split at h
 ·rename_i e he
  have he:=kC he
  split at h
  ·rename_i n b z hn hb hz
   split at h
   ·rename_i BF
    simp only [bc,Nat.ble_eq] at BF
    have Vg:=bK BF.2
    split at h
    ·rename_i cs TO
     split at h
     case h_2=>cases h
     rename_i hmr
     cases h
     have MY:n≠0:=by rintro rfl;simp at BF
     have I4:=On (w:=w) (S:=S) (μ:=μ) Vg MY len _ rfl
     obtain ⟨us,h1,h2⟩:=Ax (w:=w) (S:=S) (μ:=μ) _ parts jU.toList _ _ cs hi hr I4 TO
     obtain ⟨ie,DN,qR,hby,NT⟩:=vq hn hb hz
     subst qR
     have ll:=run_buildSlice w t e len jU us ie z he DN NT (by omega) (by omega) h1
     have hlen:us.size=len * ie.size:=by
      have:=h2.1
      have hf:∀ (parts:List (Nat×AV)) (cs out:List AV),zg (fun i=>some (i * ie.size,ie.size)) cs parts=some out→out.length=cs.length:=by
       intro parts
       induction parts with
       | nil=>intro cs out h;simp [zg] at h;rw [h]
       | cons p ps ih =>
        intro cs out h
        simp only [zg] at h
        split at h
        ·split at h
         ·rename_i ho
          simp only [bc,Nat.ble_eq] at ho
          rw [ih _ _ h,nN _ _ _ ho.2]
         ·cases h
        ·cases h
      rw [this,hf _ _ _ TO,vt];simp [Vg]
     refine Step.Om g hk hm ll (by rw [hlen];exact aF _) (aF _) ?_ ?_ MY (xg (l:=cs) (fun i hi c hc=>by
      have hc:c∈(rows ie.size len cs).getD i []:=hc
      rw [BE _ _ _ _ hi] at hc
      exact List.mem_of_mem_drop (List.mem_of_mem_take hc)) (GI hmr))
     ·intro i hi
      rw [BE _ _ _ _ hi]
      have:=h2.1
      have:(i+1) * ie.size≤len * ie.size:=dE _ hi
      rw [cr] at this
      simp;omega
     ·intro i j x v hi hx hv
      rw [BE _ _ _ _ hi,o8] at hx
      split at hx
      ·rw [oa] at hx
       exact h2.pr hx hv
      ·cases hx
    ·cases h
   ·split at h
    ·rename_i I4
     cases h
     simp only [bc,Nat.ble_eq] at I4
     obtain ⟨I4,Oo⟩:=I4
     have:=bK I4
     subst this
     have Xc:=Xc rfl
     subst Xc
     have:jU=#[]:=by
      have:jU.toList=[]:=by simpa using hi
      exact Array.toList_eq_nil_iff.1 this
     subst this
     exact Step.Om g hk hm (C6 he hn w) (by simp) (aF _) (fun i hi=>absurd hi (cW _)) (fun i j x v hi=>absurd hi (cW _)) (by omega) (fun i=>rfl)
    ·cases h
  ·cases h
 ·cases h
def Kv (P:Program) (nk:Nat) (t:TypeId) (l c:AV):Option (List Prop×AV×qS) :=
 match ma P t,l,c with
 | some e,.atom (.int _ l),.atom (.int _ c)=>match ta P e,vp P e,rr P e with
  | some n,some b,some z=>match Nat.ble 1 n && Nat.beq z.cells.size n with
   | true=>some ([0≤l,l≤c,(b:Int) * c≤281474976710656,c≤9223372036854775807],.os nk 0 l.toNat,
     [(nk,some ⟨false,n,l.toNat,AV.lz (z.cells.toList.map fE),fun _=>z.cells.toList.map fE⟩)])
   | false=>none
  | _,_,_=>none
 | _,_,_=>none
theorem Q9 (g:Good E σ S μ w) (hk:μ nk=none) (hm:E.m0≤nk) {t:TypeId} {l c:AV} {vl vc:Value} (hl:ao w S μ vl l) (hc:ao w S μ vc c)
  {ps:List Prop} {val:AV} {ld:qS} (h:Kv P nk t l c=some (ps,val,ld)) (hp:bg ps) :
  Step P E nk σ S μ w (Instr.makeSlice t vl vc) val ld:=by
 unfold Kv at h
 split at h
 ·rename_i e k l k' c he
  have he:=kC he
  have:=cX hl;subst this
  have:=cX hc;subst this
  split at h
  ·rename_i n b z hn hb hz
   split at h
   ·rename_i BF
    cases h
    simp only [bc,Nat.ble_eq] at BF
    have Vg:=bK BF.2
    obtain ⟨h1,h2,h3,h4,_⟩:=hp
    obtain ⟨ie,DN,qR,hby,NT⟩:=vq hn hb hz
    subst qR hby
    have ll:=run_make (P:=P) w t e ie z he DN NT k k' l c h1 h2 h3 h4
    refine Step.Om g hk hm ll (by rw [size_madeCells];exact aF _) (by omega) (fun _ _=>by simp [Vg]) ?_ (by omega) (xg (l:=z.cells.toList.map fE) (fun _ _ c hc=>hc) (fun c hc=>by
     obtain ⟨v,_,rfl⟩:=List.mem_map.1 hc
     exact Ku v))
    intro i j x v hi hx hv
    have hj:j < ie.size:=by
     have:=(dD.1 hx).1
     simpa [Vg] using this
    have sf:z.cells[j]?=some v:=by
     unfold madeCells at hv
     simp only [Array.getElem?_map] at hv
     have gk:i * ie.size+j < c.toNat * ie.size:=by
      have:(i+1) * ie.size≤c.toNat * ie.size:=dE _ (by omega)
      rw [cr] at this
      omega
     rw [Array.getElem?_range,if_pos gk] at hv
     simp only [Option.map_some,aA] at hv
     rw [Vg,o9 i,Nat.mul_add_mod,Nat.mod_eq_of_lt hj] at hv
     have hjz:j < z.cells.size:=by omega
     rw [jd hjz]
     rw [getElem!_pos z.cells j hjz] at hv
     exact congrArg some hv
    exact (xf (w:=w) (S:=S) (μ:=μ) z.cells).pr hx sf
   ·cases h
  ·cases h
 ·cases h
def Ra (agg:Bool) (n:Nat) (cs:List AV) (j:Nat):Option AV :=
 match Nat.ble (j+n) cs.length with
 | true=>match agg with
  | true=>some (.agg ((cs.drop j).take n))
  | false=>cs[j]?
 | false=>none
theorem DP {T:TypeId} {d:TypeDesc} {n:Nat} (hu:P.underlying T=some d) (hn:ta P T=some n) {cs:List AV} {j:Nat} {x:AV} (h:Ra d.isRow n cs j=some x) (b o:Nat)
  (f:Nat→Value) (hc:∀ i,i < cs.length→w.cell? ⟨b,o+i,none⟩=some (f i)) (hr:∀ (i:Nat) c,cs[i]?=some c→ao w S μ (f i) c) :
  ∃ v,(Instr.loadAt T (.pointer (some ⟨b,o+j,none⟩))).run P w=.ok v w∧ao w S μ v x:=by
 unfold Ra at h
 split at h
 ·rename_i hle
  simp only [Nat.ble_eq] at hle
  cases hd:d.isRow with
  | true =>
   simp [hd] at h
   have hl:((List.range n).map fun i=>f (j+i)).length=n:=by simp
   refine ⟨.agg ((List.range n).map fun i=>f (j+i)).toArray,run_loadAt_mid w b (o+j) T _ d ?_ hu hd (by simpa [ta] using hn),?_⟩
   ·intro i v hv
    grind
   ·rw [← h]
    refine .agg (by simp;omega) ?_
    grind
  | false =>
   simp [hd] at h
   have hj:j < cs.length:=(dD.1 h).1
   have MV:(isAgg T).run P w=.ok false w:=by
    unfold isAgg
    rw [bD,run_underlying hu w]
    cases d<;>simp_all
   simp_all [Instr.loadAt,Instr.sureAddr,loadVar]
 ·cases h
def Rb (kd:IntKind):AV→Option Int
 | .atom v=>match v with
  | .int k n=>match decide (k=kd) with
   | true=>some n
   | false=>none
  | _=>none
 | _=>none
def zh (kd:IntKind):Nat→List AV→Option (List Int)
 | 0,_=>some []
 | m+1,c :: cs=>match Rb kd c,zh kd m cs with
  | some a,some r=>some (a :: r)
  | _,_=>none
 | _+1,[]=>none
def GK (l:List Int) (n:Nat):Int:=l.getD n 0
def TP (q t:Nat) (v a:Int):Int:=if q=t then v else a
theorem LG {kd:IntKind} {c:AV} {a:Int} (h:Rb kd c=some a):c=.atom (.int kd a):=by
 unfold Rb at h
 grind
theorem BG {kd:IntKind}:∀ {m:Nat} {cs:List AV} {l:List Int},zh kd m cs=some l→∀ n,n < m→cs[n]?=some (.atom (.int kd (GK l n)))
 | 0,_,_,_,n,hn=>absurd hn (cW n)
 | m+1,[],_,h,_,_=>by simp [zh] at h
 | m+1,c :: cs,l,h,n,hn=>by
  simp only [zh] at h
  split at h
  ·rename_i a r h1 h2
   cases h
   cases n with
   | zero=>simp [GK,LG h1]
   | succ n =>
    have:=BG h2 n (by omega)
    simpa [GK] using this
  ·cases h
def LH:AV→Option Bool
 | .atom v=>match v with
  | .bool b=>some b
  | _=>none
 | _=>none
def tJ:Nat→List AV→Option (List Bool)
 | 0,_=>some []
 | m+1,c :: cs=>match LH c,tJ m cs with
  | some a,some r=>some (a :: r)
  | _,_=>none
 | _+1,[]=>none
def GL (l:List Bool) (n:Nat):Bool:=l.getD n false
def TQ (q t:Nat) (v a:Bool):Bool:=if q=t then v else a
theorem I5 {c:AV} {a:Bool} (h:LH c=some a):c=.atom (.bool a):=by
 unfold LH at h
 grind
theorem zF:∀ {m:Nat} {cs:List AV} {l:List Bool},tJ m cs=some l→∀ n,n < m→cs[n]?=some (.atom (.bool (GL l n)))
 | 0,_,_,_,n,hn=>absurd hn (cW n)
 | m+1,[],_,h,_,_=>by simp [tJ] at h
 | m+1,c :: cs,l,h,n,hn=>by
  simp only [tJ] at h
  split at h
  ·rename_i a r h1 h2
   cases h
   cases n with
   | zero=>simp [GL,I5 h1]
   | succ n =>
    have:=zF h2 n (by omega)
    simpa [GL] using this
  ·cases h
def xh (P:Program) (σ:dn) (T:TypeId) (a:AV):Option (List Prop×AV×List Nat) :=
 match P.underlying T,ta P T with
 | some d,some n=>match a with
  | .op k i j=>match ar σ k with
   | some o=>(Ra d.isRow n (o.get i) j).map fun x=>([i < o.len],x,[k])
   | none=>none
  | .rp cs j=>(Ra d.isRow n cs j).map fun x=>([],x,[])
  | .ov k i j m q=>match ar σ k,d with
   | some o,.int kd=>match zh kd m ((o.get i).drop j) with
    | some l=>match Nat.beq n 1 with
     | true=>some ([i < o.len],.atom (.int kd (GK l q)),[k])
     | false=>none
    | none=>none
   | some o,.bool=>match tJ m ((o.get i).drop j) with
    | some l=>match Nat.beq n 1 with
     | true=>some ([i < o.len],.atom (.bool (GL l q)),[k])
     | false=>none
    | none=>none
   | _,_=>none
  | _=>none
 | _,_=>none
theorem cM {o:Ob} {pl:Place} {c:Array Value} {T:TypeId} (h:gD w S μ o pl c T) {i j:Nat} (hi:i < o.len) (hj:j < o.sz) :
  ∃ v,c[i * o.sz+j]?=some v∧w.cell? ⟨pl.cy,i * o.sz+j,none⟩=some v:=by
 have gk:i * o.sz+j < c.size:=by
  have h1:(i+1) * o.sz≤pl.cap * o.sz:=dE _ (by have:=h.len;omega)
  have:=h.cap
  rw [cr] at h1
  omega
 exact ⟨c[i * o.sz+j],jd gk,by rw [cell_of_row w _ _ _ _ _ ((h.cy (by have:=h.len;omega)).trans (by rw [fm (by omega)]))];simp⟩
theorem iz {v:Value} {x:AV} {pr:Bool} (h:ao w S (if pr then iI else μ) v x):ao w S μ v x:=by
 refine h.mono (fun _ h=>h) (fun _ _=>rfl) ?_
 cases pr
 ·exact fun _ _ h=>h
 ·exact fun _ _ h=>by cases h
theorem HD (g:Good E σ S μ w) {T:TypeId} {a:AV} {va:Value} (ha:ao w S μ va a) {ps:List Prop} {x:AV} {rd:List Nat} (h:xh P σ T a=some (ps,x,rd)) (hp:bg ps) :
  ∃ v,(Instr.loadAt T va).run P w=.ok v w∧ao w S μ v x:=by
 unfold xh at h
 split at h
 ·rename_i d n hu hn
  split at h
  ·rename_i k i j
   split at h
   ·rename_i o ho
    simp only [aG,az] at h
    obtain ⟨y,hy,rfl,rfl,rfl⟩:=h
    obtain ⟨pl,c,T',hm,cY⟩:=g.rep.ob k o ho
    have hi:=hp.1
    cases ha with
    | op jQ gF =>
     rw [hm] at gF;cases gF
     rw [cY.sz]
     have hlen:=cY.s8 i hi
     refine DP hu hn hy pl.cy (i * o.sz) (fun j=>(c[i * o.sz+j]?).getD undef) ?_ ?_
     ·grind [cM]
     ·intro j cc S8
      obtain ⟨v,h1,h2⟩:=cM cY hi (hlen ▸ (dD.1 S8).1)
      rw [h1]
      exact iz (cY.rep i j cc v hi S8 h1)
   ·cases h
  ·rename_i cs j
   simp only [aG,az] at h
   obtain ⟨y,hy,rfl,rfl,rfl⟩:=h
   cases ha with
   | rp b o f h1 h2 h3 =>
    exact DP hu hn hy b o f h2 (fun i c hc=>(h3 i c hc).mono (fun _ h=>h) (fun _ _=>rfl) (fun _ _ h=>by cases h))
  ·rename_i k i j m q
   split at h
   ·rename_i o kd ho
    split at h
    ·rename_i l hl
     split at h
     ·rename_i Oo
      have Oo:=bK Oo
      simp only [aA,az] at h
      obtain ⟨rfl,rfl,rfl⟩:=h
      obtain ⟨pl,c,T',hm,cY⟩:=g.rep.ob k o ho
      have hi:=hp.1
      cases ha with
      | ov jQ gF hq =>
       rw [hm] at gF;cases gF
       rw [cY.sz]
       have hlen:=cY.s8 i hi
       have hy:=BG hl q hq
       rw [oa] at hy
       have hjl:=(dD.1 hy).1
       have TH:Ra (TypeDesc.int kd).isRow n (o.get i) (j+q)=some (.atom (.int kd (GK l q))):=by
        unfold Ra
        have:Nat.ble (j+q+n) (o.get i).length=true:=by rw [Nat.ble_eq];omega
        rw [this]
        exact hy
       refine DP hu hn TH pl.cy (i * o.sz) (fun j=>(c[i * o.sz+j]?).getD undef) ?_ ?_
       ·grind [cM]
       ·intro j cc S8
        obtain ⟨v,h1,h2⟩:=cM cY hi (hlen ▸ (dD.1 S8).1)
        rw [h1]
        exact iz (cY.rep i j cc v hi S8 h1)
     ·cases h
    ·cases h
   ·rename_i o ho
    split at h
    ·rename_i l hl
     split at h
     ·rename_i Oo
      have Oo:=bK Oo
      simp only [aA,az] at h
      obtain ⟨rfl,rfl,rfl⟩:=h
      obtain ⟨pl,c,T',hm,cY⟩:=g.rep.ob k o ho
      have hi:=hp.1
      cases ha with
      | ov jQ gF hq =>
       rw [hm] at gF;cases gF
       rw [cY.sz]
       have hlen:=cY.s8 i hi
       have hy:=zF hl q hq
       rw [oa] at hy
       have hjl:=(dD.1 hy).1
       have TH:Ra (TypeDesc.bool).isRow n (o.get i) (j+q)=some (.atom (.bool (GL l q))):=by
        unfold Ra
        have:Nat.ble (j+q+n) (o.get i).length=true:=by rw [Nat.ble_eq];omega
        rw [this]
        exact hy
       refine DP hu hn TH pl.cy (i * o.sz) (fun j=>(c[i * o.sz+j]?).getD undef) ?_ ?_
       ·grind [cM]
       ·intro j cc S8
        obtain ⟨v,h1,h2⟩:=cM cY hi (hlen ▸ (dD.1 S8).1)
        rw [h1]
        exact iz (cY.rep i j cc v hi S8 h1)
     ·cases h
    ·cases h
   ·cases h
  ·cases h
 ·cases h
end
end Go.Ab
namespace Go.Ab
def bu:Nat→Nat→Nat
 | 0,n=>n
 | m+1,n=>m+1+n
theorem dg (m n:Nat):bu m n=m+n:=by cases m<;>simp [bu]
section
variable {P:Program} {E:Env} {nk:Nat} {σ:dn} {S:Nat→Prop} {μ:Mu} {w:World}
def Ob.put (o:Ob) (i:Nat) (cs:List AV) (pr:Bool):Ob :=
 match o.var with
 | true=>{ o with pr:=o.pr && pr,get:=fun _=>cs }
 | false=>{ o with pr:=o.pr && pr,get:=fun m=>if m=i then cs else o.get m }
def VG (sz:Nat) (cs:List AV) (off:Nat) (ns:List AV):List AV :=
 match Nat.beq ns.length sz with
 | true=>ns
 | false=>ox cs off ns
theorem Kw {sz:Nat} {cs:List AV} {off:Nat} {ns:List AV} (h:off+ns.length≤sz) (hl:cs.length=sz):VG sz cs off ns=ox cs off ns:=by
 unfold VG
 split
 ·rename_i hb
  have hb:=bK hb
  have h0:off=0:=by omega
  subst h0
  unfold ox
  rw [List.drop_eq_nil_of_le (by omega)]
  simp
 ·rfl
def nO (P:Program) (σ:dn) (T:TypeId) (a x:AV):Option (List Prop×qS×List Nat) :=
 match a,x.cells,ta P T with
 | .op k i j,some ns,some n=>match ar σ k with
  | some o=>match Nat.beq ns.length n && AV.iy ns && Nat.ble (j+n) o.sz && (!o.var || Nat.beq o.len 1) && Nat.ble 1 o.sz with
   | true=>some ([i < o.len],[(k,some (o.put i (VG o.sz (o.get i) j ns) (AV.lz ns)))],[k])
   | false=>none
  | none=>none
 | _,_,_=>none
theorem BH (g:Good E σ S μ w) {T:TypeId} {a x:AV} {va vx:Value} (ha:ao w S μ va a) (hx:ao w S μ vx x) {ps:List Prop} {ld:qS} {rd:List Nat}
  (h:nO P σ T a x=some (ps,ld,rd)) (hp:bg ps) :
  ∃ w',(Instr.storeAt T va vx).run P w=.ok () w'∧Ext w S μ w' S μ∧Good E (eF σ ld) S μ w':=by
 unfold nO at h
 split at h
 ·rename_i k i j ns n hns hn
  split at h
  ·rename_i o ho
   split at h
   ·rename_i hb
    simp only [aA,az] at h
    obtain ⟨rfl,rfl,rfl⟩:=h
    simp only [bc,Nat.ble_eq] at hb
    obtain ⟨⟨⟨⟨qQ,oc⟩,NU⟩,Rc⟩,Xd⟩:=hb
    have qQ:=bK qQ
    have hi:i < o.len:=hp.1
    obtain ⟨pl,c,T',hm,cY⟩:=g.rep.ob k o ho
    cases ha with
    | op jQ gF =>
     rw [hm] at gF;cases gF
     have wH:0 < pl.cap:=by have:=cY.len;omega
     have vo:i * o.sz+o.sz≤c.size:=by
      have h1:(i+1) * o.sz≤pl.cap * o.sz:=dE _ (by have:=cY.len;omega)
      have:=cY.cap
      rw [cr] at h1
      omega
     obtain ⟨TO,hcr⟩:=hx.cells hns
     have F5:∀ v∈vx.cells.toList,v.oneCell'=true:=by
      intro v hv
      obtain ⟨q,hq⟩:=List.getElem?_of_mem hv
      have gk:q < ns.length:=by
       have:=(dD.1 hq).1
       simp at this;omega
      exact (hcr q _ v (o6 gk) (by simpa using hq)).Hz (Ea oc (o6 gk))
     have As:=run_storeCells_at P pl.cy (i * pl.sz+j) T' vx.cells.toList 0 c w ((cY.cy wH).trans (by grind [fm])) (by rw [cY.sz];simp;omega) F5
     simp only [Nat.add_zero] at As
     generalize oe:(c.toList.take (i * pl.sz+j) ++ vx.cells.toList ++ c.toList.drop (i * pl.sz+j+vx.cells.toList.length)).toArray=c' at As
     have xi:(c.toList.take (i * pl.sz+j)).length=i * o.sz+j:=by rw [cY.sz];simp;omega
     have LI:vx.cells.toList.length=n:=by simp;omega
     have HE:c'.size=c.size:=by
      rw [← oe]
      simp only [List.size_toArray,lD,List.length_drop,LI,cY.sz]
      simp;omega
     have pZ:∀ m,c'[m]?=if i * o.sz+j≤m∧m < i * o.sz+j+n then vx.cells[m - (i * o.sz+j)]? else c[m]?:=by
      intro m
      rw [← oe]
      simp only [List.getElem?_toArray,List.append_assoc]
      by_cases h1:m < i * o.sz+j
      ·grind
      ·rw [jt (by omega),xi]
       by_cases h2:m < i * o.sz+j+n
       ·rw [ia (by omega),if_pos (by omega)]
        simp
       ·rw [jt (by omega),if_neg (by omega),oa,LI,cY.sz]
        simp only [Array.getElem?_toList]
        congr 1;omega
     have S9:=cY.s8 i hi
     have NV:∀ (o':Ob),o'.sz=o.sz→o'.len=o.len→o'.var=o.var→o'.pr=(o.pr && AV.lz ns)→(o'.get i=ox (o.get i) j ns)→(∀ m,m < o.len→m≠i→o'.get m=o.get m) →
       Ext w S μ (w.setRow pl.cy c') S μ∧Good E (sset σ k o') S μ (w.setRow pl.cy c'):=by
      intro o' e1 e2 ev e3 e4 e5
      have fP:∀ m q,m≠i→q < o.sz→¬ (i * o.sz+j≤m * o.sz+q∧m * o.sz+q < i * o.sz+j+n):=by
       rintro m q Ay hq ⟨h1,h2⟩
       rcases Nat.lt_or_gt_of_ne Ay with h3 | h3
       ·have:(m+1) * o.sz≤i * o.sz:=dE _ h3
        rw [cr] at this;omega
       ·have:(i+1) * o.sz≤m * o.sz:=dE _ h3
        rw [cr] at this;omega
      refine g.write ho hm wH cY (by omega) o' c' e1 HE (by rw [e2];exact cY.len) ?_ ?_ ?_
      rotate_left 2
      ·intro m x hx
       obtain ⟨q1,q2,q3⟩:=db hx
       rw [e2] at q2
       rw [ev] at q1
       rw [pZ]
       by_cases Ay:m=i
       ·subst Ay
        rw [e4] at q3
        cases n with
        | zero =>
         have:ns=[]:=List.eq_nil_of_length_eq_zero qQ
         rw [this] at q3
         refine ⟨kB q1 q2 (by rw [← q3];unfold ox;simp),if_neg (by omega)⟩
        | succ n =>
         have h1:=nN (o.get m) j ns (by omega)
         rw [q3] at h1
         have Xe:j=0:=by simp at h1;omega
         have h2:=sj (o.get m) j ns (by omega) 0
         rw [q3,if_pos (by omega)] at h2
         have h3:=Ea oc (j:=0 - j) (c:=.mr x.1 x.2.1 x.2.2) (by rw [← h2];rfl)
         cases h3
       ·rw [e5 m q2 Ay] at q3
        exact ⟨kB q1 q2 q3,if_neg (fP m 0 Ay (by omega))⟩
      ·intro m hm
       rw [e2] at hm
       by_cases Ay:m=i
       ·subst Ay
        rw [e4,nN _ _ _ (by omega),S9,e1]
       ·rw [e5 m hm Ay,cY.s8 m hm,e1]
      ·intro m q y v hm hy hv
       rw [e2] at hm
       rw [e1,pZ] at hv
       rw [e3]
       have hq:q < o.sz:=by
        have:=(dD.1 hy).1
        by_cases Ay:m=i
        ·subst Ay;rw [e4,nN _ _ _ (by omega),S9] at this;exact this
        ·rw [e5 m hm Ay,cY.s8 m hm] at this;exact this
       have hold:(o.get m)[q]?=some y→c[m * o.sz+q]?=some v→ao w S (if (o.pr && AV.lz ns)=true then iI else μ) v y:=by
        intro hy hv
        have:=cY.rep m q y v hm hy hv
        cases Kn:o.pr
        ·simpa [Kn] using this
        ·rw [Kn] at this
         split
         ·exact this
         ·exact iz this
       by_cases Ay:m=i
       ·subst Ay
        rw [e4,sj _ _ _ (by omega)] at hy
        by_cases hjq:j≤q∧q < j+n
        ·rw [if_pos (by omega)] at hy hv
         have sf:vx.cells[q - j]?=some v:=by rw [← hv];congr 1;omega
         have:=hcr (q - j) y v hy sf
         split
         ·rename_i Xf
          simp only [bc] at Xf
          exact this.pure (rU Xf.2 hy) iI
         ·exact this
        ·rw [if_neg (by omega)] at hy hv
         exact hold hy hv
       ·rw [e5 m hm Ay] at hy
        rw [if_neg (fP m q Ay hq)] at hv
        exact hold hy hv
     refine ⟨w.setRow pl.cy c',?_,?_⟩
     ·simp only [Instr.storeAt,Instr.sureAddr,bD,Sem.run_pure,cV,storeVar,ey hn]
      rw [Sem.run_ite,if_neg (by omega)]
      exact As
     ·show Ext _ _ _ _ _ _∧Good E (sset σ k _) S μ _
      refine NV _ ?_ ?_ ?_ ?_ ?_ ?_
      ·unfold Ob.put;split<;>rfl
      ·unfold Ob.put;split<;>rfl
      ·unfold Ob.put;split<;>rfl
      ·unfold Ob.put;split<;>rfl
      ·rw [← Kw (by omega) S9];unfold Ob.put;split<;>simp
      ·intro m hm Ay
       unfold Ob.put
       split
       ·rename_i Az
        simp only [Az,Bool.not_true,Bool.false_or] at Rc
        have:=bK Rc
        omega
       ·simp [Ay]
   ·cases h
  ·cases h
 ·cases h
def MZ (kd:IntKind) (q:Nat) (v:Int):Nat→Nat→List AV→List AV
 | t,m+1,c :: cs=>(match Rb kd c with
  | some a=>.atom (.int kd (TP q t v a))
  | none=>c) :: MZ kd q v (t+1) m cs
 | _,_,cs=>cs
theorem I6 {kd:IntKind} {q:Nat} {v:Int}:∀ {m:Nat} {cs:List AV} {l:List Int} (t:Nat),zh kd m cs=some l→∀ r,(MZ kd q v t m cs)[r]?=if q=t+r∧r < m then some (.atom (.int kd v)) else cs[r]?
 | 0,cs,_,t,_,r=>by cases cs<;>simp [MZ]
 | m+1,[],_,_,h,_=>by simp [zh] at h
 | m+1,c :: cs,l,t,h,r=>by
  simp only [zh] at h
  split at h
  ·rename_i a r' h1 h2
   cases h
   simp only [MZ,h1]
   cases r with
   | zero =>
    simp only [List.getElem?_cons_zero,Nat.add_zero]
    by_cases hq:q=t
    ·simp_all [if_pos,TP]
    ·rw [if_neg (fun h=>hq h.1),TP,if_neg hq,← LG h1]
   | succ r =>
    simp only [DL]
    rw [I6 (t+1) h2 r]
    grind
  ·cases h
def M0 (q:Nat) (v:Bool):Nat→Nat→List AV→List AV
 | t,m+1,c :: cs=>(match LH c with
  | some a=>.atom (.bool (TQ q t v a))
  | none=>c) :: M0 q v (t+1) m cs
 | _,_,cs=>cs
theorem I7 {q:Nat} {v:Bool}:∀ {m:Nat} {cs:List AV} {l:List Bool} (t:Nat),tJ m cs=some l→∀ r,(M0 q v t m cs)[r]?=if q=t+r∧r < m then some (.atom (.bool v)) else cs[r]?
 | 0,cs,_,t,_,r=>by cases cs<;>simp [M0]
 | m+1,[],_,_,h,_=>by simp [tJ] at h
 | m+1,c :: cs,l,t,h,r=>by
  simp only [tJ] at h
  split at h
  ·rename_i a r' h1 h2
   cases h
   simp only [M0,h1]
   cases r with
   | zero =>
    simp only [List.getElem?_cons_zero,Nat.add_zero]
    by_cases hq:q=t
    ·simp_all [if_pos,TQ]
    ·rw [if_neg (fun h=>hq h.1),TQ,if_neg hq,← I5 h1]
   | succ r =>
    simp only [DL]
    rw [I7 (t+1) h2 r]
    grind
  ·cases h
def yf (P:Program) (σ:dn) (T:TypeId) (a x:AV):Option (List Prop×qS×List Nat) :=
 match a with
 | .ov k i j m q=>match ar σ k,x,ta P T with
  | some o,.atom (.int kd v),some n=>match zh kd m ((o.get i).drop j) with
   | some _=>match Nat.beq n 1 && Nat.ble (j+m) o.sz && Nat.ble (j+m) (o.get i).length && (!o.var || Nat.beq o.len 1) && Nat.ble 1 o.sz with
    | true=>some ([i < o.len],[(k,some (o.put i ((o.get i).take j ++ MZ kd q v 0 m ((o.get i).drop j)) true))],[k])
    | false=>none
   | none=>none
  | some o,.atom (.bool v),some n=>match tJ m ((o.get i).drop j) with
   | some _=>match Nat.beq n 1 && Nat.ble (j+m) o.sz && Nat.ble (j+m) (o.get i).length && (!o.var || Nat.beq o.len 1) && Nat.ble 1 o.sz with
    | true=>some ([i < o.len],[(k,some (o.put i ((o.get i).take j ++ M0 q v 0 m ((o.get i).drop j)) true))],[k])
    | false=>none
   | none=>none
  | _,_,_=>none
 | a=>nO P σ T a x
theorem Oq (g:Good E σ S μ w) {T:TypeId} {a x:AV} {va vx:Value} (ha:ao w S μ va a) (hx:ao w S μ vx x) {ps:List Prop} {ld:qS} {rd:List Nat}
  (h:yf P σ T a x=some (ps,ld,rd)) (hp:bg ps) :
  ∃ w',(Instr.storeAt T va vx).run P w=.ok () w'∧Ext w S μ w' S μ∧Good E (eF σ ld) S μ w':=by
 unfold yf at h
 split at h
 ·rename_i k i j m q
  split at h
  ·rename_i o kd v n ho hn
   split at h
   ·rename_i l hl
    split at h
    ·rename_i hb
     simp only [aA,az] at h
     obtain ⟨rfl,rfl,rfl⟩:=h
     simp only [bc,Nat.ble_eq] at hb
     obtain ⟨⟨⟨⟨qQ,oc⟩,NU⟩,Rc⟩,Xd⟩:=hb
     cases ha with
     | ov pl hm hq =>
      have hc:(o.get i).take j ++ MZ kd q v 0 m ((o.get i).drop j)=ox (o.get i) (j+q) [.atom (.int kd v)]:=by
       have Xg:((o.get i).take j).length=j:=by simp;omega
       apply List.ext_getElem?
       intro r
       rw [sj _ _ _ (by simp;omega)]
       simp only [List.length_singleton]
       by_cases hr:r < j
       ·rw [ia (by omega),o8,if_pos hr,if_neg (by omega)]
       ·rw [jt (by omega),Xg,I6 0 hl]
        by_cases hqr:r=j+q
        ·rw [if_pos (by omega),if_pos (by omega)]
         have:r - (j+q)=0:=by omega
         rw [this];rfl
        ·rw [if_neg (by omega),if_neg (by omega),oa]
         congr 1;omega
      have S9:(o.get i).length=o.sz:=by obtain ⟨_,_,_,_,cY⟩:=g.rep.ob k o ho;exact cY.s8 i hp.1
      rw [← Kw (sz:=o.sz) (by simp;omega) S9] at hc
      have h0:nO P σ T (.op k i (j+q)) (.atom (.int kd v))=some ([i < o.len],[(k,some (o.put i (VG o.sz (o.get i) (j+q) [.atom (.int kd v)]) true))],[k]):=by
       have TR:=bK qQ
       subst TR
       have e1:Nat.ble (j+q+1) o.sz=true:=by rw [Nat.ble_eq];omega
       have e2:Nat.ble 1 o.sz=true:=by rw [Nat.ble_eq];exact Xd
       unfold nO
       simp only [AV.cells,hn,ho,List.length_singleton,AV.iy,AV.one,AV.lz,AV.pure,e1,e2,Rc,Bool.and_true,Bool.and_self]
      rw [hc]
      exact BH g (ao.op pl hm) hx h0 hp
    ·cases h
   ·cases h
  ·rename_i o v n ho hn
   split at h
   ·rename_i l hl
    split at h
    ·rename_i hb
     simp only [aA,az] at h
     obtain ⟨rfl,rfl,rfl⟩:=h
     simp only [bc,Nat.ble_eq] at hb
     obtain ⟨⟨⟨⟨qQ,oc⟩,NU⟩,Rc⟩,Xd⟩:=hb
     cases ha with
     | ov pl hm hq =>
      have hc:(o.get i).take j ++ M0 q v 0 m ((o.get i).drop j)=ox (o.get i) (j+q) [.atom (.bool v)]:=by
       have Xg:((o.get i).take j).length=j:=by simp;omega
       apply List.ext_getElem?
       intro r
       rw [sj _ _ _ (by simp;omega)]
       simp only [List.length_singleton]
       by_cases hr:r < j
       ·rw [ia (by omega),o8,if_pos hr,if_neg (by omega)]
       ·rw [jt (by omega),Xg,I7 0 hl]
        by_cases hqr:r=j+q
        ·rw [if_pos (by omega),if_pos (by omega)]
         have:r - (j+q)=0:=by omega
         rw [this];rfl
        ·rw [if_neg (by omega),if_neg (by omega),oa]
         congr 1;omega
      have S9:(o.get i).length=o.sz:=by obtain ⟨_,_,_,_,cY⟩:=g.rep.ob k o ho;exact cY.s8 i hp.1
      rw [← Kw (sz:=o.sz) (by simp;omega) S9] at hc
      have h0:nO P σ T (.op k i (j+q)) (.atom (.bool v))=some ([i < o.len],[(k,some (o.put i (VG o.sz (o.get i) (j+q) [.atom (.bool v)]) true))],[k]):=by
       have TR:=bK qQ
       subst TR
       have e1:Nat.ble (j+q+1) o.sz=true:=by rw [Nat.ble_eq];omega
       have e2:Nat.ble 1 o.sz=true:=by rw [Nat.ble_eq];exact Xd
       unfold nO
       simp only [AV.cells,hn,ho,List.length_singleton,AV.iy,AV.one,AV.lz,AV.pure,e1,e2,Rc,Bool.and_true,Bool.and_self]
      rw [hc]
      exact BH g (ao.op pl hm) hx h0 hp
    ·cases h
   ·cases h
  ·cases h
 ·exact BH g ha hx h hp
def xj (P:Program) (T:TypeId) (x:AV) (f:Nat):Option AV :=
 match P.underlying T with
 | some (.struct fs)=>match fs[f]? with
  | some fl=>match ta P fl.type with
   | some (_+1)=>match x with
    | .op k i j=>some (.op k i (j+fl.offset))
    | .rp cs j=>some (.rp cs (j+fl.offset))
    | _=>none
   | _=>none
  | none=>none
 | _=>none
theorem HF {T:TypeId} {x:AV} {f:Nat} {v:Value} (hx:ao w S μ v x) {r:AV} (h:xj P T x f=some r) :
  ∃ u,(Instr.fieldAt T v f).run P w=.ok u w∧ao w S μ u r:=by
 unfold xj at h
 split at h
 ·rename_i fs hu
  split at h
  ·rename_i fl hf
   split at h
   ·rename_i n hn
    split at h
    ·cases h
     cases hx with
     | op pl hm =>
      rename_i k i j
      refine ⟨.pointer (some ⟨pl.cy,i * pl.sz+(j+fl.offset),none⟩),?_,.op pl hm⟩
      simp_all [Instr.fieldAt,run_underlying,Instr.sureAddr,fieldPlace,ey,Addr.add_mid,Nat.add_assoc]
    ·cases h
     cases hx with
     | rp b o f' h1 h2 h3 =>
      rename_i cs j
      refine ⟨.pointer (some ⟨b,o+(j+fl.offset),none⟩),?_,.rp b o f' h1 h2 h3⟩
      simp_all [Instr.fieldAt,run_underlying,Instr.sureAddr,fieldPlace,ey,Addr.add_mid,Nat.add_assoc]
    ·cases h
   ·cases h
  ·cases h
 ·cases h
def HG (P:Program) (T:TypeId) (x:AV) (f:Nat):Option AV :=
 match P.underlying T,x with
 | some (.struct fs),.agg cs=>match fs[f]? with
  | some fl=>match ta P fl.type with
   | some n=>match Nat.ble (fl.offset+n) cs.length with
    | true=>jS P fl.type cs fl.offset
    | false=>none
   | none=>none
  | none=>none
 | _,_=>none
theorem Ot {T:TypeId} {x:AV} {f:Nat} {v:Value} (hx:ao w S μ v x) {r:AV} (h:HG P T x f=some r) :
  ∃ u,(Instr.field T v f).run P w=.ok u w∧ao w S μ u r:=by
 unfold HG at h
 split at h
 ·rename_i fs cs hu
  split at h
  ·rename_i fl hf
   split at h
   ·rename_i n hn
    split at h
    ·rename_i hle
     simp only [Nat.ble_eq] at hle
     obtain ⟨vs,rfl,F3,CZ⟩:=nf hx
     obtain ⟨u,r1,r2⟩:=jT F3 CZ h (fun n' h'=>by simp_all)
     simp_all [Instr.field,run_underlying,asAgg]
    ·cases h
   ·cases h
  ·cases h
 ·cases h
def oI (P:Program) (σ:dn) (T:TypeId) (x ix:AV):Option (List Prop×AV×List Nat) :=
 match P.underlying T,ix with
 | some (.slice e),.atom (.int _ n)=>match ta P e with
  | some sz=>match x with
   | .os k off len=>match ar σ k with
    | some o=>match Nat.beq o.sz sz with
     | true=>some ([0≤n∧n < len],.op k (bu off n.toNat) 0,[k])
     | false=>none
    | none=>none
   | .sl len get=>match Nat.beq (get n.toNat).length sz with
    | true=>some ([0≤n∧n < len],.rp (get n.toNat) 0,[])
    | false=>none
   | _=>none
  | none=>none
 | some (.array len e),.atom (.int _ n)=>match ta P e with
  | some sz=>match x with
   | .op k i j=>match P.underlying e with
    | some (.int _)=>match Nat.beq sz 1 with
     | true=>some ([0≤n∧n < len],.ov k i j len n.toNat,[])
     | false=>none
    | some .bool=>match Nat.beq sz 1 with
     | true=>some ([0≤n∧n < len],.ov k i j len n.toNat,[])
     | false=>none
    | _=>some ([0≤n∧n < len],.op k i (j+n.toNat * sz),[])
   | .rp cs j=>some ([0≤n∧n < len],.rp cs (j+n.toNat * sz),[])
   | _=>none
  | none=>none
 | _,_=>none
theorem HH (g:Good E σ S μ w) {T:TypeId} {x ix:AV} {v vi:Value} (hx:ao w S μ v x) (hi:ao w S μ vi ix) {ps:List Prop} {r:AV} {rd:List Nat}
  (h:oI P σ T x ix=some (ps,r,rd)) (hp:bg ps) :
  ∃ u,(Instr.indexAt T v vi).run P w=.ok u w∧ao w S μ u r:=by
 unfold oI at h
 split at h
 ·rename_i e kk n hu
  have:=cX hi;subst this
  split at h
  ·rename_i sz qR
   split at h
   ·rename_i k off len
    split at h
    ·rename_i o ho
     split at h
     ·rename_i hb
      have hb:=bK hb
      simp only [aA,az] at h
      obtain ⟨rfl,rfl,rfl⟩:=h
      obtain ⟨pl,c,T',hm,cY⟩:=g.rep.ob k o ho
      have hn:=hp.1
      cases hx with
      | os jQ gF h1 h2 h3 =>
       rename_i cap a
       rw [hm] at gF;cases gF
       have ha:=h1 (by omega)
       subst ha
       refine ⟨.pointer (some ⟨pl.cy,bu off n.toNat * pl.sz+0,none⟩),?_,.op pl hm⟩
       simp only [Instr.indexAt,asIntOf,run_underlying hu,bD,Sem.run_pure,cV]
       rw [Sem.run_ite,if_pos hn]
       simp only [bD,ey qR,cV,Sem.run_pure,Addr.add_mid]
       rw [dg,cY.sz,hb,cr]
       rfl
     ·cases h
    ·cases h
   ·rename_i len get
    split at h
    ·rename_i hb
     have hb:=bK hb
     simp only [aA,az] at h
     obtain ⟨rfl,rfl,rfl⟩:=h
     have hn:=hp.1
     cases hx with
     | sl b off Ta f h1 h2 h3 h4 _ =>
      rename_i cap a
      have qT:n.toNat < len:=by omega
      obtain ⟨ha,hS⟩:=h1 (by omega)
      subst ha
      have X2:Ta=sz:=by rw [← h2 n.toNat qT,hb]
      subst X2
      refine ⟨.pointer (some ⟨b,(off+n.toNat * Ta)+0,none⟩),?_,.rp b (off+n.toNat * Ta) (f n.toNat) hS ?_ ?_⟩
      ·simp only [Instr.indexAt,asIntOf,run_underlying hu,bD,Sem.run_pure,cV]
       simp_all [Sem.run_ite,if_pos,bD,ey,cV,Sem.run_pure,Addr.add_mid]
      ·simp_all
      simp_all
    ·cases h
   ·cases h
  ·cases h
 ·rename_i len e kk n hu
  have:=cX hi;subst this
  split at h
  ·rename_i sz qR
   split at h
   ·rename_i k i j
    have ll:0≤n∧n < len→∀ pl:Place,(Instr.indexAt T (.pointer (some ⟨pl.cy,i * pl.sz+j,none⟩)) (.int kk n)).run P w=.ok (.pointer (some ⟨pl.cy,i * pl.sz+(j+n.toNat * sz),none⟩)) w:=by
     intro hn pl
     simp only [Instr.indexAt,Instr.sureAddr,asIntOf,run_underlying hu,bD,Sem.run_pure,cV]
     rw [Sem.run_ite,if_pos hn]
     simp only [bD,ey qR,cV,Sem.run_pure,Addr.add_mid,Nat.add_assoc]
    split at h
    ·split at h
     ·rename_i M1
      have M1:=bK M1
      simp only [aA,az] at h
      obtain ⟨rfl,rfl,rfl⟩:=h
      have hn:=hp.1
      cases hx with
      | op pl hm =>
       refine ⟨_,ll hn pl,?_⟩
       rw [M1,Nat.mul_one]
       exact .ov pl hm (by omega)
     ·cases h
    ·split at h
     ·rename_i M1
      have M1:=bK M1
      simp only [aA,az] at h
      obtain ⟨rfl,rfl,rfl⟩:=h
      have hn:=hp.1
      cases hx with
      | op pl hm =>
       refine ⟨_,ll hn pl,?_⟩
       rw [M1,Nat.mul_one]
       exact .ov pl hm (by omega)
     ·cases h
    ·simp only [aA,az] at h
     obtain ⟨rfl,rfl,rfl⟩:=h
     have hn:=hp.1
     cases hx with
     | op pl hm=>exact ⟨_,ll hn pl,.op pl hm⟩
   ·rename_i cs j
    simp only [aA,az] at h
    obtain ⟨rfl,rfl,rfl⟩:=h
    have hn:=hp.1
    cases hx with
    | rp b o f h1 h2 h3 =>
     refine ⟨.pointer (some ⟨b,o+(j+n.toNat * sz),none⟩),?_,.rp b o f h1 h2 h3⟩
     simp only [Instr.indexAt,Instr.sureAddr,asIntOf,run_underlying hu,bD,Sem.run_pure,cV]
     simp_all [Sem.run_ite,if_pos,bD,ey,cV,Sem.run_pure,Addr.add_mid,Nat.add_assoc]
   ·cases h
  ·cases h
 ·cases h
def ke (s:ByteArray) (i:Nat):Int:=((s[i]?).getD 0).toNat
def HI (P:Program) (T:TypeId) (x ix:AV):Option (List Prop×AV) :=
 match P.underlying T,x,ix with
 | some .string,.atom (.string s),.atom (.int _ n)=>some ([0≤n∧n < s.size],.atom (.int .u8 (ke s n.toNat)))
 | some (.array len e),.agg cs,.atom (.int _ n)=>match P.underlying e,ta P e with
  | some (.int kd),some sz=>match zh kd len cs with
   | some l=>match Nat.beq sz 1 && Nat.beq cs.length len with
    | true=>some ([0≤n∧n < len],.atom (.int kd (GK l n.toNat)))
    | false=>none
   | none=>none
  | some .bool,some sz=>match tJ len cs with
   | some l=>match Nat.beq sz 1 && Nat.beq cs.length len with
    | true=>some ([0≤n∧n < len],.atom (.bool (GL l n.toNat)))
    | false=>none
   | none=>none
  | some _,some sz=>match Nat.ble (n.toNat * sz+sz) cs.length with
   | true=>(jS P e cs (n.toNat * sz)).map fun r=>([0≤n∧n < len],r)
   | false=>none
  | _,_=>none
 | _,_,_=>none
theorem Ou {T:TypeId} {x ix:AV} {v vi:Value} (hx:ao w S μ v x) (hi:ao w S μ vi ix) {ps:List Prop} {r:AV} (h:HI P T x ix=some (ps,r)) (hp:bg ps) :
  ∃ u,(Instr.index T v vi).run P w=.ok u w∧ao w S μ u r:=by
 unfold HI at h
 split at h
 ·rename_i s kk n hu
  simp only [aA,az] at h
  obtain ⟨rfl,rfl⟩:=h
  have:=cX hi;subst this
  have:=cX hx;subst this
  have hn:=hp.1
  have gk:n.toNat < s.size:=by omega
  refine ⟨_,?_,.atom _⟩
  simp_all [Instr.index,asIntOf,run_underlying,bD,Sem.run_pure,cV,if_pos,ke]
 ·rename_i len e cs kk n hu
  have fin:∀ {sz:Nat} {r':AV},ta P e=some sz→n.toNat * sz+sz≤cs.length→jS P e cs (n.toNat * sz)=some r'→0≤n∧n < len →
    ∃ u,(Instr.index T v vi).run P w=.ok u w∧ao w S μ u r':=by
   intro sz r' qR hle hr hn
   have:=cX hi;subst this
   obtain ⟨vs,rfl,F3,CZ⟩:=nf hx
   obtain ⟨u,r1,r2⟩:=jT F3 CZ hr (fun n' h'=>by simp_all)
   refine ⟨u,?_,r2⟩
   simp only [Instr.index,asIntOf,run_underlying hu,bD,Sem.run_pure,cV]
   rw [Sem.run_ite,if_pos hn]
   simp only [bD,ey qR,cV,r1]
  split at h
  ·rename_i kd sz he qR
   split at h
   ·rename_i l hl
    split at h
    ·rename_i hb
     simp only [bc] at hb
     have qQ:=bK hb.1
     have oc:=bK hb.2
     simp only [aA,az] at h
     obtain ⟨rfl,rfl⟩:=h
     have hn:=hp.1
     refine fin qR (by rw [qQ];omega) ?_ hn
     have hg:=BG hl n.toNat (by omega)
     simp_all [jS,Nat.mul_one]
    ·cases h
   ·cases h
  ·rename_i sz he qR
   split at h
   ·rename_i l hl
    split at h
    ·rename_i hb
     simp only [bc] at hb
     have qQ:=bK hb.1
     have oc:=bK hb.2
     simp only [aA,az] at h
     obtain ⟨rfl,rfl⟩:=h
     have hn:=hp.1
     refine fin qR (by rw [qQ];omega) ?_ hn
     have hg:=zF hl n.toNat (by omega)
     simp_all [jS,Nat.mul_one]
    ·cases h
   ·cases h
  ·rename_i d sz he qR
   split at h
   ·rename_i hle
    simp only [Nat.ble_eq] at hle
    simp only [aG,az] at h
    obtain ⟨r',hr,rfl,rfl⟩:=h
    exact fin qR hle hr hp.1
   ·cases h
  ·cases h
 ·cases h
def bound (len:Nat):Option AV→Option Nat
 | none=>some len
 | some (.atom (.int _ n))=>some n.toNat
 | _=>none
def tK:Option AV→List Prop
 | some (.atom (.int _ n))=>[0≤n]
 | _=>[]
def yg (P:Program) (σ:dn) (T:TypeId) (x:AV) (lo hi:Option AV):Option (List Prop×AV×List Nat) :=
 match P.underlying T,x with
 | some .string,.atom (.string s)=>match bound 0 lo,bound s.size hi with
  | some l,some h=>some ((l≤h∧h≤s.size) :: (tK lo ++ tK hi),.atom (.string (s.extract l h)),[])
  | _,_=>none
 | some (.slice e),x=>match ta P e with
  | some sz=>match x with
   | .os k off len=>match bound 0 lo,bound len hi,ar σ k with
    | some l,some h,some o=>match Nat.beq o.sz sz with
     | true=>some ((l≤h∧h≤len) :: (tK lo ++ tK hi),.os k (bu off l) (h - l),[k])
     | false=>none
    | _,_,_=>none
   | .sl len get=>match bound 0 lo,bound len hi with
    | some l,some h=>match Nat.beq (get l).length sz with
     | true=>some ((l≤h∧h≤len) :: (tK lo ++ tK hi),.sl (h - l) fun i=>get (bu l i),[])
     | false=>none
    | _,_=>none
   | _=>none
  | none=>none
 | _,_=>none
theorem zG {lo:Option AV} {vlo:Option Value} (hv:(vlo=none↔lo=none)∧∀ a b,lo=some a→vlo=some b→ao w S μ b a) {len l:Nat} (h:bound len lo=some l) :
  (lo=none∧vlo=none∧l=len)∨∃ k n,vlo=some (.int k n)∧lo=some (.atom (.int k n))∧l=n.toNat:=by
 unfold bound at h
 split at h
 ·simp_all
 ·rename_i k n
  right
  cases vlo with
  | none=>simp_all
  | some b =>
   have:=cX (hv.2 _ b rfl rfl)
   grind
 ·cases h
theorem vv (isSlice:Bool) {len cap l h:Nat} {lo hi:Option AV} {vlo vhi:Option Value} (TS:(vlo=none↔lo=none)∧∀ a b,lo=some a→vlo=some b→ao w S μ b a)
  (M3:(vhi=none↔hi=none)∧∀ a b,hi=some a→vhi=some b→ao w S μ b a) (hl:bound 0 lo=some l) (hh:bound len hi=some h) (hle:l≤h) (wH:h≤cap) (hp:bg (tK lo ++ tK hi)) :
  (Instr.sliceBounds isSlice len cap vlo vhi none).run P w=.ok (l,h,cap) w:=by
 obtain ⟨p1,p2⟩:=bg.app hp
 rcases zG TS hl with ⟨e1,e2,e3⟩ | ⟨k1,n1,e1,e2,e3⟩
 ·subst e1 e2 e3
  rcases zG M3 hh with ⟨f1,f2,f3⟩ | ⟨k2,n2,f1,f2,f3⟩
  ·simp_all [Instr.sliceBounds]
  ·subst f1 f2 f3
   have:=p2.1
   simp_all [Instr.sliceBounds,Instr.sliceBound,asIntOf]
 ·subst e1 e2 e3
  have:=p1.1
  rcases zG M3 hh with ⟨f1,f2,f3⟩ | ⟨k2,n2,f1,f2,f3⟩
  ·simp_all [Instr.sliceBounds,Instr.sliceBound,asIntOf]
  ·subst f1 f2 f3
   have:=p2.1
   have h2:0≤n2∧n2≤cap:=by omega
   have h3:0≤n1∧n1≤(n2.toNat:Int):=by omega
   simp_all [Instr.sliceBounds,Instr.sliceBound,asIntOf,bD,Sem.run_pure,cV,Sem.run_ite,if_pos]
theorem Ov (g:Good E σ S μ w) {T:TypeId} {x:AV} {v:Value} (hx:ao w S μ v x) {lo hi:Option AV} {vlo vhi:Option Value}
  (TS:(vlo=none↔lo=none)∧∀ a b,lo=some a→vlo=some b→ao w S μ b a)
  (M3:(vhi=none↔hi=none)∧∀ a b,hi=some a→vhi=some b→ao w S μ b a) {ps:List Prop} {r:AV} {rd:List Nat} (h:yg P σ T x lo hi=some (ps,r,rd)) (hp:bg ps) :
  ∃ u,(Instr.sliceAt T v vlo vhi none).run P w=.ok u w∧ao w S μ u r:=by
 unfold yg at h
 split at h
 ·rename_i s hu
  have:=cX hx;subst this
  split at h
  ·rename_i l hh hl TT
   simp only [aA,az] at h
   obtain ⟨rfl,rfl,rfl⟩:=h
   obtain ⟨⟨p1,p2⟩,p3⟩:=hp
   have hb:=vv (P:=P) (w:=w) false (cap:=s.size) TS M3 hl TT p1 p2 p3
   refine ⟨_,?_,.atom _⟩
   simp [Instr.sliceAt,Instr.slice,run_underlying hu,hb]
  ·cases h
 ·rename_i e hu
  split at h
  ·rename_i sz qR
   split at h
   ·rename_i k off len
    split at h
    ·rename_i l hh o hl TT ho
     split at h
     ·rename_i hb
      have hb:=bK hb
      simp only [aA,az] at h
      obtain ⟨rfl,rfl,rfl⟩:=h
      obtain ⟨⟨p1,p2⟩,p3⟩:=hp
      obtain ⟨pl,c,T',hm,cY⟩:=g.rep.ob k o ho
      cases hx with
      | os jQ gF h1 h2 h3 =>
       rename_i cap a
       rw [hm] at gF;cases gF
       have TU:=vv (P:=P) (w:=w) true (cap:=cap) TS M3 hl TT p1 (by omega) p3
       refine ⟨.slice (if cap=l then a else a.map (·.add (l * sz))) (hh - l) (cap - l),?_,?_⟩
       ·simp [Instr.sliceAt,Instr.slice,run_underlying hu,TU,ey qR]
       ·refine .os pl hm ?_ (by omega) (by rw [dg];omega)
        intro hc
        have:=h1 (by omega)
        subst this
        rw [if_neg (by omega)]
        simp only [Option.map_some,Addr.add_mid]
        rw [dg,cY.sz,hb,cr]
     ·cases h
    ·cases h
   ·rename_i len get
    split at h
    ·rename_i l hh hl TT
     split at h
     ·rename_i hb
      have hb:=bK hb
      simp only [aA,az] at h
      obtain ⟨rfl,rfl,rfl⟩:=h
      obtain ⟨⟨p1,p2⟩,p3⟩:=hp
      cases hx with
      | sl b off Ta f h1 h2 h3 h4 h5 =>
       rename_i a cap
       have TU:=vv (P:=P) (w:=w) true (cap:=cap) TS M3 hl TT p1 (by omega) p3
       have X2:l < hh→Ta=sz:=fun gk=>by grind
       refine ⟨.slice (if cap=l then a else a.map (·.add (l * sz))) (hh - l) (cap - l),?_,?_⟩
       ·simp [Instr.sliceAt,Instr.slice,run_underlying hu,TU,ey qR]
       ·refine .sl b (off+l * sz) Ta (fun i j=>f (bu l i) j) ?_ (fun i hi=>h2 _ (by rw [dg];omega)) ?_ (fun i j c hi hc=>h4 _ _ _ (by rw [dg];omega) hc) (by omega)
        ·intro hc
         obtain ⟨ha,hS⟩:=h1 (by omega)
         subst ha
         rw [if_neg (by omega)]
         simp_all [Option.map_some,Addr.add_mid,trivial]
        ·intro i j hi hj
         have:=h3 (bu l i) j (by rw [dg];omega) hj
         rw [dg] at this ⊢
         rw [← this,← X2 (by omega),cr]
         congr 2;omega
     ·cases h
    ·cases h
   ·cases h
  ·cases h
 ·cases h
end
end Go.Ab
namespace Go.Ab
section
variable {P:Program} {E:Env} {nk:Nat} {σ:dn} {S:Nat→Prop} {μ:Mu} {w:World}
def Ow (P:Program) (T:TypeId) (x:AV):Option AV :=
 match P.underlying T with
 | some .string=>match x with
  | .atom (.string s)=>some (.atom (.int .i64 s.size))
  | _=>none
 | some (.array n _)=>some (.atom (.int .i64 n))
 | some (.slice _)=>match x with
  | .os _ _ n=>some (.atom (.int .i64 n))
  | .sl n _=>some (.atom (.int .i64 n))
  | .nil=>some (.atom (.int .i64 0))
  | _=>none
 | _=>none
theorem TV {T:TypeId} {x:AV} {v:Value} (hx:ao w S μ v x) {r:AV} (h:Ow P T x=some r) (ty:TypeId) :
  ∃ u,(Builtin.len_ #[T] ty #[v]).run P w=.ok u w∧ao w S μ u r:=by
 unfold Ow at h
 split at h
 ·rename_i hu
  split at h
  ·cases h
   have:=cX hx;subst this
   exact ⟨_,by simp [Builtin.len_,run_underlying hu,goInt],.atom _⟩
  ·cases h
 ·rename_i n e hu
  cases h
  exact ⟨_,by simp [Builtin.len_,run_underlying hu,goInt],.atom _⟩
 ·rename_i e hu
  split at h
  ·cases h
   cases hx with
   | os pl hm h1 h2 h3=>exact ⟨_,by simp [Builtin.len_,run_underlying hu,goInt],.atom _⟩
  ·cases h
   cases hx with
   | sl b off sz f h1 h2 h3 h4 h5=>exact ⟨_,by simp [Builtin.len_,run_underlying hu,goInt],.atom _⟩
  ·cases h
   cases hx
   exact ⟨_,by simp [Builtin.len_,run_underlying hu,goInt],.atom _⟩
  ·cases h
 ·cases h
def ur (σ:dn) (sz:Nat) (x:AV):Option (Nat×(Nat→List AV)×Bool×List Prop×List Nat) :=
 match x with
 | .nil=>some (0,fun _=>[],true,[],[])
 | .sl n g=>match Nat.beq (g 0).length sz with
  | true=>some (n,g,true,[∀ i,i < n→AV.iy (g i)=true],[])
  | false=>none
 | .os k off n=>match ar σ k with
  | some o=>match Nat.beq o.sz sz with
   | true=>some (n,(fun i=>o.get (bu off i)),o.pr,[off+n≤o.len,∀ i,i < n→AV.iy (o.get (bu off i))=true],[k])
   | false=>none
  | none=>none
 | _=>none
theorem qw {n:Nat} {g:Nat→List AV} (h:(List.range n).all (fun i=>AV.iy (g i))=true):∀ i,i < n→AV.iy (g i)=true :=
 fun i hi=>List.all_eq_true.1 h i (vn.2 hi)
structure Src (P:Program) (w:World) (S:Nat→Prop) (μ:Mu) (sz:Nat) (v:Value) (n:Nat) (g:Nat→List AV) (pr:Bool) (news:List Value):Prop where
 len:∀ w':World,(Builtin.lenOf v).run P w'=.ok n w'
 cells:∀ w':World,w'.heap=w.heap→(Builtin.firstCells sz n v).run P w'=.ok news.toArray w'
 size:news.length=n * sz
 one:∀ u∈news,u.oneCell'=true
 s8:∀ i,i < n→(g i).length=sz
 rep:∀ i j x u,i < n→(g i)[j]?=some x→news[i * sz+j]?=some u→ao w S (if pr then iI else μ) u x
 Rd:∀ i,i < n→AV.iy (g i)=true
theorem GM {n sz q:Nat} (h:q < n * sz):q / sz < n∧q % sz < sz∧q=q / sz * sz+q % sz:=by
 have h0:0 < sz:=by
  rcases Nat.eq_zero_or_pos sz with h1 | h1
  ·subst h1;simp at h
  ·exact h1
 simp_all [Nat.div_lt_of_lt_mul,o9,Nat.mod_lt,Nat.div_add_mod]
theorem Src.mk' {sz n:Nat} {g:Nat→List AV} {pr:Bool} {b o len cap:Nat} (f:Nat→Nat→Value) (hl:n=len)
  (hc:∀ i j,i < n→j < sz→w.cell? ⟨b,o+i * sz+j,none⟩=some (f i j)) (h1:∀ i,i < n→AV.iy (g i)=true) (pe:∀ i,i < n→(g i).length=sz)
  (hr:∀ i j x,i < n→(g i)[j]?=some x→ao w S (if pr then iI else μ) (f i j) x) :
  ∃ news,Src P w S μ sz (.slice (some ⟨b,o,none⟩) len cap) n g pr news:=by
 subst hl
 refine ⟨(List.range (n * sz)).map fun q=>f (q / sz) (q % sz),?_⟩
 have pZ:∀ q u,((List.range (n * sz)).map fun q=>f (q / sz) (q % sz))[q]?=some u→q < n * sz∧u=f (q / sz) (q % sz):=by
  intro q u hq
  have gk:q < n * sz:=by
   have:=(dD.1 hq).1
   simpa using this
  simp [List.getElem?_range gk] at hq
  exact ⟨gk,hq.symm⟩
 refine ⟨fun w'=>by simp [Builtin.lenOf],fun w' hw=>?_,by simp,?_,pe,?_,h1⟩
 ·have CF:∀ a,w'.cell? a=w.cell? a:=fun a=>by simp [World.cell?,hw]
  refine run_firstCells_some w' sz n ⟨b,o,none⟩ n cap _ (by simp) ?_
  intro q u hq
  obtain ⟨gk,rfl⟩:=pZ q u hq
  obtain ⟨h2,h3,h4⟩:=GM gk
  rw [CF,Addr.add_mid]
  have:=hc _ _ h2 h3
  rw [Nat.add_assoc,← h4] at this
  exact this
 ·intro u hu
  obtain ⟨q,hq⟩:=List.getElem?_of_mem hu
  obtain ⟨gk,rfl⟩:=pZ q u hq
  obtain ⟨h2,h3,h4⟩:=GM gk
  have hx:(g (q / sz))[q % sz]?=some ((g (q / sz))[q % sz]'(by rw [pe _ h2];exact h3)):=o6 _
  exact (hr _ _ _ h2 hx).Hz (Ea (h1 _ h2) hx)
 ·intro i j x u hi hx hu
  obtain ⟨gk,rfl⟩:=pZ _ u hu
  have hj:j < sz:=by
   have:=(dD.1 hx).1
   rwa [pe i hi] at this
  have e1:(i * sz+j) / sz=i:=by
   rw [o9,Nat.mul_add_div (by omega),Nat.div_eq_of_lt hj];omega
  have e2:(i * sz+j) % sz=j:=by
   rw [o9,Nat.mul_add_mod,Nat.mod_eq_of_lt hj]
  rw [e1,e2]
  exact hr i j x hi hx
theorem Src.empty {sz:Nat} {g:Nat→List AV} {pr:Bool} {a:Option Addr} {cap:Nat}:Src P w S μ sz (.slice a 0 cap) 0 g pr []:=by
 refine ⟨fun w'=>by simp [Builtin.lenOf],fun w' _=>?_,by simp,by simp,fun i h=>absurd h (by omega),fun i j x u h=>absurd h (by omega),fun i h=>absurd h (by omega)⟩
 cases a with
 | none=>simp [Builtin.firstCells]
 | some a=>simp [Builtin.firstCells,loadCells,loadCellsFrom]
theorem xk (g:Good E σ S μ w) {sz:Nat} {x:AV} {v:Value} (hx:ao w S μ v x) {n:Nat} {gt:Nat→List AV} {pr:Bool} {ps:List Prop} {rd:List Nat}
  (h:ur σ sz x=some (n,gt,pr,ps,rd)) (hp:bg ps):∃ news,Src P w S μ sz v n gt pr news:=by
 unfold ur at h
 split at h
 ·simp only [aA,az] at h
  obtain ⟨rfl,rfl,rfl,rfl,rfl⟩:=h
  cases hx
  exact ⟨[],Src.empty⟩
 ·rename_i n' g'
  split at h
  ·rename_i hb
   have hb:=bK hb
   simp only [aA,az] at h
   obtain ⟨rfl,rfl,rfl,rfl,rfl⟩:=h
   cases hx with
   | sl b off Ta f h1 h2 h3 h4 h5 =>
    rcases Nat.eq_zero_or_pos n' with h0 | h0
    ·subst h0;exact ⟨[],Src.empty⟩
    ·obtain ⟨ha,_⟩:=h1 h0
     subst ha
     have hs:Ta=sz:=by rw [← h2 0 h0,hb]
     subst hs
     exact Src.mk' f rfl h3 hp.1 h2 (fun i j x hi hx=>h4 i j x hi hx)
  ·cases h
 ·rename_i k off n'
  split at h
  ·rename_i o ho
   split at h
   ·rename_i hb
    have hb:=bK hb
    simp only [aA,az] at h
    obtain ⟨rfl,hg,rfl,rfl,rfl⟩:=h
    have TL:gt=fun i=>o.get (off+i):=by
     rw [← hg];funext i;rw [dg]
    subst TL
    obtain ⟨hle,F5,_⟩:=hp
    simp only [dg] at F5
    obtain ⟨pl,c,T',hm,cY⟩:=g.rep.ob k o ho
    subst hb
    cases hx with
    | os jQ gF h1 h2 h3 =>
     rename_i cap a
     rw [hm] at gF;cases gF
     rcases Nat.eq_zero_or_pos n' with h0 | h0
     ·subst h0;exact ⟨[],Src.empty⟩
     ·have ha:=h1 (by omega)
      subst ha
      refine Src.mk' (fun i j=>(c[(off+i) * o.sz+j]?).getD undef) rfl ?_ F5 (fun i hi=>cY.s8 _ (by omega)) ?_
      ·intro i j hi hj
       obtain ⟨v,q1,q2⟩:=cM cY (i:=off+i) (by omega) hj
       rw [q1,cY.sz,← cr,q2];rfl
      ·intro i j x hi hx
       obtain ⟨v,q1,q2⟩:=cM cY (i:=off+i) (by omega) (by have:=(dD.1 hx).1;rwa [cY.s8 _ (by omega)] at this)
       rw [q1]
       exact cY.rep _ j x v (by omega) hx q1
   ·cases h
  ·cases h
 ·cases h
def qx (P:Program) (nk:Nat) (σ:dn) (t:TypeId) (s x:AV):Option (List Prop×AV×List Nat×qS) :=
 match ma P t with
 | some e=>match ta P e,vp P e,rr P e with
  | some sz,some b,some z=>match Nat.ble 1 sz && Nat.ble 1 b && Nat.beq z.cells.size sz,ur σ sz x with
   | true,some (n,g,pr,ps,rd)=>match s with
    | .nil=>some ((n * b≤140737488355328) :: ps,.os nk 0 n,rd,[(nk,some ⟨false,sz,n,pr,g⟩)])
    | .os k 0 len=>match ar σ k with
     | some o=>match Nat.beq o.sz sz && !o.var with
      | true=>some ((len=o.len) :: ((len+n) * b≤140737488355328) :: ps,.os nk 0 (len+n),k :: rd,
        [(k,none),(nk,some ⟨false,sz,len+n,o.pr && pr,fun m=>if m < len then o.get m else g (m - len)⟩)])
      | false=>none
     | none=>none
    | _=>none
   | _,_=>none
  | _,_,_=>none
 | none=>none
theorem CG {t ty e:TypeId} {i:TypeInfo} (ht:P.underlying t=some (.slice e)) (hi:P.info? e=some i) {sLen sCap n:Nat} {vx:Value} {news:List Value}
  (hl:∀ w':World,(Builtin.lenOf vx).run P w'=.ok n w') (hc:∀ w':World,w'.heap=w.heap→(Builtin.firstCells i.size n vx).run P w'=.ok news.toArray w') (hle:sLen+n≤sCap) :
  (Builtin.append_ #[t,t] ty #[.slice none sLen sCap,vx]).run P w=.ok (.slice none (sLen+n) sCap) w:=by
 simp [Builtin.append_,run_underlying ht,sizeOf,typeInfo,hi,hl,hle,hc w rfl]
theorem Ed {t ty e:TypeId} {i:TypeInfo} (ht:P.underlying t=some (.slice e)) (hi:P.info? e=some i) {g sLen sCap n:Nat} {cur:Array Value} {T:TypeId} (hg:w.heap[g]?=some (.cells cur T (0,0))) {vx:Value} {news:List Value}
  (hl:∀ w':World,(Builtin.lenOf vx).run P w'=.ok n w') (hc:∀ w':World,w'.heap=w.heap→(Builtin.firstCells i.size n vx).run P w'=.ok news.toArray w') (h1:∀ u∈news,u.oneCell'=true)
  (hle:sLen+n≤sCap) (wJ:sLen * i.size+news.length≤cur.size) :
  (Builtin.append_ #[t,t] ty #[.slice (some ⟨g,0,none⟩) sLen sCap,vx]).run P w =
   .ok (.slice (some ⟨g,0,none⟩) (sLen+n) sCap) (w.setRow g (cur.toList.take (sLen * i.size) ++ news ++ cur.toList.drop (sLen * i.size+news.length)).toArray):=by
 have As:=run_storeCells_at P g (sLen * i.size) T news 0 cur w hg (by simpa using wJ) h1
 simp only [Nat.add_zero] at As
 simp [Builtin.append_,run_underlying ht,sizeOf,typeInfo,hi,hl,hle,hc w rfl,Addr.add_lit,As]
theorem Kx {t ty e:TypeId} {i:TypeInfo} (ht:P.underlying t=some (.slice e)) (hi:P.info? e=some i) {g b sLen sCap n:Nat} {cur:Array Value} {T:TypeId} (hg:w.heap[g]?=some (.cells cur T (0,0))) {vx:Value} {news:List Value}
  (hl:∀ w':World,(Builtin.lenOf vx).run P w'=.ok n w') (hc:∀ w':World,w'.heap=w.heap→(Builtin.firstCells i.size n vx).run P w'=.ok news.toArray w') (h1:∀ u∈news,u.oneCell'=true)
  (hle:sLen+n≤sCap) (wJ:b+sLen * i.size+news.length≤cur.size) :
  (Builtin.append_ #[t,t] ty #[.slice (some ⟨g,b,none⟩) sLen sCap,vx]).run P w =
   .ok (.slice (some ⟨g,b,none⟩) (sLen+n) sCap) (w.setRow g (cur.toList.take (b+sLen * i.size) ++ news ++ cur.toList.drop (b+sLen * i.size+news.length)).toArray):=by
 have As:=run_storeCells_at P g (b+sLen * i.size) T news 0 cur w hg (by simpa using wJ) h1
 simp only [Nat.add_zero] at As
 simp [Builtin.append_,run_underlying ht,sizeOf,typeInfo,hi,hl,hle,hc w rfl,Addr.add_lit,As]
theorem vw {t ty e:TypeId} {i:TypeInfo} {z:Value} (ht:P.underlying t=some (.slice e)) (hi:P.info? e=some i) (hz:i.zero=some z) {base:Option Addr} {sLen sCap n:Nat} {vx:Value} {olds news:List Value}
  (ho:∀ w':World,w'.heap=w.heap→(Builtin.firstCells i.size sLen (.slice base sLen sCap)).run P w'=.ok olds.toArray w')
  (hl:∀ w':World,(Builtin.lenOf vx).run P w'=.ok n w') (hc:∀ w':World,w'.heap=w.heap→(Builtin.firstCells i.size n vx).run P w'=.ok news.toArray w')
  (hg:sCap < sLen+n) (hb:1≤i.bytes) (wJ:(sLen+n) * i.bytes≤140737488355328) :
  (Builtin.append_ #[t,t] ty #[.slice base sLen sCap,vx]).run P w =
   .ok (.slice (some ⟨w.heap.size,0,none⟩) (sLen+n) (grownCap w (sLen+n) sCap e))
    (w.drew.alloc (.cells (olds.toArray ++ news.toArray ++ Builtin.zeroCells z.cells (grownCap w (sLen+n) sCap e - (sLen+n))) e)):=by
 have hn:¬ (sLen+n≤sCap):=by omega
 have BF:(sLen+n) * 1≤(sLen+n) * i.bytes:=Nat.mul_le_mul_left _ hb
 have X3:¬ (9223372036854775807 < ((sLen:Int)+(n:Int))):=by omega
 have h48:=growslice_fits hg wJ
 have X4:¬ (281474976710656 < Builtin.nextslicecap (sLen+n) sCap * i.bytes):=by omega
 have e1:=hc w.drew rfl
 have e2:=ho w.drew rfl
 simp [Builtin.append_,run_underlying ht,sizeOf,typeInfo,zeroValue,hi,hz,hl,hn,X3,X4,Question.forced,e1,e2,newRow,grownCap]
 grind
theorem Ee (w:World) (VH wG:Nat) (e:TypeId):VH≤grownCap w VH wG e:=by simp [grownCap,Question.cut]
theorem Good.grow (g:Good E σ S μ w) (hk:μ nk=none) (hm:E.m0≤nk) {sz n len cap:Nat} {e:TypeId} {olds news:List Value} {rest:Array Value} {pr:Bool} {get:Nat→List AV}
  (ho:olds.length=len * sz) (hn:news.length=n * sz) (hr:rest.size=(cap - (len+n)) * sz) (hle:len+n≤cap)
  (pe:∀ i,i < len+n→(get i).length=sz)
  (zD:∀ i j x u,i < len+n→(get i)[j]?=some x→(olds ++ news)[i * sz+j]?=some u→ao w S (if pr then iI else μ) u x) (BC:sz≠0)
  (SZ:MX E.fp E.w0.heap.size (w.drew.alloc (.cells (olds.toArray ++ news.toArray ++ rest) e)) S (bT μ nk ⟨w.heap.size,cap,sz⟩) (sset σ nk ⟨false,sz,len+n,pr,get⟩)) :
  Ext w S μ (w.drew.alloc (.cells (olds.toArray ++ news.toArray ++ rest) e)) S (bT μ nk ⟨w.heap.size,cap,sz⟩) ∧
  Good E (sset σ nk ⟨false,sz,len+n,pr,get⟩) S (bT μ nk ⟨w.heap.size,cap,sz⟩) (w.drew.alloc (.cells (olds.toArray ++ news.toArray ++ rest) e)):=by
 have qR:(olds.toArray ++ news.toArray ++ rest).size=cap * sz:=by
  simp only [Array.size_append,List.size_toArray,ho,hn,hr]
  rw [← cr,← cr];congr 1;omega
 have ga:=g.drew.Oc (nk:=nk) hk hm (olds.toArray ++ news.toArray ++ rest) e ⟨false,sz,len+n,pr,get⟩ cap (by rw [qR];exact aF _) hle pe ?_ BC SZ
 ·exact ⟨(Ext.drew w S μ).trans ga.1,ga.2⟩
 ·intro i j x v hi hx hv
  have hj:j < sz:=by
   have:=(dD.1 hx).1
   have e:(get i).length=sz:=pe i hi
   exact e ▸ this
  have gk:i * sz+j < (olds ++ news).length:=by
   have h1:(i+1) * sz≤(len+n) * sz:=dE _ (show i+1≤len+n from hi)
   rw [cr,cr] at h1
   simp only [lD,ho,hn]
   omega
  have sf:(olds ++ news)[i * sz+j]?=some v:=by
   rw [show olds.toArray ++ news.toArray ++ rest=(olds ++ news).toArray ++ rest by simp] at hv
   rw [Array.getElem?_append_left (by simpa using gk)] at hv
   simpa using hv
  have:=zD i j x v hi hx sf
  exact ao.mono (w:=w) (w':=w.drew) (S':=S) (fun _ h=>h) (fun _ _=>rfl) this (fun _ _ h=>h)
theorem Good.move (g:Good E σ S μ w) (hk:μ nk=none) (hm:E.m0≤nk) {k:Nat} {o:Ob} {pl:Place} (ho:ar σ k=some o) (tL:μ k=some pl) (o':Ob) {c:Array Value} {T:TypeId} (cY:gD w S μ o' pl c T)
  (vo:∀ i x,rowOf o' i=some x→rowOf o i=some x) :
  Ext w S μ w S (bT μ nk pl)∧Good E (sset (uq σ k) nk o') S (bT μ nk pl) w:=by
 have gd:=g.del k
 have NW:∀ n jQ,μ n=some jQ→bT μ nk pl n=some jQ:=fun n jQ h=>by
  grind [bT]
 have ex:Ext w S μ w S (bT μ nk pl):=⟨aF _,fun _ h=>h,fun _ _=>rfl,NW⟩
 refine ⟨ex,⟨g.fr,g.S0,g.S1,g.S2,⟨?_,?_⟩,?_,?_,?_⟩⟩
 rotate_right
 ·have VI:k≠nk:=fun h=>by simp_all
  have key:∀ q i x v,iJ w (bT μ nk pl) (sset (uq σ k) nk o') q i x v→(q=nk∧iJ w μ σ k i x v)∨(q≠nk∧q≠k∧iJ w μ σ q i x v):=by
   rintro q i x v ⟨o2,rD,h1,h2,h3,h4⟩
   rw [aX] at h1
   unfold bT at h3
   by_cases hq:nk=q
   ·rw [if_pos hq] at h1;cases h1
    rw [if_pos hq.symm] at h3;cases h3
    exact .inl ⟨hq.symm,o,pl,ho,vo i x h2,tL,h4⟩
   ·rw [if_neg hq] at h1
    rw [if_neg (fun h=>hq h.symm)] at h3
    rw [fz] at h1
    split at h1
    ·cases h1
    ·rename_i hkq
     exact .inr ⟨fun h=>hq h.symm,fun h=>hkq h.symm,o2,rD,h1,h2,h3,h4⟩
  refine g.mx.tr (fun q=>if q=nk then k else q) (fun q i x v h=>?_) (fun q i x v q' i' x' v' h h' e=>?_) (fun _ h=>h) (fun _ _=>rfl) (fun q i x v b _ h hb=>⟨rfl,(g.mx.cy h hb).2.1,fun h=>h⟩) (fun q o2 rD h1 h2 h3=>?_)
  ·grind
  ·grind
  ·rw [aX] at h1
   unfold bT at h2
   by_cases hq:nk=q
   ·grind
   ·rw [if_neg hq,fz] at h1
    grind
 ·intro q oq hq
  rw [aX] at hq
  by_cases X5:nk=q
  ·rw [if_pos X5] at hq;cases hq
   exact ⟨pl,c,T,by simp [bT,X5],cY.ext ex (fun _=>rfl) cY.out⟩
  ·rw [if_neg X5] at hq
   obtain ⟨rD,c2,T2,CY,Ox⟩:=gd.rep.ob q oq hq
   exact ⟨rD,c2,T2,NW _ _ CY,Ox.ext ex (fun _=>rfl) Ox.out⟩
 ·intro q q' oq oq' Ar rD fP hq M4 CX Ef c1 c2
  rw [aX] at hq M4
  simp only [bT] at CX Ef
  by_cases e1:nk=q
  ·rw [if_pos e1.symm] at CX;cases CX
   have e2:¬ nk=q':=fun h=>fP (e1.symm.trans h)
   rw [if_neg e2] at M4;rw [if_neg (fun h=>e2 h.symm)] at Ef
   rw [fz] at M4
   split at M4
   ·cases M4
   ·rename_i e3
    exact g.rep.ne k q' o oq' pl rD e3 ho M4 tL Ef c1 c2
  ·rw [if_neg e1] at hq;rw [if_neg (fun h=>e1 h.symm)] at CX
   rw [fz] at hq
   split at hq
   ·cases hq
   ·rename_i e3
    by_cases e2:nk=q'
    ·rw [if_pos e2.symm] at Ef;cases Ef
     exact g.rep.ne q k oq o Ar pl (fun h=>e3 h.symm) hq ho CX tL c1 c2
    ·rw [if_neg e2] at M4;rw [if_neg (fun h=>e2 h.symm)] at Ef
     rw [fz] at M4
     split at M4
     ·cases M4
     ·exact g.rep.ne q q' oq oq' Ar rD fP hq M4 CX Ef c1 c2
 ·intro q oq plq hq CX c1
  rw [aX] at hq
  simp only [bT] at CX
  by_cases e1:nk=q
  ·rw [if_pos e1.symm] at CX;cases CX;exact g.own k o _ ho tL c1
  ·rw [if_neg e1] at hq;rw [if_neg (fun h=>e1 h.symm)] at CX
   exact gd.own q oq plq hq CX c1
 ·intro q hq;rw [mH _ (by omega)];exact g.CC q hq
theorem Good.congr {dX:dn} (g:Good E σ S μ w) (h:∀ n,ar dX n=ar σ n):Good E dX S μ w :=
 ⟨g.fr,g.S0,g.S1,g.S2,⟨fun k o hk=>g.rep.ob k o (h k ▸ hk),fun k k' o o' pl jQ fP hk nL=>g.rep.ne k k' o o' pl jQ fP (h k ▸ hk) (h k' ▸ nL)⟩,
  fun k o pl hk=>g.own k o pl (h k ▸ hk),g.CC,g.mx.tr id (fun k i x v ⟨o,pl,h1,h2⟩=>⟨o,pl,h k ▸ h1,h2⟩) (fun _ _ _ _ _ _ _ _ _ _ h=>h) (fun _ h=>h) (fun _ _=>rfl)
   (fun k i x v b _ h hb=>⟨rfl,(g.mx.cy h hb).2.1,fun h=>h⟩) (fun k o pl h1 h2 h3=>.inl ⟨k,o,pl,h k ▸ h1,h2,h3,rfl⟩)⟩
theorem GN (g:Good E σ S μ w) (hk:μ nk=none) (hm:E.m0≤nk) {t ty:TypeId} {s x:AV} {vs vx:Value} (hs:ao w S μ vs s) (hx:ao w S μ vx x) {ps:List Prop} {val:AV} {rd:List Nat} {ld:qS}
  (h:qx P nk σ t s x=some (ps,val,rd,ld)) (hp:bg ps):Step P E nk σ S μ w (Builtin.append_ #[t,t] ty #[vs,vx]) val ld:=by
 unfold qx at h
 split at h
 ·rename_i e he
  have he:=kC he
  split at h
  ·rename_i sz b z qR hb hz
   obtain ⟨ie,DN,rfl,rfl,NT⟩:=vq qR hb hz
   split at h
   ·rename_i n gt pr Oy LJ BF uu
    simp only [bc,Nat.ble_eq] at BF
    obtain ⟨⟨b1,b2⟩,b3⟩:=BF
    have b3:=bK b3
    split at h
    ·simp only [aA,az] at h
     obtain ⟨rfl,rfl,rfl,rfl⟩:=h
     obtain ⟨p1,p2⟩:=hp
     obtain ⟨news,sr⟩:=xk (P:=P) g hx uu p2
     cases hs
     rcases Nat.eq_zero_or_pos n with h0 | h0
     ·subst h0
      have ll:=CG (P:=P) (w:=w) (ty:=ty) (sLen:=0) (sCap:=0) he DN sr.len sr.cells (by omega)
      have ga:Good E (sset σ nk ⟨false,ie.size,0,pr,gt⟩) S (bT μ nk ⟨0,0,ie.size⟩) w:=by
       have NW:∀ k pl,μ k=some pl→bT μ nk ⟨0,0,ie.size⟩ k=some pl:=fun k pl h=>by
        grind [bT]
       have ex:Ext w S μ w S (bT μ nk ⟨0,0,ie.size⟩):=⟨aF _,fun _ h=>h,fun _ _=>rfl,NW⟩
       have Oe:∀ i,rowOf ⟨false,ie.size,0,pr,gt⟩ i=none:=pf fun i hi=>absurd hi (cW _)
       refine ⟨g.fr,g.S0,g.S1,g.S2,⟨?_,?_⟩,?_,?_,g.IZ hk _ _ (fun h=>absurd h (by simp)) Oe (fun _ _=>rfl) (fun _ h=>h) (fun _ h=>.inl h)⟩
       ·intro k o ho
        rw [aX] at ho
        by_cases wc:nk=k
        ·rw [if_pos wc] at ho;cases ho
         exact ⟨⟨0,0,ie.size⟩,#[],0,by simp [bT,wc],rfl,fun h=>absurd h (by simp),by simp,by simp,fun h=>absurd h (by simp),fun i h=>absurd h (by simp),fun i j x v h=>absurd h (by simp),fun h=>absurd (show ie.size=0 from h) (by omega)⟩
        ·rw [if_neg wc] at ho
         obtain ⟨pl,c,T,gF,cY⟩:=g.rep.ob k o ho
         exact ⟨pl,c,T,NW _ _ gF,cY.ext ex (fun _=>rfl) cY.out⟩
       ·intro k k' o o' pl jQ fP ho vj CX Ef c1 c2
        rw [aX] at ho vj
        simp only [bT] at CX Ef
        by_cases h1:nk=k
        ·grind
        ·by_cases h2:nk=k'
         ·grind
         ·rw [if_neg h1] at ho;rw [if_neg h2] at vj
          rw [if_neg (fun h=>h1 h.symm)] at CX;rw [if_neg (fun h=>h2 h.symm)] at Ef
          exact g.rep.ne k k' o o' pl jQ fP ho vj CX Ef c1 c2
       ·intro k o pl ho CX c1
        rw [aX] at ho
        simp only [bT] at CX
        by_cases h1:nk=k
        ·grind
        ·rw [if_neg h1] at ho;rw [if_neg (fun h=>h1 h.symm)] at CX
         exact g.own k o pl ho CX c1
       ·intro k nL
        rw [mH _ (by omega)];exact g.CC k nL
      refine ⟨_,w,S,_,ll,⟨aF _,fun _ h=>h,fun _ _=>rfl,?_⟩,ga,fun k nL hn=>by grind [mH],?_⟩
      ·grind [bT]
      simp_all [ao.os,bT,absurd]
     ·have ll:=vw (P:=P) (w:=w) (ty:=ty) (base:=none) (sLen:=0) (sCap:=0) (olds:=[]) he DN NT (fun w' _=>by simp [Builtin.firstCells]) sr.len sr.cells (by omega) b2 (by simpa using p1)
      simp only [Nat.zero_add] at ll
      have wH:=Ee w n 0 e
      have gg:=g.grow (e:=e) hk hm (sz:=ie.size) (n:=n) (len:=0) (cap:=grownCap w n 0 e) (olds:=[]) (news:=news) (rest:=Builtin.zeroCells z.cells (grownCap w n 0 e - n)) (pr:=pr) (get:=gt)
       (by simp) sr.size (by rw [size_zeroCells,b3,Nat.zero_add]) (by omega) (fun i hi=>sr.s8 i (by omega)) (fun i j x u hi hx hu=>sr.rep i j x u (by omega) hx (by simpa using hu)) (by omega)
       (g.IZ hk _ _ (fun _=>aF _) (pf fun i hi=>sr.Rd i (by simp_all)) (fun b h=>eB (w:=w.drew) h) (fun _ h=>h) (fun _ h=>.inl h))
      simp only [Nat.zero_add] at gg
      refine ⟨_,_,S,_,ll,gg.1,gg.2,fun k nL hn=>by grind [mH],?_⟩
      simp_all [ao.os,grownCap,bT]
    ·rename_i k len
     split at h
     ·rename_i o ho
      split at h
      ·rename_i IK
       simp only [bc,Bool.not_eq_true'] at IK
       obtain ⟨IK,Az⟩:=IK
       have IK:=bK IK
       simp only [aA,az] at h
       obtain ⟨rfl,rfl,rfl,rfl⟩:=h
       obtain ⟨p0,p1,p2⟩:=hp
       subst p0
       obtain ⟨news,sr⟩:=xk (P:=P) g hx uu p2
       obtain ⟨pl,c,T',tL,cY⟩:=g.rep.ob k o ho
       have wc:k≠nk:=fun h=>by simp_all
       show Step P E nk σ S μ w _ _ [(k,none),(nk,some ⟨false,ie.size,o.len+n,o.pr && pr,fun m=>if m < o.len then o.get m else gt (m - o.len)⟩)]
       have pe:∀ i,i < o.len+n→((fun m=>if m < o.len then o.get m else gt (m - o.len)) i).length=ie.size:=by
        intro i hi
        show (if i < o.len then o.get i else gt (i - o.len)).length=_
        split
        ·rw [cY.s8 i (by assumption),IK]
        ·exact sr.s8 _ (by omega)
       have VJ:∀ {u:Value} {x:AV},ao w S (if o.pr then iI else μ) u x→pr=true∨pr=false→ao w S (if (o.pr && pr)=true then iI else μ) u x:=by
        intro u x hh hp
        rcases hp with hp | hp
        ·simp_all
        ·rw [hp,Bool.and_false];exact iz hh
       have Re:∀ {u:Value} {x:AV},ao w S (if pr then iI else μ) u x→ao w S (if (o.pr && pr)=true then iI else μ) u x:=by
        intro u x hh
        cases hp:o.pr
        ·rw [Bool.false_and];exact iz hh
        ·rw [Bool.true_and];exact hh
       have prb:pr=true∨pr=false:=by cases pr<;>simp
       have vo:∀ i x,rowOf ⟨false,ie.size,o.len+n,o.pr && pr,fun m=>if m < o.len then o.get m else gt (m - o.len)⟩ i=some x→rowOf o i=some x:=by
        intro i x hx
        obtain ⟨_,q2,q3⟩:=db hx
        have q2:i < o.len+n:=q2
        have q3:(if i < o.len then o.get i else gt (i - o.len))=[.mr x.1 x.2.1 x.2.2]:=q3
        split at q3
        ·rename_i h1;exact kB Az h1 q3
        ·have:=sr.Rd (i - o.len) (by omega)
         rw [q3] at this;cases this
       cases hs with
       | os jQ gF h1 h2 h3 =>
        rename_i cap a
        rw [tL] at gF;cases gF
        by_cases I8:o.len+n≤cap
        ·rcases Nat.eq_zero_or_pos cap with xl | xl
         ·have MY:n=0:=by omega
          have I4:o.len=0:=by omega
          subst MY
          have Tb:news=[]:=List.length_eq_zero_iff.1 (by rw [sr.size];simp)
          have ll:(Builtin.append_ #[t,t] ty #[.slice a o.len cap,vx]).run P w=.ok (.slice a (o.len+0) cap) w:=by
           subst xl
           cases a with
           | none=>exact CG (P:=P) (w:=w) (ty:=ty) he DN sr.len sr.cells (by omega)
           | some a =>
            have e1:=sr.cells w rfl
            rw [Tb] at e1
            simp [Builtin.append_,run_underlying he,sizeOf,typeInfo,DN,sr.len,I4,e1,storeCells]
          have gm:=g.move hk hm ho tL ⟨false,ie.size,o.len+0,o.pr && pr,fun m=>if m < o.len then o.get m else gt (m - o.len)⟩ (c:=c) (T:=T')
           ⟨cY.sz.trans IK,IK ▸ cY.cy,IK ▸ cY.cap,cY.len,cY.out,pe,fun i j x v hi=>absurd hi (by show ¬ i < o.len+0;omega),fun h=>absurd (show ie.size=0 from h) (by omega)⟩ vo
          exact ⟨_,w,S,bT μ nk pl,ll,gm.1,gm.2,fun k nL hn=>by rw [mH _ nL];exact hn,ao.os pl (by simp [bT]) h1 (by omega) h3⟩
         ·have ha:=h1 xl
          simp only [Nat.zero_mul] at ha
          subst ha
          have vg:0 < pl.cap:=by omega
          have wJ:o.len * ie.size+news.length≤c.size:=by
           have e1:(o.len+n) * ie.size≤pl.cap * ie.size:=dE _ (by omega)
           have e2:=cY.cap
           rw [IK] at e2
           rw [sr.size,← cr];omega
          have ll:=Ed (P:=P) (w:=w) (ty:=ty) he DN ((cY.cy vg).trans (by rw [fm (by omega)])) sr.len sr.cells sr.one I8 wJ
          generalize oe:(c.toList.take (o.len * ie.size) ++ news ++ c.toList.drop (o.len * ie.size+news.length)).toArray=c' at ll
          have xi:(c.toList.take (o.len * ie.size)).length=o.len * ie.size:=by simp;omega
          have HE:c'.size=c.size:=by
           rw [← oe]
           simp;omega
          have pZ:∀ m,m < o.len * ie.size+news.length→c'[m]?=if m < o.len * ie.size then c[m]? else news[m - o.len * ie.size]?:=by
           intro m hm
           rw [← oe]
           simp only [List.getElem?_toArray]
           rw [ia (by simp;omega)]
           by_cases h1:m < o.len * ie.size
           ·rw [ia (by omega),o8,if_pos h1,if_pos h1]
            simp
           ·rw [jt (by omega),xi,if_neg h1]
          have gw:=g.write ho tL vg cY (by omega) ⟨false,ie.size,o.len+n,o.pr && pr,fun m=>if m < o.len then o.get m else gt (m - o.len)⟩ c' IK.symm HE (by show o.len+n≤_;omega) pe (by
           intro i j x v hi hx hv
           have hi:i < o.len+n:=hi
           have hx:(if i < o.len then o.get i else gt (i - o.len))[j]?=some x:=hx
           have hj:j < ie.size:=by
            have e1:=(dD.1 hx).1
            have e2:(if i < o.len then o.get i else gt (i - o.len)).length=ie.size:=pe i hi
            omega
           have hv:c'[i * ie.size+j]?=some v:=hv
           have qQ:(i+1) * ie.size≤(o.len+n) * ie.size:=dE _ hi
           rw [cr,cr] at qQ
           rw [pZ _ (by rw [sr.size];omega)] at hv
           by_cases F0:i < o.len
           ·have oc:(i+1) * ie.size≤o.len * ie.size:=dE _ F0
            rw [cr] at oc
            rw [if_pos (by omega)] at hv
            rw [if_pos F0] at hx
            exact VJ (cY.rep i j x v F0 hx (by rw [IK];exact hv)) prb
           ·have oc:o.len * ie.size≤i * ie.size:=dE _ (by omega)
            rw [if_neg (by omega)] at hv
            rw [if_neg F0] at hx
            refine Re (sr.rep (i - o.len) j x v (by omega) hx ?_)
            rw [← hv,Nat.sub_mul];congr 1;omega) (fun i x hx=>⟨vo i x hx,by
           obtain ⟨_,q2,_⟩:=db (vo i x hx)
           have oc:(i+1) * ie.size≤o.len * ie.size:=dE _ q2
           rw [cr] at oc
           rw [IK,pZ _ (by omega),if_pos (by omega)]⟩)
          obtain ⟨VK,TW⟩:=gw
          have hsk:ar (sset σ k ⟨false,ie.size,o.len+n,o.pr && pr,fun m=>if m < o.len then o.get m else gt (m - o.len)⟩) k=some ⟨false,ie.size,o.len+n,o.pr && pr,fun m=>if m < o.len then o.get m else gt (m - o.len)⟩:=by
           rw [aX,if_pos rfl]
          obtain ⟨Xb,c3,T3,LD,X6⟩:=TW.rep.ob k _ hsk
          rw [tL] at LD;cases LD
          have gm:=TW.move hk hm hsk tL _ X6 (fun _ _ h=>h)
          refine ⟨_,_,S,bT μ nk pl,ll,VK.trans gm.1,gm.2.congr ?_,fun k nL hn=>by rw [mH _ nL];exact hn,ao.os pl (by simp [bT]) (by simp) I8 h3⟩
          intro n
          show ar (sset (uq σ k) nk _) n=_
          rw [aX,aX,fz,fz,aX]
          split
          ·rfl
          ·split
           ·rfl
           ·rfl
        ·have hg:cap < o.len+n:=by omega
         have holds:∃ olds:List Value,olds.length=o.len * ie.size∧(∀ w':World,w'.heap=w.heap→(Builtin.firstCells ie.size o.len (.slice a o.len cap)).run P w'=.ok olds.toArray w') ∧
           (∀ (q:Nat) (u:Value),olds[q]?=some u→c[q]?=some u):=by
          rcases Nat.eq_zero_or_pos o.len with I4 | I4
          ·refine ⟨[],by simp [I4],fun w' _=>?_,by simp⟩
           rw [I4]
           cases a with
           | none=>simp [Builtin.firstCells]
           | some a=>simp [Builtin.firstCells,loadCells,loadCellsFrom]
          ·have vg:0 < pl.cap:=by have:=cY.len;omega
           have ha:=h1 (by omega)
           simp only [Nat.zero_mul] at ha
           subst ha
           have hle:o.len * ie.size≤c.size:=by
            have e1:o.len * ie.size≤pl.cap * ie.size:=dE _ cY.len
            have e2:=cY.cap
            rw [IK] at e2;omega
           refine ⟨c.toList.take (o.len * ie.size),by simp;omega,fun w' X7=>?_,?_⟩
           ·refine run_firstCells_some w' ie.size o.len _ o.len cap _ (by simp;omega) ?_
            intro q u hq
            rw [Addr.add_lit,Nat.zero_add,cell_of_row w' _ _ _ _ _ (by rw [X7];exact (cY.cy vg).trans (by rw [fm (by omega)]))]
            rw [o8] at hq
            split at hq
            ·simpa using hq
            ·cases hq
           ·intro q u hq
            rw [o8] at hq
            split at hq
            ·simpa using hq
            ·cases hq
         obtain ⟨olds,Vh,hoc,hoo⟩:=holds
         have ll:=vw (P:=P) (w:=w) (ty:=ty) he DN NT hoc sr.len sr.cells hg b2 p1
         have wH:=Ee w (o.len+n) cap e
         have gd:=g.del k
         have gg:=gd.grow (e:=e) hk hm (sz:=ie.size) (n:=n) (len:=o.len) (cap:=grownCap w (o.len+n) cap e) (olds:=olds) (news:=news)
          (rest:=Builtin.zeroCells z.cells (grownCap w (o.len+n) cap e - (o.len+n))) (pr:=o.pr && pr) (get:=fun m=>if m < o.len then o.get m else gt (m - o.len))
          Vh sr.size (by rw [size_zeroCells,b3]) wH pe (by
           intro i j x u hi hx hu
           have hx:(if i < o.len then o.get i else gt (i - o.len))[j]?=some x:=hx
           have hj:j < ie.size:=by
            have e1:=(dD.1 hx).1
            have e2:(if i < o.len then o.get i else gt (i - o.len)).length=ie.size:=pe i hi
            omega
           by_cases F0:i < o.len
           ·have oc:(i+1) * ie.size≤o.len * ie.size:=dE _ F0
            rw [cr] at oc
            rw [if_pos F0] at hx
            rw [ia (by omega)] at hu
            exact VJ (cY.rep i j x u F0 hx (by rw [IK];exact hoo _ _ hu)) prb
           ·have oc:o.len * ie.size≤i * ie.size:=dE _ (by omega)
            rw [if_neg F0] at hx
            rw [jt (by omega),Vh] at hu
            refine Re (sr.rep (i - o.len) j x u (by omega) hx ?_)
            rw [← hu,Nat.sub_mul];congr 1;omega) (by omega) (by
          have Oz:∀ b,b < w.heap.size→(w.drew.alloc (.cells (olds.toArray ++ news.toArray ++ Builtin.zeroCells z.cells (grownCap w (o.len+n) cap e - (o.len+n))) e)).heap[b]?=w.heap[b]?:=fun b h=>eB (w:=w.drew) h
          have pS:∀ {q:Nat} {o2:Ob} {rD:Place},ar σ q=some o2→μ q=some rD→0 < rD.cap→rD.cy < w.heap.size:=fun {q o2 rD} h1 h2 h3=>by
           obtain ⟨Xb,c3,T3,LD,Km⟩:=g.rep.ob q o2 h1
           rw [h2] at LD;cases LD
           exact gj (Km.cy h3)
          refine g.mx.tr (fun q=>if q=nk then k else q) (fun q i x v h=>?_) (fun q i x v q' i' x' v' h h' he=>?_) (fun _ h=>h) (fun b hb=>Oz b (g.S1 b hb)) (fun q i x v b _ h hb=>?_) (fun q o2 rD h1 h2 h3=>?_)
          ·obtain ⟨o2,rD,h1,h2,h3,h4⟩:=h
           rw [aX] at h1
           unfold bT at h3
           by_cases hq:nk=q
           ·rw [if_pos hq] at h1;cases h1
            rw [if_pos hq.symm] at h3;cases h3
            show iJ w μ σ (if q=nk then k else q) i x v
            rw [if_pos hq.symm]
            have hr:=vo i x h2
            obtain ⟨_,q2,_⟩:=db hr
            refine ⟨o,pl,ho,hr,tL,?_⟩
            have vg:0 < pl.cap:=by have:=cY.len;omega
            have oc:(i+1) * ie.size≤o.len * ie.size:=dE _ q2
            rw [cr] at oc
            have h4:(w.drew.alloc (.cells (olds.toArray ++ news.toArray ++ Builtin.zeroCells z.cells (grownCap w (o.len+n) cap e - (o.len+n))) e)).cell? ⟨w.drew.heap.size,i * ie.size,none⟩=some v:=h4
            rw [cell_of_row _ _ _ _ _ _ (heap_alloc_new w.drew _)] at h4
            rw [Array.getElem?_append_left (by simp;omega),Array.getElem?_append_left (by simp;omega)] at h4
            rw [cell_of_row w _ _ _ _ _ ((cY.cy vg).trans (by rw [fm (by omega)])),cY.sz,IK]
            exact hoo _ _ (by simpa using h4)
           ·rw [if_neg hq,fz] at h1
            rw [if_neg (fun h=>hq h.symm)] at h3
            split at h1
            ·cases h1
            ·show iJ w μ σ (if q=nk then k else q) i x v
             rw [if_neg (fun h=>hq h.symm)]
             refine ⟨o2,rD,h1,h2,h3,?_⟩
             obtain ⟨Xb,c3,T3,LD,Km⟩:=g.rep.ob q o2 h1
             rw [h3] at LD;cases LD
             rw [← h4]
             exact (qu (Oz _ (gj (Km.cy (by have:=(db h2).2.1;have:=Km.len;omega)))) _).symm
          ·have he:(if q=nk then k else q)=(if q'=nk then k else q'):=he
           have C7:∀ {q i x v},iJ (w.drew.alloc (.cells (olds.toArray ++ news.toArray ++ Builtin.zeroCells z.cells (grownCap w (o.len+n) cap e - (o.len+n))) e)) (bT μ nk ⟨w.heap.size,grownCap w (o.len+n) cap e,ie.size⟩) (sset (uq σ k) nk ⟨false,ie.size,o.len+n,o.pr && pr,fun m=>if m < o.len then o.get m else gt (m - o.len)⟩) q i x v→q≠nk→q≠k:=by
            rintro q i x v ⟨o2,_,h1,_⟩ hq rfl
            rw [aX,if_neg (fun h=>hq h.symm),fz,if_pos rfl] at h1
            cases h1
           by_cases h1:q=nk<;>by_cases h3:q'=nk
           ·exact h1.trans h3.symm
           ·rw [if_pos h1,if_neg h3] at he;exact absurd he.symm (C7 h' h3)
           ·rw [if_neg h1,if_pos h3] at he;exact absurd he (C7 h h1)
           ·rw [if_neg h1,if_neg h3] at he;exact he
          ·obtain ⟨q1,q2,q3,_⟩:=g.mx.cy h hb
           exact ⟨Oz b q1,q2,fun h=>h⟩
          ·rw [aX] at h1
           unfold bT at h2
           by_cases hq:nk=q
           ·rw [if_pos hq.symm] at h2;cases h2
            exact .inr (aF _)
           ·rw [if_neg hq,fz] at h1
            rw [if_neg (fun h=>hq h.symm)] at h2
            split at h1
            ·cases h1
            ·exact .inl ⟨q,o2,rD,h1,h2,h3,rfl⟩)
         refine ⟨_,_,S,_,ll,gg.1,gg.2,fun k nL hn=>by rw [mH _ nL];exact hn,?_⟩
         exact ao.os ⟨w.heap.size,grownCap w (o.len+n) cap e,ie.size⟩ (by simp [bT]) (by simp) wH (by simp)
      ·cases h
     ·cases h
    ·cases h
   ·cases h
  ·cases h
 ·cases h
end
end Go.Ab
