/- Abstract values over the heap of the machine, and functions read off its code (part 1). No conditions. -/
import Derived.Orders
import Derived.Laws.Cells
import Derived.Laws.World
import Derived.Laws.Rows
import Derived.Laws.Sem
import Derived.KernelRfl
import Derived.Laws.CopyRow
import Derived.Laws.AppendOwn
import Derived.Laws.MakeOwn
import Derived.Laws.StructEq
import Derived.Great.BuildSlice
import Derived.Deep.MidRow
set_option linter.unusedVariables false
set_option linter.unusedSimpArgs false
namespace Go
abbrev aL:=@Option.map_eq_some_iff
abbrev az:=@Option.some.injEq
abbrev bO:=@Nat.eq_of_beq_eq_true
abbrev ay:=@Prod.mk.injEq
abbrev bh:=@Bool.and_eq_true
abbrev dJ:=@List.getElem?_eq_some_iff
abbrev fE:=@List.getD_eq_getElem?_getD
abbrev ct:=@Option.bind_some
abbrev di:=@List.length_replicate
abbrev uc:=@Array.getD_eq_getD_getElem?
abbrev jG:=@Array.getElem?_eq_getElem
abbrev iz:=@List.getElem?_append_left
abbrev jH:=@List.getElem?_append_right
abbrev dH:=@Nat.mul_le_mul_right
abbrev kx:=@Int.mul_le_mul_of_nonneg_right
abbrev bH:=@Sem.run_bind
abbrev js:=@List.take_of_length_le
abbrev pG:=@List.getElem?_eq_getElem
abbrev cX:=@Result.andThen_ok
abbrev aG:=@Nat.le_refl
abbrev AR:=@Bool.and_eq_true_iff
abbrev oC:=@List.getElem?_eq_none
abbrev dX:=@Nat.not_lt_zero
abbrev pH:=@Classical.byContradiction
abbrev qC:=@of_decide_eq_true
abbrev rV:=@of_decide_eq_false
abbrev pJ:=@Nat.lt_of_lt_of_le
abbrev eC:=@Nat.le_trans
abbrev lY:=@List.length_append
abbrev yH:=@List.length_cons
abbrev Eg:=@List.getElem?_cons_succ
abbrev rX:=@Int.mul_le_mul_of_nonneg_left
abbrev vS:=@Nat.lt_irrefl
abbrev oD:=@List.length_take
abbrev oE:=@List.getElem?_drop
abbrev pK:=@List.getElem?_take
abbrev vT:=@List.mem_range
abbrev kL:=@List.mem_cons
abbrev cz:=@Nat.add_mul
abbrev pL:=@Nat.mul_comm
abbrev iA:=@Int.mul_add
abbrev eD:=@Int.add_mul
abbrev gN:=@Int.mul_comm
abbrev kM:=@Int.mul_assoc
end Go
namespace Go.Ab
inductive AV where
 | atom (v:Value)
 | agg (cs:List AV)
 | tup (cs:List AV)
 | sl (len:Nat) (get:Nat→List AV)
 | rp (cs:List AV) (off:Nat)
 | op (k i j:Nat)
 | os (k off len:Nat)
 | fn (f:Fn) (first cap:List AV)
 | when (b:Bool) (v:AV)
 | mp (k:Nat)
 | bn (n:Nat)
 | pt (b:Bool) (cs:List AV)
 | ov (k i j m n:Nat)
 | B4 (k off len:Nat)
 | nq (st:Option Bool) (x:AV)
 | nil
 | m9
 | mr (sz len:Nat) (get:Nat→List AV)
 deriving Inhabited
structure Place where
 cK:Nat
 cap:Nat
 sz:Nat
abbrev Mu:=Nat→Option Place
def iL:Mu:=fun _=>none
def OM:Value→Bool
 | .slice none _ _=>true
 | _=>false
inductive aq (w:World) (S:Nat→Prop):Mu→Value→AV→Prop where
 | atom {μ:Mu} (v:Value):aq w S μ v (.atom v)
 | agg {μ:Mu} {vs:Array Value} {cs:List AV}:vs.size=cs.length →
   (∀ (j:Nat) (c:AV) (v:Value),cs[j]?=some c→vs[j]?=some v→aq w S μ v c)→aq w S μ (.agg vs) (.agg cs)
 | tup {μ:Mu} {vs:Array Value} {cs:List AV}:vs.size=cs.length →
   (∀ (j:Nat) (c:AV) (v:Value),cs[j]?=some c→vs[j]?=some v→aq w S μ v c)→aq w S μ (.tuple vs) (.tup cs)
 | sl {μ:Mu} {a:Option Addr} {len cap:Nat} {get:Nat→List AV} (b off sz:Nat) (f:Nat→Nat→Value) :
   (0 < len→a=some ⟨b,off,none⟩∧S b)→(∀ i,i < len→(get i).length=sz) →
   (∀ i j,i < len→j < sz→w.cell? ⟨b,off+i * sz+j,none⟩=some (f i j)) →
   (∀ i j c,i < len→(get i)[j]?=some c→aq w S iL (f i j) c)→len≤cap→aq w S μ (.slice a len cap) (.sl len get)
 | rp {μ:Mu} {cs:List AV} {off:Nat} (b o:Nat) (f:Nat→Value):S b →
   (∀ j,j < cs.length→w.cell? ⟨b,o+j,none⟩=some (f j)) →
   (∀ j c,cs[j]?=some c→aq w S iL (f j) c)→aq w S μ (.pointer (some ⟨b,o+off,none⟩)) (.rp cs off)
 | op {μ:Mu} {k i j:Nat} (pl:Place):μ k=some pl→aq w S μ (.pointer (some ⟨pl.cK,i * pl.sz+j,none⟩)) (.op k i j)
 | os {μ:Mu} {k off len cap:Nat} {a:Option Addr} (pl:Place):μ k=some pl →
   (0 < cap→a=some ⟨pl.cK,off * pl.sz,none⟩)→len≤cap→off+cap=pl.cap→aq w S μ (.slice a len cap) (.os k off len)
 | fn {μ:Mu} {f:Fn} {vs ws:Array Value} {first cap:List AV}:vs.size=first.length→ws.size=cap.length →
   (∀ (j:Nat) (c:AV) (v:Value),first[j]?=some c→vs[j]?=some v→aq w S μ v c) →
   (∀ (j:Nat) (c:AV) (v:Value),cap[j]?=some c→ws[j]?=some v→aq w S μ v c)→aq w S μ (.func f vs ws) (.fn f first cap)
 | when {μ:Mu} {b:Bool} {v:Value} {x:AV}:(b=true→aq w S μ v x)→(b=false→v=undef)→aq w S μ v (.when b x)
 | mp {μ:Mu} {k:Nat} (pl:Place):μ k=some pl→aq w S μ (.map (some pl.cK)) (.mp k)
 | bn {μ:Mu} {n:Nat} (b:Bool):(b=true→n=0)→aq w S μ (.bool b) (.bn n)
 | pt {μ:Mu} {b:Bool} {cs:List AV} {v:Value}:(b=true→aq w S μ v (.rp cs 0))→(b=false→v=.pointer none)→aq w S μ v (.pt b cs)
 | ov {μ:Mu} {k i j m n:Nat} (pl:Place):μ k=some pl→n < m→aq w S μ (.pointer (some ⟨pl.cK,i * pl.sz+(j+n),none⟩)) (.ov k i j m n)
 | B4 {μ:Mu} {k off len:Nat} {a:Option Addr} (pl:Place):μ k=some pl→(0 < len→a=some ⟨pl.cK,off * pl.sz,none⟩)→off+len=pl.cap→aq w S μ (.slice a len len) (.B4 k off len)
 | nq {μ:Mu} {st:Option Bool} {v:Value} {x:AV}:aq w S μ v x→(st=some true→v=.slice none 0 0)→(st=some false→OM v=false)→aq w S μ v (.nq st x)
 | nil {μ:Mu}:aq w S μ (.slice none 0 0) .nil
 | m9 {μ:Mu} {v:Value}:aq w S μ v .m9
 | mr {μ:Mu} {v:Value} {sz len:Nat} {get:Nat→List AV}:aq w S μ v (.mr sz len get)
structure Ext (w:World) (S:Nat→Prop) (μ:Mu) (w':World) (S':Nat→Prop) (dn:Mu):Prop where
 size:w.heap.size≤w'.heap.size
 H9:∀ b,S b→S' b
 cK:∀ b,S b→w'.heap[b]?=w.heap[b]?
 mu:∀ k pl,μ k=some pl→dn k=some pl
theorem Ext.refl (w:World) (S:Nat→Prop) (μ:Mu):Ext w S μ w S μ:=⟨aG _,fun _ h=>h,fun _ _=>rfl,fun _ _ h=>h⟩
theorem Ext.trans {w w' VQ:World} {S S' AN:Nat→Prop} {μ dn EG:Mu} (h:Ext w S μ w' S' dn) (k:Ext w' S' dn VQ AN EG):Ext w S μ VQ AN EG :=
 ⟨eC h.size k.size,fun b hb=>k.H9 b (h.H9 b hb),fun b hb=>(k.cK b (h.H9 b hb)).trans (h.cK b hb),fun i pl hi=>k.mu i pl (h.mu i pl hi)⟩
theorem qN {w w':World} {b:Nat} (h:w'.heap[b]?=w.heap[b]?) (o:Nat):w'.cell? ⟨b,o,none⟩=w.cell? ⟨b,o,none⟩:=by
 simp [World.cell?,h]
theorem aq.mono {w w':World} {S S':Nat→Prop} (hS:∀ b,S b→S' b) (hb:∀ b,S b→w'.heap[b]?=w.heap[b]?) {μ:Mu} {v:Value} {x:AV} (h:aq w S μ v x) :
  ∀ {dn:Mu},(∀ k pl,μ k=some pl→dn k=some pl)→aq w' S' dn v x:=by
 induction h with
 | atom v=>exact fun _=>.atom v
 | agg h1 _ ih=>grind [agg]
 | tup h1 _ ih=>grind [tup]
 | @sl μ a len cap get b off sz f h1 h2 h3 _ h5 ih =>
  intro dn _
  refine .sl b off sz f (fun hl=>⟨(h1 hl).1,hS _ (h1 hl).2⟩) h2 ?_ (fun i j c hi hc=>ih i j c hi hc fun _ _ h=>h) h5
  grind [qN]
 | @rp μ cs off b o f h1 h2 _ ih =>
  intro dn _
  refine .rp b o f (hS _ h1) ?_ (fun j c hc=>ih j c hc fun _ _ h=>h)
  grind [qN]
 | op pl h=>grind [op]
 | os pl h h1 h2 h3=>grind [os]
 | fn h1 h2 _ _ Nv Nw=>grind [fn]
 | when _ hu ih=>grind [when]
 | mp pl h=>grind [mp]
 | bn b h=>exact fun _=>.bn b h
 | pt _ h2 ih=>grind [pt]
 | ov pl h h1=>grind [ov]
 | B4 pl h h1 h2=>grind [B4]
 | nq _ h1 h2 ih=>grind [nq]
 | nil=>exact fun _=>.nil
 | m9=>exact fun _=>.m9
 | mr=>exact fun _=>.mr
theorem aq.ext {w w':World} {S S':Nat→Prop} {μ dn:Mu} {v:Value} {x:AV} (h:aq w S μ v x) (e:Ext w S μ w' S' dn):aq w' S' dn v x :=
 h.mono e.H9 e.cK e.mu
mutual
def AV.pure:AV→Bool
 | .atom _ | .sl _ _ | .rp _ _ | .bn _ | .pt _ _ | .nil | .m9=>true
 | .agg cs | .tup cs=>AV.lS cs
 | .fn _ a b=>AV.lS a && AV.lS b
 | .when _ v=>v.pure
 | .nq _ v=>v.pure
 | .op _ _ _ | .os _ _ _ | .mp _ | .ov _ _ _ _ _ | .B4 _ _ _ | .mr _ _ _=>false
def AV.lS:List AV→Bool
 | []=>true
 | c :: cs=>c.pure && AV.lS cs
end
mutual
def AV.flat:AV→Bool
 | .atom _ | .bn _ | .nil=>true
 | .agg cs | .tup cs=>AV.xE cs
 | .fn _ a b=>AV.xE a && AV.xE b
 | _=>false
def AV.xE:List AV→Bool
 | []=>true
 | c :: cs=>c.flat && AV.xE cs
end
theorem su {cs:List AV} (h:AV.lS cs=true) {j:Nat} {c:AV} (hc:cs[j]?=some c):c.pure=true:=by
 induction cs generalizing j with
 | nil=>simp at hc
 | cons x xs ih =>
  simp only [AV.lS,bh] at h
  grind
theorem uL {cs:List AV} (h:AV.xE cs=true) {j:Nat} {c:AV} (hc:cs[j]?=some c):c.flat=true:=by
 induction cs generalizing j with
 | nil=>simp at hc
 | cons x xs ih =>
  simp only [AV.xE,bh] at h
  grind
theorem aq.pure {w:World} {S:Nat→Prop} {μ:Mu} {v:Value} {x:AV} (h:aq w S μ v x):x.pure=true→∀ dn,aq w S dn v x:=by
 induction h with
 | atom v=>exact fun _ _=>.atom v
 | agg h1 _ ih=>grind [agg,su,AV.pure]
 | tup h1 _ ih=>grind [tup,su,AV.pure]
 | sl b off sz f h1 h2 h3 h4 h5 _=>exact fun _ _=>.sl b off sz f h1 h2 h3 h4 h5
 | rp b o f h1 h2 h3 _=>simp_all [rp]
 | op pl h=>grind [AV.pure]
 | os pl h h1 h2 h3=>grind [AV.pure]
 | fn h1 h2 _ _ Nv Nw =>
  intro hp dn
  simp only [AV.pure,bh] at hp
  grind [fn,su]
 | when _ hu ih=>grind [when,AV.pure]
 | mp pl h=>grind [AV.pure]
 | bn b h=>exact fun _ _=>.bn b h
 | pt _ h2 ih=>exact fun _ dn=>.pt (fun hb=>ih hb rfl dn) h2
 | ov=>grind [AV.pure]
 | B4=>grind [AV.pure]
 | nq _ h1 h2 ih=>grind [nq,AV.pure]
 | nil=>exact fun _ _=>.nil
 | m9=>exact fun _ _=>.m9
 | mr=>grind [AV.pure]
theorem aq.flat {w:World} {S:Nat→Prop} {μ:Mu} {v:Value} {x:AV} (h:aq w S μ v x):x.flat=true→∀ w' S' dn,aq w' S' dn v x:=by
 induction h with
 | atom v=>grind [atom]
 | agg h1 _ ih=>grind [agg,uL,AV.flat]
 | tup h1 _ ih=>grind [tup,uL,AV.flat]
 | sl=>grind [AV.flat]
 | rp=>grind [AV.flat]
 | op=>grind [AV.flat]
 | os=>grind [AV.flat]
 | fn h1 h2 _ _ Nv Nw =>
  intro hp w' S' dn
  simp only [AV.flat,bh] at hp
  grind [fn,uL]
 | when=>grind [AV.flat]
 | mp=>grind [AV.flat]
 | bn b h=>grind [bn]
 | pt=>grind [AV.flat]
 | ov=>grind [AV.flat]
 | B4=>grind [AV.flat]
 | nq=>grind [AV.flat]
 | nil=>exact fun _ _ _ _=>.nil
 | m9=>grind [AV.flat]
 | mr=>grind [AV.flat]
structure Ob where
 var:Bool
 sz:Nat
 len:Nat
 pr:Bool
 get:Nat→List AV
abbrev dw:=List (Nat×Ob)
def au:dw→Nat→Option Ob
 | [],_=>none
 | (k,o) :: r,n=>match Nat.beq k n with
  | true=>some o
  | false=>au r n
def sset:dw→Nat→Ob→dw
 | [],k,o=>[(k,o)]
 | (a,x) :: r,k,o=>match Nat.beq a k with
  | true=>(a,o) :: r
  | false=>(a,x) :: sset r k o
def uM:dw→Nat→dw
 | [],_=>[]
 | (a,x) :: r,k=>match Nat.beq a k with
  | true=>uM r k
  | false=>(a,x) :: uM r k
theorem rK {a b:Nat} (h:a=b):Nat.beq a b=true:=by simp_all
theorem oZ {a b:Nat} (h:¬ a=b):Nat.beq a b=false:=Bool.eq_false_iff.2 fun e=>h (bO e)
theorem ba (σ:dw) (k n:Nat) (o:Ob):au (sset σ k o) n=if k=n then some o else au σ n:=by
 induction σ with
 | nil =>
  simp only [sset,au]
  by_cases h:k=n
  ·rw [rK h,if_pos h]
  ·rw [oZ h,if_neg h]
 | cons x r ih =>
  obtain ⟨a,x⟩:=x
  simp only [sset]
  by_cases ha:a=k
  ·rw [rK ha]
   simp only [au]
   subst ha
   by_cases h:a=n
   ·rw [rK h,if_pos h]
   ·rw [oZ h,if_neg h]
  ·rw [oZ ha]
   simp only [au,ih]
   by_cases hn:a=n
   ·grind
   ·rw [oZ hn]
theorem fO (σ:dw) (k n:Nat):au (uM σ k) n=if k=n then none else au σ n:=by
 induction σ with
 | nil=>simp [uM,au]
 | cons x r ih =>
  obtain ⟨a,x⟩:=x
  simp only [uM]
  by_cases ha:a=k
  ·simp_all [rK,au,if_pos,oZ]
  ·rw [oZ ha]
   simp only [au,ih]
   by_cases hn:a=n
   ·grind
   ·rw [oZ hn]
def fA:dw→List (Nat×Option Ob)→dw
 | σ,[]=>σ
 | σ,(k,some o) :: r=>fA (sset σ k o) r
 | σ,(k,none) :: r=>fA (uM σ k) r
def gY (c:Array Value):Array MapEntry:=(Array.range (c.size / 2)).map fun i=>⟨c[2 * i]?.getD undef,c[2 * i+1]?.getD undef,i⟩
def zX (sz:Nat) (c:Array Value) (T:TypeId):Obj :=
 match sz with
 | 0=>.map (gY c) (c.size / 2)
 | _+1=>.cells c T (0,0)
theorem fF {sz:Nat} (h:sz≠0) (c:Array Value) (T:TypeId):zX sz c T=.cells c T (0,0):=by
 cases sz with
 | zero=>exact absurd rfl h
 | succ n=>rfl
theorem zY {sz:Nat} (h:sz=0) (c:Array Value) (T:TypeId):zX sz c T=.map (gY c) (c.size / 2):=by subst h;rfl
structure gR (w:World) (S:Nat→Prop) (μ:Mu) (o:Ob) (pl:Place) (c:Array Value) (T:TypeId):Prop where
 sz:pl.sz=o.sz
 cK:0 < pl.cap→w.heap[pl.cK]?=some (zX o.sz c T)
 cap:pl.cap * o.sz≤c.size
 len:o.len≤pl.cap
 out:0 < pl.cap→¬ S pl.cK
 tB:∀ i,i < o.len→(o.get i).length=o.sz
 rep:∀ i j x v,i < o.len→(o.get i)[j]?=some x→c[i * o.sz+j]?=some v→aq w S (if o.pr then iL else μ) v x
 mp:o.sz=0→0 < pl.cap∧c.size % 2=0∧c.size=(o.get 0).length∧o.pr=true∧∀ (j:Nat) x v,(o.get 0)[j]?=some x→c[j]?=some v→aq w S iL v x
structure V9 (w:World) (S:Nat→Prop) (μ:Mu) (σ:dw):Prop where
 ob:∀ k o,au σ k=some o→∃ pl c T,μ k=some pl∧gR w S μ o pl c T
 ne:∀ k k' o o' pl j9,k≠k'→au σ k=some o→au σ k'=some o'→μ k=some pl→μ k'=some j9→0 < pl.cap→0 < j9.cap→pl.cK≠j9.cK
theorem gR.ext {w w':World} {S S':Nat→Prop} {μ dn:Mu} {o:Ob} {pl:Place} {c:Array Value} {T:TypeId} (h:gR w S μ o pl c T) (e:Ext w S μ w' S' dn)
  (hb:0 < pl.cap→w'.heap[pl.cK]?=w.heap[pl.cK]?) (ho:0 < pl.cap→¬ S' pl.cK):gR w' S' dn o pl c T :=
 { h with
  cK:=fun hc=>(hb hc).trans (h.cK hc)
  out:=ho
  rep:=fun i j x v hi hx hv=>(h.rep i j x v hi hx hv).mono e.H9 e.cK (by
   cases o.pr
   ·exact e.mu
   ·exact fun _ _ h=>h)
  mp:=fun hz=>let ⟨h0,h1,h2,h3,h4⟩:=h.mp hz
   ⟨h0,h1,h2,h3,fun j x v hx hv=>(h4 j x v hx hv).mono e.H9 e.cK (fun _ _ h=>h)⟩ }
def rowOf (o:Ob) (i:Nat):Option (Nat×Nat×(Nat→List AV)) :=
 match o.var,o.get i with
 | false,[.mr sz len g]=>if i < o.len then some (sz,len,g) else none
 | _,_=>none
def Jz (fp:Nat→Prop) (n0:Nat) (w:World) (S:Nat→Prop) (v:Value) (x:Nat×Nat×(Nat→List AV)):Prop :=
 ∃ a cap,v=.slice a x.2.1 cap∧x.2.1≤cap∧(1≤x.1∧∀ j,rowOf ⟨false,x.1,x.2.1,true,x.2.2⟩ j=none)∧(0 < cap→∃ b c T,a=some ⟨b,0,none⟩∧gR w S iL ⟨false,x.1,x.2.1,true,x.2.2⟩ ⟨b,cap,x.1⟩ c T∧(fp b∨n0≤b))
def ptrTo (v:Value) (b:Nat):Prop:=∃ len cap,v=.slice (some ⟨b,0,none⟩) len cap∧0 < cap
def ja (w:World) (μ:Mu) (σ:dw) (k i:Nat) (x:Nat×Nat×(Nat→List AV)) (v:Value):Prop :=
 ∃ o pl,au σ k=some o∧rowOf o i=some x∧μ k=some pl∧w.cell? ⟨pl.cK,i * pl.sz,none⟩=some v
structure MX (fp:Nat→Prop) (n0:Nat) (w:World) (S:Nat→Prop) (μ:Mu) (σ:dw):Prop where
 row:∀ k i x v,ja w μ σ k i x v→Jz fp n0 w S v x
 obj:∀ k i x v b,ja w μ σ k i x v→ptrTo v b→∀ k' o' j9,au σ k'=some o'→μ k'=some j9→0 < j9.cap→j9.cK≠b
 two:∀ k i x v b k' i' x' v',ja w μ σ k i x v→ja w μ σ k' i' x' v'→ptrTo v b→ptrTo v' b→k=k'∧i=i'
theorem xF {o:Ob} (h:o.var=true) (i:Nat):rowOf o i=none:=by unfold rowOf;rw [h]
theorem da {o:Ob} {i:Nat} {x:Nat×Nat×(Nat→List AV)} (h:rowOf o i=some x):o.var=false∧i < o.len∧o.get i=[.mr x.1 x.2.1 x.2.2]:=by
 grind [rowOf]
theorem kN {o:Ob} {i:Nat} {x:Nat×Nat×(Nat→List AV)} (h2:o.var=false) (h3:i < o.len) (h4:o.get i=[.mr x.1 x.2.1 x.2.2]):rowOf o i=some x:=by
 grind [rowOf]
theorem MX.cK {fp:Nat→Prop} {n0:Nat} {w:World} {S:Nat→Prop} {μ:Mu} {σ:dw} (h:MX fp n0 w S μ σ) {k i:Nat} {x:Nat×Nat×(Nat→List AV)} {v:Value} {b:Nat} (hr:ja w μ σ k i x v) (hb:ptrTo v b) :
  b < w.heap.size∧¬ S b∧(fp b∨n0≤b)∧∃ c T,w.heap[b]?=some (.cells c T (0,0)):=by
 obtain ⟨len,cap,rfl,hc⟩:=hb
 obtain ⟨a,abS,e,h1,h2,h3⟩:=h.row _ _ _ _ hr
 injection e with e1 e2 e3
 subst e1 e2 e3
 obtain ⟨b',c,T,e4,h4,h5⟩:=h3 hc
 injection e4 with e4
 injection e4 with e4
 subst e4
 have Wa:=h4.cK hc
 have vU:zX x.1 c T=.cells c T (0,0):=fF (by have:=h2.1;omega) c T
 have Wb:w.heap[b]?=some (.cells c T (0,0)):=by rw [Wa];exact congrArg some vU
 exact ⟨(Array.getElem?_eq_some_iff.1 Wb).1,h4.out hc,h5,c,T,Wb⟩
theorem Jz.ext {fp Tz:Nat→Prop} {n0 TA:Nat} {w w':World} {S S':Nat→Prop} {v:Value} {x:Nat×Nat×(Nat→List AV)} (h:Jz fp n0 w S v x) (hS:∀ b,S b→S' b) (hb:∀ b,S b→w'.heap[b]?=w.heap[b]?)
  (hp:∀ b,ptrTo v b→w'.heap[b]?=w.heap[b]?∧¬ S' b∧((fp b∨n0≤b)→(Tz b∨TA≤b))):Jz Tz TA w' S' v x:=by
 obtain ⟨a,cap,rfl,h1,h2,h3⟩:=h
 refine ⟨a,cap,rfl,h1,h2,fun hc=>?_⟩
 obtain ⟨b,c,T,rfl,h4,h5⟩:=h3 hc
 obtain ⟨p1,p2,p3⟩:=hp b ⟨_,_,rfl,hc⟩
 refine ⟨b,c,T,rfl,⟨h4.sz,fun h=>p1.trans (h4.cK h),h4.cap,h4.len,fun _=>p2,h4.tB,fun i j x v hi hx hv=>(h4.rep i j x v hi hx hv).mono hS hb (fun _ _ h=>h),fun hz=>?_⟩,p3 h5⟩
 simp_all
theorem MX.tr {fp Tz:Nat→Prop} {n0 TA:Nat} {w w':World} {S S':Nat→Prop} {μ dn:Mu} {σ eS:dw} (h:MX fp n0 w S μ σ) (φ:Nat→Nat)
  (hr:∀ k i x v,ja w' dn eS k i x v→ja w μ σ (φ k) i x v)
  (hi:∀ k i x v k' i' x' v',ja w' dn eS k i x v→ja w' dn eS k' i' x' v'→φ k=φ k'→k=k')
  (hS:∀ b,S b→S' b) (hb:∀ b,S b→w'.heap[b]?=w.heap[b]?)
  (hp:∀ k i x v b,ja w' dn eS k i x v→ja w μ σ (φ k) i x v→ptrTo v b→w'.heap[b]?=w.heap[b]?∧¬ S' b∧((fp b∨n0≤b)→(Tz b∨TA≤b)))
  (ho:∀ k o pl,au eS k=some o→dn k=some pl→0 < pl.cap→(∃ k1 o1 AO,au σ k1=some o1∧μ k1=some AO∧0 < AO.cap∧AO.cK=pl.cK)∨w.heap.size≤pl.cK):MX Tz TA w' S' dn eS:=by
 refine ⟨fun k i x v hv=>(h.row _ _ _ _ (hr _ _ _ _ hv)).ext hS hb fun b tN=>hp _ _ _ _ _ hv (hr _ _ _ _ hv) tN,fun k i x v b hv tN k' o' j9 h1 h2 h3 he=>?_,fun k i x v b k' i' x' v' hv sJ rL o5=>?_⟩
 ·have hv0:=hr _ _ _ _ hv
  rcases ho k' o' j9 h1 h2 h3 with ⟨k1,o1,AO,q1,q2,q3,q4⟩ | q
  ·exact h.obj _ _ _ _ b hv0 tN k1 o1 AO q1 q2 q3 (q4.trans he)
  ·have:=(h.cK hv0 tN).1;omega
 ·obtain ⟨e1,e2⟩:=h.two _ _ _ _ _ _ _ _ _ (hr _ _ _ _ hv) (hr _ _ _ _ sJ) rL o5
  grind
theorem MX.nil {fp:Nat→Prop} {n0:Nat} {w:World} {S:Nat→Prop} {μ:Mu} {σ:dw} (h:∀ k o i,au σ k=some o→rowOf o i=none):MX fp n0 w S μ σ:=by
 have no:∀ {k i x v},ja w μ σ k i x v→False:=by
  rintro k i x v ⟨o,pl,h1,h2,_⟩
  rw [h k o i h1] at h2;cases h2
 exact ⟨fun _ _ _ _ h=>(no h).elim,fun _ _ _ _ _ h=>(no h).elim,fun _ _ _ _ _ _ _ _ _ h=>(no h).elim⟩
end Go.Ab
namespace Go.Ab
structure Env where
 w0:World
 S0:Nat→Prop
 fp:Nat→Prop
 μ0:Mu
 m0:Nat
structure Fr (w0:World) (fp:Nat→Prop) (w:World):Prop where
 os:w.os=w0.os
 tape:w.tape=w0.tape
 output:w.output=w0.output
 size:w0.heap.size≤w.heap.size
 cK:∀ b,b < w0.heap.size→¬ fp b→w.heap[b]?=w0.heap[b]?
theorem Fr.refl (w:World) (fp:Nat→Prop):Fr w fp w:=⟨rfl,rfl,rfl,aG _,fun _ _ _=>rfl⟩
structure Good (E:Env) (σ:dw) (S:Nat→Prop) (μ:Mu) (w:World):Prop where
 fr:Fr E.w0 E.fp w
 S0:∀ b,E.S0 b→S b
 S1:∀ b,S b→b < w.heap.size
 S2:∀ b,S b→E.S0 b∨E.w0.heap.size≤b
 rep:V9 w S μ σ
 own:∀ k o pl,au σ k=some o→μ k=some pl→0 < pl.cap→E.fp pl.cK∨E.w0.heap.size≤pl.cK
 Eh:∀ k,k < E.m0→μ k=E.μ0 k
 mx:MX E.fp E.w0.heap.size w S μ σ
theorem gz {w:World} {b:Nat} {o:Obj} (h:w.heap[b]?=some o):b < w.heap.size:=(Array.getElem?_eq_some_iff.1 h).1
def bZ (μ:Mu) (k:Nat) (pl:Place):Mu:=fun n=>if n=k then some pl else μ n
theorem ft {w:World} {o:Obj} {b:Nat} (h:b < w.heap.size):(w.alloc o).heap[b]?=w.heap[b]?:=heap_alloc_old w o b h
theorem ja.xe {w w':World} {S:Nat→Prop} {μ dn:Mu} {σ eS:dw} (g:V9 w S μ σ) {k k1 i:Nat} {x:Nat×Nat×(Nat→List AV)} {v:Value} (h:ja w' dn eS k i x v)
  (ho:∀ o,au eS k=some o→∃ o1,au σ k1=some o1∧rowOf o1 i=some x) (hm:∀ pl,dn k=some pl→μ k1=some pl)
  (hb:∀ o pl,au σ k1=some o→μ k1=some pl→0 < pl.cap→w'.heap[pl.cK]?=w.heap[pl.cK]?):ja w μ σ k1 i x v:=by
 obtain ⟨o,pl,h1,h2,h3,h4⟩:=h
 obtain ⟨o1,h5,h6⟩:=ho o h1
 have h7:=hm pl h3
 refine ⟨o1,pl,h5,h6,h7,?_⟩
 obtain ⟨rY,c,T,h8,h9⟩:=g.ob k1 o1 h5
 rw [h7] at h8;cases h8
 have hc:0 < pl.cap:=by have:=(da h6).2.1;have:=h9.len;omega
 grind [qN]
theorem ja.ob {w:World} {μ:Mu} {σ:dw} {k i:Nat} {x:Nat×Nat×(Nat→List AV)} {v:Value} (h:ja w μ σ k i x v):∃ o,au σ k=some o∧rowOf o i=some x:=by
 obtain ⟨o,_,h1,h2,_⟩:=h;exact ⟨o,h1,h2⟩
theorem Good.ON {E:Env} {σ:dw} {S:Nat→Prop} {μ:Mu} {w:World} (g:Good E σ S μ w) {nk:Nat} (hk:μ nk=none) (hm:E.m0≤nk) (c:Array Value) (T:TypeId) (o:Ob) (cap:Nat)
  (xf:cap * o.sz≤c.size) (hlen:o.len≤cap) (pM:∀ i,i < o.len→(o.get i).length=o.sz)
  (zZ:∀ i j x v,i < o.len→(o.get i)[j]?=some x→c[i * o.sz+j]?=some v→aq w S (if o.pr then iL else μ) v x) (Ca:o.sz≠0)
  (TC:MX E.fp E.w0.heap.size (w.alloc (.cells c T)) S (bZ μ nk ⟨w.heap.size,cap,o.sz⟩) (sset σ nk o)) :
  Ext w S μ (w.alloc (.cells c T)) S (bZ μ nk ⟨w.heap.size,cap,o.sz⟩)∧Good E (sset σ nk o) S (bZ μ nk ⟨w.heap.size,cap,o.sz⟩) (w.alloc (.cells c T)):=by
 have e:Ext w S μ (w.alloc (.cells c T)) S (bZ μ nk ⟨w.heap.size,cap,o.sz⟩) :=
  ⟨by simp,fun _ h=>h,fun b hb=>ft (g.S1 b hb),fun k pl h=>by
   grind [bZ]⟩
 refine ⟨e,⟨⟨g.fr.os,g.fr.tape,g.fr.output,by have:=g.fr.size;simp;omega,fun b hb hf=>(ft (pJ hb g.fr.size)).trans (g.fr.cK b hb hf)⟩,
  g.S0,fun b hb=>by have:=g.S1 b hb;simp;omega,g.S2,⟨?_,?_⟩,?_,fun k oQ=>?_,TC⟩⟩
 ·intro k x hx
  rw [ba] at hx
  by_cases wR:nk=k
  ·rw [if_pos wR] at hx
   cases hx
   refine ⟨⟨w.heap.size,cap,o.sz⟩,c,T,by simp [bZ,wR],rfl,fun _=>(heap_alloc_new w _).trans (by rw [fF Ca]),xf,hlen,fun _ hS=>vS _ (g.S1 _ hS),pM,?_,fun h=>absurd h Ca⟩
   intro i j x v hi hx hv
   refine (zZ i j x v hi hx hv).mono e.H9 e.cK ?_
   cases o.pr
   ·exact e.mu
   ·exact fun _ _ h=>h
  ·rw [if_neg wR] at hx
   obtain ⟨pl,c',T',gV,ho⟩:=g.rep.ob k x hx
   exact ⟨pl,c',T',e.mu _ _ gV,ho.ext e (fun hc=>ft (gz (ho.cK hc))) ho.out⟩
 ·intro k k' x x' pl j9 fZ hx wT hp sw tC Jn
  rw [ba] at hx wT
  simp only [bZ] at hp sw
  have lt:∀ {k x pl},nk≠k→au σ k=some x→μ k=some pl→0 < pl.cap→pl.cK < w.heap.size:=fun {k x pl} _ hx hp hc=>by
   obtain ⟨rY,c',T',gV,ho⟩:=g.rep.ob k x hx
   rw [hp] at gV;cases gV;exact gz (ho.cK hc)
  by_cases h1:nk=k
  ·grind
  ·rw [if_neg h1] at hx
   rw [if_neg (fun h=>h1 h.symm)] at hp
   by_cases h2:nk=k'
   ·grind
   ·rw [if_neg h2] at wT
    rw [if_neg (fun h=>h2 h.symm)] at sw
    exact g.rep.ne k k' x x' pl j9 fZ hx wT hp sw tC Jn
 ·intro k x pl hx hp hc
  rw [ba] at hx
  simp only [bZ] at hp
  by_cases h1:nk=k
  ·rw [if_pos h1.symm] at hp
   cases hp
   exact .inr g.fr.size
  ·rw [if_neg h1] at hx
   rw [if_neg (fun h=>h1 h.symm)] at hp
   exact g.own k x pl hx hp hc
 ·simp only [bZ]
  rw [if_neg (by omega)]
  exact g.Eh k oQ
theorem Good.JA {E:Env} {σ:dw} {S:Nat→Prop} {μ:Mu} {w w':World} (g:Good E σ S μ w) {nk:Nat} (hk:μ nk=none) (o:Ob) (pl:Place) (Dw:0 < pl.cap→w.heap.size≤pl.cK) (OO:∀ i,rowOf o i=none)
  (hw:∀ b,b < w.heap.size→w'.heap[b]?=w.heap[b]?) {S':Nat→Prop} (hS:∀ b,S b→S' b) (Wc:∀ b,S' b→S b∨w.heap.size≤b):MX E.fp E.w0.heap.size w' S' (bZ μ nk pl) (sset σ nk o):=by
 have key:∀ k i x v,ja w' (bZ μ nk pl) (sset σ nk o) k i x v→k≠nk:=by
  rintro k i x v h rfl
  obtain ⟨o2,h1,h2⟩:=h.ob
  rw [ba,if_pos rfl] at h1
  cases h1
  rw [OO] at h2;cases h2
 refine g.mx.tr id (fun k i x v h=>?_) (fun _ _ _ _ _ _ _ _ _ _ h=>h) hS (fun b hb=>hw b (g.S1 b hb)) (fun k i x v b _ h hb=>?_) (fun k o2 rY h1 h2 h3=>?_)
 ·have fZ:=key _ _ _ _ h
  obtain ⟨o3,h3,h4⟩:=h.ob
  refine h.xe g.rep (fun o2 h1=>?_) (fun rY h2=>?_) (fun o2 rY h1 h2 h3=>?_)
  ·rw [h3] at h1;cases h1
   rw [ba,if_neg (fun e=>fZ e.symm)] at h3
   exact ⟨o3,h3,h4⟩
  ·simp_all [bZ,if_neg]
  ·obtain ⟨XI,c3,T3,Mi,KW⟩:=g.rep.ob k o2 h1
   have h2:μ k=some rY:=h2
   rw [h2] at Mi;cases Mi
   exact hw _ (gz (KW.cK h3))
 ·obtain ⟨q1,q2,q3,_⟩:=g.mx.cK h hb
  grind
 ·by_cases wR:nk=k
  ·simp_all [bZ,if_pos]
  ·rw [ba,if_neg wR] at h1
   unfold bZ at h2;grind
theorem Good.alloc {E:Env} {σ:dw} {S:Nat→Prop} {μ:Mu} {w:World} (g:Good E σ S μ w) {nk:Nat} (hk:μ nk=none) (hm:E.m0≤nk) (c:Array Value) (T:TypeId) (o:Ob) (cap:Nat)
  (xf:cap * o.sz≤c.size) (hlen:o.len≤cap) (pM:∀ i,i < o.len→(o.get i).length=o.sz)
  (zZ:∀ i j x v,i < o.len→(o.get i)[j]?=some x→c[i * o.sz+j]?=some v→aq w S (if o.pr then iL else μ) v x) (Ca:o.sz≠0) (OO:∀ i,rowOf o i=none) :
  Ext w S μ (w.alloc (.cells c T)) S (bZ μ nk ⟨w.heap.size,cap,o.sz⟩)∧Good E (sset σ nk o) S (bZ μ nk ⟨w.heap.size,cap,o.sz⟩) (w.alloc (.cells c T)) :=
 g.ON hk hm c T o cap xf hlen pM zZ Ca (g.JA hk o _ (fun _=>aG _) OO (fun _ h=>ft h) (fun _ h=>h) (fun _ h=>.inl h))
theorem Good.K2 {E:Env} {σ:dw} {S:Nat→Prop} {μ:Mu} {w w':World} (g:Good E σ S μ w)
  (hw:∀ b,b < w.heap.size→w'.heap[b]?=w.heap[b]?) {S':Nat→Prop} (hS:∀ b,S b→S' b) (Wc:∀ b,S' b→S b∨w.heap.size≤b):MX E.fp E.w0.heap.size w' S' μ σ:=by
 refine g.mx.tr id (fun k i x v h=>?_) (fun _ _ _ _ _ _ _ _ _ _ h=>h) hS (fun b hb=>hw b (g.S1 b hb)) (fun k i x v b _ h hb=>?_) (fun k o2 rY h1 h2 h3=>.inl ⟨k,o2,rY,h1,h2,h3,rfl⟩)
 ·obtain ⟨o3,h3,h4⟩:=h.ob
  refine h.xe g.rep (fun o2 h1=>⟨o3,h3,h4⟩) (fun rY h2=>h2) (fun o2 rY h1 h2 h3=>?_)
  obtain ⟨XI,c3,T3,Mi,KW⟩:=g.rep.ob k o2 h1
  have h2:μ k=some rY:=h2
  rw [h2] at Mi;cases Mi
  exact hw _ (gz (KW.cK h3))
 ·obtain ⟨q1,q2,q3,_⟩:=g.mx.cK h hb
  grind
theorem Good.Nx {E:Env} {σ:dw} {S:Nat→Prop} {μ:Mu} {w:World} (g:Good E σ S μ w) (o:Obj) :
  Ext w S μ (w.alloc o) (fun b=>S b∨b=w.heap.size) μ∧Good E σ (fun b=>S b∨b=w.heap.size) μ (w.alloc o):=by
 have e:Ext w S μ (w.alloc o) (fun b=>S b∨b=w.heap.size) μ :=
  ⟨by simp,fun _ h=>.inl h,fun b hb=>ft (g.S1 b hb),fun k pl h=>h⟩
 refine ⟨e,⟨⟨g.fr.os,g.fr.tape,g.fr.output,by have:=g.fr.size;simp;omega,fun b hb hf=>(ft (pJ hb g.fr.size)).trans (g.fr.cK b hb hf)⟩,
  fun b h=>.inl (g.S0 b h),fun b hb=>?_,fun b hb=>?_,⟨?_,g.rep.ne⟩,g.own,g.Eh,g.K2 (fun _ h=>ft h) (fun _ h=>.inl h) (fun b h=>h.elim .inl (fun h=>.inr (Nat.le_of_eq h.symm)))⟩⟩
 ·rcases hb with hb | hb
  ·have:=g.S1 b hb;simp;omega
  ·simp;omega
 ·rcases hb with hb | hb
  ·exact g.S2 b hb
  ·exact .inr (hb ▸ g.fr.size)
 ·intro k x hx
  obtain ⟨pl,c',T',gV,ho⟩:=g.rep.ob k x hx
  exact ⟨pl,c',T',gV,ho.ext e (fun hc=>ft (gz (ho.cK hc))) (fun hc h=>h.elim (ho.out hc) (by have:=gz (ho.cK hc);omega))⟩
theorem Good.drew {E:Env} {σ:dw} {S:Nat→Prop} {μ:Mu} {w:World} (g:Good E σ S μ w):Good E σ S μ w.drew :=
 ⟨⟨g.fr.os,g.fr.tape,g.fr.output,g.fr.size,g.fr.cK⟩,g.S0,g.S1,g.S2,
  ⟨fun k o h=>let ⟨pl,c,T,hm,ho⟩:=g.rep.ob k o h
   ⟨pl,c,T,hm,ho.ext (w':=w.drew) ⟨aG _,fun _ h=>h,fun _ _=>rfl,fun _ _ h=>h⟩ (fun _=>rfl) ho.out⟩,g.rep.ne⟩,g.own,g.Eh,g.K2 (w':=w.drew) (fun _ _=>rfl) (fun _ h=>h) (fun _ h=>.inl h)⟩
theorem Ext.drew (w:World) (S:Nat→Prop) (μ:Mu):Ext w S μ w.drew S μ:=⟨aG _,fun _ h=>h,fun _ _=>rfl,fun _ _ h=>h⟩
theorem Good.del {E:Env} {σ:dw} {S:Nat→Prop} {μ:Mu} {w:World} (g:Good E σ S μ w) (k:Nat):Good E (uM σ k) S μ w:=by
 have hs:∀ n o,au (uM σ k) n=some o→au σ n=some o:=fun n o h=>by
  grind [fO]
 exact ⟨g.fr,g.S0,g.S1,g.S2,⟨fun n o h=>g.rep.ob n o (hs n o h),fun k k' o o' pl j9 fZ h h'=>g.rep.ne k k' o o' pl j9 fZ (hs _ _ h) (hs _ _ h')⟩,
  fun k o pl h=>g.own k o pl (hs _ _ h),g.Eh,g.mx.tr id (fun k i x v ⟨o,pl,h1,h2⟩=>⟨o,pl,hs _ _ h1,h2⟩) (fun _ _ _ _ _ _ _ _ _ _ h=>h) (fun _ h=>h) (fun _ _=>rfl)
   (fun k i x v b _ h hb=>⟨rfl,(g.mx.cK h hb).2.1,fun h=>h⟩) (fun k o pl h1 h2 h3=>.inl ⟨k,o,pl,hs _ _ h1,h2,h3,rfl⟩)⟩
theorem Good.mxW {E:Env} {σ:dw} {S:Nat→Prop} {μ:Mu} {w w':World} (g:Good E σ S μ w) {k:Nat} {o:Ob} (hs:au σ k=some o) {pl:Place} (hm:μ k=some pl) (vQ:0 < pl.cap) (hS:¬ S pl.cK)
  (sK:∀ b,b≠pl.cK→w'.heap[b]?=w.heap[b]?) (o':Ob) (vU:∀ i x,rowOf o' i=some x→rowOf o i=some x∧∀ v,w'.cell? ⟨pl.cK,i * pl.sz,none⟩=some v→w.cell? ⟨pl.cK,i * pl.sz,none⟩=some v) :
  MX E.fp E.w0.heap.size w' S μ (sset σ k o'):=by
 refine g.mx.tr id (fun n i x v h=>?_) (fun _ _ _ _ _ _ _ _ _ _ h=>h) (fun _ h=>h) (fun b hb=>sK b fun e=>hS (e ▸ hb)) (fun n i x v b _ h hb=>?_) (fun n o2 rY h1 h2 h3=>?_)
 ·by_cases wR:k=n
  ·subst wR
   obtain ⟨o2,rY,h1,h2,h3,h4⟩:=h
   rw [ba,if_pos rfl] at h1;cases h1
   rw [hm] at h3;cases h3
   obtain ⟨q1,q2⟩:=vU i x h2
   exact ⟨o,pl,hs,q1,hm,q2 v h4⟩
  ·obtain ⟨o3,h3,h4⟩:=h.ob
   rw [ba,if_neg wR] at h3
   refine h.xe g.rep (fun o2 h1=>⟨o3,h3,h4⟩) (fun rY h2=>h2) (fun o2 rY h1 h2 h3=>?_)
   exact sK _ (g.rep.ne n k o2 o rY pl (fun h=>wR h.symm) h1 hs h2 hm h3 vQ)
 ·obtain ⟨q1,q2,q3,_⟩:=g.mx.cK h hb
  exact ⟨sK b fun e=>g.mx.obj _ _ _ _ _ h hb k o pl hs hm vQ e.symm,q2,fun h=>h⟩
 ·rw [ba] at h1
  grind
theorem Good.write {E:Env} {σ:dw} {S:Nat→Prop} {μ:Mu} {w:World} (g:Good E σ S μ w) {k:Nat} {o:Ob} (hs:au σ k=some o) {pl:Place} {c:Array Value} {T:TypeId}
  (hm:μ k=some pl) (vQ:0 < pl.cap) (ho:gR w S μ o pl c T) (Ca:o.sz≠0) (o':Ob) (c':Array Value) (rM:o'.sz=o.sz) (hc:c'.size=c.size) (hlen:o'.len≤pl.cap)
  (pM:∀ i,i < o'.len→(o'.get i).length=o'.sz)
  (zZ:∀ i j x v,i < o'.len→(o'.get i)[j]?=some x→c'[i * o'.sz+j]?=some v→aq w S (if o'.pr then iL else μ) v x)
  (vU:∀ i x,rowOf o' i=some x→rowOf o i=some x∧c'[i * o.sz]?=c[i * o.sz]?) :
  Ext w S μ (w.setRow pl.cK c') S μ∧Good E (sset σ k o') S μ (w.setRow pl.cK c'):=by
 have sK:∀ b,b≠pl.cK→(w.setRow pl.cK c').heap[b]?=w.heap[b]?:=fun b hb=>by
  simp only [World.setRow,Array.getElem?_modify]
  grind
 have e:Ext w S μ (w.setRow pl.cK c') S μ :=
  ⟨by simp,fun _ h=>h,fun b hb=>sK b fun h=>ho.out vQ (h ▸ hb),fun _ _ h=>h⟩
 refine ⟨e,⟨⟨g.fr.os,g.fr.tape,g.fr.output,by have:=g.fr.size;simpa using this,fun b hb hf=>?_⟩,g.S0,fun b hb=>by simpa using g.S1 b hb,g.S2,⟨?_,?_⟩,?_,g.Eh,?_⟩⟩
 rotate_right
 ·refine g.mxW hs hm vQ (ho.out vQ) sK o' fun i x hx=>⟨(vU i x hx).1,fun v hv=>?_⟩
  have h1:=ho.cK vQ
  rw [fF Ca] at h1
  rw [cell_of_row _ _ _ _ _ _ (setRow_heap w _ c c' T (0,0) h1),ho.sz,(vU i x hx).2] at hv
  rw [cell_of_row _ _ _ _ _ _ h1,ho.sz]
  exact hv
 ·rw [sK b,g.fr.cK b hb hf]
  rintro rfl
  rcases g.own k o pl hs hm vQ with h | h
  ·exact hf h
  ·omega
 ·intro n x hx
  rw [ba] at hx
  by_cases wR:k=n
  ·rw [if_pos wR] at hx
   cases hx
   refine ⟨pl,c',T,wR ▸ hm,ho.sz.trans rM.symm,fun _=>(setRow_heap w _ c c' T (0,0) ((ho.cK vQ).trans (by rw [fF Ca]))).trans (by rw [fF (by rw [rM];exact Ca)]),?_,hlen,ho.out,pM,?_,fun h=>absurd (rM ▸ h) Ca⟩
   ·rw [rM,hc];exact ho.cap
   ·intro i j x v hi hx hv
    refine (zZ i j x v hi hx hv).mono e.H9 e.cK ?_
    cases o'.pr
    ·exact e.mu
    ·exact fun _ _ h=>h
  ·rw [if_neg wR] at hx
   obtain ⟨rY,c2,T2,Dx,De⟩:=g.rep.ob n x hx
   exact ⟨rY,c2,T2,Dx,De.ext e (fun hc=>sK _ (g.rep.ne n k x o rY pl (fun h=>wR h.symm) hx hs Dx hm hc vQ)) De.out⟩
 ·intro n n' x x' p p' fZ hx wT hp sw tC Jn
  rw [ba] at hx wT
  have f:∀ {n x},(if k=n then some o' else au σ n)=some x→∃ y,au σ n=some y:=fun {n x} h=>by
   split at h
   ·rename_i hh;exact ⟨o,hh ▸ hs⟩
   ·exact ⟨_,h⟩
  obtain ⟨y,hy⟩:=f hx
  obtain ⟨y',Uk⟩:=f wT
  exact g.rep.ne n n' y y' p p' fZ hy Uk hp sw tC Jn
 ·intro n x p hx hp hc
  rw [ba] at hx
  split at hx
  ·rename_i hh;subst hh;exact g.own _ o p hs hp hc
  ·exact g.own n x p hx hp hc
theorem Good.RC {E:Env} {σ:dw} {S:Nat→Prop} {μ:Mu} {w w':World} (g:Good E σ S μ w) {k:Nat} {o:Ob} (hs:au σ k=some o) {pl:Place} {c:Array Value} {T:TypeId}
  (hm:μ k=some pl) (vQ:0 < pl.cap) (ho:gR w S μ o pl c T) (h1:w'.os=w.os) (h2:w'.tape=w.tape) (h3:w'.output=w.output) (h4:w'.heap.size=w.heap.size) (sK:∀ b,b≠pl.cK→w'.heap[b]?=w.heap[b]?)
  (o':Ob) (OO:∀ i,rowOf o' i=none) (RE:Ext w S μ w' S μ→∃ c' T',gR w' S μ o' pl c' T'):Ext w S μ w' S μ∧Good E (sset σ k o') S μ w':=by
 have e:Ext w S μ w' S μ:=⟨by omega,fun _ h=>h,fun b hb=>sK b fun h=>ho.out vQ (h ▸ hb),fun _ _ h=>h⟩
 refine ⟨e,⟨⟨h1.trans g.fr.os,h2.trans g.fr.tape,h3.trans g.fr.output,by have:=g.fr.size;omega,fun b hb hf=>?_⟩,g.S0,fun b hb=>by rw [h4];exact g.S1 b hb,g.S2,⟨?_,?_⟩,?_,g.Eh,g.mxW hs hm vQ (ho.out vQ) sK o' fun i x hx=>by rw [OO] at hx;cases hx⟩⟩
 ·rw [sK b,g.fr.cK b hb hf]
  rintro rfl
  rcases g.own k o pl hs hm vQ with h | h
  ·exact hf h
  ·omega
 ·intro n x hx
  rw [ba] at hx
  by_cases wR:k=n
  ·simp_all
  ·rw [if_neg wR] at hx
   obtain ⟨rY,c2,T2,Dx,De⟩:=g.rep.ob n x hx
   exact ⟨rY,c2,T2,Dx,De.ext e (fun hc=>sK _ (g.rep.ne n k x o rY pl (fun h=>wR h.symm) hx hs Dx hm hc vQ)) De.out⟩
 ·intro n n' x x' p p' fZ hx wT hp sw tC Jn
  rw [ba] at hx wT
  have f:∀ {n x},(if k=n then some o' else au σ n)=some x→∃ y,au σ n=some y:=fun {n x} h=>by
   grind
  obtain ⟨y,hy⟩:=f hx
  obtain ⟨y',Uk⟩:=f wT
  exact g.rep.ne n n' y y' p p' fZ hy Uk hp sw tC Jn
 ·intro n x p hx hp hc
  rw [ba] at hx
  split at hx
  ·rename_i hh;subst hh;exact g.own _ o p hs hp hc
  ·exact g.own n x p hx hp hc
theorem Good.allocMap {E:Env} {σ:dw} {S:Nat→Prop} {μ:Mu} {w:World} (g:Good E σ S μ w) {nk:Nat} (hk:μ nk=none) (hm:E.m0≤nk) :
  Ext w S μ (w.alloc (.map #[] 0)) S (bZ μ nk ⟨w.heap.size,1,0⟩)∧Good E (sset σ nk ⟨false,0,0,true,fun _=>[]⟩) S (bZ μ nk ⟨w.heap.size,1,0⟩) (w.alloc (.map #[] 0)):=by
 have hold:∀ b,b < w.heap.size→(w.alloc (.map #[] 0)).heap[b]?=w.heap[b]?:=fun b h=>ft h
 have e:Ext w S μ (w.alloc (.map #[] 0)) S (bZ μ nk ⟨w.heap.size,1,0⟩) :=
  ⟨by simp,fun _ h=>h,fun b hb=>hold b (g.S1 b hb),fun k pl h=>by
   grind [bZ]⟩
 have lt:∀ {k x pl},au σ k=some x→μ k=some pl→0 < pl.cap→pl.cK < w.heap.size:=fun {k x pl} hx hp hc=>by
  obtain ⟨rY,c',T',gV,ho⟩:=g.rep.ob k x hx
  rw [hp] at gV;cases gV;exact gz (ho.cK hc)
 refine ⟨e,⟨⟨g.fr.os,g.fr.tape,g.fr.output,by have:=g.fr.size;simp;omega,fun b hb hf=>(hold b (pJ hb g.fr.size)).trans (g.fr.cK b hb hf)⟩,
  g.S0,fun b hb=>by have:=g.S1 b hb;simp;omega,g.S2,⟨?_,?_⟩,?_,fun k oQ=>?_,g.JA hk _ _ (fun _=>aG _) (fun i=>rfl) hold (fun _ h=>h) (fun _ h=>.inl h)⟩⟩
 ·intro k x hx
  rw [ba] at hx
  by_cases wR:nk=k
  ·rw [if_pos wR] at hx
   cases hx
   refine ⟨⟨w.heap.size,1,0⟩,#[],0,by simp [bZ,wR],rfl,fun _=>(heap_alloc_new w _).trans (by simp [zX,gY]),by simp,by simp,fun _ hS=>vS _ (g.S1 _ hS),fun i hi=>absurd hi (dX _),fun i j x v hi=>absurd hi (dX _),fun _=>⟨Nat.one_pos,rfl,rfl,rfl,fun j x v hx=>by simp at hx⟩⟩
  ·rw [if_neg wR] at hx
   obtain ⟨pl,c',T',gV,ho⟩:=g.rep.ob k x hx
   exact ⟨pl,c',T',e.mu _ _ gV,ho.ext e (fun hc=>hold _ (gz (ho.cK hc))) ho.out⟩
 ·intro k k' x x' pl j9 fZ hx wT hp sw tC Jn
  rw [ba] at hx wT
  simp only [bZ] at hp sw
  by_cases h1:nk=k
  ·grind
  ·rw [if_neg h1] at hx
   rw [if_neg (fun h=>h1 h.symm)] at hp
   by_cases h2:nk=k'
   ·grind
   ·rw [if_neg h2] at wT
    rw [if_neg (fun h=>h2 h.symm)] at sw
    exact g.rep.ne k k' x x' pl j9 fZ hx wT hp sw tC Jn
 ·intro k x pl hx hp hc
  rw [ba] at hx
  simp only [bZ] at hp
  by_cases h1:nk=k
  ·rw [if_pos h1.symm] at hp
   cases hp
   exact .inr g.fr.size
  ·rw [if_neg h1] at hx
   rw [if_neg (fun h=>h1 h.symm)] at hp
   exact g.own k x pl hx hp hc
 ·simp only [bZ]
  rw [if_neg (by omega)]
  exact g.Eh k oQ
end Go.Ab
namespace Go.Ab
def bj:List Prop→Prop
 | []=>True
 | p :: ps=>p∧bj ps
theorem bj.app {a b:List Prop} (h:bj (a ++ b)):bj a∧bj b:=by
 induction a with
 | nil=>exact ⟨trivial,h⟩
 | cons p ps ih=>exact ⟨⟨h.1,(ih h.2).1⟩,(ih h.2).2⟩
def AV.strip:AV→AV×List Prop
 | .when b x=>(x.strip.1,(b=true) :: x.strip.2)
 | x=>(x,[])
theorem aq.strip {w:World} {S:Nat→Prop} {μ:Mu} {v:Value} {x:AV} (h:aq w S μ v x):bj x.strip.2→aq w S μ v x.strip.1:=by
 induction h with
 | when h1 _ ih=>exact fun hp=>ih hp.1 hp.2
 | atom v=>exact fun _=>.atom v
 | agg h1 h2 _=>exact fun _=>.agg h1 h2
 | tup h1 h2 _=>exact fun _=>.tup h1 h2
 | sl b off sz f h1 h2 h3 h4 h5 _=>exact fun _=>.sl b off sz f h1 h2 h3 h4 h5
 | rp b o f h1 h2 h3 _=>exact fun _=>.rp b o f h1 h2 h3
 | op pl h=>exact fun _=>.op pl h
 | os pl h h1 h2 h3=>exact fun _=>.os pl h h1 h2 h3
 | fn h1 h2 h3 h4 _ _=>exact fun _=>.fn h1 h2 h3 h4
 | mp pl h=>exact fun _=>.mp pl h
 | bn b h=>exact fun _=>.bn b h
 | pt h1 h2 _=>exact fun _=>.pt h1 h2
 | ov pl h h1=>exact fun _=>.ov pl h h1
 | B4 pl h h1 h2=>exact fun _=>.B4 pl h h1 h2
 | nq h h1 h2 _=>exact fun _=>.nq h h1 h2
 | nil=>exact fun _=>.nil
 | m9=>exact fun _=>.m9
 | mr=>exact fun _=>.mr
def AV.one:AV→Bool
 | .atom v=>match v with
  | .agg _ | .tuple _=>false
  | _=>true
 | .sl _ _ | .rp _ _ | .op _ _ _ | .os _ _ _ | .fn _ _ _ | .mp _ | .bn _ | .pt _ _ | .nil=>true
 | .nq _ x=>x.one
 | _=>false
theorem aq.Ia {w:World} {S:Nat→Prop} {μ:Mu} {v:Value} {x:AV} (h:aq w S μ v x) (hx:x.one=true):v.oneCell'=true:=by
 induction h with
 | atom v=>cases v<;>simp_all [AV.one,Value.oneCell']
 | nq _ _ _ ih=>grind [AV.one]
 | @pt μ b cs v h1 h2 _ =>
  cases b with
  | false=>rw [h2 rfl];rfl
  | true=>have:=h1 rfl;cases this;rfl
 | _=>first | rfl | (simp [AV.one] at hx;done)
def AV.iP:List AV→Bool
 | []=>true
 | c :: cs=>c.one && AV.iP cs
theorem EH {cs:List AV} (h:AV.iP cs=true) {j:Nat} {c:AV} (hc:cs[j]?=some c):c.one=true:=by
 induction cs generalizing j with
 | nil=>simp at hc
 | cons x xs ih =>
  simp only [AV.iP,bh] at h
  grind
def AV.cells:AV→Option (List AV)
 | .agg cs=>some cs
 | .atom v=>match v with
  | .agg _ | .tuple _=>none
  | v=>some [.atom v]
 | .sl n g=>some [.sl n g]
 | .rp c o=>some [.rp c o]
 | .op k i j=>some [.op k i j]
 | .os k o n=>some [.os k o n]
 | .fn f a b=>some [.fn f a b]
 | .mp k=>some [.mp k]
 | .bn n=>some [.bn n]
 | .pt b cs=>some [.pt b cs]
 | .nq st x=>match x.one with
  | true=>some [.nq st x]
  | false=>none
 | .nil=>some [.nil]
 | _=>none
theorem Ny {v:Value} (h:v.oneCell'=true):v.cells=#[v]:=by
 cases v<;>simp_all [Value.oneCell',Value.cells]
theorem aq.cells {w:World} {S:Nat→Prop} {μ:Mu} {v:Value} {x:AV} (h:aq w S μ v x) {cs:List AV} (hc:x.cells=some cs) :
  v.cells.size=cs.length∧∀ (j:Nat) (c:AV) (u:Value),cs[j]?=some c→v.cells[j]?=some u→aq w S μ u c:=by
 have one:∀ {x:AV},aq w S μ v x→x.one=true→cs=[x]→v.cells.size=cs.length∧∀ (j:Nat) (c:AV) (u:Value),cs[j]?=some c→v.cells[j]?=some u→aq w S μ u c:=by
  intro x h h1 h2
  rw [Ny (h.Ia h1),h2]
  refine ⟨rfl,?_⟩
  intro j c u hj hu
  cases j with
  | zero=>simp_all
  | succ j=>simp at hj
 cases x with
 | agg l =>
  cases hc
  cases h with
  | agg h1 h2=>exact ⟨h1,fun j c u hj hu=>h2 j c u hj hu⟩
 | atom u =>
  have hu:(AV.atom u).one=true:=by cases u<;>simp_all [AV.cells,AV.one]
  exact one h hu (by cases u<;>simp_all [AV.cells])
 | sl=>exact one h rfl (by grind [AV.cells])
 | rp=>exact one h rfl (by grind [AV.cells])
 | op=>exact one h rfl (by grind [AV.cells])
 | os=>exact one h rfl (by grind [AV.cells])
 | fn=>exact one h rfl (by grind [AV.cells])
 | mp=>exact one h rfl (by grind [AV.cells])
 | bn=>exact one h rfl (by grind [AV.cells])
 | pt=>exact one h rfl (by grind [AV.cells])
 | nq st x =>
  simp only [AV.cells] at hc
  split at hc
  ·rename_i h1;exact one h (by simpa [AV.one] using h1) (Option.some.inj hc).symm
  ·cases hc
 | nil=>exact one h rfl (by grind [AV.cells])
 | _=>simp [AV.cells] at hc
def fS:Value→AV
 | .slice none 0 0=>.nil
 | .func f vs ws=>if vs.size=0∧ws.size=0 then .fn f [] [] else .atom (.func f vs ws)
 | v=>.atom v
def ofConst:Value→AV
 | .agg vs=>.agg (vs.toList.map fS)
 | .tuple vs=>.tup (vs.toList.map fS)
 | v=>fS v
theorem z4 (w:World) (S:Nat→Prop) (μ:Mu) (v:Value):aq w S μ v (fS v):=by
 unfold fS
 split
 ·exact .nil
 ·split
  ·rename_i h
   exact .fn (by simpa using h.1) (by simpa using h.2) (fun j c v hc=>by simp at hc) (fun j c v hc=>by simp at hc)
  ·exact .atom _
 ·exact .atom _
theorem He (w:World) (S:Nat→Prop) (μ:Mu) (v:Value):aq w S μ v (ofConst v):=by
 have f:∀ (vs:Array Value) (j:Nat) (c:AV) (u:Value),(vs.toList.map fS)[j]?=some c→vs[j]?=some u→aq w S μ u c:=by
  intro vs j c u hc hu
  have Yt:vs.toList[j]?=some u:=by simpa using hu
  rw [List.getElem?_map,Yt] at hc
  simp at hc
  exact hc ▸ z4 w S μ u
 unfold ofConst
 split
 ·exact .agg (by simp) (f _)
 ·exact .tup (by simp) (f _)
 ·exact z4 w S μ _
def tD (P:Program) (t:TypeId):Option Nat:=(P.info? t).map (·.size)
def vV (P:Program) (t:TypeId):Option Nat:=(P.info? t).map (·.bytes)
def rN (P:Program) (t:TypeId):Option Value:=(P.info? t).bind (·.zero)
theorem eI {P:Program} {t n:Nat} (h:tD P t=some n) (w:World):(sizeOf t).run P w=.ok n w:=by
 unfold tD at h
 cases hi:P.info? t with
 | none=>simp [hi] at h
 | some i=>simp_all [sizeOf,typeInfo]
theorem Hf {P:Program} {t:Nat} {z:Value} (h:rN P t=some z) (w:World):(zeroValue t).run P w=.ok z w:=by
 unfold rN at h
 cases hi:P.info? t with
 | none=>simp [hi] at h
 | some i=>simp_all [zeroValue,typeInfo]
theorem vW {P:Program} {t n b:Nat} {z:Value} (h:tD P t=some n) (hb:vV P t=some b) (hz:rN P t=some z) :
  ∃ i,P.info? t=some i∧i.size=n∧i.bytes=b∧i.zero=some z:=by
 unfold tD at h;unfold vV at hb;unfold rN at hz
 cases hi:P.info? t with
 | none=>simp [hi] at h
 | some i=>simp_all
def TD (op:BinOp) (k:IntKind) (a b:Int):Option (List Prop×AV) :=
 match op with
 | .add=>some ([],.atom (.int k (k.wrap (a+b))))
 | .sub=>some ([],.atom (.int k (k.wrap (a - b))))
 | .mul=>some ([],.atom (.int k (k.wrap (a * b))))
 | .quo=>some ([b≠0],.atom (.int k (k.wrap (a.tdiv b))))
 | .rem=>some ([b≠0],.atom (.int k (a.tmod b)))
 | .and=>some ([],.atom (.int k (k.wrap (BitVec.ofInt k.bits a &&& BitVec.ofInt k.bits b).toNat)))
 | .or=>some ([],.atom (.int k (k.wrap (BitVec.ofInt k.bits a ||| BitVec.ofInt k.bits b).toNat)))
 | .xor=>some ([],.atom (.int k (k.wrap (BitVec.ofInt k.bits a ^^^ BitVec.ofInt k.bits b).toNat)))
 | .andNot=>some ([],.atom (.int k (k.wrap (BitVec.ofInt k.bits a &&& ~~~BitVec.ofInt k.bits b).toNat)))
 | .eql=>some ([],.atom (.bool (a == b)))
 | .neq=>some ([],.atom (.bool (a != b)))
 | .lss=>some ([],.atom (.bool (decide (a < b))))
 | .leq=>some ([],.atom (.bool (decide (a≤b))))
 | .gtr=>some ([],.atom (.bool (decide (a > b))))
 | .geq=>some ([],.atom (.bool (decide (a≥b))))
 | _=>none
def Ei (op:BinOp) (k:IntKind) (a b:Int):Option (List Prop×AV) :=
 match op with
 | .shl=>some ([0≤b],.atom (.int k (k.wrap (a * 2 ^ (min b.toNat k.bits)))))
 | .shr=>some ([0≤b],.atom (.int k (a.fdiv (2 ^ (min b.toNat k.bits)))))
 | _=>none
def lF (a b:ByteArray):Bool:=a.toList == b.toList
def TE (op:BinOp) (a b:ByteArray):Option (List Prop×AV) :=
 match op with
 | .eql=>some ([],.atom (.bool (lF a b)))
 | .neq=>some ([],.atom (.bool (!lF a b)))
 | .lss=>some ([],.atom (.bool (Op.bytesLess a.toList b.toList)))
 | .leq=>some ([],.atom (.bool (Op.bytesLess a.toList b.toList || lF a b)))
 | .gtr=>some ([],.atom (.bool (!(Op.bytesLess a.toList b.toList || lF a b))))
 | .geq=>some ([],.atom (.bool (!Op.bytesLess a.toList b.toList)))
 | .add=>some ([((a.size+b.size:Nat):Int)≤IntKind.i64.max],.atom (.string (a ++ b)))
 | _=>none
def kb (P:Program) (t:TypeId) (cs:List AV) (off:Nat):Option AV :=
 match P.underlying t,tD P t with
 | some d,some n=>match d.isRow with
  | true=>some (.agg ((cs.drop off).take n))
  | false=>cs[off]?
 | _,_=>none
theorem kc {P:Program} {w:World} {S:Nat→Prop} {μ:Mu} {vs:Array Value} {cs:List AV} (hs:vs.size=cs.length)
  (h:∀ (j:Nat) (c:AV) (v:Value),cs[j]?=some c→vs[j]?=some v→aq w S μ v c) {t off:Nat} {x:AV} (hx:kb P t cs off=some x)
  (hle:∀ n,tD P t=some n→off+n≤cs.length) :
  ∃ v,(part t vs off).run P w=.ok v w∧aq w S μ v x:=by
 unfold kb at hx
 cases hu:P.underlying t with
 | none=>simp [hu] at hx
 | some d =>
  cases hn:tD P t with
  | none=>simp [hu,hn] at hx
  | some n =>
   have abU:=hle n hn
   cases hd:d.isRow with
   | true =>
    simp [hu,hn,hd] at hx
    have Nz:(isAgg t).run P w=.ok true w:=by
     unfold isAgg
     rw [bH,run_underlying hu w]
     cases d<;>simp_all
    refine ⟨.agg (vs.extract off (off+n)),by simp [part,Nz,eI hn],?_⟩
    rw [← hx]
    refine .agg (by simp;omega) ?_
    grind
   | false =>
    simp [hu,hn,hd] at hx
    have Nz:(isAgg t).run P w=.ok false w:=by
     unfold isAgg
     rw [bH,run_underlying hu w]
     cases d<;>simp_all
    have gS:off < vs.size:=by rw [hs];exact (dJ.1 hx).1
    refine ⟨vs[off],by simp [part,Nz,jG gS],?_⟩
    exact h off x _ hx (jG gS)
mutual
def Cb (P:Program):Nat→TypeId→AV→AV→Option Bool
 | 0,_,_,_=>none
 | d+1,t,x,y =>
  match P.underlying t with
  | some .bool=>match x,y with
   | .atom (.bool a),.atom (.bool b)=>some (a == b)
   | _,_=>none
  | some (.int _)=>match x,y with
   | .atom (.int k a),.atom (.int k' b)=>match decide (k=k') with
    | true=>some (a == b)
    | false=>none
   | _,_=>none
  | some .string=>match x,y with
   | .atom (.string a),.atom (.string b)=>some (lF a b)
   | _,_=>none
  | some (.struct fs)=>match x,y with
   | .agg xs,.agg ys=>match P.stoodInHeld t with
    | false=>EI P d xs ys fs.toList
    | true=>none
   | _,_=>none
  | some (.array n e)=>match x,y,tD P e with
   | .agg xs,.agg ys,some m=>zL P d e m xs ys 0 n
   | _,_,_=>none
  | _=>none
def EI (P:Program):Nat→List AV→List AV→List Field→Option Bool
 | _,_,_,[]=>some true
 | 0,_,_,_=>none
 | d+1,xs,ys,f :: fs =>
  match decide (f.name = "_"),tD P f.type with
  | false,some n=>match Nat.ble (f.offset+n) xs.length && Nat.ble (f.offset+n) ys.length,kb P f.type xs f.offset,kb P f.type ys f.offset with
   | true,some a,some b=>match Cb P d f.type a b,EI P d xs ys fs with
    | some p,some q=>some (p && q)
    | _,_=>none
   | _,_,_=>none
  | _,_=>none
def zL (P:Program):Nat→TypeId→Nat→List AV→List AV→Nat→Nat→Option Bool
 | _,_,_,_,_,_,0=>some true
 | 0,_,_,_,_,_,_=>none
 | d+1,e,m,xs,ys,i,n+1 =>
  match Nat.ble (i * m+m) xs.length && Nat.ble (i * m+m) ys.length,kb P e xs (i * m),kb P e ys (i * m) with
  | true,some a,some b=>match Cb P d e a b,zL P d e m xs ys (i+1) n with
   | some p,some q=>some (p && q)
   | _,_=>none
  | _,_,_=>none
end
end Go.Ab
namespace Go.Ab
theorem cY {w:World} {S:Nat→Prop} {μ:Mu} {v u:Value} (h:aq w S μ v (.atom u)):v=u:=by cases h;rfl
theorem nL {w:World} {S:Nat→Prop} {μ:Mu} {v:Value} {cs:List AV} (h:aq w S μ v (.agg cs)) :
  ∃ vs:Array Value,v=.agg vs∧vs.size=cs.length∧∀ (j:Nat) (c:AV) (u:Value),cs[j]?=some c→vs[j]?=some u→aq w S μ u c:=by
 cases h with
 | agg h1 h2=>grind
section
variable {P:Program} {w:World} {S:Nat→Prop} {μ:Mu}
theorem JB {t:TypeId} {fs:Array Field} (h:P.underlying t=some (.struct fs)):P.fieldsOf t=fs:=by
 simp [Program.fieldsOf,h]
theorem JC:∀ d:Nat,
  (∀ D t x y v u b,d≤D→aq w S μ v x→aq w S μ u y→Cb P d t x y=some b→(Op.equalIn D t v u).run P w=.ok b w) ∧
  (∀ D (vs us:Array Value) xs ys fs b,d≤D→vs.size=xs.length→(∀ (j:Nat) c z,xs[j]?=some c→vs[j]?=some z→aq w S μ z c)→us.size=ys.length →
   (∀ (j:Nat) c z,ys[j]?=some c→us[j]?=some z→aq w S μ z c)→EI P d xs ys fs=some b→(Op.eqFields D vs us fs).run P w=.ok b w) ∧
  (∀ D (vs us:Array Value) e m xs ys i n b,d≤D→tD P e=some m→vs.size=xs.length→(∀ (j:Nat) c z,xs[j]?=some c→vs[j]?=some z→aq w S μ z c)→us.size=ys.length →
   (∀ (j:Nat) c z,ys[j]?=some c→us[j]?=some z→aq w S μ z c)→zL P d e m xs ys i n=some b →
   (forIn (m:=Sem) (List.range' i n) ((none,()):Option Bool×Unit) fun i _=>do
      let p ← part e vs (i * m)
      let q ← part e us (i * m)
      let r ← Op.equalIn D e p q
      if (!r)=true then pure (ForInStep.done (some false,())) else pure (ForInStep.yield (none,()))).run P w=.ok (if b then none else some false,()) w):=by
 intro d
 induction d with
 | zero =>
  refine ⟨fun D t x y v u b _ _ _ h=>by simp [Cb] at h,?_,?_⟩
  ·intro D vs us xs ys fs b _ _ _ _ _ h
   cases fs with
   | nil=>simp_all [EI,Op.eqFields]
   | cons f fs=>simp [EI] at h
  ·intro D vs us e m xs ys i n b _ _ _ _ _ _ h
   cases n with
   | zero=>simp_all [zL]
   | succ n=>simp [zL] at h
 | succ d ih =>
  obtain ⟨Nv,Nw,ih3⟩:=ih
  refine ⟨?_,?_,?_⟩
  ·intro D t x y v u b hD hx hy h
   obtain ⟨D,rfl⟩:∃ D',D=D'+1:=⟨D - 1,by omega⟩
   simp only [Cb] at h
   split at h
   ·rename_i hu
    split at h
    ·cases hx;cases hy
     simp at h;subst h
     simp [Op.equalIn,run_underlying hu]
    ·cases h
   ·rename_i hu
    split at h
    ·rename_i k a k' b'
     cases hx;cases hy
     by_cases hk:k=k'
     ·simp [hk] at h;subst h
      simp [Op.equalIn,run_underlying hu,hk]
     ·simp [hk] at h
    ·cases h
   ·rename_i hu
    split at h
    ·cases hx;cases hy
     simp at h;subst h
     rw [run_equalIn_string w D t _ _ hu];rfl
    ·cases h
   ·rename_i fs hu
    split at h
    ·split at h
     ·rename_i AP
      obtain ⟨vs,rfl,GH,Dy⟩:=nL hx
      obtain ⟨us,rfl,NA,JD⟩:=nL hy
      have hf:=JB hu
      rw [run_equalIn_struct w D t vs us (hf ▸ hu) AP,hf]
      exact Nw D vs us _ _ _ b (by omega) GH Dy NA JD h
     ·cases h
    ·cases h
   ·rename_i n e hu
    split at h
    ·rename_i m hm
     obtain ⟨vs,rfl,GH,Dy⟩:=nL hx
     obtain ⟨us,rfl,NA,JD⟩:=nL hy
     simp only [Op.equalIn,bH,run_underlying hu,cX,eI hm]
     rw [Std.Legacy.Range.forIn_eq_forIn_range']
     simp only [Std.Legacy.Range.size,Nat.sub_zero,Nat.add_sub_cancel,Nat.div_one]
     rw [ih3 D vs us e m _ _ 0 n b (by omega) hm GH Dy NA JD h]
     cases b<;>simp
    ·cases h
   ·cases h
  ·intro D vs us xs ys fs b hD GH Dy NA JD h
   cases fs with
   | nil=>simp [EI] at h;subst h;simp [Op.eqFields]
   | cons f fs =>
    simp only [EI] at h
    split at h
    ·rename_i n We hn
     split at h
     ·rename_i a c hle ha hc
      split at h
      ·rename_i p q hp hq
       simp only [bh,Nat.ble_eq] at hle
       have Ul:∀ n',tD P f.type=some n'→f.offset+n'≤xs.length:=fun n' h'=>by rw [hn] at h';cases h';exact hle.1
       have K3:∀ n',tD P f.type=some n'→f.offset+n'≤ys.length:=fun n' h'=>by rw [hn] at h';cases h';exact hle.2
       obtain ⟨v1,r1,x1⟩:=kc GH Dy ha Ul
       obtain ⟨v2,r2,x2⟩:=kc NA JD hc K3
       have e1:=Nv D f.type a c v1 v2 p (by omega) x1 x2 hp
       have e2:=Nw D vs us xs ys fs q (by omega) GH Dy NA JD hq
       have fZ:f.name≠ "_":=rV We
       simp at h;subst h
       simp only [Op.eqFields,if_pos fZ,bH,r1,r2,e1,cX]
       cases p
       ·simp
       ·simp [e2]
      ·cases h
     ·cases h
    ·cases h
  ·intro D vs us e m xs ys i n b hD hm GH Dy NA JD h
   cases n with
   | zero=>simp [zL] at h;subst h;simp
   | succ n =>
    simp only [zL] at h
    split at h
    ·rename_i a c hle ha hc
     split at h
     ·rename_i p q hp hq
      simp only [bh,Nat.ble_eq] at hle
      have Ul:∀ n',tD P e=some n'→i * m+n'≤xs.length:=fun n' h'=>by rw [hm] at h';cases h';exact hle.1
      have K3:∀ n',tD P e=some n'→i * m+n'≤ys.length:=fun n' h'=>by rw [hm] at h';cases h';exact hle.2
      obtain ⟨v1,r1,x1⟩:=kc GH Dy ha Ul
      obtain ⟨v2,r2,x2⟩:=kc NA JD hc K3
      have e1:=Nv D e a c v1 v2 p (by omega) x1 x2 hp
      have e2:=ih3 D vs us e m xs ys (i+1) n q (by omega) hm GH Dy NA JD hq
      simp at h;subst h
      rw [List.range'_succ,List.forIn_cons]
      simp only [bH,r1,r2,e1,cX]
      cases p
      ·simp
      ·simpa using e2
     ·cases h
    ·cases h
def EJ (o:BinOp) (q:Bool):Option AV :=
 match o with
 | .eql=>some (.atom (.bool q))
 | .neq=>some (.atom (.bool (!q)))
 | _=>none
def OP:AV→Bool
 | .atom v=>match v with
  | .pointer none=>true
  | _=>false
 | _=>false
def OQ (P:Program) (o:BinOp) (t:TypeId) (x y:AV):Option AV :=
 match P.underlying t,y with
 | some (.slice _),.nil=>match x with
  | .nil=>EJ o true
  | .sl n _ | .os _ _ n=>match o with
   | .eql=>some (.bn n)
   | _=>none
  | _=>none
 | some (.pointer _),y=>match OP y with
  | true=>match x with
   | .atom v=>match v with
    | .pointer none=>EJ o true
    | _=>none
   | .rp _ _ | .op _ _ _=>EJ o false
   | .pt b _=>EJ o (!b)
   | _=>none
  | false=>none
 | _,_=>none
theorem oc (op:BinOp) (t:TypeId) (x y:Operand) (a b:Value) (h1:a≠.nilIface) (h2:∀ c,a≠.agg c):(eqGuard op t x y a b).run P w=.ok () w:=by
 simp_all [eqGuard]
theorem Mj {o:BinOp} {t:TypeId} {a b:Option Addr} {l c l' c':Nat} {q:Bool} (h:(Op.equal t (.slice a l c) (.slice b l' c')).run P w=.ok q w) {r:AV} (hr:EJ o q=some r):∃ z,(binOp o t (.slice a l c) (.slice b l' c')).run P w=.ok z w∧aq w S μ z r:=by
 cases o<;>simp only [EJ,az,reduceCtorEq] at hr<;>subst hr
 ·exact ⟨.bool q,by simp_all [binOp,bH],.atom _⟩
 ·exact ⟨.bool (!q),by simp_all [binOp,bH],.atom _⟩
theorem AS {o:BinOp} {t:TypeId} {a:Option Addr} {q:Bool} (h:(Op.equal t (.pointer a) (.pointer none)).run P w=.ok q w) {r:AV} (hr:EJ o q=some r):∃ z,(binOp o t (.pointer a) (.pointer none)).run P w=.ok z w∧aq w S μ z r:=by
 cases o<;>simp only [EJ,az,reduceCtorEq] at hr<;>subst hr
 ·exact ⟨.bool q,by simp_all [binOp,bH],.atom _⟩
 ·exact ⟨.bool (!q),by simp_all [binOp,bH],.atom _⟩
theorem Um {op:BinOp} {t:TypeId} {x y:AV} {xo yo:Operand} {v u:Value} (hx:aq w S μ v x) (hy:aq w S μ u y) {r:AV} (h:OQ P op t x y=some r) :
  ∃ z,(do eqGuard op t xo yo v u;binOp op t v u:Sem Value).run P w=.ok z w∧aq w S μ z r:=by
 have gd:∀ (v u:Value),v≠.nilIface→(∀ c,v≠.agg c)→(∃ z,(binOp op t v u).run P w=.ok z w∧aq w S μ z r)→∃ z,(do eqGuard op t xo yo v u;binOp op t v u:Sem Value).run P w=.ok z w∧aq w S μ z r:=by
  intro v u h1 h2 h3
  have hg:=oc (P:=P) (w:=w) op t xo yo v u h1 h2
  simpa only [bH,hg,cX] using h3
 unfold OQ at h
 split at h
 ·rename_i e ht
  cases hy
  have sl:∀ (a:Option Addr) (l c:Nat),(Op.equal t (.slice a l c) (.slice none 0 0)).run P w=.ok a.isNone w:=by
   intro a l c
   unfold Op.equal Op.maxDepth Op.equalIn
   rw [bH,run_underlying ht]
   cases a<;>rfl
  split at h
  ·cases hx
   exact gd _ _ (by simp) (by simp) (Mj (sl none 0 0) h)
  ·split at h
   ·cases h
    cases hx with
    | sl b off sz f h1 h2 h3 h4 h5 =>
     rename_i a cap
     refine gd _ _ (by simp) (by simp) ⟨.bool a.isNone,?_,.bn _ fun hn=>?_⟩
     ·simp only [binOp,bH,sl];rfl
     ·refine Nat.eq_zero_of_not_pos fun h0=>?_
      rw [(h1 h0).1] at hn;cases hn
   ·cases h
  ·split at h
   ·cases h
    cases hx with
    | os pl hm h1 h2 h3 =>
     rename_i cap a
     refine gd _ _ (by simp) (by simp) ⟨.bool a.isNone,?_,.bn _ fun hn=>?_⟩
     ·simp only [binOp,bH,sl];rfl
     ·refine Nat.eq_zero_of_not_pos fun h0=>?_
      rw [h1 (by omega)] at hn;cases hn
   ·cases h
  ·cases h
 ·rename_i e ht
  split at h
  ·rename_i Ro
   have hu:u=.pointer none:=by
    unfold OP at Ro
    split at Ro
    ·split at Ro
     ·exact cY hy
     ·cases Ro
    ·cases Ro
   subst hu
   have pt:∀ (a:Option Addr),(Op.equal t (.pointer a) (.pointer none)).run P w=.ok a.isNone w:=by
    intro a
    unfold Op.equal Op.maxDepth Op.equalIn
    rw [bH,run_underlying ht]
    cases a<;>rfl
   split at h
   ·split at h
    ·have:=cY hx;subst this
     exact gd _ _ (by simp) (by simp) (AS (pt none) h)
    ·cases h
   ·cases hx
    exact gd _ _ (by simp) (by simp) (AS (pt (some _)) h)
   ·cases hx
    exact gd _ _ (by simp) (by simp) (AS (pt (some _)) h)
   ·rename_i b cs
    cases hx with
    | pt h1 h2 =>
     cases b with
     | true =>
      have:=h1 rfl
      cases this
      exact gd _ _ (by simp) (by simp) (AS (pt (some _)) h)
     | false =>
      rw [h2 rfl]
      exact gd _ _ (by simp) (by simp) (AS (pt none) h)
   ·cases h
  ·cases h
 ·cases h
def Wf:Option Bool→Bool
 | some b=>b
 | none=>false
theorem TF {op:BinOp} {t e:TypeId} {st:Option Bool} {x:AV} {xo yo:Operand} {v u:Value} (ht:P.underlying t=some (.slice e)) (hx:aq w S μ v (.nq st x)) (hy:aq w S μ u .nil) {n:Nat}
  (hs:∃ a c,v=.slice a n c∧(0 < n→a.isNone=false)) (hn:st=none→0 < n) {r:AV} (h:EJ op (Wf st)=some r) :
  ∃ z,(do eqGuard op t xo yo v u;binOp op t v u:Sem Value).run P w=.ok z w∧aq w S μ z r:=by
 obtain ⟨a,c,rfl,ha⟩:=hs
 cases hy
 have hq:a.isNone=Wf st:=by
  cases hx with
  | nq _ h1 h2 =>
   cases st with
   | none=>exact ha (hn rfl)
   | some b=>cases b with
    | true=>have:=h1 rfl;injection this with e1;subst e1;rfl
    | false=>have:=h2 rfl;cases a with
     | none=>cases this
     | some a=>rfl
 have hg:=oc (P:=P) (w:=w) op t xo yo (.slice a n c) (.slice none 0 0) (by simp) (by simp)
 have he:(Op.equal t (.slice a n c) (.slice none 0 0)).run P w=.ok (Wf st) w:=by
  rw [← hq]
  unfold Op.equal Op.maxDepth Op.equalIn
  rw [bH,run_underlying ht]
  cases a<;>rfl
 obtain ⟨z,h1,h2⟩:=Mj (S:=S) (μ:=μ) he h
 exact ⟨z,by simpa only [bH,hg,cX] using h1,h2⟩
def OS (P:Program) (op:BinOp) (t:TypeId) (x y:AV):Option (List Prop×AV) :=
 match x,y with
 | .atom (.int k a),.atom (.int k' b)=>match op with
  | .shl=>Ei .shl k a b
  | .shr=>Ei .shr k a b
  | op=>match decide (k=k') with
   | true=>TD op k a b
   | false=>none
 | .atom (.string a),.atom (.string b)=>TE op a b
 | .atom (.bool _),.atom (.bool _)=>match op with
  | .eql=>(Cb P 1 t x y).map fun b=>([],.atom (.bool b))
  | .neq=>(Cb P 1 t x y).map fun b=>([],.atom (.bool (!b)))
  | _=>none
 | .agg _,.agg _=>match P.eqGuardType P.depth t with
  | false=>match op with
   | .eql=>(Cb P 60 t x y).map fun b=>([],.atom (.bool b))
   | .neq=>(Cb P 60 t x y).map fun b=>([],.atom (.bool (!b)))
   | _=>none
  | true=>none
 | .nq st x,.nil=>match P.underlying t,x with
  | some (.slice _),.sl n _=>(EJ op (Wf st)).map fun v=>([st=none→0 < n],v)
  | some (.slice _),.os _ _ n=>(EJ op (Wf st)).map fun v=>([st=none→0 < n],v)
  | _,_=>none
 | x,y=>(OQ P op t x y).map fun v=>([],v)
theorem Un {op:BinOp} {t:TypeId} {x y:AV} {xo yo:Operand} {v u:Value} (hx:aq w S μ v x) (hy:aq w S μ u y) {ps:List Prop} {r:AV} (h:OS P op t x y=some (ps,r)) (hp:bj ps) :
  ∃ z,(do eqGuard op t xo yo v u;binOp op t v u:Sem Value).run P w=.ok z w∧aq w S μ z r:=by
 unfold OS at h
 split at h
 ·rename_i k a k' b
  have:=cY hx;subst this
  have:=cY hy;subst this
  have hg:=oc (P:=P) (w:=w) op t xo yo (.int k a) (.int k' b) (by simp) (by simp)
  simp only [bH,hg,cX]
  have sh:∀ o,(o=.shl∨o=.shr)→Ei o k a b=some (ps,r)→∃ z,(binOp o t (.int k a) (.int k' b)).run P w=.ok z w∧aq w S μ z r:=by
   intro o ho h
   rcases ho with rfl | rfl<;>simp only [Ei,az,ay] at h<;>obtain ⟨rfl,rfl⟩:=h <;>
    (have h0:¬ b < 0:=by have:=hp.1;omega)<;>exact ⟨_,by simp [binOp,Op.shift,h0],.atom _⟩
  split at h
  ·exact sh .shl (.inl rfl) h
  ·exact sh .shr (.inr rfl) h
  ·rename_i n1 n2
   split at h
   ·rename_i hk
    have hk:=qC hk
    subst hk
    cases op<;>simp only [TD,az,ay,reduceCtorEq] at h <;>
     first
      | exact absurd rfl n1
      | exact absurd rfl n2
      | (obtain ⟨rfl,rfl⟩:=h
         exact ⟨_,by
         first
          | (simp [binOp,Op.intArith];done)
          | (have hb:¬ b=0:=hp.1
             simp [binOp,Op.intDiv,hb];done)
          | (simp [binOp,Op.intBits];done)
          | (simp [binOp,Op.intCmp];done),.atom _⟩)
   ·cases h
 ·rename_i a b
  have:=cY hx;subst this
  have:=cY hy;subst this
  have hg:=oc (P:=P) (w:=w) op t xo yo (.string a) (.string b) (by simp) (by simp)
  simp only [bH,hg,cX]
  cases op<;>simp only [TE,az,ay,reduceCtorEq] at h<;>obtain ⟨rfl,rfl⟩:=h
  ·have h0:¬ ((a.size+b.size:Nat):Int) > IntKind.i64.max:=by have:=hp.1;omega
   exact ⟨_,by simp only [binOp,Op.stringOp,if_neg h0];rfl,.atom _⟩
  all_goals exact ⟨_,by simp only [binOp,Op.stringOp];rfl,.atom _⟩
 ·rename_i a b
  have:=cY hx;subst this
  have:=cY hy;subst this
  have hg:=oc (P:=P) (w:=w) op t xo yo (.bool a) (.bool b) (by simp) (by simp)
  simp only [bH,hg,cX]
  split at h
  ·simp only [aL,ay] at h
   obtain ⟨q,hq,rfl,rfl⟩:=h
   have:=(JC (w:=w) (S:=S) (μ:=μ) 1).1 10000 t _ _ _ _ q (by omega) hx hy hq
   exact ⟨_,by simp only [binOp,Op.equal,Op.maxDepth,bH,this];rfl,.atom _⟩
  ·simp only [aL,ay] at h
   obtain ⟨q,hq,rfl,rfl⟩:=h
   have:=(JC (w:=w) (S:=S) (μ:=μ) 1).1 10000 t _ _ _ _ q (by omega) hx hy hq
   exact ⟨_,by simp only [binOp,Op.equal,Op.maxDepth,bH,this];rfl,.atom _⟩
  ·cases h
 ·split at h
  ·rename_i Uo
   obtain ⟨vs,rfl,GH,Dy⟩:=nL hx
   obtain ⟨us,rfl,NA,JD⟩:=nL hy
   have hg:=run_eqGuard_agg (P:=P) w op t xo yo vs us Uo
   simp only [bH,hg,cX]
   split at h
   ·simp only [aL,ay] at h
    obtain ⟨q,hq,rfl,rfl⟩:=h
    have:=(JC (w:=w) (S:=S) (μ:=μ) 60).1 10000 t _ _ _ _ q (by omega) hx hy hq
    exact ⟨_,by rw [run_eql_struct,this];rfl,.atom _⟩
   ·simp only [aL,ay] at h
    obtain ⟨q,hq,rfl,rfl⟩:=h
    have:=(JC (w:=w) (S:=S) (μ:=μ) 60).1 10000 t _ _ _ _ q (by omega) hx hy hq
    exact ⟨_,by rw [run_neq_struct,this];rfl,.atom _⟩
   ·cases h
  ·cases h
 ·split at h
  ·rename_i e n g ht
   simp only [aL,ay] at h
   obtain ⟨q,hq,rfl,rfl⟩:=h
   refine TF ht hx hy (n:=n) ?_ hp.1 hq
   cases hx with
   | nq h0 _ _=>cases h0 with
    | sl b off sz f h1 h2 h3 h4 h5=>exact ⟨_,_,rfl,fun hn=>by rw [(h1 hn).1];rfl⟩
  ·rename_i e k o n ht
   simp only [aL,ay] at h
   obtain ⟨q,hq,rfl,rfl⟩:=h
   refine TF ht hx hy (n:=n) ?_ hp.1 hq
   cases hx with
   | nq h0 _ _=>cases h0 with
    | os pl hm h1 h2 h3=>exact ⟨_,_,rfl,fun hn=>by rw [h1 (by omega)];rfl⟩
  ·cases h
 ·simp only [aL,ay] at h
  obtain ⟨q,hq,rfl,rfl⟩:=h
  exact Um hx hy hq
def Uq (op:UnOp) (x:AV):Option AV :=
 match op,x with
 | .neg,.atom (.int k n)=>some (.atom (.int k (k.wrap (0 - n))))
 | .not,.atom (.bool b)=>some (.atom (.bool (!b)))
 | _,_=>none
theorem Wg {op:UnOp} {x:AV} {v:Value} (hx:aq w S μ v x) {r:AV} (h:Uq op x=some r):∃ z,(Op.unary op v).run P w=.ok z w∧aq w S μ z r:=by
 unfold Uq at h
 split at h<;>cases h<;>(have:=cY hx;subst this)
 ·exact ⟨_,by rfl,.atom _⟩
 ·exact ⟨_,by simp [Op.unary],.atom _⟩
def K4 (P:Program) (src dst:TypeId) (x:AV):Option AV :=
 match P.underlying src,P.underlying dst,x with
 | some _,some (.int k),.atom (.int _ n)=>some (.atom (.int k (k.wrap n)))
 | some _,some .string,.atom (.string s)=>some (.atom (.string s))
 | _,_,_=>none
theorem RF {src dst:TypeId} {x:AV} {v:Value} (hx:aq w S μ v x) {r:AV} (h:K4 P src dst x=some r):∃ z,(convert src dst v).run P w=.ok z w∧aq w S μ z r:=by
 unfold K4 at h
 split at h
 ·rename_i h1 h2
  cases h;have:=cY hx;subst this
  exact ⟨_,by simp_all [convert,run_underlying,Conv.intToInt],.atom _⟩
 ·rename_i h1 h2
  cases h;have:=cY hx;simp_all [convert,run_underlying]
 ·cases h
end
end Go.Ab
namespace Go.Ab
abbrev rO:=List (Nat×Option Ob)
def Step (P:Program) (E:Env) (nk:Nat) (σ:dw) (S:Nat→Prop) (μ:Mu) (w:World) (s:Sem Value) (val:AV) (ml:rO):Prop :=
 ∃ v w' S' dn,s.run P w=.ok v w'∧Ext w S μ w' S' dn∧Good E (fA σ ml) S' dn w'∧(∀ k,k≠nk→μ k=none→dn k=none)∧aq w' S' dn v val
def RL (w:World) (S:Nat→Prop) (μ:Mu) (vs:Array Value) (cs:List AV):Prop :=
 vs.size=cs.length∧∀ (j:Nat) (c:AV) (v:Value),cs[j]?=some c→vs[j]?=some v→aq w S μ v c
section
variable {P:Program} {E:Env} {nk:Nat} {σ:dw} {S:Nat→Prop} {μ:Mu} {w:World}
theorem Step.pure (g:Good E σ S μ w) {s:Sem Value} {v:Value} {val:AV} (h:s.run P w=.ok v w) (hr:aq w S μ v val):Step P E nk σ S μ w s val [] :=
 ⟨v,w,S,μ,h,Ext.refl w S μ,g,fun _ _ h=>h,hr⟩
theorem RL.mk' {vs:Array Value} {cs:List AV} (h:RL w S μ vs cs):aq w S μ (.agg vs) (.agg cs):=.agg h.1 h.2
theorem RL.pr {vs:Array Value} {cs:List AV} (h:RL w S μ vs cs) {j:Nat} {c:AV} {v:Value} (hc:cs[j]?=some c) (hv:vs[j]?=some v) :
  aq w S (if AV.lS cs then iL else μ) v c:=by
 split
 ·rename_i hp
  exact (h.2 j c v hc hv).pure (su hp hc) iL
 ·exact h.2 j c v hc hv
theorem nf {k n:Nat} (pl:Place) (h:n≠k):bZ μ k pl n=μ n:=by simp [bZ,h]
theorem Step.TG (g:Good E σ S μ w) (hk:μ nk=none) (hm:E.m0≤nk) {s:Sem Value} {vs:Array Value} {T:TypeId} {cs:List AV}
  (h:s.run P w=.ok (.pointer (some ⟨w.heap.size,0,none⟩)) (w.alloc (.cells vs T))) (hl:RL w S μ vs cs) (hz:1≤cs.length) :
  Step P E nk σ S μ w s (.op nk 0 0) [(nk,some ⟨true,cs.length,1,AV.lS cs,fun _=>cs⟩)]:=by
 have ga:=g.alloc hk hm vs T ⟨true,cs.length,1,AV.lS cs,fun _=>cs⟩ 1 (by simp [hl.1]) (aG _) (fun _ _=>rfl) (fun i j x v hi hx hv=>by
  have:i=0:=by simp at hi;exact hi
  subst this
  exact hl.pr hx (by simpa using hv)) (by grind) (fun i=>xF rfl i)
 refine ⟨_,_,_,_,h,ga.1,ga.2,fun k oQ hn=>by grind [nf],?_⟩
 have:=aq.op (w:=w.alloc (.cells vs T)) (S:=S) (k:=nk) (i:=0) (j:=0) (μ:=bZ μ nk ⟨w.heap.size,1,cs.length⟩) ⟨w.heap.size,1,cs.length⟩ (by simp [bZ])
 simpa using this
def Ib (P:Program) (nk:Nat) (T:TypeId):Option (AV×rO) :=
 match rN P T with
 | some z=>match Nat.ble 1 (z.cells.toList.map fS).length with
  | true=>some (.op nk 0 0,[(nk,some ⟨true,(z.cells.toList.map fS).length,1,AV.lS (z.cells.toList.map fS),fun _=>z.cells.toList.map fS⟩)])
  | false=>none
 | none=>none
theorem xG (vs:Array Value):RL w S μ vs (vs.toList.map fS) :=
 ⟨by simp,fun j c v hc hv=>by
  have Yt:vs.toList[j]?=some v:=by simpa using hv
  rw [List.getElem?_map,Yt] at hc
  simp at hc
  exact hc ▸ z4 w S μ v⟩
theorem OT (g:Good E σ S μ w) (hk:μ nk=none) (hm:E.m0≤nk) {T:TypeId} {val:AV} {ml:rO} (h:Ib P nk T=some (val,ml)) :
  Step P E nk σ S μ w (Instr.alloc T true (.tuple #[])) val ml:=by
 unfold Ib at h
 split at h
 ·rename_i z hz
  split at h
  ·rename_i hb
   cases h
   exact Step.TG g hk hm (vs:=z.cells) (T:=T) (by simp [Instr.alloc,Hf hz,newVar,newRow]) (xG _) (Nat.le_of_ble_eq_true hb)
  ·cases h
 ·cases h
def OU (nk:Nat) (x:AV):Option (AV×rO) :=
 match x.cells with
 | some cs=>match Nat.ble 1 cs.length with
  | true=>some (.op nk 0 0,[(nk,some ⟨true,cs.length,1,AV.lS cs,fun _=>cs⟩)])
  | false=>none
 | none=>none
theorem Ur (g:Good E σ S μ w) (hk:μ nk=none) (hm:E.m0≤nk) {T:TypeId} {x:AV} {v:Value} (hx:aq w S μ v x) {val:AV} {ml:rO} (h:OU nk x=some (val,ml)) :
  Step P E nk σ S μ w (Instr.box T v) val ml:=by
 unfold OU at h
 split at h
 ·rename_i cs hc
  split at h
  ·rename_i hb
   cases h
   exact Step.TG g hk hm (vs:=v.cells) (T:=T) (by rfl) (hx.cells hc) (Nat.le_of_ble_eq_true hb)
  ·cases h
 ·cases h
def oS (cs:List AV) (off:Nat) (ns:List AV):List AV:=cs.take off ++ (ns ++ cs.drop (off+ns.length))
theorem sL (cs:List AV) (off:Nat) (ns:List AV) (h:off+ns.length≤cs.length) (m:Nat) :
  (oS cs off ns)[m]?=if off≤m∧m < off+ns.length then ns[m - off]? else cs[m]?:=by
 have h1:(cs.take off).length=off:=by simp;omega
 unfold oS
 grind
theorem oe (cs:List AV) (off:Nat) (ns:List AV) (h:off+ns.length≤cs.length):(oS cs off ns).length=cs.length:=by
 simp [oS];omega
theorem foldl_set (off:Nat):∀ (us:List Value) (s:Nat) (vs:Array Value),
  ((us.zipIdx s).foldl (fun cs x=>cs.setIfInBounds (off+x.2) x.1) vs).size=vs.size ∧
  ∀ m,((us.zipIdx s).foldl (fun cs x=>cs.setIfInBounds (off+x.2) x.1) vs)[m]?=if off+s≤m∧m < off+s+us.length∧m < vs.size then us[m - (off+s)]? else vs[m]?
 | [],s,vs=>⟨rfl,fun m=>by simp;intro h1 h2;omega⟩
 | u :: us,s,vs=>by
  obtain ⟨h1,h2⟩:=foldl_set off us (s+1) (vs.setIfInBounds (off+s) u)
  simp only [List.zipIdx_cons,List.foldl_cons]
  grind
theorem RL.oS {vs us:Array Value} {cs ns:List AV} (h:RL w S μ vs cs) (hu:RL w S μ us ns) {off:Nat} (hle:off+ns.length≤cs.length) :
  RL w S μ (us.zipIdx.foldl (fun cs (c,j)=>cs.setIfInBounds (off+j) c) vs) (oS cs off ns):=by
 have f:=foldl_set off us.toList 0 vs
 have e:us.zipIdx.foldl (fun cs (c,j)=>cs.setIfInBounds (off+j) c) vs=(us.toList.zipIdx 0).foldl (fun cs x=>cs.setIfInBounds (off+x.2) x.1) vs:=by
  rw [← Array.foldl_toList]
  simp
 rw [e]
 refine ⟨by rw [f.1,h.1,oe _ _ _ hle],?_⟩
 intro j c v hc hv
 rw [f.2 j] at hv
 rw [sL _ _ _ hle] at hc
 have hl:=hu.1
 have hs:=h.1
 by_cases hj:off≤j∧j < off+ns.length
 ·rw [if_pos hj] at hc
  rw [if_pos (by simp;omega)] at hv
  exact hu.2 (j - off) c v hc (by simpa using hv)
 ·rw [if_neg hj] at hc
  rw [if_neg (by simp;omega)] at hv
  exact h.2 j c v hc hv
def zM (place:Nat→Option (Nat×Nat)) (cells:List AV):List (Nat×AV)→Option (List AV)
 | []=>some cells
 | (i,x) :: rest =>
  match place i,x.cells with
  | some (off,size),some ns=>match Nat.beq ns.length size && Nat.ble (off+ns.length) cells.length with
   | true=>zM place (oS cells off ns) rest
   | false=>none
  | _,_=>none
theorem AU (place:Nat→Option (Nat×Nat)):∀ (parts:List (Nat×AV)) (ke:List (Nat×Value)) (vs:Array Value) (cs out:List AV),
  ke.map (·.1)=parts.map (·.1)→(∀ (j:Nat) x y,parts[j]?=some x→ke[j]?=some y→aq w S μ y.2 x.2)→RL w S μ vs cs→zM place cs parts=some out →
  ∃ us,Instr.fill place vs ke=some us∧RL w S μ us out
 | [],ke,vs,cs,out,hi,_,h,hf=>by
  simp at hi;subst hi
  simp [zM] at hf;subst hf
  exact ⟨vs,rfl,h⟩
 | (i,x) :: rest,ke,vs,cs,out,hi,hr,h,hf=>by
  obtain ⟨⟨i',v⟩,Wh,rfl⟩:∃ a b,ke=a :: b:=by
   cases ke with
   | nil=>simp at hi
   | cons a b=>exact ⟨a,b,rfl⟩
  simp at hi
  obtain ⟨rfl,hi⟩:=hi
  have hv:aq w S μ v x:=hr 0 (i',x) (i',v) rfl rfl
  simp only [zM] at hf
  split at hf
  ·rename_i off size ns hp hc
   split at hf
   ·rename_i hb
    simp only [bh,Nat.ble_eq] at hb
    have rL:=bO hb.1
    have TH:=hv.cells hc
    obtain ⟨us,h1,h2⟩:=AU place rest Wh _ _ out hi (fun j x y hx hy=>hr (j+1) x y (by simpa using hx) (by simpa using hy)) (h.oS ⟨TH.1,TH.2⟩ hb.2) hf
    refine ⟨us,?_,h2⟩
    have c1:¬ v.cells.size≠size:=by rw [TH.1];omega
    have c2:¬ off+v.cells.size > vs.size:=by rw [TH.1,h.1];omega
    simp_all [Instr.fill,if_neg,Bool.or_eq_true,decide_eq_true_eq,not_or]
   ·cases hf
  ·cases hf
def Ic (P:Program) (t:TypeId) (parts:List (Nat×AV)):Option AV :=
 match rN P t,P.underlying t with
 | some z,some (.struct fs)=>match fs.toList.mapM fun f=>(tD P f.type).map fun n=>(f.offset,n) with
  | some OV=>(zM (OV[·]?) (z.cells.toList.map fS) parts).map .agg
  | none=>none
 | some z,some (.array _ e)=>match tD P e with
  | some n=>(zM (fun i=>some (i * n,n)) (z.cells.toList.map fS) parts).map .agg
  | none=>none
 | _,_=>none
theorem OW {t:TypeId} {parts:List (Nat×AV)} {ke:Array (Nat×Value)} (hi:ke.toList.map (·.1)=parts.map (·.1))
  (hr:∀ (j:Nat) x y,parts[j]?=some x→ke.toList[j]?=some y→aq w S μ y.2 x.2) {r:AV} (h:Ic P t parts=some r) :
  ∃ v,(Instr.build t ke).run P w=.ok v w∧aq w S μ v r:=by
 unfold Ic at h
 split at h
 ·rename_i z fs hz hu
  split at h
  ·rename_i OV hp
   simp only [aL] at h
   obtain ⟨out,ho,rfl⟩:=h
   obtain ⟨us,h1,h2⟩:=AU (w:=w) (S:=S) (μ:=μ) _ parts ke.toList z.cells _ out hi hr (xG _) ho
   refine ⟨.agg us,run_build w t ke us ?_,h2.mk'⟩
   have Ox:=hz
   unfold rN at Ox
   cases hi:P.info? t with
   | none=>simp [hi] at Ox
   | some i =>
    simp_all [Program.built,tD,Function.comp_def]
  ·cases h
 ·rename_i z n e hz hu
  split at h
  ·rename_i n' hn
   simp only [aL] at h
   obtain ⟨out,ho,rfl⟩:=h
   obtain ⟨us,h1,h2⟩:=AU (w:=w) (S:=S) (μ:=μ) _ parts ke.toList z.cells _ out hi hr (xG _) ho
   refine ⟨.agg us,run_build w t ke us ?_,h2.mk'⟩
   have Ox:=hz
   unfold rN at Ox
   unfold tD at hn
   cases hi:P.info? t with
   | none=>simp [hi] at Ox
   | some i =>
    simp [hi] at Ox
    cases he:P.info? e with
    | none=>simp [he] at hn
    | some ie =>
     simp_all [Program.built]
  ·cases h
 ·cases h
end
end Go.Ab
namespace Go.Ab
section
variable {P:Program} {E:Env} {nk:Nat} {σ:dw} {S:Nat→Prop} {μ:Mu} {w:World}
theorem Step.OX (g:Good E σ S μ w) (hk:μ nk=none) (hm:E.m0≤nk) {s:Sem Value} {vs:Array Value} {T:TypeId} {len cap sz:Nat} {pr:Bool} {get:Nat→List AV}
  (h:s.run P w=.ok (.slice (some ⟨w.heap.size,0,none⟩) len cap) (w.alloc (.cells vs T))) (xf:cap * sz≤vs.size) (hlen:len≤cap)
  (pM:∀ i,i < len→(get i).length=sz)
  (zZ:∀ i j x v,i < len→(get i)[j]?=some x→vs[i * sz+j]?=some v→aq w S (if pr then iL else μ) v x) (Ca:sz≠0) (OO:∀ i,rowOf ⟨false,sz,len,pr,get⟩ i=none) :
  Step P E nk σ S μ w s (.os nk 0 len) [(nk,some ⟨false,sz,len,pr,get⟩)]:=by
 have ga:=g.alloc hk hm vs T ⟨false,sz,len,pr,get⟩ cap xf hlen pM zZ Ca OO
 refine ⟨_,_,_,_,h,ga.1,ga.2,fun k oQ hn=>by grind [nf],?_⟩
 simp_all [aq.os,bZ]
def AV.RG:AV→Bool
 | .mr _ _ _=>true
 | _=>false
def nY:List AV→Bool
 | []=>true
 | c :: cs=>!c.RG && nY cs
theorem Hg:∀ {cs:List AV},nY cs=true→∀ c∈cs,c.RG=false
 | [],_,c,h=>by simp at h
 | a :: cs,h,c,hc=>by
  simp only [nY,bh,Bool.not_eq_true'] at h
  rcases kL.1 hc with rfl | hc
  ·exact h.1
  ·exact Hg h.2 c hc
theorem K5 (v:Value):(fS v).RG=false:=by
 unfold fS
 split
 ·rfl
 ·split<;>rfl
 ·rfl
theorem xH {o:Ob} {l:List AV} (h:∀ i,i < o.len→∀ c∈o.get i,c∈l) (hl:∀ c∈l,c.RG=false) (i:Nat):rowOf o i=none:=by
 cases hr:rowOf o i with
 | none=>rfl
 | some x =>
  obtain ⟨_,h1,h2⟩:=da hr
  have:=hl _ (h i h1 (.mr x.1 x.2.1 x.2.2) (by simp_all))
  cases this
theorem pN {o:Ob} (h:∀ i,i < o.len→AV.iP (o.get i)=true) (i:Nat):rowOf o i=none:=by
 cases hr:rowOf o i with
 | none=>rfl
 | some x =>
  obtain ⟨_,h1,h2⟩:=da hr
  have:=h i h1
  rw [h2] at this
  cases this
def mJ (P:Program) (t:TypeId):Option TypeId :=
 match P.underlying t with
 | some (.slice e)=>some e
 | _=>none
theorem kO {t e:TypeId} (h:mJ P t=some e):P.underlying t=some (.slice e):=by
 grind [mJ]
def rows (n:Nat):Nat→List AV→List (List AV)
 | 0,_=>[]
 | k+1,cs=>cs.take n :: rows n k (cs.drop n)
theorem JE (n:Nat):∀ (k:Nat) (cs:List AV) (i:Nat),i < k→(rows n k cs)[i]?=some ((cs.drop (i * n)).take n)
 | 0,_,i,h=>by omega
 | k+1,cs,0,_=>by simp [rows]
 | k+1,cs,i+1,h=>by
  simp only [rows,Eg]
  rw [JE n k (cs.drop n) i (by omega),List.drop_drop]
  grind
theorem Cc (n k:Nat) (cs:List AV) (i:Nat) (h:i < k):(rows n k cs).getD i []=(cs.drop (i * n)).take n:=by
 rw [fE,JE n k cs i h];rfl
def Df (z:List AV):Nat→List AV
 | 0=>[]
 | k+1=>z ++ Df z k
theorem vX (z:List AV):∀ k,(Df z k).length=k * z.length
 | 0=>by simp [Df]
 | k+1=>by simp [Df,vX z k,cz];omega
theorem Hh (z:List AV) (hz:z.length≠0):∀ (k j:Nat),j < k * z.length→(Df z k)[j]?=z[j % z.length]?
 | 0,j,h=>by simp at h
 | k+1,j,h=>by
  simp only [Df]
  by_cases hj:j < z.length
  ·rw [iz hj,Nat.mod_eq_of_lt hj]
  ·rw [jH (by omega),Hh z hz k (j - z.length) (by grind)]
   congr 1
   conv=>rhs;rw [show j=(j - z.length)+z.length by omega]
   simp
theorem OY {z:Value} {n:Nat} (hz:z.cells.size=n) (hn:n≠0) (k:Nat) (c:Array Value) (hc:c=(Array.range (k * n)).map (z.cells[· % z.cells.size]!)) :
  RL w S μ c (Df (z.cells.toList.map fS) k):=by
 subst hc
 have hl:(z.cells.toList.map fS).length=n:=by simp [hz]
 refine ⟨by simp [vX,hz],?_⟩
 intro j x v hx hv
 have hj:j < k * n:=by
  have:=(Array.getElem?_eq_some_iff.1 hv).1
  simpa using this
 rw [Hh _ (by omega) k j (by rw [hl];exact hj),hl] at hx
 have gS:j % n < z.cells.size:=by rw [hz];exact Nat.mod_lt _ (by omega)
 have sJ:v=z.cells[j % n]:=by
  simp only [Array.getElem?_map] at hv
  rw [Array.getElem?_range,if_pos hj] at hv
  simp at hv
  rw [← hv,hz]
  simp [getElem!_pos,gS]
 refine (xG (w:=w) (S:=S) (μ:=μ) z.cells).2 (j % n) x v hx ?_
 simp_all
def vY (P:Program) (nk:Nat) (t:TypeId) (len:Nat) (parts:List (Nat×AV)):Option (AV×rO) :=
 match mJ P t with
 | some e=>match tD P e,vV P e,rN P e with
  | some n,some _,some z=>match Nat.ble 1 (len * n) && Nat.ble (len * n) 16777216 && Nat.beq z.cells.size n with
   | true=>match zM (fun i=>some (i * n,n)) (Df (z.cells.toList.map fS) len) parts with
    | some cs=>match nY cs with
     | true=>some (.os nk 0 len,[(nk,some ⟨false,n,len,AV.lS cs,fun i=>(rows n len cs).getD i []⟩)])
     | false=>none
    | none=>none
   | false=>match Nat.beq len 0 && Nat.ble 1 n with
    | true=>some (.os nk 0 0,[(nk,some ⟨false,n,0,true,fun _=>[]⟩)])
    | false=>none
  | _,_,_=>none
 | none=>none
theorem Dz {t e:TypeId} {n:Nat} (he:P.underlying t=some (.slice e)) (hn:tD P e=some n) (w:World) :
  (Instr.buildSlice t 0 #[]).run P w=.ok (.slice (some ⟨w.heap.size,0,none⟩) 0 0) (w.alloc (.cells #[] e)):=by
 simp [Instr.buildSlice,run_underlying he,eI hn,Instr.fill,newRow,Array.range_zero']
theorem GI (g:Good E σ S μ w) (hk:μ nk=none) (hm:E.m0≤nk) {t:TypeId} {len:Nat} {parts:List (Nat×AV)} {ke:Array (Nat×Value)} (hi:ke.toList.map (·.1)=parts.map (·.1))
  (hr:∀ (j:Nat) x y,parts[j]?=some x→ke.toList[j]?=some y→aq w S μ y.2 x.2) {val:AV} {ml:rO} (h:vY P nk t len parts=some (val,ml)) (XJ:len=0→parts=[]) :
  Step P E nk σ S μ w (Instr.buildSlice t len ke) val ml:=by
 unfold vY at h
 split at h
 ·rename_i e he
  have he:=kO he
  split at h
  ·rename_i n b z hn hb hz
   split at h
   ·rename_i Cd
    simp only [bh,Nat.ble_eq] at Cd
    have VR:=bO Cd.2
    split at h
    ·rename_i cs Us
     split at h
     case h_2=>cases h
     rename_i hmr
     cases h
     have Rp:n≠0:=by rintro rfl;simp at Cd
     have JF:=OY (w:=w) (S:=S) (μ:=μ) VR Rp len _ rfl
     obtain ⟨us,h1,h2⟩:=AU (w:=w) (S:=S) (μ:=μ) _ parts ke.toList _ _ cs hi hr JF Us
     obtain ⟨ie,Ej,rM,hby,Oy⟩:=vW hn hb hz
     subst rM
     have lG:=run_buildSlice w t e len ke us ie z he Ej Oy (by omega) (by omega) h1
     have hlen:us.size=len * ie.size:=by
      have:=h2.1
      have hf:∀ (parts:List (Nat×AV)) (cs out:List AV),zM (fun i=>some (i * ie.size,ie.size)) cs parts=some out→out.length=cs.length:=by
       intro parts
       induction parts with
       | nil=>intro cs out h;simp [zM] at h;rw [h]
       | cons p ps ih =>
        intro cs out h
        simp only [zM] at h
        split at h
        ·split at h
         ·rename_i ho
          simp only [bh,Nat.ble_eq] at ho
          rw [ih _ _ h,oe _ _ _ ho.2]
         ·cases h
        ·cases h
      rw [this,hf _ _ _ Us,vX];simp [VR]
     refine Step.OX g hk hm lG (by rw [hlen];exact aG _) (aG _) ?_ ?_ Rp (xH (l:=cs) (fun i hi c hc=>by
      have hc:c∈(rows ie.size len cs).getD i []:=hc
      rw [Cc _ _ _ _ hi] at hc
      exact List.mem_of_mem_drop (List.mem_of_mem_take hc)) (Hg hmr))
     ·intro i hi
      rw [Cc _ _ _ _ hi]
      have:=h2.1
      have:(i+1) * ie.size≤len * ie.size:=dH _ hi
      rw [cz] at this
      simp;omega
     ·intro i j x v hi hx hv
      rw [Cc _ _ _ _ hi,pK] at hx
      split at hx
      ·rw [oE] at hx
       exact h2.pr hx hv
      ·cases hx
    ·cases h
   ·split at h
    ·rename_i JF
     cases h
     simp only [bh,Nat.ble_eq] at JF
     obtain ⟨JF,OZ⟩:=JF
     have:=bO JF
     subst this
     have XJ:=XJ rfl
     subst XJ
     have:ke=#[]:=by
      have:ke.toList=[]:=by simpa using hi
      exact Array.toList_eq_nil_iff.1 this
     subst this
     exact Step.OX g hk hm (Dz he hn w) (by simp) (aG _) (fun i hi=>absurd hi (dX _)) (fun i j x v hi=>absurd hi (dX _)) (by omega) (fun i=>rfl)
    ·cases h
  ·cases h
 ·cases h
def K6 (P:Program) (nk:Nat) (t:TypeId) (l c:AV):Option (List Prop×AV×rO) :=
 match mJ P t,l,c with
 | some e,.atom (.int _ l),.atom (.int _ c)=>match tD P e,vV P e,rN P e with
  | some n,some b,some z=>match Nat.ble 1 n && Nat.beq z.cells.size n with
   | true=>some ([0≤l,l≤c,(b:Int) * c≤281474976710656,c≤9223372036854775807],.os nk 0 l.toNat,
     [(nk,some ⟨false,n,l.toNat,AV.lS (z.cells.toList.map fS),fun _=>z.cells.toList.map fS⟩)])
   | false=>none
  | _,_,_=>none
 | _,_,_=>none
theorem RH (g:Good E σ S μ w) (hk:μ nk=none) (hm:E.m0≤nk) {t:TypeId} {l c:AV} {vl vc:Value} (hl:aq w S μ vl l) (hc:aq w S μ vc c)
  {ps:List Prop} {val:AV} {ml:rO} (h:K6 P nk t l c=some (ps,val,ml)) (hp:bj ps) :
  Step P E nk σ S μ w (Instr.makeSlice t vl vc) val ml:=by
 unfold K6 at h
 split at h
 ·rename_i e k l k' c he
  have he:=kO he
  have:=cY hl;subst this
  have:=cY hc;subst this
  split at h
  ·rename_i n b z hn hb hz
   split at h
   ·rename_i Cd
    cases h
    simp only [bh,Nat.ble_eq] at Cd
    have VR:=bO Cd.2
    obtain ⟨h1,h2,h3,h4,_⟩:=hp
    obtain ⟨ie,Ej,rM,hby,Oy⟩:=vW hn hb hz
    subst rM hby
    have lG:=run_make (P:=P) w t e ie z he Ej Oy k k' l c h1 h2 h3 h4
    refine Step.OX g hk hm lG (by rw [size_madeCells];exact aG _) (by omega) (fun _ _=>by simp [VR]) ?_ (by omega) (xH (l:=z.cells.toList.map fS) (fun _ _ c hc=>hc) (fun c hc=>by
     obtain ⟨v,_,rfl⟩:=List.mem_map.1 hc
     exact K5 v))
    intro i j x v hi hx hv
    have hj:j < ie.size:=by
     have:=(dJ.1 hx).1
     simpa [VR] using this
    have sJ:z.cells[j]?=some v:=by
     unfold madeCells at hv
     simp only [Array.getElem?_map] at hv
     have gS:i * ie.size+j < c.toNat * ie.size:=by
      have:(i+1) * ie.size≤c.toNat * ie.size:=dH _ (by omega)
      rw [cz] at this
      omega
     rw [Array.getElem?_range,if_pos gS] at hv
     simp only [Option.map_some,az] at hv
     rw [VR,pL i,Nat.mul_add_mod,Nat.mod_eq_of_lt hj] at hv
     have hjz:j < z.cells.size:=by omega
     rw [jG hjz]
     rw [getElem!_pos z.cells j hjz] at hv
     exact congrArg some hv
    exact (xG (w:=w) (S:=S) (μ:=μ) z.cells).pr hx sJ
   ·cases h
  ·cases h
 ·cases h
def RI (agg:Bool) (n:Nat) (cs:List AV) (j:Nat):Option AV :=
 match Nat.ble (j+n) cs.length with
 | true=>match agg with
  | true=>some (.agg ((cs.drop j).take n))
  | false=>cs[j]?
 | false=>none
theorem Ek {T:TypeId} {d:TypeDesc} {n:Nat} (hu:P.underlying T=some d) (hn:tD P T=some n) {cs:List AV} {j:Nat} {x:AV} (h:RI d.isRow n cs j=some x) (b o:Nat)
  (f:Nat→Value) (hc:∀ i,i < cs.length→w.cell? ⟨b,o+i,none⟩=some (f i)) (hr:∀ (i:Nat) c,cs[i]?=some c→aq w S μ (f i) c) :
  ∃ v,(Instr.loadAt T (.pointer (some ⟨b,o+j,none⟩))).run P w=.ok v w∧aq w S μ v x:=by
 unfold RI at h
 split at h
 ·rename_i hle
  simp only [Nat.ble_eq] at hle
  cases hd:d.isRow with
  | true =>
   simp [hd] at h
   have hl:((List.range n).map fun i=>f (j+i)).length=n:=by simp
   refine ⟨.agg ((List.range n).map fun i=>f (j+i)).toArray,run_loadAt_mid w b (o+j) T _ d ?_ hu hd (by simpa [tD] using hn),?_⟩
   ·intro i v hv
    grind
   ·rw [← h]
    refine .agg (by simp;omega) ?_
    grind
  | false =>
   simp [hd] at h
   have hj:j < cs.length:=(dJ.1 h).1
   have Nz:(isAgg T).run P w=.ok false w:=by
    unfold isAgg
    rw [bH,run_underlying hu w]
    cases d<;>simp_all
   simp_all [Instr.loadAt,Instr.sureAddr,loadVar]
 ·cases h
def RJ (kd:IntKind):AV→Option Int
 | .atom v=>match v with
  | .int k n=>match decide (k=kd) with
   | true=>some n
   | false=>none
  | _=>none
 | _=>none
def zN (kd:IntKind):Nat→List AV→Option (List Int)
 | 0,_=>some []
 | m+1,c :: cs=>match RJ kd c,zN kd m cs with
  | some a,some r=>some (a :: r)
  | _,_=>none
 | _+1,[]=>none
def Hi (l:List Int) (n:Nat):Int:=l.getD n 0
def Ut (q t:Nat) (v a:Int):Int:=if q=t then v else a
theorem Mk {kd:IntKind} {c:AV} {a:Int} (h:RJ kd c=some a):c=.atom (.int kd a):=by
 unfold RJ at h
 grind
theorem Ce {kd:IntKind}:∀ {m:Nat} {cs:List AV} {l:List Int},zN kd m cs=some l→∀ n,n < m→cs[n]?=some (.atom (.int kd (Hi l n)))
 | 0,_,_,_,n,hn=>absurd hn (dX n)
 | m+1,[],_,h,_,_=>by simp [zN] at h
 | m+1,c :: cs,l,h,n,hn=>by
  simp only [zN] at h
  split at h
  ·rename_i a r h1 h2
   cases h
   cases n with
   | zero=>simp [Hi,Mk h1]
   | succ n =>
    have:=Ce h2 n (by omega)
    simpa [Hi] using this
  ·cases h
def Ml:AV→Option Bool
 | .atom v=>match v with
  | .bool b=>some b
  | _=>none
 | _=>none
def ud:Nat→List AV→Option (List Bool)
 | 0,_=>some []
 | m+1,c :: cs=>match Ml c,ud m cs with
  | some a,some r=>some (a :: r)
  | _,_=>none
 | _+1,[]=>none
def Hj (l:List Bool) (n:Nat):Bool:=l.getD n false
def Uu (q t:Nat) (v a:Bool):Bool:=if q=t then v else a
theorem JG {c:AV} {a:Bool} (h:Ml c=some a):c=.atom (.bool a):=by
 unfold Ml at h
 grind
theorem z5:∀ {m:Nat} {cs:List AV} {l:List Bool},ud m cs=some l→∀ n,n < m→cs[n]?=some (.atom (.bool (Hj l n)))
 | 0,_,_,_,n,hn=>absurd hn (dX n)
 | m+1,[],_,h,_,_=>by simp [ud] at h
 | m+1,c :: cs,l,h,n,hn=>by
  simp only [ud] at h
  split at h
  ·rename_i a r h1 h2
   cases h
   cases n with
   | zero=>simp [Hj,JG h1]
   | succ n =>
    have:=z5 h2 n (by omega)
    simpa [Hj] using this
  ·cases h
def xI (P:Program) (σ:dw) (T:TypeId) (a:AV):Option (List Prop×AV×List Nat) :=
 match P.underlying T,tD P T with
 | some d,some n=>match a with
  | .op k i j=>match au σ k with
   | some o=>(RI d.isRow n (o.get i) j).map fun x=>([i < o.len],x,[k])
   | none=>none
  | .rp cs j=>(RI d.isRow n cs j).map fun x=>([],x,[])
  | .ov k i j m q=>match au σ k,d with
   | some o,.int kd=>match zN kd m ((o.get i).drop j) with
    | some l=>match Nat.beq n 1 with
     | true=>some ([i < o.len],.atom (.int kd (Hi l q)),[k])
     | false=>none
    | none=>none
   | some o,.bool=>match ud m ((o.get i).drop j) with
    | some l=>match Nat.beq n 1 with
     | true=>some ([i < o.len],.atom (.bool (Hj l q)),[k])
     | false=>none
    | none=>none
   | _,_=>none
  | _=>none
 | _,_=>none
theorem cQ {o:Ob} {pl:Place} {c:Array Value} {T:TypeId} (h:gR w S μ o pl c T) {i j:Nat} (hi:i < o.len) (hj:j < o.sz) :
  ∃ v,c[i * o.sz+j]?=some v∧w.cell? ⟨pl.cK,i * o.sz+j,none⟩=some v:=by
 have gS:i * o.sz+j < c.size:=by
  have h1:(i+1) * o.sz≤pl.cap * o.sz:=dH _ (by have:=h.len;omega)
  have:=h.cap
  rw [cz] at h1
  omega
 exact ⟨c[i * o.sz+j],jG gS,by rw [cell_of_row w _ _ _ _ _ ((h.cK (by have:=h.len;omega)).trans (by rw [fF (by omega)]))];simp⟩
theorem iQ {v:Value} {x:AV} {pr:Bool} (h:aq w S (if pr then iL else μ) v x):aq w S μ v x:=by
 refine h.mono (fun _ h=>h) (fun _ _=>rfl) ?_
 cases pr
 ·exact fun _ _ h=>h
 ·exact fun _ _ h=>by cases h
theorem Ie (g:Good E σ S μ w) {T:TypeId} {a:AV} {va:Value} (ha:aq w S μ va a) {ps:List Prop} {x:AV} {rd:List Nat} (h:xI P σ T a=some (ps,x,rd)) (hp:bj ps) :
  ∃ v,(Instr.loadAt T va).run P w=.ok v w∧aq w S μ v x:=by
 unfold xI at h
 split at h
 ·rename_i d n hu hn
  split at h
  ·rename_i k i j
   split at h
   ·rename_i o ho
    simp only [aL,ay] at h
    obtain ⟨y,hy,rfl,rfl,rfl⟩:=h
    obtain ⟨pl,c,T',hm,cZ⟩:=g.rep.ob k o ho
    have hi:=hp.1
    cases ha with
    | op j9 gV =>
     rw [hm] at gV;cases gV
     rw [cZ.sz]
     have hlen:=cZ.tB i hi
     refine Ek hu hn hy pl.cK (i * o.sz) (fun j=>(c[i * o.sz+j]?).getD undef) ?_ ?_
     ·grind [cQ]
     ·intro j cc TI
      obtain ⟨v,h1,h2⟩:=cQ cZ hi (hlen ▸ (dJ.1 TI).1)
      rw [h1]
      exact iQ (cZ.rep i j cc v hi TI h1)
   ·cases h
  ·rename_i cs j
   simp only [aL,ay] at h
   obtain ⟨y,hy,rfl,rfl,rfl⟩:=h
   cases ha with
   | rp b o f h1 h2 h3 =>
    exact Ek hu hn hy b o f h2 (fun i c hc=>(h3 i c hc).mono (fun _ h=>h) (fun _ _=>rfl) (fun _ _ h=>by cases h))
  ·rename_i k i j m q
   split at h
   ·rename_i o kd ho
    split at h
    ·rename_i l hl
     split at h
     ·rename_i OZ
      have OZ:=bO OZ
      simp only [az,ay] at h
      obtain ⟨rfl,rfl,rfl⟩:=h
      obtain ⟨pl,c,T',hm,cZ⟩:=g.rep.ob k o ho
      have hi:=hp.1
      cases ha with
      | ov j9 gV hq =>
       rw [hm] at gV;cases gV
       rw [cZ.sz]
       have hlen:=cZ.tB i hi
       have hy:=Ce hl q hq
       rw [oE] at hy
       have hjl:=(dJ.1 hy).1
       have Uk:RI (TypeDesc.int kd).isRow n (o.get i) (j+q)=some (.atom (.int kd (Hi l q))):=by
        unfold RI
        have:Nat.ble (j+q+n) (o.get i).length=true:=by rw [Nat.ble_eq];omega
        rw [this]
        exact hy
       refine Ek hu hn Uk pl.cK (i * o.sz) (fun j=>(c[i * o.sz+j]?).getD undef) ?_ ?_
       ·grind [cQ]
       ·intro j cc TI
        obtain ⟨v,h1,h2⟩:=cQ cZ hi (hlen ▸ (dJ.1 TI).1)
        rw [h1]
        exact iQ (cZ.rep i j cc v hi TI h1)
     ·cases h
    ·cases h
   ·rename_i o ho
    split at h
    ·rename_i l hl
     split at h
     ·rename_i OZ
      have OZ:=bO OZ
      simp only [az,ay] at h
      obtain ⟨rfl,rfl,rfl⟩:=h
      obtain ⟨pl,c,T',hm,cZ⟩:=g.rep.ob k o ho
      have hi:=hp.1
      cases ha with
      | ov j9 gV hq =>
       rw [hm] at gV;cases gV
       rw [cZ.sz]
       have hlen:=cZ.tB i hi
       have hy:=z5 hl q hq
       rw [oE] at hy
       have hjl:=(dJ.1 hy).1
       have Uk:RI (TypeDesc.bool).isRow n (o.get i) (j+q)=some (.atom (.bool (Hj l q))):=by
        unfold RI
        have:Nat.ble (j+q+n) (o.get i).length=true:=by rw [Nat.ble_eq];omega
        rw [this]
        exact hy
       refine Ek hu hn Uk pl.cK (i * o.sz) (fun j=>(c[i * o.sz+j]?).getD undef) ?_ ?_
       ·grind [cQ]
       ·intro j cc TI
        obtain ⟨v,h1,h2⟩:=cQ cZ hi (hlen ▸ (dJ.1 TI).1)
        rw [h1]
        exact iQ (cZ.rep i j cc v hi TI h1)
     ·cases h
    ·cases h
   ·cases h
  ·cases h
 ·cases h
end
end Go.Ab
namespace Go.Ab
def bA:Nat→Nat→Nat
 | 0,n=>n
 | m+1,n=>m+1+n
theorem df (m n:Nat):bA m n=m+n:=by cases m<;>simp [bA]
section
variable {P:Program} {E:Env} {nk:Nat} {σ:dw} {S:Nat→Prop} {μ:Mu} {w:World}
def Ob.put (o:Ob) (i:Nat) (cs:List AV) (pr:Bool):Ob :=
 match o.var with
 | true=>{ o with pr:=o.pr && pr,get:=fun _=>cs }
 | false=>{ o with pr:=o.pr && pr,get:=fun m=>if m=i then cs else o.get m }
def Wi (sz:Nat) (cs:List AV) (off:Nat) (ns:List AV):List AV :=
 match Nat.beq ns.length sz with
 | true=>ns
 | false=>oS cs off ns
theorem K7 {sz:Nat} {cs:List AV} {off:Nat} {ns:List AV} (h:off+ns.length≤sz) (hl:cs.length=sz):Wi sz cs off ns=oS cs off ns:=by
 unfold Wi
 split
 ·rename_i hb
  have hb:=bO hb
  have h0:off=0:=by omega
  subst h0
  unfold oS
  rw [List.drop_eq_nil_of_le (by omega)]
  simp
 ·rfl
def og (P:Program) (σ:dw) (T:TypeId) (a x:AV):Option (List Prop×rO×List Nat) :=
 match a,x.cells,tD P T with
 | .op k i j,some ns,some n=>match au σ k with
  | some o=>match Nat.beq ns.length n && AV.iP ns && Nat.ble (j+n) o.sz && (!o.var || Nat.beq o.len 1) && Nat.ble 1 o.sz with
   | true=>some ([i < o.len],[(k,some (o.put i (Wi o.sz (o.get i) j ns) (AV.lS ns)))],[k])
   | false=>none
  | none=>none
 | _,_,_=>none
theorem Cf (g:Good E σ S μ w) {T:TypeId} {a x:AV} {va vx:Value} (ha:aq w S μ va a) (hx:aq w S μ vx x) {ps:List Prop} {ml:rO} {rd:List Nat}
  (h:og P σ T a x=some (ps,ml,rd)) (hp:bj ps) :
  ∃ w',(Instr.storeAt T va vx).run P w=.ok () w'∧Ext w S μ w' S μ∧Good E (fA σ ml) S μ w':=by
 unfold og at h
 split at h
 ·rename_i k i j ns n hns hn
  split at h
  ·rename_i o ho
   split at h
   ·rename_i hb
    simp only [az,ay] at h
    obtain ⟨rfl,rfl,rfl⟩:=h
    simp only [bh,Nat.ble_eq] at hb
    obtain ⟨⟨⟨⟨rL,o5⟩,Oz⟩,RK⟩,XK⟩:=hb
    have rL:=bO rL
    have hi:i < o.len:=hp.1
    obtain ⟨pl,c,T',hm,cZ⟩:=g.rep.ob k o ho
    cases ha with
    | op j9 gV =>
     rw [hm] at gV;cases gV
     have xf:0 < pl.cap:=by have:=cZ.len;omega
     have vU:i * o.sz+o.sz≤c.size:=by
      have h1:(i+1) * o.sz≤pl.cap * o.sz:=dH _ (by have:=cZ.len;omega)
      have:=cZ.cap
      rw [cz] at h1
      omega
     obtain ⟨Us,hcr⟩:=hx.cells hns
     have GJ:∀ v∈vx.cells.toList,v.oneCell'=true:=by
      intro v hv
      obtain ⟨q,hq⟩:=List.getElem?_of_mem hv
      have gS:q < ns.length:=by
       have:=(dJ.1 hq).1
       simp at this;omega
      exact (hcr q _ v (pG gS) (by simpa using hq)).Ia (EH o5 (pG gS))
     have AP:=run_storeCells_at P pl.cK (i * pl.sz+j) T' vx.cells.toList 0 c w ((cZ.cK xf).trans (by grind [fF])) (by rw [cZ.sz];simp;omega) GJ
     simp only [Nat.add_zero] at AP
     generalize oG:(c.toList.take (i * pl.sz+j) ++ vx.cells.toList ++ c.toList.drop (i * pl.sz+j+vx.cells.toList.length)).toArray=c' at AP
     have xJ:(c.toList.take (i * pl.sz+j)).length=i * o.sz+j:=by rw [cZ.sz];simp;omega
     have Mm:vx.cells.toList.length=n:=by simp;omega
     have Ig:c'.size=c.size:=by
      rw [← oG]
      simp only [List.size_toArray,lY,List.length_drop,Mm,cZ.sz]
      simp;omega
     have qm:∀ m,c'[m]?=if i * o.sz+j≤m∧m < i * o.sz+j+n then vx.cells[m - (i * o.sz+j)]? else c[m]?:=by
      intro m
      rw [← oG]
      simp only [List.getElem?_toArray,List.append_assoc]
      by_cases h1:m < i * o.sz+j
      ·grind
      ·rw [jH (by omega),xJ]
       by_cases h2:m < i * o.sz+j+n
       ·rw [iz (by omega),if_pos (by omega)]
        simp
       ·rw [jH (by omega),if_neg (by omega),oE,Mm,cZ.sz]
        simp only [Array.getElem?_toList]
        congr 1;omega
     have TJ:=cZ.tB i hi
     have OA:∀ (o':Ob),o'.sz=o.sz→o'.len=o.len→o'.var=o.var→o'.pr=(o.pr && AV.lS ns)→(o'.get i=oS (o.get i) j ns)→(∀ m,m < o.len→m≠i→o'.get m=o.get m) →
       Ext w S μ (w.setRow pl.cK c') S μ∧Good E (sset σ k o') S μ (w.setRow pl.cK c'):=by
      intro o' e1 e2 ev e3 e4 e5
      have fZ:∀ m q,m≠i→q < o.sz→¬ (i * o.sz+j≤m * o.sz+q∧m * o.sz+q < i * o.sz+j+n):=by
       rintro m q AW hq ⟨h1,h2⟩
       rcases Nat.lt_or_gt_of_ne AW with h3 | h3
       ·have:(m+1) * o.sz≤i * o.sz:=dH _ h3
        rw [cz] at this;omega
       ·have:(i+1) * o.sz≤m * o.sz:=dH _ h3
        rw [cz] at this;omega
      refine g.write ho hm xf cZ (by omega) o' c' e1 Ig (by rw [e2];exact cZ.len) ?_ ?_ ?_
      rotate_left 2
      ·intro m x hx
       obtain ⟨q1,q2,q3⟩:=da hx
       rw [e2] at q2
       rw [ev] at q1
       rw [qm]
       by_cases AW:m=i
       ·subst AW
        rw [e4] at q3
        cases n with
        | zero =>
         have:ns=[]:=List.eq_nil_of_length_eq_zero rL
         rw [this] at q3
         refine ⟨kN q1 q2 (by rw [← q3];unfold oS;simp),if_neg (by omega)⟩
        | succ n =>
         have h1:=oe (o.get m) j ns (by omega)
         rw [q3] at h1
         have XL:j=0:=by simp at h1;omega
         have h2:=sL (o.get m) j ns (by omega) 0
         rw [q3,if_pos (by omega)] at h2
         have h3:=EH o5 (j:=0 - j) (c:=.mr x.1 x.2.1 x.2.2) (by rw [← h2];rfl)
         cases h3
       ·rw [e5 m q2 AW] at q3
        exact ⟨kN q1 q2 q3,if_neg (fZ m 0 AW (by omega))⟩
      ·intro m hm
       rw [e2] at hm
       by_cases AW:m=i
       ·subst AW
        rw [e4,oe _ _ _ (by omega),TJ,e1]
       ·rw [e5 m hm AW,cZ.tB m hm,e1]
      ·intro m q y v hm hy hv
       rw [e2] at hm
       rw [e1,qm] at hv
       rw [e3]
       have hq:q < o.sz:=by
        have:=(dJ.1 hy).1
        by_cases AW:m=i
        ·subst AW;rw [e4,oe _ _ _ (by omega),TJ] at this;exact this
        ·rw [e5 m hm AW,cZ.tB m hm] at this;exact this
       have hold:(o.get m)[q]?=some y→c[m * o.sz+q]?=some v→aq w S (if (o.pr && AV.lS ns)=true then iL else μ) v y:=by
        intro hy hv
        have:=cZ.rep m q y v hm hy hv
        cases KX:o.pr
        ·simpa [KX] using this
        ·rw [KX] at this
         split
         ·exact this
         ·exact iQ this
       by_cases AW:m=i
       ·subst AW
        rw [e4,sL _ _ _ (by omega)] at hy
        by_cases hjq:j≤q∧q < j+n
        ·rw [if_pos (by omega)] at hy hv
         have sJ:vx.cells[q - j]?=some v:=by rw [← hv];congr 1;omega
         have:=hcr (q - j) y v hy sJ
         split
         ·rename_i XM
          simp only [bh] at XM
          exact this.pure (su XM.2 hy) iL
         ·exact this
        ·rw [if_neg (by omega)] at hy hv
         exact hold hy hv
       ·rw [e5 m hm AW] at hy
        rw [if_neg (fZ m q AW hq)] at hv
        exact hold hy hv
     refine ⟨w.setRow pl.cK c',?_,?_⟩
     ·simp only [Instr.storeAt,Instr.sureAddr,bH,Sem.run_pure,cX,storeVar,eI hn]
      rw [Sem.run_ite,if_neg (by omega)]
      exact AP
     ·show Ext _ _ _ _ _ _∧Good E (sset σ k _) S μ _
      refine OA _ ?_ ?_ ?_ ?_ ?_ ?_
      ·unfold Ob.put;split<;>rfl
      ·unfold Ob.put;split<;>rfl
      ·unfold Ob.put;split<;>rfl
      ·unfold Ob.put;split<;>rfl
      ·rw [← K7 (by omega) TJ];unfold Ob.put;split<;>simp
      ·intro m hm AW
       unfold Ob.put
       split
       ·rename_i AX
        simp only [AX,Bool.not_true,Bool.false_or] at RK
        have:=bO RK
        omega
       ·simp [AW]
   ·cases h
  ·cases h
 ·cases h
def NB (kd:IntKind) (q:Nat) (v:Int):Nat→Nat→List AV→List AV
 | t,m+1,c :: cs=>(match RJ kd c with
  | some a=>.atom (.int kd (Ut q t v a))
  | none=>c) :: NB kd q v (t+1) m cs
 | _,_,cs=>cs
theorem JH {kd:IntKind} {q:Nat} {v:Int}:∀ {m:Nat} {cs:List AV} {l:List Int} (t:Nat),zN kd m cs=some l→∀ r,(NB kd q v t m cs)[r]?=if q=t+r∧r < m then some (.atom (.int kd v)) else cs[r]?
 | 0,cs,_,t,_,r=>by cases cs<;>simp [NB]
 | m+1,[],_,_,h,_=>by simp [zN] at h
 | m+1,c :: cs,l,t,h,r=>by
  simp only [zN] at h
  split at h
  ·rename_i a r' h1 h2
   cases h
   simp only [NB,h1]
   cases r with
   | zero =>
    simp only [List.getElem?_cons_zero,Nat.add_zero]
    by_cases hq:q=t
    ·simp_all [if_pos,Ut]
    ·rw [if_neg (fun h=>hq h.1),Ut,if_neg hq,← Mk h1]
   | succ r =>
    simp only [Eg]
    rw [JH (t+1) h2 r]
    grind
  ·cases h
def NC (q:Nat) (v:Bool):Nat→Nat→List AV→List AV
 | t,m+1,c :: cs=>(match Ml c with
  | some a=>.atom (.bool (Uu q t v a))
  | none=>c) :: NC q v (t+1) m cs
 | _,_,cs=>cs
theorem JI {q:Nat} {v:Bool}:∀ {m:Nat} {cs:List AV} {l:List Bool} (t:Nat),ud m cs=some l→∀ r,(NC q v t m cs)[r]?=if q=t+r∧r < m then some (.atom (.bool v)) else cs[r]?
 | 0,cs,_,t,_,r=>by cases cs<;>simp [NC]
 | m+1,[],_,_,h,_=>by simp [ud] at h
 | m+1,c :: cs,l,t,h,r=>by
  simp only [ud] at h
  split at h
  ·rename_i a r' h1 h2
   cases h
   simp only [NC,h1]
   cases r with
   | zero =>
    simp only [List.getElem?_cons_zero,Nat.add_zero]
    by_cases hq:q=t
    ·simp_all [if_pos,Uu]
    ·rw [if_neg (fun h=>hq h.1),Uu,if_neg hq,← JG h1]
   | succ r =>
    simp only [Eg]
    rw [JI (t+1) h2 r]
    grind
  ·cases h
def yI (P:Program) (σ:dw) (T:TypeId) (a x:AV):Option (List Prop×rO×List Nat) :=
 match a with
 | .ov k i j m q=>match au σ k,x,tD P T with
  | some o,.atom (.int kd v),some n=>match zN kd m ((o.get i).drop j) with
   | some _=>match Nat.beq n 1 && Nat.ble (j+m) o.sz && Nat.ble (j+m) (o.get i).length && (!o.var || Nat.beq o.len 1) && Nat.ble 1 o.sz with
    | true=>some ([i < o.len],[(k,some (o.put i ((o.get i).take j ++ NB kd q v 0 m ((o.get i).drop j)) true))],[k])
    | false=>none
   | none=>none
  | some o,.atom (.bool v),some n=>match ud m ((o.get i).drop j) with
   | some _=>match Nat.beq n 1 && Nat.ble (j+m) o.sz && Nat.ble (j+m) (o.get i).length && (!o.var || Nat.beq o.len 1) && Nat.ble 1 o.sz with
    | true=>some ([i < o.len],[(k,some (o.put i ((o.get i).take j ++ NC q v 0 m ((o.get i).drop j)) true))],[k])
    | false=>none
   | none=>none
  | _,_,_=>none
 | a=>og P σ T a x
theorem O0 (g:Good E σ S μ w) {T:TypeId} {a x:AV} {va vx:Value} (ha:aq w S μ va a) (hx:aq w S μ vx x) {ps:List Prop} {ml:rO} {rd:List Nat}
  (h:yI P σ T a x=some (ps,ml,rd)) (hp:bj ps) :
  ∃ w',(Instr.storeAt T va vx).run P w=.ok () w'∧Ext w S μ w' S μ∧Good E (fA σ ml) S μ w':=by
 unfold yI at h
 split at h
 ·rename_i k i j m q
  split at h
  ·rename_i o kd v n ho hn
   split at h
   ·rename_i l hl
    split at h
    ·rename_i hb
     simp only [az,ay] at h
     obtain ⟨rfl,rfl,rfl⟩:=h
     simp only [bh,Nat.ble_eq] at hb
     obtain ⟨⟨⟨⟨rL,o5⟩,Oz⟩,RK⟩,XK⟩:=hb
     cases ha with
     | ov pl hm hq =>
      have hc:(o.get i).take j ++ NB kd q v 0 m ((o.get i).drop j)=oS (o.get i) (j+q) [.atom (.int kd v)]:=by
       have XN:((o.get i).take j).length=j:=by simp;omega
       apply List.ext_getElem?
       intro r
       rw [sL _ _ _ (by simp;omega)]
       simp only [List.length_singleton]
       by_cases hr:r < j
       ·rw [iz (by omega),pK,if_pos hr,if_neg (by omega)]
       ·rw [jH (by omega),XN,JH 0 hl]
        by_cases hqr:r=j+q
        ·rw [if_pos (by omega),if_pos (by omega)]
         have:r - (j+q)=0:=by omega
         rw [this];rfl
        ·rw [if_neg (by omega),if_neg (by omega),oE]
         congr 1;omega
      have TJ:(o.get i).length=o.sz:=by obtain ⟨_,_,_,_,cZ⟩:=g.rep.ob k o ho;exact cZ.tB i hp.1
      rw [← K7 (sz:=o.sz) (by simp;omega) TJ] at hc
      have h0:og P σ T (.op k i (j+q)) (.atom (.int kd v))=some ([i < o.len],[(k,some (o.put i (Wi o.sz (o.get i) (j+q) [.atom (.int kd v)]) true))],[k]):=by
       have Uv:=bO rL
       subst Uv
       have e1:Nat.ble (j+q+1) o.sz=true:=by rw [Nat.ble_eq];omega
       have e2:Nat.ble 1 o.sz=true:=by rw [Nat.ble_eq];exact XK
       unfold og
       simp only [AV.cells,hn,ho,List.length_singleton,AV.iP,AV.one,AV.lS,AV.pure,e1,e2,RK,Bool.and_true,Bool.and_self]
      rw [hc]
      exact Cf g (aq.op pl hm) hx h0 hp
    ·cases h
   ·cases h
  ·rename_i o v n ho hn
   split at h
   ·rename_i l hl
    split at h
    ·rename_i hb
     simp only [az,ay] at h
     obtain ⟨rfl,rfl,rfl⟩:=h
     simp only [bh,Nat.ble_eq] at hb
     obtain ⟨⟨⟨⟨rL,o5⟩,Oz⟩,RK⟩,XK⟩:=hb
     cases ha with
     | ov pl hm hq =>
      have hc:(o.get i).take j ++ NC q v 0 m ((o.get i).drop j)=oS (o.get i) (j+q) [.atom (.bool v)]:=by
       have XN:((o.get i).take j).length=j:=by simp;omega
       apply List.ext_getElem?
       intro r
       rw [sL _ _ _ (by simp;omega)]
       simp only [List.length_singleton]
       by_cases hr:r < j
       ·rw [iz (by omega),pK,if_pos hr,if_neg (by omega)]
       ·rw [jH (by omega),XN,JI 0 hl]
        by_cases hqr:r=j+q
        ·rw [if_pos (by omega),if_pos (by omega)]
         have:r - (j+q)=0:=by omega
         rw [this];rfl
        ·rw [if_neg (by omega),if_neg (by omega),oE]
         congr 1;omega
      have TJ:(o.get i).length=o.sz:=by obtain ⟨_,_,_,_,cZ⟩:=g.rep.ob k o ho;exact cZ.tB i hp.1
      rw [← K7 (sz:=o.sz) (by simp;omega) TJ] at hc
      have h0:og P σ T (.op k i (j+q)) (.atom (.bool v))=some ([i < o.len],[(k,some (o.put i (Wi o.sz (o.get i) (j+q) [.atom (.bool v)]) true))],[k]):=by
       have Uv:=bO rL
       subst Uv
       have e1:Nat.ble (j+q+1) o.sz=true:=by rw [Nat.ble_eq];omega
       have e2:Nat.ble 1 o.sz=true:=by rw [Nat.ble_eq];exact XK
       unfold og
       simp only [AV.cells,hn,ho,List.length_singleton,AV.iP,AV.one,AV.lS,AV.pure,e1,e2,RK,Bool.and_true,Bool.and_self]
      rw [hc]
      exact Cf g (aq.op pl hm) hx h0 hp
    ·cases h
   ·cases h
  ·cases h
 ·exact Cf g ha hx h hp
def xK (P:Program) (T:TypeId) (x:AV) (f:Nat):Option AV :=
 match P.underlying T with
 | some (.struct fs)=>match fs[f]? with
  | some fl=>match tD P fl.type with
   | some (_+1)=>match x with
    | .op k i j=>some (.op k i (j+fl.offset))
    | .rp cs j=>some (.rp cs (j+fl.offset))
    | _=>none
   | _=>none
  | none=>none
 | _=>none
theorem Ih {T:TypeId} {x:AV} {f:Nat} {v:Value} (hx:aq w S μ v x) {r:AV} (h:xK P T x f=some r) :
  ∃ u,(Instr.fieldAt T v f).run P w=.ok u w∧aq w S μ u r:=by
 unfold xK at h
 split at h
 ·rename_i fs hu
  split at h
  ·rename_i fl hf
   split at h
   ·rename_i n hn
    split at h
    ·cases h
     cases hx with
     | op pl hm =>
      rename_i k i j
      refine ⟨.pointer (some ⟨pl.cK,i * pl.sz+(j+fl.offset),none⟩),?_,.op pl hm⟩
      simp_all [Instr.fieldAt,run_underlying,Instr.sureAddr,fieldPlace,eI,Addr.add_mid,Nat.add_assoc]
    ·cases h
     cases hx with
     | rp b o f' h1 h2 h3 =>
      rename_i cs j
      refine ⟨.pointer (some ⟨b,o+(j+fl.offset),none⟩),?_,.rp b o f' h1 h2 h3⟩
      simp_all [Instr.fieldAt,run_underlying,Instr.sureAddr,fieldPlace,eI,Addr.add_mid,Nat.add_assoc]
    ·cases h
   ·cases h
  ·cases h
 ·cases h
def Ii (P:Program) (T:TypeId) (x:AV) (f:Nat):Option AV :=
 match P.underlying T,x with
 | some (.struct fs),.agg cs=>match fs[f]? with
  | some fl=>match tD P fl.type with
   | some n=>match Nat.ble (fl.offset+n) cs.length with
    | true=>kb P fl.type cs fl.offset
    | false=>none
   | none=>none
  | none=>none
 | _,_=>none
theorem O1 {T:TypeId} {x:AV} {f:Nat} {v:Value} (hx:aq w S μ v x) {r:AV} (h:Ii P T x f=some r) :
  ∃ u,(Instr.field T v f).run P w=.ok u w∧aq w S μ u r:=by
 unfold Ii at h
 split at h
 ·rename_i fs cs hu
  split at h
  ·rename_i fl hf
   split at h
   ·rename_i n hn
    split at h
    ·rename_i hle
     simp only [Nat.ble_eq] at hle
     obtain ⟨vs,rfl,GH,Dy⟩:=nL hx
     obtain ⟨u,r1,r2⟩:=kc GH Dy h (fun n' h'=>by simp_all)
     simp_all [Instr.field,run_underlying,asAgg]
    ·cases h
   ·cases h
  ·cases h
 ·cases h
def o6 (P:Program) (σ:dw) (T:TypeId) (x ix:AV):Option (List Prop×AV×List Nat) :=
 match P.underlying T,ix with
 | some (.slice e),.atom (.int _ n)=>match tD P e with
  | some sz=>match x with
   | .os k off len=>match au σ k with
    | some o=>match Nat.beq o.sz sz with
     | true=>some ([0≤n∧n < len],.op k (bA off n.toNat) 0,[k])
     | false=>none
    | none=>none
   | .sl len get=>match Nat.beq (get n.toNat).length sz with
    | true=>some ([0≤n∧n < len],.rp (get n.toNat) 0,[])
    | false=>none
   | _=>none
  | none=>none
 | some (.array len e),.atom (.int _ n)=>match tD P e with
  | some sz=>match x with
   | .op k i j=>match P.underlying e with
    | some (.int _)=>match Nat.beq sz 1 with
     | true=>some ([0≤n∧n < len],.ov k i j len n.toNat,[])
     | false=>none
    | some .bool=>match Nat.beq sz 1 with
     | true=>some ([0≤n∧n < len],.ov k i j len n.toNat,[])
     | false=>none
    | _=>some ([0≤n∧n < len],.op k i (j+n.toNat * sz),[])
   | .rp cs j=>some ([0≤n∧n < len],.rp cs (j+n.toNat * sz),[])
   | _=>none
  | none=>none
 | _,_=>none
theorem Ij (g:Good E σ S μ w) {T:TypeId} {x ix:AV} {v vi:Value} (hx:aq w S μ v x) (hi:aq w S μ vi ix) {ps:List Prop} {r:AV} {rd:List Nat}
  (h:o6 P σ T x ix=some (ps,r,rd)) (hp:bj ps) :
  ∃ u,(Instr.indexAt T v vi).run P w=.ok u w∧aq w S μ u r:=by
 unfold o6 at h
 split at h
 ·rename_i e kk n hu
  have:=cY hi;subst this
  split at h
  ·rename_i sz rM
   split at h
   ·rename_i k off len
    split at h
    ·rename_i o ho
     split at h
     ·rename_i hb
      have hb:=bO hb
      simp only [az,ay] at h
      obtain ⟨rfl,rfl,rfl⟩:=h
      obtain ⟨pl,c,T',hm,cZ⟩:=g.rep.ob k o ho
      have hn:=hp.1
      cases hx with
      | os j9 gV h1 h2 h3 =>
       rename_i cap a
       rw [hm] at gV;cases gV
       have ha:=h1 (by omega)
       subst ha
       refine ⟨.pointer (some ⟨pl.cK,bA off n.toNat * pl.sz+0,none⟩),?_,.op pl hm⟩
       simp only [Instr.indexAt,asIntOf,run_underlying hu,bH,Sem.run_pure,cX]
       rw [Sem.run_ite,if_pos hn]
       simp only [bH,eI rM,cX,Sem.run_pure,Addr.add_mid]
       rw [df,cZ.sz,hb,cz]
       rfl
     ·cases h
    ·cases h
   ·rename_i len get
    split at h
    ·rename_i hb
     have hb:=bO hb
     simp only [az,ay] at h
     obtain ⟨rfl,rfl,rfl⟩:=h
     have hn:=hp.1
     cases hx with
     | sl b off TK f h1 h2 h3 h4 _ =>
      rename_i cap a
      have rr:n.toNat < len:=by omega
      obtain ⟨ha,hS⟩:=h1 (by omega)
      subst ha
      have Yu:TK=sz:=by rw [← h2 n.toNat rr,hb]
      subst Yu
      refine ⟨.pointer (some ⟨b,(off+n.toNat * TK)+0,none⟩),?_,.rp b (off+n.toNat * TK) (f n.toNat) hS ?_ ?_⟩
      ·simp only [Instr.indexAt,asIntOf,run_underlying hu,bH,Sem.run_pure,cX]
       simp_all [Sem.run_ite,if_pos,bH,eI,cX,Sem.run_pure,Addr.add_mid]
      ·simp_all
      simp_all
    ·cases h
   ·cases h
  ·cases h
 ·rename_i len e kk n hu
  have:=cY hi;subst this
  split at h
  ·rename_i sz rM
   split at h
   ·rename_i k i j
    have lG:0≤n∧n < len→∀ pl:Place,(Instr.indexAt T (.pointer (some ⟨pl.cK,i * pl.sz+j,none⟩)) (.int kk n)).run P w=.ok (.pointer (some ⟨pl.cK,i * pl.sz+(j+n.toNat * sz),none⟩)) w:=by
     intro hn pl
     simp only [Instr.indexAt,Instr.sureAddr,asIntOf,run_underlying hu,bH,Sem.run_pure,cX]
     rw [Sem.run_ite,if_pos hn]
     simp only [bH,eI rM,cX,Sem.run_pure,Addr.add_mid,Nat.add_assoc]
    split at h
    ·split at h
     ·rename_i ND
      have ND:=bO ND
      simp only [az,ay] at h
      obtain ⟨rfl,rfl,rfl⟩:=h
      have hn:=hp.1
      cases hx with
      | op pl hm =>
       refine ⟨_,lG hn pl,?_⟩
       rw [ND,Nat.mul_one]
       exact .ov pl hm (by omega)
     ·cases h
    ·split at h
     ·rename_i ND
      have ND:=bO ND
      simp only [az,ay] at h
      obtain ⟨rfl,rfl,rfl⟩:=h
      have hn:=hp.1
      cases hx with
      | op pl hm =>
       refine ⟨_,lG hn pl,?_⟩
       rw [ND,Nat.mul_one]
       exact .ov pl hm (by omega)
     ·cases h
    ·simp only [az,ay] at h
     obtain ⟨rfl,rfl,rfl⟩:=h
     have hn:=hp.1
     cases hx with
     | op pl hm=>exact ⟨_,lG hn pl,.op pl hm⟩
   ·rename_i cs j
    simp only [az,ay] at h
    obtain ⟨rfl,rfl,rfl⟩:=h
    have hn:=hp.1
    cases hx with
    | rp b o f h1 h2 h3 =>
     refine ⟨.pointer (some ⟨b,o+(j+n.toNat * sz),none⟩),?_,.rp b o f h1 h2 h3⟩
     simp only [Instr.indexAt,Instr.sureAddr,asIntOf,run_underlying hu,bH,Sem.run_pure,cX]
     simp_all [Sem.run_ite,if_pos,bH,eI,cX,Sem.run_pure,Addr.add_mid,Nat.add_assoc]
   ·cases h
  ·cases h
 ·cases h
def kC (s:ByteArray) (i:Nat):Int:=((s[i]?).getD 0).toNat
def Ik (P:Program) (T:TypeId) (x ix:AV):Option (List Prop×AV) :=
 match P.underlying T,x,ix with
 | some .string,.atom (.string s),.atom (.int _ n)=>some ([0≤n∧n < s.size],.atom (.int .u8 (kC s n.toNat)))
 | some (.array len e),.agg cs,.atom (.int _ n)=>match P.underlying e,tD P e with
  | some (.int kd),some sz=>match zN kd len cs with
   | some l=>match Nat.beq sz 1 && Nat.beq cs.length len with
    | true=>some ([0≤n∧n < len],.atom (.int kd (Hi l n.toNat)))
    | false=>none
   | none=>none
  | some .bool,some sz=>match ud len cs with
   | some l=>match Nat.beq sz 1 && Nat.beq cs.length len with
    | true=>some ([0≤n∧n < len],.atom (.bool (Hj l n.toNat)))
    | false=>none
   | none=>none
  | some _,some sz=>match Nat.ble (n.toNat * sz+sz) cs.length with
   | true=>(kb P e cs (n.toNat * sz)).map fun r=>([0≤n∧n < len],r)
   | false=>none
  | _,_=>none
 | _,_,_=>none
theorem O2 {T:TypeId} {x ix:AV} {v vi:Value} (hx:aq w S μ v x) (hi:aq w S μ vi ix) {ps:List Prop} {r:AV} (h:Ik P T x ix=some (ps,r)) (hp:bj ps) :
  ∃ u,(Instr.index T v vi).run P w=.ok u w∧aq w S μ u r:=by
 unfold Ik at h
 split at h
 ·rename_i s kk n hu
  simp only [az,ay] at h
  obtain ⟨rfl,rfl⟩:=h
  have:=cY hi;subst this
  have:=cY hx;subst this
  have hn:=hp.1
  have gS:n.toNat < s.size:=by omega
  refine ⟨_,?_,.atom _⟩
  simp_all [Instr.index,asIntOf,run_underlying,bH,Sem.run_pure,cX,if_pos,kC]
 ·rename_i len e cs kk n hu
  have fin:∀ {sz:Nat} {r':AV},tD P e=some sz→n.toNat * sz+sz≤cs.length→kb P e cs (n.toNat * sz)=some r'→0≤n∧n < len →
    ∃ u,(Instr.index T v vi).run P w=.ok u w∧aq w S μ u r':=by
   intro sz r' rM hle hr hn
   have:=cY hi;subst this
   obtain ⟨vs,rfl,GH,Dy⟩:=nL hx
   obtain ⟨u,r1,r2⟩:=kc GH Dy hr (fun n' h'=>by simp_all)
   refine ⟨u,?_,r2⟩
   simp only [Instr.index,asIntOf,run_underlying hu,bH,Sem.run_pure,cX]
   rw [Sem.run_ite,if_pos hn]
   simp only [bH,eI rM,cX,r1]
  split at h
  ·rename_i kd sz he rM
   split at h
   ·rename_i l hl
    split at h
    ·rename_i hb
     simp only [bh] at hb
     have rL:=bO hb.1
     have o5:=bO hb.2
     simp only [az,ay] at h
     obtain ⟨rfl,rfl⟩:=h
     have hn:=hp.1
     refine fin rM (by rw [rL];omega) ?_ hn
     have hg:=Ce hl n.toNat (by omega)
     simp_all [kb,Nat.mul_one]
    ·cases h
   ·cases h
  ·rename_i sz he rM
   split at h
   ·rename_i l hl
    split at h
    ·rename_i hb
     simp only [bh] at hb
     have rL:=bO hb.1
     have o5:=bO hb.2
     simp only [az,ay] at h
     obtain ⟨rfl,rfl⟩:=h
     have hn:=hp.1
     refine fin rM (by rw [rL];omega) ?_ hn
     have hg:=z5 hl n.toNat (by omega)
     simp_all [kb,Nat.mul_one]
    ·cases h
   ·cases h
  ·rename_i d sz he rM
   split at h
   ·rename_i hle
    simp only [Nat.ble_eq] at hle
    simp only [aL,ay] at h
    obtain ⟨r',hr,rfl,rfl⟩:=h
    exact fin rM hle hr hp.1
   ·cases h
  ·cases h
 ·cases h
def bound (len:Nat):Option AV→Option Nat
 | none=>some len
 | some (.atom (.int _ n))=>some n.toNat
 | _=>none
def ue:Option AV→List Prop
 | some (.atom (.int _ n))=>[0≤n]
 | _=>[]
def yJ (P:Program) (σ:dw) (T:TypeId) (x:AV) (lo hi:Option AV):Option (List Prop×AV×List Nat) :=
 match P.underlying T,x with
 | some .string,.atom (.string s)=>match bound 0 lo,bound s.size hi with
  | some l,some h=>some ((l≤h∧h≤s.size) :: (ue lo ++ ue hi),.atom (.string (s.extract l h)),[])
  | _,_=>none
 | some (.slice e),x=>match tD P e with
  | some sz=>match x with
   | .os k off len=>match bound 0 lo,bound len hi,au σ k with
    | some l,some h,some o=>match Nat.beq o.sz sz with
     | true=>some ((l≤h∧h≤len) :: (ue lo ++ ue hi),.os k (bA off l) (h - l),[k])
     | false=>none
    | _,_,_=>none
   | .sl len get=>match bound 0 lo,bound len hi with
    | some l,some h=>match Nat.beq (get l).length sz with
     | true=>some ((l≤h∧h≤len) :: (ue lo ++ ue hi),.sl (h - l) fun i=>get (bA l i),[])
     | false=>none
    | _,_=>none
   | _=>none
  | none=>none
 | _,_=>none
theorem z6 {lo:Option AV} {vlo:Option Value} (hv:(vlo=none↔lo=none)∧∀ a b,lo=some a→vlo=some b→aq w S μ b a) {len l:Nat} (h:bound len lo=some l) :
  (lo=none∧vlo=none∧l=len)∨∃ k n,vlo=some (.int k n)∧lo=some (.atom (.int k n))∧l=n.toNat:=by
 unfold bound at h
 split at h
 ·simp_all
 ·rename_i k n
  right
  cases vlo with
  | none=>simp_all
  | some b =>
   have:=cY (hv.2 _ b rfl rfl)
   grind
 ·cases h
theorem vZ (isSlice:Bool) {len cap l h:Nat} {lo hi:Option AV} {vlo vhi:Option Value} (Uw:(vlo=none↔lo=none)∧∀ a b,lo=some a→vlo=some b→aq w S μ b a)
  (NF:(vhi=none↔hi=none)∧∀ a b,hi=some a→vhi=some b→aq w S μ b a) (hl:bound 0 lo=some l) (hh:bound len hi=some h) (hle:l≤h) (xf:h≤cap) (hp:bj (ue lo ++ ue hi)) :
  (Instr.sliceBounds isSlice len cap vlo vhi none).run P w=.ok (l,h,cap) w:=by
 obtain ⟨p1,p2⟩:=bj.app hp
 rcases z6 Uw hl with ⟨e1,e2,e3⟩ | ⟨k1,n1,e1,e2,e3⟩
 ·subst e1 e2 e3
  rcases z6 NF hh with ⟨f1,f2,f3⟩ | ⟨k2,n2,f1,f2,f3⟩
  ·simp_all [Instr.sliceBounds]
  ·subst f1 f2 f3
   have:=p2.1
   simp_all [Instr.sliceBounds,Instr.sliceBound,asIntOf]
 ·subst e1 e2 e3
  have:=p1.1
  rcases z6 NF hh with ⟨f1,f2,f3⟩ | ⟨k2,n2,f1,f2,f3⟩
  ·simp_all [Instr.sliceBounds,Instr.sliceBound,asIntOf]
  ·subst f1 f2 f3
   have:=p2.1
   have h2:0≤n2∧n2≤cap:=by omega
   have h3:0≤n1∧n1≤(n2.toNat:Int):=by omega
   simp_all [Instr.sliceBounds,Instr.sliceBound,asIntOf,bH,Sem.run_pure,cX,Sem.run_ite,if_pos]
theorem O3 (g:Good E σ S μ w) {T:TypeId} {x:AV} {v:Value} (hx:aq w S μ v x) {lo hi:Option AV} {vlo vhi:Option Value}
  (Uw:(vlo=none↔lo=none)∧∀ a b,lo=some a→vlo=some b→aq w S μ b a)
  (NF:(vhi=none↔hi=none)∧∀ a b,hi=some a→vhi=some b→aq w S μ b a) {ps:List Prop} {r:AV} {rd:List Nat} (h:yJ P σ T x lo hi=some (ps,r,rd)) (hp:bj ps) :
  ∃ u,(Instr.sliceAt T v vlo vhi none).run P w=.ok u w∧aq w S μ u r:=by
 unfold yJ at h
 split at h
 ·rename_i s hu
  have:=cY hx;subst this
  split at h
  ·rename_i l hh hl Ux
   simp only [az,ay] at h
   obtain ⟨rfl,rfl,rfl⟩:=h
   obtain ⟨⟨p1,p2⟩,p3⟩:=hp
   have hb:=vZ (P:=P) (w:=w) false (cap:=s.size) Uw NF hl Ux p1 p2 p3
   refine ⟨_,?_,.atom _⟩
   simp [Instr.sliceAt,Instr.slice,run_underlying hu,hb]
  ·cases h
 ·rename_i e hu
  split at h
  ·rename_i sz rM
   split at h
   ·rename_i k off len
    split at h
    ·rename_i l hh o hl Ux ho
     split at h
     ·rename_i hb
      have hb:=bO hb
      simp only [az,ay] at h
      obtain ⟨rfl,rfl,rfl⟩:=h
      obtain ⟨⟨p1,p2⟩,p3⟩:=hp
      obtain ⟨pl,c,T',hm,cZ⟩:=g.rep.ob k o ho
      cases hx with
      | os j9 gV h1 h2 h3 =>
       rename_i cap a
       rw [hm] at gV;cases gV
       have Uy:=vZ (P:=P) (w:=w) true (cap:=cap) Uw NF hl Ux p1 (by omega) p3
       refine ⟨.slice (if cap=l then a else a.map (·.add (l * sz))) (hh - l) (cap - l),?_,?_⟩
       ·simp [Instr.sliceAt,Instr.slice,run_underlying hu,Uy,eI rM]
       ·refine .os pl hm ?_ (by omega) (by rw [df];omega)
        intro hc
        have:=h1 (by omega)
        subst this
        rw [if_neg (by omega)]
        simp only [Option.map_some,Addr.add_mid]
        rw [df,cZ.sz,hb,cz]
     ·cases h
    ·cases h
   ·rename_i len get
    split at h
    ·rename_i l hh hl Ux
     split at h
     ·rename_i hb
      have hb:=bO hb
      simp only [az,ay] at h
      obtain ⟨rfl,rfl,rfl⟩:=h
      obtain ⟨⟨p1,p2⟩,p3⟩:=hp
      cases hx with
      | sl b off TK f h1 h2 h3 h4 h5 =>
       rename_i a cap
       have Uy:=vZ (P:=P) (w:=w) true (cap:=cap) Uw NF hl Ux p1 (by omega) p3
       have Yu:l < hh→TK=sz:=fun gS=>by grind
       refine ⟨.slice (if cap=l then a else a.map (·.add (l * sz))) (hh - l) (cap - l),?_,?_⟩
       ·simp [Instr.sliceAt,Instr.slice,run_underlying hu,Uy,eI rM]
       ·refine .sl b (off+l * sz) TK (fun i j=>f (bA l i) j) ?_ (fun i hi=>h2 _ (by rw [df];omega)) ?_ (fun i j c hi hc=>h4 _ _ _ (by rw [df];omega) hc) (by omega)
        ·intro hc
         obtain ⟨ha,hS⟩:=h1 (by omega)
         subst ha
         rw [if_neg (by omega)]
         simp_all [Option.map_some,Addr.add_mid,trivial]
        ·intro i j hi hj
         have:=h3 (bA l i) j (by rw [df];omega) hj
         rw [df] at this ⊢
         rw [← this,← Yu (by omega),cz]
         congr 2;omega
     ·cases h
    ·cases h
   ·cases h
  ·cases h
 ·cases h
end
end Go.Ab
namespace Go.Ab
section
variable {P:Program} {E:Env} {nk:Nat} {σ:dw} {S:Nat→Prop} {μ:Mu} {w:World}
def O4 (P:Program) (T:TypeId) (x:AV):Option AV :=
 match P.underlying T with
 | some .string=>match x with
  | .atom (.string s)=>some (.atom (.int .i64 s.size))
  | _=>none
 | some (.array n _)=>some (.atom (.int .i64 n))
 | some (.slice _)=>match x with
  | .os _ _ n=>some (.atom (.int .i64 n))
  | .sl n _=>some (.atom (.int .i64 n))
  | .nil=>some (.atom (.int .i64 0))
  | _=>none
 | _=>none
theorem Uz {T:TypeId} {x:AV} {v:Value} (hx:aq w S μ v x) {r:AV} (h:O4 P T x=some r) (ty:TypeId) :
  ∃ u,(Builtin.len_ #[T] ty #[v]).run P w=.ok u w∧aq w S μ u r:=by
 unfold O4 at h
 split at h
 ·rename_i hu
  split at h
  ·cases h
   have:=cY hx;subst this
   exact ⟨_,by simp [Builtin.len_,run_underlying hu,goInt],.atom _⟩
  ·cases h
 ·rename_i n e hu
  cases h
  exact ⟨_,by simp [Builtin.len_,run_underlying hu,goInt],.atom _⟩
 ·rename_i e hu
  split at h
  ·cases h
   cases hx with
   | os pl hm h1 h2 h3=>exact ⟨_,by simp [Builtin.len_,run_underlying hu,goInt],.atom _⟩
  ·cases h
   cases hx with
   | sl b off sz f h1 h2 h3 h4 h5=>exact ⟨_,by simp [Builtin.len_,run_underlying hu,goInt],.atom _⟩
  ·cases h
   cases hx
   exact ⟨_,by simp [Builtin.len_,run_underlying hu,goInt],.atom _⟩
  ·cases h
 ·cases h
def uN (σ:dw) (sz:Nat) (x:AV):Option (Nat×(Nat→List AV)×Bool×List Prop×List Nat) :=
 match x with
 | .nil=>some (0,fun _=>[],true,[],[])
 | .sl n g=>match Nat.beq (g 0).length sz with
  | true=>some (n,g,true,[∀ i,i < n→AV.iP (g i)=true],[])
  | false=>none
 | .os k off n=>match au σ k with
  | some o=>match Nat.beq o.sz sz with
   | true=>some (n,(fun i=>o.get (bA off i)),o.pr,[off+n≤o.len,∀ i,i < n→AV.iP (o.get (bA off i))=true],[k])
   | false=>none
  | none=>none
 | _=>none
theorem qO {n:Nat} {g:Nat→List AV} (h:(List.range n).all (fun i=>AV.iP (g i))=true):∀ i,i < n→AV.iP (g i)=true :=
 fun i hi=>List.all_eq_true.1 h i (vT.2 hi)
structure Src (P:Program) (w:World) (S:Nat→Prop) (μ:Mu) (sz:Nat) (v:Value) (n:Nat) (g:Nat→List AV) (pr:Bool) (news:List Value):Prop where
 len:∀ w':World,(Builtin.lenOf v).run P w'=.ok n w'
 cells:∀ w':World,w'.heap=w.heap→(Builtin.firstCells sz n v).run P w'=.ok news.toArray w'
 size:news.length=n * sz
 one:∀ u∈news,u.oneCell'=true
 tB:∀ i,i < n→(g i).length=sz
 rep:∀ i j x u,i < n→(g i)[j]?=some x→news[i * sz+j]?=some u→aq w S (if pr then iL else μ) u x
 RM:∀ i,i < n→AV.iP (g i)=true
theorem Hk {n sz q:Nat} (h:q < n * sz):q / sz < n∧q % sz < sz∧q=q / sz * sz+q % sz:=by
 have h0:0 < sz:=by
  rcases Nat.eq_zero_or_pos sz with h1 | h1
  ·subst h1;simp at h
  ·exact h1
 simp_all [Nat.div_lt_of_lt_mul,pL,Nat.mod_lt,Nat.div_add_mod]
theorem Src.mk' {sz n:Nat} {g:Nat→List AV} {pr:Bool} {b o len cap:Nat} (f:Nat→Nat→Value) (hl:n=len)
  (hc:∀ i j,i < n→j < sz→w.cell? ⟨b,o+i * sz+j,none⟩=some (f i j)) (h1:∀ i,i < n→AV.iP (g i)=true) (pM:∀ i,i < n→(g i).length=sz)
  (hr:∀ i j x,i < n→(g i)[j]?=some x→aq w S (if pr then iL else μ) (f i j) x) :
  ∃ news,Src P w S μ sz (.slice (some ⟨b,o,none⟩) len cap) n g pr news:=by
 subst hl
 refine ⟨(List.range (n * sz)).map fun q=>f (q / sz) (q % sz),?_⟩
 have qm:∀ q u,((List.range (n * sz)).map fun q=>f (q / sz) (q % sz))[q]?=some u→q < n * sz∧u=f (q / sz) (q % sz):=by
  intro q u hq
  have gS:q < n * sz:=by
   have:=(dJ.1 hq).1
   simpa using this
  simp [List.getElem?_range gS] at hq
  exact ⟨gS,hq.symm⟩
 refine ⟨fun w'=>by simp [Builtin.lenOf],fun w' hw=>?_,by simp,?_,pM,?_,h1⟩
 ·have Dg:∀ a,w'.cell? a=w.cell? a:=fun a=>by simp [World.cell?,hw]
  refine run_firstCells_some w' sz n ⟨b,o,none⟩ n cap _ (by simp) ?_
  intro q u hq
  obtain ⟨gS,rfl⟩:=qm q u hq
  obtain ⟨h2,h3,h4⟩:=Hk gS
  rw [Dg,Addr.add_mid]
  have:=hc _ _ h2 h3
  rw [Nat.add_assoc,← h4] at this
  exact this
 ·intro u hu
  obtain ⟨q,hq⟩:=List.getElem?_of_mem hu
  obtain ⟨gS,rfl⟩:=qm q u hq
  obtain ⟨h2,h3,h4⟩:=Hk gS
  have hx:(g (q / sz))[q % sz]?=some ((g (q / sz))[q % sz]'(by rw [pM _ h2];exact h3)):=pG _
  exact (hr _ _ _ h2 hx).Ia (EH (h1 _ h2) hx)
 ·intro i j x u hi hx hu
  obtain ⟨gS,rfl⟩:=qm _ u hu
  have hj:j < sz:=by
   have:=(dJ.1 hx).1
   rwa [pM i hi] at this
  have e1:(i * sz+j) / sz=i:=by
   rw [pL,Nat.mul_add_div (by omega),Nat.div_eq_of_lt hj];omega
  have e2:(i * sz+j) % sz=j:=by
   rw [pL,Nat.mul_add_mod,Nat.mod_eq_of_lt hj]
  rw [e1,e2]
  exact hr i j x hi hx
theorem Src.empty {sz:Nat} {g:Nat→List AV} {pr:Bool} {a:Option Addr} {cap:Nat}:Src P w S μ sz (.slice a 0 cap) 0 g pr []:=by
 refine ⟨fun w'=>by simp [Builtin.lenOf],fun w' _=>?_,by simp,by simp,fun i h=>absurd h (by omega),fun i j x u h=>absurd h (by omega),fun i h=>absurd h (by omega)⟩
 cases a with
 | none=>simp [Builtin.firstCells]
 | some a=>simp [Builtin.firstCells,loadCells,loadCellsFrom]
theorem xL (g:Good E σ S μ w) {sz:Nat} {x:AV} {v:Value} (hx:aq w S μ v x) {n:Nat} {gt:Nat→List AV} {pr:Bool} {ps:List Prop} {rd:List Nat}
  (h:uN σ sz x=some (n,gt,pr,ps,rd)) (hp:bj ps):∃ news,Src P w S μ sz v n gt pr news:=by
 unfold uN at h
 split at h
 ·simp only [az,ay] at h
  obtain ⟨rfl,rfl,rfl,rfl,rfl⟩:=h
  cases hx
  exact ⟨[],Src.empty⟩
 ·rename_i n' g'
  split at h
  ·rename_i hb
   have hb:=bO hb
   simp only [az,ay] at h
   obtain ⟨rfl,rfl,rfl,rfl,rfl⟩:=h
   cases hx with
   | sl b off TK f h1 h2 h3 h4 h5 =>
    rcases Nat.eq_zero_or_pos n' with h0 | h0
    ·subst h0;exact ⟨[],Src.empty⟩
    ·obtain ⟨ha,_⟩:=h1 h0
     subst ha
     have hs:TK=sz:=by rw [← h2 0 h0,hb]
     subst hs
     exact Src.mk' f rfl h3 hp.1 h2 (fun i j x hi hx=>h4 i j x hi hx)
  ·cases h
 ·rename_i k off n'
  split at h
  ·rename_i o ho
   split at h
   ·rename_i hb
    have hb:=bO hb
    simp only [az,ay] at h
    obtain ⟨rfl,hg,rfl,rfl,rfl⟩:=h
    have Uo:gt=fun i=>o.get (off+i):=by
     rw [← hg];funext i;rw [df]
    subst Uo
    obtain ⟨hle,GJ,_⟩:=hp
    simp only [df] at GJ
    obtain ⟨pl,c,T',hm,cZ⟩:=g.rep.ob k o ho
    subst hb
    cases hx with
    | os j9 gV h1 h2 h3 =>
     rename_i cap a
     rw [hm] at gV;cases gV
     rcases Nat.eq_zero_or_pos n' with h0 | h0
     ·subst h0;exact ⟨[],Src.empty⟩
     ·have ha:=h1 (by omega)
      subst ha
      refine Src.mk' (fun i j=>(c[(off+i) * o.sz+j]?).getD undef) rfl ?_ GJ (fun i hi=>cZ.tB _ (by omega)) ?_
      ·intro i j hi hj
       obtain ⟨v,q1,q2⟩:=cQ cZ (i:=off+i) (by omega) hj
       rw [q1,cZ.sz,← cz,q2];rfl
      ·intro i j x hi hx
       obtain ⟨v,q1,q2⟩:=cQ cZ (i:=off+i) (by omega) (by have:=(dJ.1 hx).1;rwa [cZ.tB _ (by omega)] at this)
       rw [q1]
       exact cZ.rep _ j x v (by omega) hx q1
   ·cases h
  ·cases h
 ·cases h
def qP (P:Program) (nk:Nat) (σ:dw) (t:TypeId) (s x:AV):Option (List Prop×AV×List Nat×rO) :=
 match mJ P t with
 | some e=>match tD P e,vV P e,rN P e with
  | some sz,some b,some z=>match Nat.ble 1 sz && Nat.ble 1 b && Nat.beq z.cells.size sz,uN σ sz x with
   | true,some (n,g,pr,ps,rd)=>match s with
    | .nil=>some ((n * b≤140737488355328) :: ps,.os nk 0 n,rd,[(nk,some ⟨false,sz,n,pr,g⟩)])
    | .os k 0 len=>match au σ k with
     | some o=>match Nat.beq o.sz sz && !o.var with
      | true=>some ((len=o.len) :: ((len+n) * b≤140737488355328) :: ps,.os nk 0 (len+n),k :: rd,
        [(k,none),(nk,some ⟨false,sz,len+n,o.pr && pr,fun m=>if m < len then o.get m else g (m - len)⟩)])
      | false=>none
     | none=>none
    | _=>none
   | _,_=>none
  | _,_,_=>none
 | none=>none
theorem Dh {t ty e:TypeId} {i:TypeInfo} (ht:P.underlying t=some (.slice e)) (hi:P.info? e=some i) {sLen sCap n:Nat} {vx:Value} {news:List Value}
  (hl:∀ w':World,(Builtin.lenOf vx).run P w'=.ok n w') (hc:∀ w':World,w'.heap=w.heap→(Builtin.firstCells i.size n vx).run P w'=.ok news.toArray w') (hle:sLen+n≤sCap) :
  (Builtin.append_ #[t,t] ty #[.slice none sLen sCap,vx]).run P w=.ok (.slice none (sLen+n) sCap) w:=by
 simp [Builtin.append_,run_underlying ht,sizeOf,typeInfo,hi,hl,hle,hc w rfl]
theorem EK {t ty e:TypeId} {i:TypeInfo} (ht:P.underlying t=some (.slice e)) (hi:P.info? e=some i) {g sLen sCap n:Nat} {cur:Array Value} {T:TypeId} (hg:w.heap[g]?=some (.cells cur T (0,0))) {vx:Value} {news:List Value}
  (hl:∀ w':World,(Builtin.lenOf vx).run P w'=.ok n w') (hc:∀ w':World,w'.heap=w.heap→(Builtin.firstCells i.size n vx).run P w'=.ok news.toArray w') (h1:∀ u∈news,u.oneCell'=true)
  (hle:sLen+n≤sCap) (xg:sLen * i.size+news.length≤cur.size) :
  (Builtin.append_ #[t,t] ty #[.slice (some ⟨g,0,none⟩) sLen sCap,vx]).run P w =
   .ok (.slice (some ⟨g,0,none⟩) (sLen+n) sCap) (w.setRow g (cur.toList.take (sLen * i.size) ++ news ++ cur.toList.drop (sLen * i.size+news.length)).toArray):=by
 have AP:=run_storeCells_at P g (sLen * i.size) T news 0 cur w hg (by simpa using xg) h1
 simp only [Nat.add_zero] at AP
 simp [Builtin.append_,run_underlying ht,sizeOf,typeInfo,hi,hl,hle,hc w rfl,Addr.add_lit,AP]
theorem K8 {t ty e:TypeId} {i:TypeInfo} (ht:P.underlying t=some (.slice e)) (hi:P.info? e=some i) {g b sLen sCap n:Nat} {cur:Array Value} {T:TypeId} (hg:w.heap[g]?=some (.cells cur T (0,0))) {vx:Value} {news:List Value}
  (hl:∀ w':World,(Builtin.lenOf vx).run P w'=.ok n w') (hc:∀ w':World,w'.heap=w.heap→(Builtin.firstCells i.size n vx).run P w'=.ok news.toArray w') (h1:∀ u∈news,u.oneCell'=true)
  (hle:sLen+n≤sCap) (xg:b+sLen * i.size+news.length≤cur.size) :
  (Builtin.append_ #[t,t] ty #[.slice (some ⟨g,b,none⟩) sLen sCap,vx]).run P w =
   .ok (.slice (some ⟨g,b,none⟩) (sLen+n) sCap) (w.setRow g (cur.toList.take (b+sLen * i.size) ++ news ++ cur.toList.drop (b+sLen * i.size+news.length)).toArray):=by
 have AP:=run_storeCells_at P g (b+sLen * i.size) T news 0 cur w hg (by simpa using xg) h1
 simp only [Nat.add_zero] at AP
 simp [Builtin.append_,run_underlying ht,sizeOf,typeInfo,hi,hl,hle,hc w rfl,Addr.add_lit,AP]
theorem v5 {t ty e:TypeId} {i:TypeInfo} {z:Value} (ht:P.underlying t=some (.slice e)) (hi:P.info? e=some i) (hz:i.zero=some z) {base:Option Addr} {sLen sCap n:Nat} {vx:Value} {olds news:List Value}
  (ho:∀ w':World,w'.heap=w.heap→(Builtin.firstCells i.size sLen (.slice base sLen sCap)).run P w'=.ok olds.toArray w')
  (hl:∀ w':World,(Builtin.lenOf vx).run P w'=.ok n w') (hc:∀ w':World,w'.heap=w.heap→(Builtin.firstCells i.size n vx).run P w'=.ok news.toArray w')
  (hg:sCap < sLen+n) (hb:1≤i.bytes) (xg:(sLen+n) * i.bytes≤140737488355328) :
  (Builtin.append_ #[t,t] ty #[.slice base sLen sCap,vx]).run P w =
   .ok (.slice (some ⟨w.heap.size,0,none⟩) (sLen+n) (grownCap w (sLen+n) sCap e))
    (w.drew.alloc (.cells (olds.toArray ++ news.toArray ++ Builtin.zeroCells z.cells (grownCap w (sLen+n) sCap e - (sLen+n))) e)):=by
 have hn:¬ (sLen+n≤sCap):=by omega
 have Cd:(sLen+n) * 1≤(sLen+n) * i.bytes:=Nat.mul_le_mul_left _ hb
 have Yv:¬ (9223372036854775807 < ((sLen:Int)+(n:Int))):=by omega
 have h48:=growslice_fits hg xg
 have Yw:¬ (281474976710656 < Builtin.nextslicecap (sLen+n) sCap * i.bytes):=by omega
 have e1:=hc w.drew rfl
 have e2:=ho w.drew rfl
 simp [Builtin.append_,run_underlying ht,sizeOf,typeInfo,zeroValue,hi,hz,hl,hn,Yv,Yw,Question.forced,e1,e2,newRow,grownCap]
 grind
theorem EL (w:World) (Wj xe:Nat) (e:TypeId):Wj≤grownCap w Wj xe e:=by simp [grownCap,Question.cut]
theorem Good.grow (g:Good E σ S μ w) (hk:μ nk=none) (hm:E.m0≤nk) {sz n len cap:Nat} {e:TypeId} {olds news:List Value} {rest:Array Value} {pr:Bool} {get:Nat→List AV}
  (ho:olds.length=len * sz) (hn:news.length=n * sz) (hr:rest.size=(cap - (len+n)) * sz) (hle:len+n≤cap)
  (pM:∀ i,i < len+n→(get i).length=sz)
  (zZ:∀ i j x u,i < len+n→(get i)[j]?=some x→(olds ++ news)[i * sz+j]?=some u→aq w S (if pr then iL else μ) u x) (Ca:sz≠0)
  (TC:MX E.fp E.w0.heap.size (w.drew.alloc (.cells (olds.toArray ++ news.toArray ++ rest) e)) S (bZ μ nk ⟨w.heap.size,cap,sz⟩) (sset σ nk ⟨false,sz,len+n,pr,get⟩)) :
  Ext w S μ (w.drew.alloc (.cells (olds.toArray ++ news.toArray ++ rest) e)) S (bZ μ nk ⟨w.heap.size,cap,sz⟩) ∧
  Good E (sset σ nk ⟨false,sz,len+n,pr,get⟩) S (bZ μ nk ⟨w.heap.size,cap,sz⟩) (w.drew.alloc (.cells (olds.toArray ++ news.toArray ++ rest) e)):=by
 have rM:(olds.toArray ++ news.toArray ++ rest).size=cap * sz:=by
  simp only [Array.size_append,List.size_toArray,ho,hn,hr]
  rw [← cz,← cz];congr 1;omega
 have ga:=g.drew.ON (nk:=nk) hk hm (olds.toArray ++ news.toArray ++ rest) e ⟨false,sz,len+n,pr,get⟩ cap (by rw [rM];exact aG _) hle pM ?_ Ca TC
 ·exact ⟨(Ext.drew w S μ).trans ga.1,ga.2⟩
 ·intro i j x v hi hx hv
  have hj:j < sz:=by
   have:=(dJ.1 hx).1
   have e:(get i).length=sz:=pM i hi
   exact e ▸ this
  have gS:i * sz+j < (olds ++ news).length:=by
   have h1:(i+1) * sz≤(len+n) * sz:=dH _ (show i+1≤len+n from hi)
   rw [cz,cz] at h1
   simp only [lY,ho,hn]
   omega
  have sJ:(olds ++ news)[i * sz+j]?=some v:=by
   rw [show olds.toArray ++ news.toArray ++ rest=(olds ++ news).toArray ++ rest by simp] at hv
   rw [Array.getElem?_append_left (by simpa using gS)] at hv
   simpa using hv
  have:=zZ i j x v hi hx sJ
  exact aq.mono (w:=w) (w':=w.drew) (S':=S) (fun _ h=>h) (fun _ _=>rfl) this (fun _ _ h=>h)
theorem Good.move (g:Good E σ S μ w) (hk:μ nk=none) (hm:E.m0≤nk) {k:Nat} {o:Ob} {pl:Place} (ho:au σ k=some o) (uf:μ k=some pl) (o':Ob) {c:Array Value} {T:TypeId} (cZ:gR w S μ o' pl c T)
  (vU:∀ i x,rowOf o' i=some x→rowOf o i=some x) :
  Ext w S μ w S (bZ μ nk pl)∧Good E (sset (uM σ k) nk o') S (bZ μ nk pl) w:=by
 have gd:=g.del k
 have Rq:∀ n j9,μ n=some j9→bZ μ nk pl n=some j9:=fun n j9 h=>by
  grind [bZ]
 have ex:Ext w S μ w S (bZ μ nk pl):=⟨aG _,fun _ h=>h,fun _ _=>rfl,Rq⟩
 refine ⟨ex,⟨g.fr,g.S0,g.S1,g.S2,⟨?_,?_⟩,?_,?_,?_⟩⟩
 rotate_right
 ·have Yx:k≠nk:=fun h=>by simp_all
  have key:∀ q i x v,ja w (bZ μ nk pl) (sset (uM σ k) nk o') q i x v→(q=nk∧ja w μ σ k i x v)∨(q≠nk∧q≠k∧ja w μ σ q i x v):=by
   rintro q i x v ⟨o2,rY,h1,h2,h3,h4⟩
   rw [ba] at h1
   unfold bZ at h3
   by_cases hq:nk=q
   ·rw [if_pos hq] at h1;cases h1
    rw [if_pos hq.symm] at h3;cases h3
    exact .inl ⟨hq.symm,o,pl,ho,vU i x h2,uf,h4⟩
   ·rw [if_neg hq] at h1
    rw [if_neg (fun h=>hq h.symm)] at h3
    rw [fO] at h1
    split at h1
    ·cases h1
    ·rename_i hkq
     exact .inr ⟨fun h=>hq h.symm,fun h=>hkq h.symm,o2,rY,h1,h2,h3,h4⟩
  refine g.mx.tr (fun q=>if q=nk then k else q) (fun q i x v h=>?_) (fun q i x v q' i' x' v' h h' e=>?_) (fun _ h=>h) (fun _ _=>rfl) (fun q i x v b _ h hb=>⟨rfl,(g.mx.cK h hb).2.1,fun h=>h⟩) (fun q o2 rY h1 h2 h3=>?_)
  ·grind
  ·grind
  ·rw [ba] at h1
   unfold bZ at h2
   by_cases hq:nk=q
   ·grind
   ·rw [if_neg hq,fO] at h1
    grind
 ·intro q oq hq
  rw [ba] at hq
  by_cases Yy:nk=q
  ·rw [if_pos Yy] at hq;cases hq
   exact ⟨pl,c,T,by simp [bZ,Yy],cZ.ext ex (fun _=>rfl) cZ.out⟩
  ·rw [if_neg Yy] at hq
   obtain ⟨rY,c2,T2,Dx,O5⟩:=gd.rep.ob q oq hq
   exact ⟨rY,c2,T2,Rq _ _ Dx,O5.ext ex (fun _=>rfl) O5.out⟩
 ·intro q q' oq oq' AO rY fZ hq NG Dw EM c1 c2
  rw [ba] at hq NG
  simp only [bZ] at Dw EM
  by_cases e1:nk=q
  ·rw [if_pos e1.symm] at Dw;cases Dw
   have e2:¬ nk=q':=fun h=>fZ (e1.symm.trans h)
   rw [if_neg e2] at NG;rw [if_neg (fun h=>e2 h.symm)] at EM
   rw [fO] at NG
   split at NG
   ·cases NG
   ·rename_i e3
    exact g.rep.ne k q' o oq' pl rY e3 ho NG uf EM c1 c2
  ·rw [if_neg e1] at hq;rw [if_neg (fun h=>e1 h.symm)] at Dw
   rw [fO] at hq
   split at hq
   ·cases hq
   ·rename_i e3
    by_cases e2:nk=q'
    ·rw [if_pos e2.symm] at EM;cases EM
     exact g.rep.ne q k oq o AO pl (fun h=>e3 h.symm) hq ho Dw uf c1 c2
    ·rw [if_neg e2] at NG;rw [if_neg (fun h=>e2 h.symm)] at EM
     rw [fO] at NG
     split at NG
     ·cases NG
     ·exact g.rep.ne q q' oq oq' AO rY fZ hq NG Dw EM c1 c2
 ·intro q oq plq hq Dw c1
  rw [ba] at hq
  simp only [bZ] at Dw
  by_cases e1:nk=q
  ·rw [if_pos e1.symm] at Dw;cases Dw;exact g.own k o _ ho uf c1
  ·rw [if_neg e1] at hq;rw [if_neg (fun h=>e1 h.symm)] at Dw
   exact gd.own q oq plq hq Dw c1
 ·intro q hq;rw [nf _ (by omega)];exact g.Eh q hq
theorem Good.congr {eS:dw} (g:Good E σ S μ w) (h:∀ n,au eS n=au σ n):Good E eS S μ w :=
 ⟨g.fr,g.S0,g.S1,g.S2,⟨fun k o hk=>g.rep.ob k o (h k ▸ hk),fun k k' o o' pl j9 fZ hk oQ=>g.rep.ne k k' o o' pl j9 fZ (h k ▸ hk) (h k' ▸ oQ)⟩,
  fun k o pl hk=>g.own k o pl (h k ▸ hk),g.Eh,g.mx.tr id (fun k i x v ⟨o,pl,h1,h2⟩=>⟨o,pl,h k ▸ h1,h2⟩) (fun _ _ _ _ _ _ _ _ _ _ h=>h) (fun _ h=>h) (fun _ _=>rfl)
   (fun k i x v b _ h hb=>⟨rfl,(g.mx.cK h hb).2.1,fun h=>h⟩) (fun k o pl h1 h2 h3=>.inl ⟨k,o,pl,h k ▸ h1,h2,h3,rfl⟩)⟩
theorem Hl (g:Good E σ S μ w) (hk:μ nk=none) (hm:E.m0≤nk) {t ty:TypeId} {s x:AV} {vs vx:Value} (hs:aq w S μ vs s) (hx:aq w S μ vx x) {ps:List Prop} {val:AV} {rd:List Nat} {ml:rO}
  (h:qP P nk σ t s x=some (ps,val,rd,ml)) (hp:bj ps):Step P E nk σ S μ w (Builtin.append_ #[t,t] ty #[vs,vx]) val ml:=by
 unfold qP at h
 split at h
 ·rename_i e he
  have he:=kO he
  split at h
  ·rename_i sz b z rM hb hz
   obtain ⟨ie,Ej,rfl,rfl,Oy⟩:=vW rM hb hz
   split at h
   ·rename_i n gt pr O6 Mn Cd uO
    simp only [bh,Nat.ble_eq] at Cd
    obtain ⟨⟨b1,b2⟩,b3⟩:=Cd
    have b3:=bO b3
    split at h
    ·simp only [az,ay] at h
     obtain ⟨rfl,rfl,rfl,rfl⟩:=h
     obtain ⟨p1,p2⟩:=hp
     obtain ⟨news,sr⟩:=xL (P:=P) g hx uO p2
     cases hs
     rcases Nat.eq_zero_or_pos n with h0 | h0
     ·subst h0
      have lG:=Dh (P:=P) (w:=w) (ty:=ty) (sLen:=0) (sCap:=0) he Ej sr.len sr.cells (by omega)
      have ga:Good E (sset σ nk ⟨false,ie.size,0,pr,gt⟩) S (bZ μ nk ⟨0,0,ie.size⟩) w:=by
       have Rq:∀ k pl,μ k=some pl→bZ μ nk ⟨0,0,ie.size⟩ k=some pl:=fun k pl h=>by
        grind [bZ]
       have ex:Ext w S μ w S (bZ μ nk ⟨0,0,ie.size⟩):=⟨aG _,fun _ h=>h,fun _ _=>rfl,Rq⟩
       have OO:∀ i,rowOf ⟨false,ie.size,0,pr,gt⟩ i=none:=pN fun i hi=>absurd hi (dX _)
       refine ⟨g.fr,g.S0,g.S1,g.S2,⟨?_,?_⟩,?_,?_,g.JA hk _ _ (fun h=>absurd h (by simp)) OO (fun _ _=>rfl) (fun _ h=>h) (fun _ h=>.inl h)⟩
       ·intro k o ho
        rw [ba] at ho
        by_cases wR:nk=k
        ·rw [if_pos wR] at ho;cases ho
         exact ⟨⟨0,0,ie.size⟩,#[],0,by simp [bZ,wR],rfl,fun h=>absurd h (by simp),by simp,by simp,fun h=>absurd h (by simp),fun i h=>absurd h (by simp),fun i j x v h=>absurd h (by simp),fun h=>absurd (show ie.size=0 from h) (by omega)⟩
        ·rw [if_neg wR] at ho
         obtain ⟨pl,c,T,gV,cZ⟩:=g.rep.ob k o ho
         exact ⟨pl,c,T,Rq _ _ gV,cZ.ext ex (fun _=>rfl) cZ.out⟩
       ·intro k k' o o' pl j9 fZ ho vR Dw EM c1 c2
        rw [ba] at ho vR
        simp only [bZ] at Dw EM
        by_cases h1:nk=k
        ·grind
        ·by_cases h2:nk=k'
         ·grind
         ·rw [if_neg h1] at ho;rw [if_neg h2] at vR
          rw [if_neg (fun h=>h1 h.symm)] at Dw;rw [if_neg (fun h=>h2 h.symm)] at EM
          exact g.rep.ne k k' o o' pl j9 fZ ho vR Dw EM c1 c2
       ·intro k o pl ho Dw c1
        rw [ba] at ho
        simp only [bZ] at Dw
        by_cases h1:nk=k
        ·grind
        ·rw [if_neg h1] at ho;rw [if_neg (fun h=>h1 h.symm)] at Dw
         exact g.own k o pl ho Dw c1
       ·intro k oQ
        rw [nf _ (by omega)];exact g.Eh k oQ
      refine ⟨_,w,S,_,lG,⟨aG _,fun _ h=>h,fun _ _=>rfl,?_⟩,ga,fun k oQ hn=>by grind [nf],?_⟩
      ·grind [bZ]
      simp_all [aq.os,bZ,absurd]
     ·have lG:=v5 (P:=P) (w:=w) (ty:=ty) (base:=none) (sLen:=0) (sCap:=0) (olds:=[]) he Ej Oy (fun w' _=>by simp [Builtin.firstCells]) sr.len sr.cells (by omega) b2 (by simpa using p1)
      simp only [Nat.zero_add] at lG
      have xf:=EL w n 0 e
      have gg:=g.grow (e:=e) hk hm (sz:=ie.size) (n:=n) (len:=0) (cap:=grownCap w n 0 e) (olds:=[]) (news:=news) (rest:=Builtin.zeroCells z.cells (grownCap w n 0 e - n)) (pr:=pr) (get:=gt)
       (by simp) sr.size (by rw [size_zeroCells,b3,Nat.zero_add]) (by omega) (fun i hi=>sr.tB i (by omega)) (fun i j x u hi hx hu=>sr.rep i j x u (by omega) hx (by simpa using hu)) (by omega)
       (g.JA hk _ _ (fun _=>aG _) (pN fun i hi=>sr.RM i (by simp_all)) (fun b h=>ft (w:=w.drew) h) (fun _ h=>h) (fun _ h=>.inl h))
      simp only [Nat.zero_add] at gg
      refine ⟨_,_,S,_,lG,gg.1,gg.2,fun k oQ hn=>by grind [nf],?_⟩
      simp_all [aq.os,grownCap,bZ]
    ·rename_i k len
     split at h
     ·rename_i o ho
      split at h
      ·rename_i Jo
       simp only [bh,Bool.not_eq_true'] at Jo
       obtain ⟨Jo,AX⟩:=Jo
       have Jo:=bO Jo
       simp only [az,ay] at h
       obtain ⟨rfl,rfl,rfl,rfl⟩:=h
       obtain ⟨p0,p1,p2⟩:=hp
       subst p0
       obtain ⟨news,sr⟩:=xL (P:=P) g hx uO p2
       obtain ⟨pl,c,T',uf,cZ⟩:=g.rep.ob k o ho
       have wR:k≠nk:=fun h=>by simp_all
       show Step P E nk σ S μ w _ _ [(k,none),(nk,some ⟨false,ie.size,o.len+n,o.pr && pr,fun m=>if m < o.len then o.get m else gt (m - o.len)⟩)]
       have pM:∀ i,i < o.len+n→((fun m=>if m < o.len then o.get m else gt (m - o.len)) i).length=ie.size:=by
        intro i hi
        show (if i < o.len then o.get i else gt (i - o.len)).length=_
        split
        ·rw [cZ.tB i (by assumption),Jo]
        ·exact sr.tB _ (by omega)
       have Wk:∀ {u:Value} {x:AV},aq w S (if o.pr then iL else μ) u x→pr=true∨pr=false→aq w S (if (o.pr && pr)=true then iL else μ) u x:=by
        intro u x hh hp
        rcases hp with hp | hp
        ·simp_all
        ·rw [hp,Bool.and_false];exact iQ hh
       have RN:∀ {u:Value} {x:AV},aq w S (if pr then iL else μ) u x→aq w S (if (o.pr && pr)=true then iL else μ) u x:=by
        intro u x hh
        cases hp:o.pr
        ·rw [Bool.false_and];exact iQ hh
        ·rw [Bool.true_and];exact hh
       have prb:pr=true∨pr=false:=by cases pr<;>simp
       have vU:∀ i x,rowOf ⟨false,ie.size,o.len+n,o.pr && pr,fun m=>if m < o.len then o.get m else gt (m - o.len)⟩ i=some x→rowOf o i=some x:=by
        intro i x hx
        obtain ⟨_,q2,q3⟩:=da hx
        have q2:i < o.len+n:=q2
        have q3:(if i < o.len then o.get i else gt (i - o.len))=[.mr x.1 x.2.1 x.2.2]:=q3
        split at q3
        ·rename_i h1;exact kN AX h1 q3
        ·have:=sr.RM (i - o.len) (by omega)
         rw [q3] at this;cases this
       cases hs with
       | os j9 gV h1 h2 h3 =>
        rename_i cap a
        rw [uf] at gV;cases gV
        by_cases JJ:o.len+n≤cap
        ·rcases Nat.eq_zero_or_pos cap with xM | xM
         ·have Rp:n=0:=by omega
          have JF:o.len=0:=by omega
          subst Rp
          have TL:news=[]:=List.length_eq_zero_iff.1 (by rw [sr.size];simp)
          have lG:(Builtin.append_ #[t,t] ty #[.slice a o.len cap,vx]).run P w=.ok (.slice a (o.len+0) cap) w:=by
           subst xM
           cases a with
           | none=>exact Dh (P:=P) (w:=w) (ty:=ty) he Ej sr.len sr.cells (by omega)
           | some a =>
            have e1:=sr.cells w rfl
            rw [TL] at e1
            simp [Builtin.append_,run_underlying he,sizeOf,typeInfo,Ej,sr.len,JF,e1,storeCells]
          have gm:=g.move hk hm ho uf ⟨false,ie.size,o.len+0,o.pr && pr,fun m=>if m < o.len then o.get m else gt (m - o.len)⟩ (c:=c) (T:=T')
           ⟨cZ.sz.trans Jo,Jo ▸ cZ.cK,Jo ▸ cZ.cap,cZ.len,cZ.out,pM,fun i j x v hi=>absurd hi (by show ¬ i < o.len+0;omega),fun h=>absurd (show ie.size=0 from h) (by omega)⟩ vU
          exact ⟨_,w,S,bZ μ nk pl,lG,gm.1,gm.2,fun k oQ hn=>by rw [nf _ oQ];exact hn,aq.os pl (by simp [bZ]) h1 (by omega) h3⟩
         ·have ha:=h1 xM
          simp only [Nat.zero_mul] at ha
          subst ha
          have vQ:0 < pl.cap:=by omega
          have xg:o.len * ie.size+news.length≤c.size:=by
           have e1:(o.len+n) * ie.size≤pl.cap * ie.size:=dH _ (by omega)
           have e2:=cZ.cap
           rw [Jo] at e2
           rw [sr.size,← cz];omega
          have lG:=EK (P:=P) (w:=w) (ty:=ty) he Ej ((cZ.cK vQ).trans (by rw [fF (by omega)])) sr.len sr.cells sr.one JJ xg
          generalize oG:(c.toList.take (o.len * ie.size) ++ news ++ c.toList.drop (o.len * ie.size+news.length)).toArray=c' at lG
          have xJ:(c.toList.take (o.len * ie.size)).length=o.len * ie.size:=by simp;omega
          have Ig:c'.size=c.size:=by
           rw [← oG]
           simp;omega
          have qm:∀ m,m < o.len * ie.size+news.length→c'[m]?=if m < o.len * ie.size then c[m]? else news[m - o.len * ie.size]?:=by
           intro m hm
           rw [← oG]
           simp only [List.getElem?_toArray]
           rw [iz (by simp;omega)]
           by_cases h1:m < o.len * ie.size
           ·rw [iz (by omega),pK,if_pos h1,if_pos h1]
            simp
           ·rw [jH (by omega),xJ,if_neg h1]
          have gw:=g.write ho uf vQ cZ (by omega) ⟨false,ie.size,o.len+n,o.pr && pr,fun m=>if m < o.len then o.get m else gt (m - o.len)⟩ c' Jo.symm Ig (by show o.len+n≤_;omega) pM (by
           intro i j x v hi hx hv
           have hi:i < o.len+n:=hi
           have hx:(if i < o.len then o.get i else gt (i - o.len))[j]?=some x:=hx
           have hj:j < ie.size:=by
            have e1:=(dJ.1 hx).1
            have e2:(if i < o.len then o.get i else gt (i - o.len)).length=ie.size:=pM i hi
            omega
           have hv:c'[i * ie.size+j]?=some v:=hv
           have rL:(i+1) * ie.size≤(o.len+n) * ie.size:=dH _ hi
           rw [cz,cz] at rL
           rw [qm _ (by rw [sr.size];omega)] at hv
           by_cases GC:i < o.len
           ·have o5:(i+1) * ie.size≤o.len * ie.size:=dH _ GC
            rw [cz] at o5
            rw [if_pos (by omega)] at hv
            rw [if_pos GC] at hx
            exact Wk (cZ.rep i j x v GC hx (by rw [Jo];exact hv)) prb
           ·have o5:o.len * ie.size≤i * ie.size:=dH _ (by omega)
            rw [if_neg (by omega)] at hv
            rw [if_neg GC] at hx
            refine RN (sr.rep (i - o.len) j x v (by omega) hx ?_)
            rw [← hv,Nat.sub_mul];congr 1;omega) (fun i x hx=>⟨vU i x hx,by
           obtain ⟨_,q2,_⟩:=da (vU i x hx)
           have o5:(i+1) * ie.size≤o.len * ie.size:=dH _ q2
           rw [cz] at o5
           rw [Jo,qm _ (by omega),if_pos (by omega)]⟩)
          obtain ⟨Wl,UA⟩:=gw
          have hsk:au (sset σ k ⟨false,ie.size,o.len+n,o.pr && pr,fun m=>if m < o.len then o.get m else gt (m - o.len)⟩) k=some ⟨false,ie.size,o.len+n,o.pr && pr,fun m=>if m < o.len then o.get m else gt (m - o.len)⟩:=by
           rw [ba,if_pos rfl]
          obtain ⟨XI,c3,T3,Mi,Yz⟩:=UA.rep.ob k _ hsk
          rw [uf] at Mi;cases Mi
          have gm:=UA.move hk hm hsk uf _ Yz (fun _ _ h=>h)
          refine ⟨_,_,S,bZ μ nk pl,lG,Wl.trans gm.1,gm.2.congr ?_,fun k oQ hn=>by rw [nf _ oQ];exact hn,aq.os pl (by simp [bZ]) (by simp) JJ h3⟩
          intro n
          show au (sset (uM σ k) nk _) n=_
          rw [ba,ba,fO,fO,ba]
          split
          ·rfl
          ·split
           ·rfl
           ·rfl
        ·have hg:cap < o.len+n:=by omega
         have holds:∃ olds:List Value,olds.length=o.len * ie.size∧(∀ w':World,w'.heap=w.heap→(Builtin.firstCells ie.size o.len (.slice a o.len cap)).run P w'=.ok olds.toArray w') ∧
           (∀ (q:Nat) (u:Value),olds[q]?=some u→c[q]?=some u):=by
          rcases Nat.eq_zero_or_pos o.len with JF | JF
          ·refine ⟨[],by simp [JF],fun w' _=>?_,by simp⟩
           rw [JF]
           cases a with
           | none=>simp [Builtin.firstCells]
           | some a=>simp [Builtin.firstCells,loadCells,loadCellsFrom]
          ·have vQ:0 < pl.cap:=by have:=cZ.len;omega
           have ha:=h1 (by omega)
           simp only [Nat.zero_mul] at ha
           subst ha
           have hle:o.len * ie.size≤c.size:=by
            have e1:o.len * ie.size≤pl.cap * ie.size:=dH _ cZ.len
            have e2:=cZ.cap
            rw [Jo] at e2;omega
           refine ⟨c.toList.take (o.len * ie.size),by simp;omega,fun w' YA=>?_,?_⟩
           ·refine run_firstCells_some w' ie.size o.len _ o.len cap _ (by simp;omega) ?_
            intro q u hq
            rw [Addr.add_lit,Nat.zero_add,cell_of_row w' _ _ _ _ _ (by rw [YA];exact (cZ.cK vQ).trans (by rw [fF (by omega)]))]
            rw [pK] at hq
            split at hq
            ·simpa using hq
            ·cases hq
           ·intro q u hq
            rw [pK] at hq
            split at hq
            ·simpa using hq
            ·cases hq
         obtain ⟨olds,VS,hoc,hoo⟩:=holds
         have lG:=v5 (P:=P) (w:=w) (ty:=ty) he Ej Oy hoc sr.len sr.cells hg b2 p1
         have xf:=EL w (o.len+n) cap e
         have gd:=g.del k
         have gg:=gd.grow (e:=e) hk hm (sz:=ie.size) (n:=n) (len:=o.len) (cap:=grownCap w (o.len+n) cap e) (olds:=olds) (news:=news)
          (rest:=Builtin.zeroCells z.cells (grownCap w (o.len+n) cap e - (o.len+n))) (pr:=o.pr && pr) (get:=fun m=>if m < o.len then o.get m else gt (m - o.len))
          VS sr.size (by rw [size_zeroCells,b3]) xf pM (by
           intro i j x u hi hx hu
           have hx:(if i < o.len then o.get i else gt (i - o.len))[j]?=some x:=hx
           have hj:j < ie.size:=by
            have e1:=(dJ.1 hx).1
            have e2:(if i < o.len then o.get i else gt (i - o.len)).length=ie.size:=pM i hi
            omega
           by_cases GC:i < o.len
           ·have o5:(i+1) * ie.size≤o.len * ie.size:=dH _ GC
            rw [cz] at o5
            rw [if_pos GC] at hx
            rw [iz (by omega)] at hu
            exact Wk (cZ.rep i j x u GC hx (by rw [Jo];exact hoo _ _ hu)) prb
           ·have o5:o.len * ie.size≤i * ie.size:=dH _ (by omega)
            rw [if_neg GC] at hx
            rw [jH (by omega),VS] at hu
            refine RN (sr.rep (i - o.len) j x u (by omega) hx ?_)
            rw [← hu,Nat.sub_mul];congr 1;omega) (by omega) (by
          have O7:∀ b,b < w.heap.size→(w.drew.alloc (.cells (olds.toArray ++ news.toArray ++ Builtin.zeroCells z.cells (grownCap w (o.len+n) cap e - (o.len+n))) e)).heap[b]?=w.heap[b]?:=fun b h=>ft (w:=w.drew) h
          have uP:∀ {q:Nat} {o2:Ob} {rY:Place},au σ q=some o2→μ q=some rY→0 < rY.cap→rY.cK < w.heap.size:=fun {q o2 rY} h1 h2 h3=>by
           obtain ⟨XI,c3,T3,Mi,KW⟩:=g.rep.ob q o2 h1
           rw [h2] at Mi;cases Mi
           exact gz (KW.cK h3)
          refine g.mx.tr (fun q=>if q=nk then k else q) (fun q i x v h=>?_) (fun q i x v q' i' x' v' h h' he=>?_) (fun _ h=>h) (fun b hb=>O7 b (g.S1 b hb)) (fun q i x v b _ h hb=>?_) (fun q o2 rY h1 h2 h3=>?_)
          ·obtain ⟨o2,rY,h1,h2,h3,h4⟩:=h
           rw [ba] at h1
           unfold bZ at h3
           by_cases hq:nk=q
           ·rw [if_pos hq] at h1;cases h1
            rw [if_pos hq.symm] at h3;cases h3
            show ja w μ σ (if q=nk then k else q) i x v
            rw [if_pos hq.symm]
            have hr:=vU i x h2
            obtain ⟨_,q2,_⟩:=da hr
            refine ⟨o,pl,ho,hr,uf,?_⟩
            have vQ:0 < pl.cap:=by have:=cZ.len;omega
            have o5:(i+1) * ie.size≤o.len * ie.size:=dH _ q2
            rw [cz] at o5
            have h4:(w.drew.alloc (.cells (olds.toArray ++ news.toArray ++ Builtin.zeroCells z.cells (grownCap w (o.len+n) cap e - (o.len+n))) e)).cell? ⟨w.drew.heap.size,i * ie.size,none⟩=some v:=h4
            rw [cell_of_row _ _ _ _ _ _ (heap_alloc_new w.drew _)] at h4
            rw [Array.getElem?_append_left (by simp;omega),Array.getElem?_append_left (by simp;omega)] at h4
            rw [cell_of_row w _ _ _ _ _ ((cZ.cK vQ).trans (by rw [fF (by omega)])),cZ.sz,Jo]
            exact hoo _ _ (by simpa using h4)
           ·rw [if_neg hq,fO] at h1
            rw [if_neg (fun h=>hq h.symm)] at h3
            split at h1
            ·cases h1
            ·show ja w μ σ (if q=nk then k else q) i x v
             rw [if_neg (fun h=>hq h.symm)]
             refine ⟨o2,rY,h1,h2,h3,?_⟩
             obtain ⟨XI,c3,T3,Mi,KW⟩:=g.rep.ob q o2 h1
             rw [h3] at Mi;cases Mi
             rw [← h4]
             exact (qN (O7 _ (gz (KW.cK (by have:=(da h2).2.1;have:=KW.len;omega)))) _).symm
          ·have he:(if q=nk then k else q)=(if q'=nk then k else q'):=he
           have GD:∀ {q i x v},ja (w.drew.alloc (.cells (olds.toArray ++ news.toArray ++ Builtin.zeroCells z.cells (grownCap w (o.len+n) cap e - (o.len+n))) e)) (bZ μ nk ⟨w.heap.size,grownCap w (o.len+n) cap e,ie.size⟩) (sset (uM σ k) nk ⟨false,ie.size,o.len+n,o.pr && pr,fun m=>if m < o.len then o.get m else gt (m - o.len)⟩) q i x v→q≠nk→q≠k:=by
            rintro q i x v ⟨o2,_,h1,_⟩ hq rfl
            rw [ba,if_neg (fun h=>hq h.symm),fO,if_pos rfl] at h1
            cases h1
           by_cases h1:q=nk<;>by_cases h3:q'=nk
           ·exact h1.trans h3.symm
           ·rw [if_pos h1,if_neg h3] at he;exact absurd he.symm (GD h' h3)
           ·rw [if_neg h1,if_pos h3] at he;exact absurd he (GD h h1)
           ·rw [if_neg h1,if_neg h3] at he;exact he
          ·obtain ⟨q1,q2,q3,_⟩:=g.mx.cK h hb
           exact ⟨O7 b q1,q2,fun h=>h⟩
          ·rw [ba] at h1
           unfold bZ at h2
           by_cases hq:nk=q
           ·rw [if_pos hq.symm] at h2;cases h2
            exact .inr (aG _)
           ·rw [if_neg hq,fO] at h1
            rw [if_neg (fun h=>hq h.symm)] at h2
            split at h1
            ·cases h1
            ·exact .inl ⟨q,o2,rY,h1,h2,h3,rfl⟩)
         refine ⟨_,_,S,_,lG,gg.1,gg.2,fun k oQ hn=>by rw [nf _ oQ];exact hn,?_⟩
         exact aq.os ⟨w.heap.size,grownCap w (o.len+n) cap e,ie.size⟩ (by simp [bZ]) (by simp) xf (by simp)
      ·cases h
     ·cases h
    ·cases h
   ·cases h
  ·cases h
 ·cases h
end
end Go.Ab
