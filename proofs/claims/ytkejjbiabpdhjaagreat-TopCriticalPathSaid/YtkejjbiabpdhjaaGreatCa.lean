/- Abstract values over the heap of the machine, and functions read off its code (part 1). No conditions. -/
import Derived.Orders
import Derived.Laws.Cells
import Derived.Laws.World
import Derived.Laws.Rows
import Derived.Laws.Sem
import Derived.KernelRfl
import Derived.Laws.CopyRow
import Derived.Laws.AppendOwn
import Derived.Laws.MakeOwn
import Derived.Laws.StructEq
import Derived.Great.BuildSlice
import Derived.Deep.MidRow
set_option linter.unusedVariables false
set_option linter.unusedSimpArgs false
namespace Go
theorem ad {p:Prop} (h:p:=by omega):p:=h
theorem ak {p:Prop} (h:p:=by decide):p:=h
theorem ao {p:Prop} (h:p:=by simp):p:=h
end Go
namespace Go
abbrev a4:=@Option.map_eq_some_iff
abbrev aX:=@Option.some.injEq
abbrev bZ:=@Nat.eq_of_beq_eq_true
abbrev aQ:=@Prod.mk.injEq
abbrev bd:=@Bool.and_eq_true
abbrev eK:=@List.getElem?_eq_some_iff
abbrev jP:=@List.getD_eq_getElem?_getD
abbrev dc:=@Option.bind_some
abbrev iB:=@List.length_replicate
abbrev ke:=@Array.getD_eq_getD_getElem?
abbrev hH:=@Array.getElem?_eq_getElem
abbrev lx:=@List.getElem?_append_left
abbrev og:=@List.getElem?_append_right
abbrev fy:=@Nat.mul_le_mul_right
abbrev oh:=@Int.mul_le_mul_of_nonneg_right
abbrev cb:=@Sem.run_bind
abbrev mj:=@List.take_of_length_le
abbrev ub:=@List.getElem?_eq_getElem
abbrev eM:=@Result.andThen_ok
abbrev aV:=@Nat.le_refl
abbrev Be:=@Bool.and_eq_true_iff
abbrev uc:=@List.getElem?_eq_none
abbrev dX:=@Nat.not_lt_zero
abbrev vD:=@Classical.byContradiction
abbrev xl:=@of_decide_eq_true
abbrev yQ:=@of_decide_eq_false
abbrev sM:=@Nat.lt_of_lt_of_le
abbrev gG:=@Nat.le_trans
abbrev oi:=@List.length_append
abbrev xm:=@List.length_cons
abbrev J9:=@List.getElem?_cons_succ
abbrev HC:=@List.map_append
abbrev DR:=@List.append_assoc
abbrev yR:=@Int.mul_le_mul_of_nonneg_left
abbrev yS:=@Nat.lt_irrefl
abbrev qg:=@List.length_take
abbrev Bf:=@List.length_drop
abbrev ud:=@List.getElem?_drop
abbrev vE:=@List.getElem?_take
abbrev qh:=@List.mem_range
abbrev kY:=@List.mem_cons
abbrev dq:=@Nat.add_mul
abbrev vF:=@Nat.mul_comm
abbrev kZ:=@Int.mul_add
abbrev hO:=@Int.add_mul
abbrev kb:=@Int.mul_comm
abbrev oE:=@Int.mul_assoc
end Go
namespace Go.Ab
inductive AV where
 | atom (v:Value)
 | agg (cs:List AV)
 | tup (cs:List AV)
 | sl (len:Nat) (get:Nat->List AV)
 | rp (cs:List AV) (off:Nat)
 | op (k i j:Nat)
 | os (k off len:Nat)
 | fn (f:Fn) (first cap:List AV)
 | when (b:Bool) (v:AV)
 | mp (k:Nat)
 | bn (n:Nat)
 | pt (b:Bool) (cs:List AV)
 | ov (k i j m n:Nat)
 | Ll (k off len:Nat)
 | nq (st:Option Bool) (x:AV)
 | nil
 | il
 | mr (sz len:Nat) (get:Nat->List AV)
 deriving Inhabited
structure Place where
 df:Nat
 cap:Nat
 sz:Nat
abbrev Mu:=Nat->Option Place
def kf:Mu:=fun _=>none
def afg:Value->Bool
 | .slice none _ _=>true
 | _=>false
inductive av (w:World) (S:Nat->Prop):Mu->Value->AV->Prop where
 | atom {μ:Mu} (v:Value):av w S μ v (.atom v)
 | agg {μ:Mu} {vs:Array Value} {cs:List AV}:vs.size=cs.length ->
   (∀ (j:Nat) (c:AV) (v:Value),cs[j]?=some c->vs[j]?=some v->av w S μ v c)->av w S μ (.agg vs) (.agg cs)
 | tup {μ:Mu} {vs:Array Value} {cs:List AV}:vs.size=cs.length ->
   (∀ (j:Nat) (c:AV) (v:Value),cs[j]?=some c->vs[j]?=some v->av w S μ v c)->av w S μ (.tuple vs) (.tup cs)
 | sl {μ:Mu} {a:Option Addr} {len cap:Nat} {get:Nat->List AV} (b off sz:Nat) (f:Nat->Nat->Value) :
   (0 < len->a=some ⟨b,off,none⟩/\S b)->(∀ i,i < len->(get i).length=sz) ->
   (∀ i j,i < len->j < sz->w.cell? ⟨b,off+i * sz+j,none⟩=some (f i j)) ->
   (∀ i j c,i < len->(get i)[j]?=some c->av w S kf (f i j) c)->len<=cap->av w S μ (.slice a len cap) (.sl len get)
 | rp {μ:Mu} {cs:List AV} {off:Nat} (b o:Nat) (f:Nat->Value):S b ->
   (∀ j,j < cs.length->w.cell? ⟨b,o+j,none⟩=some (f j)) ->
   (∀ j c,cs[j]?=some c->av w S kf (f j) c)->av w S μ (.pointer (some ⟨b,o+off,none⟩)) (.rp cs off)
 | op {μ:Mu} {k i j:Nat} (pl:Place):μ k=some pl->av w S μ (.pointer (some ⟨pl.df,i * pl.sz+j,none⟩)) (.op k i j)
 | os {μ:Mu} {k off len cap:Nat} {a:Option Addr} (pl:Place):μ k=some pl ->
   (0 < cap->a=some ⟨pl.df,off * pl.sz,none⟩)->len<=cap->off+cap=pl.cap->av w S μ (.slice a len cap) (.os k off len)
 | fn {μ:Mu} {f:Fn} {vs ws:Array Value} {first cap:List AV}:vs.size=first.length->ws.size=cap.length ->
   (∀ (j:Nat) (c:AV) (v:Value),first[j]?=some c->vs[j]?=some v->av w S μ v c) ->
   (∀ (j:Nat) (c:AV) (v:Value),cap[j]?=some c->ws[j]?=some v->av w S μ v c)->av w S μ (.func f vs ws) (.fn f first cap)
 | when {μ:Mu} {b:Bool} {v:Value} {x:AV}:(b=true->av w S μ v x)->(b=false->v=undef)->av w S μ v (.when b x)
 | mp {μ:Mu} {k:Nat} (pl:Place):μ k=some pl->av w S μ (.map (some pl.df)) (.mp k)
 | bn {μ:Mu} {n:Nat} (b:Bool):(b=true->n=0)->av w S μ (.bool b) (.bn n)
 | pt {μ:Mu} {b:Bool} {cs:List AV} {v:Value}:(b=true->av w S μ v (.rp cs 0))->(b=false->v=.pointer none)->av w S μ v (.pt b cs)
 | ov {μ:Mu} {k i j m n:Nat} (pl:Place):μ k=some pl->n < m->av w S μ (.pointer (some ⟨pl.df,i * pl.sz+(j+n),none⟩)) (.ov k i j m n)
 | Ll {μ:Mu} {k off len:Nat} {a:Option Addr} (pl:Place):μ k=some pl->(0 < len->a=some ⟨pl.df,off * pl.sz,none⟩)->off+len=pl.cap->av w S μ (.slice a len len) (.Ll k off len)
 | nq {μ:Mu} {st:Option Bool} {v:Value} {x:AV}:av w S μ v x->(st=some true->v=.slice none 0 0)->(st=some false->afg v=false)->av w S μ v (.nq st x)
 | nil {μ:Mu}:av w S μ (.slice none 0 0) .nil
 | il {μ:Mu} {v:Value}:av w S μ v .il
 | mr {μ:Mu} {v:Value} {sz len:Nat} {get:Nat->List AV}:av w S μ v (.mr sz len get)
structure Ext (w:World) (S:Nat->Prop) (μ:Mu) (w':World) (S':Nat->Prop) (ey:Mu):Prop where
 size:w.heap.size<=w'.heap.size
 Py:∀ b,S b->S' b
 df:∀ b,S b->w'.heap[b]?=w.heap[b]?
 mu:∀ k pl,μ k=some pl->ey k=some pl
theorem Ext.refl (w:World) (S:Nat->Prop) (μ:Mu):Ext w S μ w S μ:=⟨aV _,fun _ h=>h,fun _ _=>rfl,fun _ _ h=>h⟩
theorem Ext.trans {w w' c:World} {S S' d:Nat->Prop} {μ ey Pz:Mu} (h:Ext w S μ w' S' ey) (k:Ext w' S' ey c d Pz):Ext w S μ c d Pz :=
 ⟨gG h.size k.size,fun b a=>k.Py b (h.Py b a),fun b a=>(k.df b (h.Py b a)).trans (h.df b a),fun i pl hi=>k.mu i pl (h.mu i pl hi)⟩
theorem xy {w w':World} {b:Nat} (h:w'.heap[b]?=w.heap[b]?) (o:Nat):w'.cell? ⟨b,o,none⟩=w.cell? ⟨b,o,none⟩:=by
 simp [World.cell?,h]
theorem av.mono {w w':World} {S S':Nat->Prop} (g:∀ b,S b->S' b) (q:∀ b,S b->w'.heap[b]?=w.heap[b]?) {μ:Mu} {v:Value} {x:AV} (h:av w S μ v x) :
  ∀ {ey:Mu},(∀ k pl,μ k=some pl->ey k=some pl)->av w' S' ey v x:=by
 induction h with
 | atom v=>exact fun _=>.atom v
 | agg h1 _ d=>grind [agg]
 | tup h1 _ d=>grind [tup]
 | @sl μ a len cap get b off sz f h1 h2 h3 _ m d =>
  intro ey _;refine .sl b off sz f (fun l=>⟨(h1 l).1,g _ (h1 l).2⟩) h2 ?_ (fun i j c hi e=>d i j c hi e fun _ _ h=>h) m;grind [xy]
 | @rp μ cs off b o f h1 h2 _ d =>
  intro ey _;refine .rp b o f (g _ h1) ?_ (fun j c e=>d j c e fun _ _ h=>h);grind [xy]
 | op pl h=>grind [op]
 | os pl h h1 h2 h3=>grind [os]
 | fn h1 h2 _ _ n p=>grind [fn]
 | when _ r d=>grind [when]
 | mp pl h=>grind [mp]
 | bn b h=>exact fun _=>.bn b h
 | pt _ h2 d=>grind [pt]
 | ov pl h h1=>grind [ov]
 | Ll pl h h1 h2=>grind [Ll]
 | nq _ h1 h2 d=>grind [nq]
 | nil=>exact fun _=>.nil
 | il=>exact fun _=>.il
 | mr=>exact fun _=>.mr
theorem av.ext {w w':World} {S S':Nat->Prop} {μ ey:Mu} {v:Value} {x:AV} (h:av w S μ v x) (e:Ext w S μ w' S' ey):av w' S' ey v x :=
 h.mono e.Py e.df e.mu
mutual
def AV.pure:AV->Bool
 | .atom _ | .sl _ _ | .rp _ _ | .bn _ | .pt _ _ | .nil | .il=>true
 | .agg cs | .tup cs=>AV.pX cs
 | .fn _ a b=>AV.pX a && AV.pX b
 | .when _ v=>v.pure
 | .nq _ v=>v.pure
 | .op _ _ _ | .os _ _ _ | .mp _ | .ov _ _ _ _ _ | .Ll _ _ _ | .mr _ _ _=>false
def AV.pX:List AV->Bool
 | []=>true
 | c :: cs=>c.pure && AV.pX cs
end
mutual
def AV.flat:AV->Bool
 | .atom _ | .bn _ | .nil=>true
 | .agg cs | .tup cs=>AV.E5 cs
 | .fn _ a b=>AV.E5 a && AV.E5 b
 | _=>false
def AV.E5:List AV->Bool
 | []=>true
 | c :: cs=>c.flat && AV.E5 cs
end
theorem zE {cs:List AV} (h:AV.pX cs=true) {j:Nat} {c:AV} (a:cs[j]?=some c):c.pure=true:=by
 induction cs generalizing j with
 | nil=>simp at a
 | cons x xs b =>
  simp only [AV.pX,bd] at h;grind
theorem Cz {cs:List AV} (h:AV.E5 cs=true) {j:Nat} {c:AV} (a:cs[j]?=some c):c.flat=true:=by
 induction cs generalizing j with
 | nil=>simp at a
 | cons x xs b =>
  simp only [AV.E5,bd] at h;grind
theorem av.pure {w:World} {S:Nat->Prop} {μ:Mu} {v:Value} {x:AV} (h:av w S μ v x):x.pure=true->∀ ey,av w S ey v x:=by
 induction h with
 | atom v=>exact fun _ _=>.atom v
 | agg h1 _ a=>grind [agg,zE,AV.pure]
 | tup h1 _ a=>grind [tup,zE,AV.pure]
 | sl b off sz f h1 h2 h3 h4 c _=>exact fun _ _=>.sl b off sz f h1 h2 h3 h4 c
 | rp b o f h1 h2 h3 _=>simp_all [rp]
 | op pl h=>grind [AV.pure]
 | os pl h h1 h2 h3=>grind [AV.pure]
 | fn h1 h2 _ _ d e =>
  intro g ey;simp only [AV.pure,bd] at g;grind [fn,zE]
 | when _ j a=>grind [when,AV.pure]
 | mp pl h=>grind [AV.pure]
 | bn b h=>exact fun _ _=>.bn b h
 | pt _ h2 a=>exact fun _ ey=>.pt (fun i=>a i rfl ey) h2
 | ov=>grind [AV.pure]
 | Ll=>grind [AV.pure]
 | nq _ h1 h2 a=>grind [nq,AV.pure]
 | nil=>exact fun _ _=>.nil
 | il=>exact fun _ _=>.il
 | mr=>grind [AV.pure]
theorem av.flat {w:World} {S:Nat->Prop} {μ:Mu} {v:Value} {x:AV} (h:av w S μ v x):x.flat=true->∀ w' S' ey,av w' S' ey v x:=by
 induction h with
 | atom v=>grind [atom]
 | agg h1 _ a=>grind [agg,Cz,AV.flat]
 | tup h1 _ a=>grind [tup,Cz,AV.flat]
 | sl=>grind [AV.flat]
 | rp=>grind [AV.flat]
 | op=>grind [AV.flat]
 | os=>grind [AV.flat]
 | fn h1 h2 _ _ c d =>
  intro e w' S' ey;simp only [AV.flat,bd] at e;grind [fn,Cz]
 | when=>grind [AV.flat]
 | mp=>grind [AV.flat]
 | bn b h=>grind [bn]
 | pt=>grind [AV.flat]
 | ov=>grind [AV.flat]
 | Ll=>grind [AV.flat]
 | nq=>grind [AV.flat]
 | nil=>exact fun _ _ _ _=>.nil
 | il=>grind [AV.flat]
 | mr=>grind [AV.flat]
structure Ob where
 var:Bool
 sz:Nat
 len:Nat
 pr:Bool
 get:Nat->List AV
abbrev fe:=List (Nat×Ob)
def ay:fe->Nat->Option Ob
 | [],_=>none
 | (k,o) :: r,n=>match Nat.beq k n with
  | true=>some o
  | false=>ay r n
def sset:fe->Nat->Ob->fe
 | [],k,o=>[(k,o)]
 | (a,x) :: r,k,o=>match Nat.beq a k with
  | true=>(a,o) :: r
  | false=>(a,x) :: sset r k o
def wE:fe->Nat->fe
 | [],_=>[]
 | (a,x) :: r,k=>match Nat.beq a k with
  | true=>wE r k
  | false=>(a,x) :: wE r k
theorem uQ {a b:Nat} (h:a=b):Nat.beq a b=true:=by simp_all
theorem rL {a b:Nat} (h:¬ a=b):Nat.beq a b=false:=Bool.eq_false_iff.2 fun e=>h (bZ e)
theorem bz (σ:fe) (k n:Nat) (o:Ob):ay (sset σ k o) n=if k=n then some o else ay σ n:=by
 induction σ with
 | nil =>
  simp only [sset,ay]
  by_cases h:k=n
  ·rw [uQ h,if_pos h]
  ·rw [rL h,if_neg h]
 | cons x r c =>
  obtain ⟨a,x⟩:=x;simp only [sset]
  by_cases b:a=k
  ·rw [uQ b];simp only [ay];subst b
   by_cases h:a=n
   ·rw [uQ h,if_pos h]
   ·rw [rL h,if_neg h]
  ·rw [rL b];simp only [ay,c]
   by_cases d:a=n
   ·grind
   ·rw [rL d]
theorem iE (σ:fe) (k n:Nat):ay (wE σ k) n=if k=n then none else ay σ n:=by
 induction σ with
 | nil=>simp [wE,ay]
 | cons x r b =>
  obtain ⟨a,x⟩:=x;simp only [wE]
  by_cases c:a=k
  ·simp_all [uQ,ay,if_pos,rL]
  ·rw [rL c];simp only [ay,b]
   by_cases d:a=n
   ·grind
   ·rw [rL d]
def iC:fe->List (Nat×Option Ob)->fe
 | σ,[]=>σ
 | σ,(k,some o) :: r=>iC (sset σ k o) r
 | σ,(k,none) :: r=>iC (wE σ k) r
def gH (c:Array Value):Array MapEntry:=(Array.range (c.size / 2)).map fun i=>⟨c[2 * i]?.getD undef,c[2 * i+1]?.getD undef,i⟩
def IP (sz:Nat) (c:Array Value) (T:TypeId):Obj :=
 match sz with
 | 0=>.map (gH c) (c.size / 2)
 | _+1=>.cells c T (0,0)
theorem jf {sz:Nat} (h:sz≠0) (c:Array Value) (T:TypeId):IP sz c T=.cells c T (0,0):=by
 cases sz with
 | zero=>exact absurd rfl h
 | succ n=>rfl
theorem DS {sz:Nat} (h:sz=0) (c:Array Value) (T:TypeId):IP sz c T=.map (gH c) (c.size / 2):=by subst h;rfl
structure kg (w:World) (S:Nat->Prop) (μ:Mu) (o:Ob) (pl:Place) (c:Array Value) (T:TypeId):Prop where
 sz:pl.sz=o.sz
 df:0 < pl.cap->w.heap[pl.df]?=some (IP o.sz c T)
 cap:pl.cap * o.sz<=c.size
 len:o.len<=pl.cap
 out:0 < pl.cap->¬ S pl.df
 zF:∀ i,i < o.len->(o.get i).length=o.sz
 rep:∀ i j x v,i < o.len->(o.get i)[j]?=some x->c[i * o.sz+j]?=some v->av w S (if o.pr then kf else μ) v x
 mp:o.sz=0->0 < pl.cap/\c.size % 2=0/\c.size=(o.get 0).length/\o.pr=true/\∀ (j:Nat) x v,(o.get 0)[j]?=some x->c[j]?=some v->av w S kf v x
structure apn (w:World) (S:Nat->Prop) (μ:Mu) (σ:fe):Prop where
 ob:∀ k o,ay σ k=some o->∃ pl c T,μ k=some pl/\kg w S μ o pl c T
 ne:∀ k k' o o' pl lL,k≠k'->ay σ k=some o->ay σ k'=some o'->μ k=some pl->μ k'=some lL->0 < pl.cap->0 < lL.cap->pl.df≠lL.df
theorem kg.ext {w w':World} {S S':Nat->Prop} {μ ey:Mu} {o:Ob} {pl:Place} {c:Array Value} {T:TypeId} (h:kg w S μ o pl c T) (e:Ext w S μ w' S' ey)
  (f:0 < pl.cap->w'.heap[pl.df]?=w.heap[pl.df]?) (g:0 < pl.cap->¬ S' pl.df):kg w' S' ey o pl c T :=
 { h with
  df:=fun d=>(f d).trans (h.df d)
  out:=g
  rep:=fun i j x v hi a b=>(h.rep i j x v hi a b).mono e.Py e.df (by
   cases o.pr
   ·exact e.mu
   ·exact fun _ _ h=>h)
  mp:=fun k=>let ⟨l,h1,h2,h3,h4⟩:=h.mp k
   ⟨l,h1,h2,h3,fun j x v a b=>(h4 j x v a b).mono e.Py e.df (fun _ _ h=>h)⟩ }
def rowOf (o:Ob) (i:Nat):Option (Nat×Nat×(Nat->List AV)) :=
 match o.var,o.get i with
 | false,[.mr sz len g]=>if i < o.len then some (sz,len,g) else none
 | _,_=>none
def Xl (fp:Nat->Prop) (n0:Nat) (w:World) (S:Nat->Prop) (v:Value) (x:Nat×Nat×(Nat->List AV)):Prop :=
 ∃ a cap,v=.slice a x.2.1 cap/\x.2.1<=cap/\(1<=x.1/\∀ j,rowOf ⟨false,x.1,x.2.1,true,x.2.2⟩ j=none)/\(0 < cap->∃ b c T,a=some ⟨b,0,none⟩/\kg w S kf ⟨false,x.1,x.2.1,true,x.2.2⟩ ⟨b,cap,x.1⟩ c T/\(fp b\/n0<=b))
def ptrTo (v:Value) (b:Nat):Prop:=∃ len cap,v=.slice (some ⟨b,0,none⟩) len cap/\0 < cap
def kj (w:World) (μ:Mu) (σ:fe) (k i:Nat) (x:Nat×Nat×(Nat->List AV)) (v:Value):Prop :=
 ∃ o pl,ay σ k=some o/\rowOf o i=some x/\μ k=some pl/\w.cell? ⟨pl.df,i * pl.sz,none⟩=some v
structure MX (fp:Nat->Prop) (n0:Nat) (w:World) (S:Nat->Prop) (μ:Mu) (σ:fe):Prop where
 row:∀ k i x v,kj w μ σ k i x v->Xl fp n0 w S v x
 obj:∀ k i x v b,kj w μ σ k i x v->ptrTo v b->∀ k' o' lL,ay σ k'=some o'->μ k'=some lL->0 < lL.cap->lL.df≠b
 two:∀ k i x v b k' i' x' v',kj w μ σ k i x v->kj w μ σ k' i' x' v'->ptrTo v b->ptrTo v' b->k=k'/\i=i'
theorem FX {o:Ob} (h:o.var=true) (i:Nat):rowOf o i=none:=by unfold rowOf;rw [h]
theorem dS {o:Ob} {i:Nat} {x:Nat×Nat×(Nat->List AV)} (h:rowOf o i=some x):o.var=false/\i < o.len/\o.get i=[.mr x.1 x.2.1 x.2.2]:=by
 grind [rowOf]
theorem nL {o:Ob} {i:Nat} {x:Nat×Nat×(Nat->List AV)} (h2:o.var=false) (h3:i < o.len) (h4:o.get i=[.mr x.1 x.2.1 x.2.2]):rowOf o i=some x:=by
 grind [rowOf]
theorem MX.df {fp:Nat->Prop} {n0:Nat} {w:World} {S:Nat->Prop} {μ:Mu} {σ:fe} (h:MX fp n0 w S μ σ) {k i:Nat} {x:Nat×Nat×(Nat->List AV)} {v:Value} {b:Nat} (l:kj w μ σ k i x v) (m:ptrTo v b) :
  b < w.heap.size/\¬ S b/\(fp b\/n0<=b)/\∃ c T,w.heap[b]?=some (.cells c T (0,0)):=by
 obtain ⟨len,cap,rfl,g⟩:=m;obtain ⟨a,n,e,h1,h2,h3⟩:=h.row _ _ _ _ l;injection e with o p q
 subst o p q;obtain ⟨t,c,T,d,h4,r⟩:=h3 g;injection d with d
 injection d with d
 subst d;have j:=h4.df g;have s:IP x.1 c T=.cells c T (0,0):=jf (by have:=h2.1;omega) c T;have f:w.heap[b]?=some (.cells c T (0,0)):=by rw [j];exact congrArg some s
 exact ⟨(Array.getElem?_eq_some_iff.1 f).1,h4.out g,r,c,T,f⟩
theorem Xl.ext {fp d:Nat->Prop} {n0 e:Nat} {w w':World} {S S':Nat->Prop} {v:Value} {x:Nat×Nat×(Nat->List AV)} (h:Xl fp n0 w S v x) (g:∀ b,S b->S' b) (k:∀ b,S b->w'.heap[b]?=w.heap[b]?)
  (l:∀ b,ptrTo v b->w'.heap[b]?=w.heap[b]?/\¬ S' b/\((fp b\/n0<=b)->(d b\/e<=b))):Xl d e w' S' v x:=by
 obtain ⟨a,cap,rfl,h1,h2,h3⟩:=h;refine ⟨a,cap,rfl,h1,h2,fun f=>?_⟩;obtain ⟨b,c,T,rfl,h4,m⟩:=h3 f;obtain ⟨n,o,p⟩:=l b ⟨_,_,rfl,f⟩;refine ⟨b,c,T,rfl,⟨h4.sz,fun h=>n.trans (h4.df h),h4.cap,h4.len,fun _=>o,h4.zF,fun i j x v hi q r=>(h4.rep i j x v hi q r).mono g k (fun _ _ h=>h),fun s=>?_⟩,p m⟩;simp_all
theorem MX.tr {fp d:Nat->Prop} {n0 e:Nat} {w w':World} {S S':Nat->Prop} {μ ey:Mu} {σ c:fe} (h:MX fp n0 w S μ σ) (l:Nat->Nat)
  (f:∀ k i x v,kj w' ey c k i x v->kj w μ σ (l k) i x v)
  (hi:∀ k i x v k' i' x' v',kj w' ey c k i x v->kj w' ey c k' i' x' v'->l k=l k'->k=k')
  (p:∀ b,S b->S' b) (r:∀ b,S b->w'.heap[b]?=w.heap[b]?)
  (s:∀ k i x v b,kj w' ey c k i x v->kj w μ σ (l k) i x v->ptrTo v b->w'.heap[b]?=w.heap[b]?/\¬ S' b/\((fp b\/n0<=b)->(d b\/e<=b)))
  (t:∀ k o pl,ay c k=some o->ey k=some pl->0 < pl.cap->(∃ m o1 g,ay σ m=some o1/\μ m=some g/\0 < g.cap/\g.df=pl.df)\/w.heap.size<=pl.df):MX d e w' S' ey c:=by
 refine ⟨fun k i x v a=>(h.row _ _ _ _ (f _ _ _ _ a)).ext p r fun b n=>s _ _ _ _ _ a (f _ _ _ _ a) n,fun k i x v b a n k' o' lL h1 h2 h3 he=>?_,fun k i x v b k' i' x' v' a u y z=>?_⟩
 ·have j:=f _ _ _ _ a;rcases t k' o' lL h1 h2 h3 with ⟨m,o1,g,A,B,C,D⟩ | q
  ·exact h.obj _ _ _ _ b j n m o1 g A B C (D.trans he)
  ·have:=(h.df j n).1;omega
 ·obtain ⟨E,F⟩:=h.two _ _ _ _ _ _ _ _ _ (f _ _ _ _ a) (f _ _ _ _ u) y z;grind
theorem MX.nil {fp:Nat->Prop} {n0:Nat} {w:World} {S:Nat->Prop} {μ:Mu} {σ:fe} (h:∀ k o i,ay σ k=some o->rowOf o i=none):MX fp n0 w S μ σ:=by
 have no:∀ {k i x v},kj w μ σ k i x v->False:=by
  rintro k i x v ⟨o,pl,h1,h2,_⟩;rw [h k o i h1] at h2;cases h2
 exact ⟨fun _ _ _ _ h=>(no h).elim,fun _ _ _ _ _ h=>(no h).elim,fun _ _ _ _ _ _ _ _ _ h=>(no h).elim⟩
end Go.Ab
namespace Go.Ab
structure Env where
 w0:World
 S0:Nat->Prop
 fp:Nat->Prop
 μ0:Mu
 m0:Nat
structure Fr (w0:World) (fp:Nat->Prop) (w:World):Prop where
 os:w.os=w0.os
 tape:w.tape=w0.tape
 output:w.output=w0.output
 size:w0.heap.size<=w.heap.size
 df:∀ b,b < w0.heap.size->¬ fp b->w.heap[b]?=w0.heap[b]?
theorem Fr.refl (w:World) (fp:Nat->Prop):Fr w fp w:=⟨rfl,rfl,rfl,aV _,fun _ _ _=>rfl⟩
structure Good (E:Env) (σ:fe) (S:Nat->Prop) (μ:Mu) (w:World):Prop where
 fr:Fr E.w0 E.fp w
 S0:∀ b,E.S0 b->S b
 S1:∀ b,S b->b < w.heap.size
 S2:∀ b,S b->E.S0 b\/E.w0.heap.size<=b
 rep:apn w S μ σ
 own:∀ k o pl,ay σ k=some o->μ k=some pl->0 < pl.cap->E.fp pl.df\/E.w0.heap.size<=pl.df
 Lm:∀ k,k < E.m0->μ k=E.μ0 k
 mx:MX E.fp E.w0.heap.size w S μ σ
theorem ft {w:World} {b:Nat} {o:Obj} (h:w.heap[b]?=some o):b < w.heap.size:=(Array.getElem?_eq_some_iff.1 h).1
def di (μ:Mu) (k:Nat) (pl:Place):Mu:=fun n=>if n=k then some pl else μ n
theorem gI {w:World} {o:Obj} {b:Nat} (h:b < w.heap.size):(w.alloc o).heap[b]?=w.heap[b]?:=heap_alloc_old w o b h
theorem kj.Fy {w w':World} {S:Nat->Prop} {μ ey:Mu} {σ b:fe} (g:apn w S μ σ) {k a i:Nat} {x:Nat×Nat×(Nat->List AV)} {v:Value} (h:kj w' ey b k i x v)
  (l:∀ o,ay b k=some o->∃ o1,ay σ a=some o1/\rowOf o1 i=some x) (hm:∀ pl,ey k=some pl->μ a=some pl)
  (n:∀ o pl,ay σ a=some o->μ a=some pl->0 < pl.cap->w'.heap[pl.df]?=w.heap[pl.df]?):kj w μ σ a i x v:=by
 obtain ⟨o,pl,h1,h2,h3,h4⟩:=h;obtain ⟨o1,d,e⟩:=l o h1;have f:=hm pl h3;refine ⟨o1,pl,d,e,f,?_⟩;obtain ⟨p,c,T,j,m⟩:=g.ob a o1 d;rw [f] at j;cases j;have q:0 < pl.cap:=by have:=(dS e).2.1;have:=m.len;omega
 grind [xy]
theorem kj.ob {w:World} {μ:Mu} {σ:fe} {k i:Nat} {x:Nat×Nat×(Nat->List AV)} {v:Value} (h:kj w μ σ k i x v):∃ o,ay σ k=some o/\rowOf o i=some x:=by
 obtain ⟨o,_,h1,h2,_⟩:=h;exact ⟨o,h1,h2⟩
theorem Good.afh {E:Env} {σ:fe} {S:Nat->Prop} {μ:Mu} {w:World} (g:Good E σ S μ w) {nk:Nat} (L:μ nk=none) (hm:E.m0<=nk) (c:Array Value) (T:TypeId) (o:Ob) (cap:Nat)
  (A:cap * o.sz<=c.size) (l:o.len<=cap) (B:∀ i,i < o.len->(o.get i).length=o.sz)
  (C:∀ i j x v,i < o.len->(o.get i)[j]?=some x->c[i * o.sz+j]?=some v->av w S (if o.pr then kf else μ) v x) (u:o.sz≠0)
  (q:MX E.fp E.w0.heap.size (w.alloc (.cells c T)) S (di μ nk ⟨w.heap.size,cap,o.sz⟩) (sset σ nk o)) :
  Ext w S μ (w.alloc (.cells c T)) S (di μ nk ⟨w.heap.size,cap,o.sz⟩)/\Good E (sset σ nk o) S (di μ nk ⟨w.heap.size,cap,o.sz⟩) (w.alloc (.cells c T)):=by
 have e:Ext w S μ (w.alloc (.cells c T)) S (di μ nk ⟨w.heap.size,cap,o.sz⟩) :=
  ⟨ao,fun _ h=>h,fun b f=>gI (g.S1 b f),fun k pl h=>by
   grind [di]⟩
 refine ⟨e,⟨⟨g.fr.os,g.fr.tape,g.fr.output,by have:=g.fr.size;simp;omega,fun b f D=>(gI (sM f g.fr.size)).trans (g.fr.df b f D)⟩,
  g.S0,fun b f=>by have:=g.S1 b f;simp;omega,g.S2,⟨?_,?_⟩,?_,fun k F=>?_,q⟩⟩
 ·intro k x a;rw [bz] at a
  by_cases r:nk=k
  ·rw [if_pos r] at a;cases a;refine ⟨⟨w.heap.size,cap,o.sz⟩,c,T,by simp [di,r],rfl,fun _=>(heap_alloc_new w _).trans (by rw [jf u]),A,l,fun _ G=>yS _ (g.S1 _ G),B,?_,fun h=>absurd h u⟩;intro i j x v hi a H;refine (C i j x v hi a H).mono e.Py e.df ?_;cases o.pr
   ·exact e.mu
   ·exact fun _ _ h=>h
  ·rw [if_neg r] at a;obtain ⟨pl,y,z,p,m⟩:=g.rep.ob k x a;exact ⟨pl,y,z,e.mu _ _ p,m.ext e (fun n=>gI (ft (m.df n))) m.out⟩
 ·intro k k' x x' pl lL I a s d t J K;rw [bz] at a s;simp only [di] at d t;have lt:∀ {k x pl},nk≠k->ay σ k=some x->μ k=some pl->0 < pl.cap->pl.df < w.heap.size:=fun {k x pl} _ a d n=>by
   obtain ⟨M,y,z,p,m⟩:=g.rep.ob k x a;rw [d] at p;cases p;exact ft (m.df n)
  by_cases h1:nk=k
  ·grind
  ·rw [if_neg h1] at a;rw [if_neg (fun h=>h1 h.symm)] at d
   by_cases h2:nk=k'
   ·grind
   ·rw [if_neg h2] at s;rw [if_neg (fun h=>h2 h.symm)] at t;exact g.rep.ne k k' x x' pl lL I a s d t J K
 ·intro k x pl a d n;rw [bz] at a;simp only [di] at d
  by_cases h1:nk=k
  ·rw [if_pos h1.symm] at d;cases d;exact .inr g.fr.size
  ·rw [if_neg h1] at a;rw [if_neg (fun h=>h1 h.symm)] at d;exact g.own k x pl a d n
 ·simp only [di];rw [if_neg ad];exact g.Lm k F
theorem Good.Xm {E:Env} {σ:fe} {S:Nat->Prop} {μ:Mu} {w w':World} (g:Good E σ S μ w) {nk:Nat} (t:μ nk=none) (o:Ob) (pl:Place) (u:0 < pl.cap->w.heap.size<=pl.df) (c:∀ i,rowOf o i=none)
  (hw:∀ b,b < w.heap.size->w'.heap[b]?=w.heap[b]?) {S':Nat->Prop} (l:∀ b,S b->S' b) (m:∀ b,S' b->S b\/w.heap.size<=b):MX E.fp E.w0.heap.size w' S' (di μ nk pl) (sset σ nk o):=by
 have key:∀ k i x v,kj w' (di μ nk pl) (sset σ nk o) k i x v->k≠nk:=by
  rintro k i x v h rfl;obtain ⟨a,h1,h2⟩:=h.ob;rw [bz,if_pos rfl] at h1;cases h1;rw [c] at h2;cases h2
 refine g.mx.tr id (fun k i x v h=>?_) (fun _ _ _ _ _ _ _ _ _ _ h=>h) l (fun b d=>hw b (g.S1 b d)) (fun k i x v b _ h d=>?_) (fun k a f h1 h2 h3=>?_)
 ·have n:=key _ _ _ _ h;obtain ⟨p,h3,h4⟩:=h.ob;refine h.Fy g.rep (fun a h1=>?_) (fun f h2=>?_) (fun a f h1 h2 h3=>?_)
  ·rw [h3] at h1;cases h1;rw [bz,if_neg (fun e=>n e.symm)] at h3;exact ⟨p,h3,h4⟩
  ·simp_all [di,if_neg]
  ·obtain ⟨q,y,z,j,r⟩:=g.rep.ob k a h1;have h2:μ k=some f:=h2;rw [h2] at j;cases j;exact hw _ (ft (r.df h3))
 ·obtain ⟨A,B,C,_⟩:=g.mx.df h d;grind
 ·by_cases s:nk=k
  ·simp_all [di,if_pos]
  ·rw [bz,if_neg s] at h1;unfold di at h2;grind
theorem Good.alloc {E:Env} {σ:fe} {S:Nat->Prop} {μ:Mu} {w:World} (g:Good E σ S μ w) {nk:Nat} (d:μ nk=none) (hm:E.m0<=nk) (c:Array Value) (T:TypeId) (o:Ob) (cap:Nat)
  (e:cap * o.sz<=c.size) (a:o.len<=cap) (f:∀ i,i < o.len->(o.get i).length=o.sz)
  (k:∀ i j x v,i < o.len->(o.get i)[j]?=some x->c[i * o.sz+j]?=some v->av w S (if o.pr then kf else μ) v x) (l:o.sz≠0) (b:∀ i,rowOf o i=none) :
  Ext w S μ (w.alloc (.cells c T)) S (di μ nk ⟨w.heap.size,cap,o.sz⟩)/\Good E (sset σ nk o) S (di μ nk ⟨w.heap.size,cap,o.sz⟩) (w.alloc (.cells c T)) :=
 g.afh d hm c T o cap e a f k l (g.Xm d o _ (fun _=>aV _) b (fun _ h=>gI h) (fun _ h=>h) (fun _ h=>.inl h))
theorem Good.Zx {E:Env} {σ:fe} {S:Nat->Prop} {μ:Mu} {w w':World} (g:Good E σ S μ w)
  (hw:∀ b,b < w.heap.size->w'.heap[b]?=w.heap[b]?) {S':Nat->Prop} (f:∀ b,S b->S' b) (j:∀ b,S' b->S b\/w.heap.size<=b):MX E.fp E.w0.heap.size w' S' μ σ:=by
 refine g.mx.tr id (fun k i x v h=>?_) (fun _ _ _ _ _ _ _ _ _ _ h=>h) f (fun b d=>hw b (g.S1 b d)) (fun k i x v b _ h d=>?_) (fun k a c h1 h2 h3=>.inl ⟨k,a,c,h1,h2,h3,rfl⟩)
 ·obtain ⟨l,h3,h4⟩:=h.ob;refine h.Fy g.rep (fun a h1=>⟨l,h3,h4⟩) (fun c h2=>h2) (fun a c h1 h2 h3=>?_);obtain ⟨m,o,p,e,n⟩:=g.rep.ob k a h1;have h2:μ k=some c:=h2;rw [h2] at e;cases e;exact hw _ (ft (n.df h3))
 ·obtain ⟨q,r,s,_⟩:=g.mx.df h d;grind
theorem Good.adL {E:Env} {σ:fe} {S:Nat->Prop} {μ:Mu} {w:World} (g:Good E σ S μ w) (o:Obj) :
  Ext w S μ (w.alloc o) (fun b=>S b\/b=w.heap.size) μ/\Good E σ (fun b=>S b\/b=w.heap.size) μ (w.alloc o):=by
 have e:Ext w S μ (w.alloc o) (fun b=>S b\/b=w.heap.size) μ :=
  ⟨ao,fun _ h=>.inl h,fun b a=>gI (g.S1 b a),fun k pl h=>h⟩
 refine ⟨e,⟨⟨g.fr.os,g.fr.tape,g.fr.output,by have:=g.fr.size;simp;omega,fun b a f=>(gI (sM a g.fr.size)).trans (g.fr.df b a f)⟩,
  fun b h=>.inl (g.S0 b h),fun b a=>?_,fun b a=>?_,⟨?_,g.rep.ne⟩,g.own,g.Lm,g.Zx (fun _ h=>gI h) (fun _ h=>.inl h) (fun b h=>h.elim .inl (fun h=>.inr (Nat.le_of_eq h.symm)))⟩⟩
 ·rcases a with a | a
  ·have:=g.S1 b a;simp;omega
  ·simp;omega
 ·rcases a with a | a
  ·exact g.S2 b a
  ·exact .inr (a ▸ g.fr.size)
 ·intro k x i;obtain ⟨pl,j,l,m,c⟩:=g.rep.ob k x i;exact ⟨pl,j,l,m,c.ext e (fun d=>gI (ft (c.df d))) (fun d h=>h.elim (c.out d) (by have:=ft (c.df d);omega))⟩
theorem Good.drew {E:Env} {σ:fe} {S:Nat->Prop} {μ:Mu} {w:World} (g:Good E σ S μ w):Good E σ S μ w.drew :=
 ⟨⟨g.fr.os,g.fr.tape,g.fr.output,g.fr.size,g.fr.df⟩,g.S0,g.S1,g.S2,
  ⟨fun k o h=>let ⟨pl,c,T,hm,a⟩:=g.rep.ob k o h
   ⟨pl,c,T,hm,a.ext (w':=w.drew) ⟨aV _,fun _ h=>h,fun _ _=>rfl,fun _ _ h=>h⟩ (fun _=>rfl) a.out⟩,g.rep.ne⟩,g.own,g.Lm,g.Zx (w':=w.drew) (fun _ _=>rfl) (fun _ h=>h) (fun _ h=>.inl h)⟩
theorem Ext.drew (w:World) (S:Nat->Prop) (μ:Mu):Ext w S μ w.drew S μ:=⟨aV _,fun _ h=>h,fun _ _=>rfl,fun _ _ h=>h⟩
theorem Good.del {E:Env} {σ:fe} {S:Nat->Prop} {μ:Mu} {w:World} (g:Good E σ S μ w) (k:Nat):Good E (wE σ k) S μ w:=by
 have a:∀ n o,ay (wE σ k) n=some o->ay σ n=some o:=fun n o h=>by
  grind [iE]
 exact ⟨g.fr,g.S0,g.S1,g.S2,⟨fun n o h=>g.rep.ob n o (a n o h),fun k k' o o' pl lL c h d=>g.rep.ne k k' o o' pl lL c (a _ _ h) (a _ _ d)⟩,
  fun k o pl h=>g.own k o pl (a _ _ h),g.Lm,g.mx.tr id (fun k i x v ⟨o,pl,h1,h2⟩=>⟨o,pl,a _ _ h1,h2⟩) (fun _ _ _ _ _ _ _ _ _ _ h=>h) (fun _ h=>h) (fun _ _=>rfl)
   (fun k i x v b _ h e=>⟨rfl,(g.mx.df h e).2.1,fun h=>h⟩) (fun k o pl h1 h2 h3=>.inl ⟨k,o,pl,a _ _ h1,h2,h3,rfl⟩)⟩
theorem Good.mxW {E:Env} {σ:fe} {S:Nat->Prop} {μ:Mu} {w w':World} (g:Good E σ S μ w) {k:Nat} {o:Ob} (f:ay σ k=some o) {pl:Place} (hm:μ k=some pl) (p:0 < pl.cap) (r:¬ S pl.df)
  (j:∀ b,b≠pl.df->w'.heap[b]?=w.heap[b]?) (o':Ob) (s:∀ i x,rowOf o' i=some x->rowOf o i=some x/\∀ v,w'.cell? ⟨pl.df,i * pl.sz,none⟩=some v->w.cell? ⟨pl.df,i * pl.sz,none⟩=some v) :
  MX E.fp E.w0.heap.size w' S μ (sset σ k o'):=by
 refine g.mx.tr id (fun n i x v h=>?_) (fun _ _ _ _ _ _ _ _ _ _ h=>h) (fun _ h=>h) (fun b a=>j b fun e=>r (e ▸ a)) (fun n i x v b _ h a=>?_) (fun n c d h1 h2 h3=>?_)
 ·by_cases l:k=n
  ·subst l;obtain ⟨c,d,h1,h2,h3,h4⟩:=h;rw [bz,if_pos rfl] at h1;cases h1;rw [hm] at h3;cases h3;obtain ⟨q,m⟩:=s i x h2;exact ⟨o,pl,f,q,hm,m v h4⟩
  ·obtain ⟨t,h3,h4⟩:=h.ob;rw [bz,if_neg l] at h3;refine h.Fy g.rep (fun c h1=>⟨t,h3,h4⟩) (fun d h2=>h2) (fun c d h1 h2 h3=>?_);exact j _ (g.rep.ne n k c o d pl (fun h=>l h.symm) h1 f h2 hm h3 p)
 ·obtain ⟨q,m,u,_⟩:=g.mx.df h a;exact ⟨j b fun e=>g.mx.obj _ _ _ _ _ h a k o pl f hm p e.symm,m,fun h=>h⟩
 ·rw [bz] at h1;grind
theorem Good.write {E:Env} {σ:fe} {S:Nat->Prop} {μ:Mu} {w:World} (g:Good E σ S μ w) {k:Nat} {o:Ob} (s:ay σ k=some o) {pl:Place} {c:Array Value} {T:TypeId}
  (hm:μ k=some pl) (m:0 < pl.cap) (l:kg w S μ o pl c T) (u:o.sz≠0) (o':Ob) (d:Array Value) (z:o'.sz=o.sz) (q:d.size=c.size) (t:o'.len<=pl.cap)
  (N:∀ i,i < o'.len->(o'.get i).length=o'.sz)
  (O:∀ i j x v,i < o'.len->(o'.get i)[j]?=some x->d[i * o'.sz+j]?=some v->av w S (if o'.pr then kf else μ) v x)
  (H:∀ i x,rowOf o' i=some x->rowOf o i=some x/\d[i * o.sz]?=c[i * o.sz]?) :
  Ext w S μ (w.setRow pl.df d) S μ/\Good E (sset σ k o') S μ (w.setRow pl.df d):=by
 have A:∀ b,b≠pl.df->(w.setRow pl.df d).heap[b]?=w.heap[b]?:=fun b r=>by
  simp only [World.setRow,Array.getElem?_modify];grind
 have e:Ext w S μ (w.setRow pl.df d) S μ :=
  ⟨ao,fun _ h=>h,fun b r=>A b fun h=>l.out m (h ▸ r),fun _ _ h=>h⟩
 refine ⟨e,⟨⟨g.fr.os,g.fr.tape,g.fr.output,by have:=g.fr.size;simpa using this,fun b r I=>?_⟩,g.S0,fun b r=>by simpa using g.S1 b r,g.S2,⟨?_,?_⟩,?_,g.Lm,?_⟩⟩
 rotate_right
 ·refine g.mxW s hm m (l.out m) A o' fun i x a=>⟨(H i x a).1,fun v B=>?_⟩;have h1:=l.df m;rw [jf u] at h1;rw [cell_of_row _ _ _ _ _ _ (setRow_heap w _ c d T (0,0) h1),l.sz,(H i x a).2] at B;rw [cell_of_row _ _ _ _ _ _ h1,l.sz];exact B
 ·rw [A b,g.fr.df b r I];rintro rfl;rcases g.own k o pl s hm m with h | h
  ·exact I h
  ·omega
 ·intro n x a;rw [bz] at a
  by_cases C:k=n
  ·rw [if_pos C] at a;cases a;refine ⟨pl,d,T,C ▸ hm,l.sz.trans z.symm,fun _=>(setRow_heap w _ c d T (0,0) ((l.df m).trans (by rw [jf u]))).trans (by rw [jf (by rw [z];exact u)]),?_,t,l.out,N,?_,fun h=>absurd (z ▸ h) u⟩
   ·rw [z,q];exact l.cap
   ·intro i j x v hi a B;refine (O i j x v hi a B).mono e.Py e.df ?_;cases o'.pr
    ·exact e.mu
    ·exact fun _ _ h=>h
  ·rw [if_neg C] at a;obtain ⟨J,P,Q,K,L⟩:=g.rep.ob n x a;exact ⟨J,P,Q,K,L.ext e (fun q=>A _ (g.rep.ne n k x o J pl (fun h=>C h.symm) a s K hm q m)) L.out⟩
 ·intro n R x x' p U V a M D W X Y;rw [bz] at a M;have f:∀ {n x},(if k=n then some o' else ay σ n)=some x->∃ y,ay σ n=some y:=fun {n x} h=>by
   split at h
   ·rename_i F;exact ⟨o,F ▸ s⟩
   ·exact ⟨_,h⟩
  obtain ⟨y,Z⟩:=f a;obtain ⟨y',G⟩:=f M;exact g.rep.ne n R y y' p U V Z G D W X Y
 ·intro n x p a D q;rw [bz] at a;split at a
  ·rename_i F;subst F;exact g.own _ o p s D q
  ·exact g.own n x p a D q
theorem Good.akg {E:Env} {σ:fe} {S:Nat->Prop} {μ:Mu} {w w':World} (g:Good E σ S μ w) {k:Nat} {o:Ob} (l:ay σ k=some o) {pl:Place} {c:Array Value} {T:TypeId}
  (hm:μ k=some pl) (d:0 < pl.cap) (u:kg w S μ o pl c T) (h1:w'.os=w.os) (h2:w'.tape=w.tape) (h3:w'.output=w.output) (h4:w'.heap.size=w.heap.size) (m:∀ b,b≠pl.df->w'.heap[b]?=w.heap[b]?)
  (o':Ob) (s:∀ i,rowOf o' i=none) (F:Ext w S μ w' S μ->∃ G H,kg w' S μ o' pl G H):Ext w S μ w' S μ/\Good E (sset σ k o') S μ w':=by
 have e:Ext w S μ w' S μ:=⟨ad,fun _ h=>h,fun b j=>m b fun h=>u.out d (h ▸ j),fun _ _ h=>h⟩;refine ⟨e,⟨⟨h1.trans g.fr.os,h2.trans g.fr.tape,h3.trans g.fr.output,by have:=g.fr.size;omega,fun b j v=>?_⟩,g.S0,fun b j=>by rw [h4];exact g.S1 b j,g.S2,⟨?_,?_⟩,?_,g.Lm,g.mxW l hm d (u.out d) m o' fun i x a=>by rw [s] at a;cases a⟩⟩
 ·rw [m b,g.fr.df b j v];rintro rfl;rcases g.own k o pl l hm d with h | h
  ·exact v h
  ·omega
 ·intro n x a;rw [bz] at a
  by_cases z:k=n
  ·simp_all
  ·rw [if_neg z] at a;obtain ⟨A,I,J,B,C⟩:=g.rep.ob n x a;exact ⟨A,I,J,B,C.ext e (fun q=>m _ (g.rep.ne n k x o A pl (fun h=>z h.symm) a l B hm q d)) C.out⟩
 ·intro n K x x' p L M a D r N O P;rw [bz] at a D;have f:∀ {n x},(if k=n then some o' else ay σ n)=some x->∃ y,ay σ n=some y:=fun {n x} h=>by
   grind
  obtain ⟨y,Q⟩:=f a;obtain ⟨R,t⟩:=f D;exact g.rep.ne n K y R p L M Q t r N O P
 ·intro n x p a r q;rw [bz] at a;split at a
  ·rename_i U;subst U;exact g.own _ o p l r q
  ·exact g.own n x p a r q
theorem Good.allocMap {E:Env} {σ:fe} {S:Nat->Prop} {μ:Mu} {w:World} (g:Good E σ S μ w) {nk:Nat} (t:μ nk=none) (hm:E.m0<=nk) :
  Ext w S μ (w.alloc (.map #[] 0)) S (di μ nk ⟨w.heap.size,1,0⟩)/\Good E (sset σ nk ⟨false,0,0,true,fun _=>[]⟩) S (di μ nk ⟨w.heap.size,1,0⟩) (w.alloc (.map #[] 0)):=by
 have c:∀ b,b < w.heap.size->(w.alloc (.map #[] 0)).heap[b]?=w.heap[b]?:=fun b h=>gI h;have e:Ext w S μ (w.alloc (.map #[] 0)) S (di μ nk ⟨w.heap.size,1,0⟩) :=
  ⟨ao,fun _ h=>h,fun b f=>c b (g.S1 b f),fun k pl h=>by
   grind [di]⟩
 have lt:∀ {k x pl},ay σ k=some x->μ k=some pl->0 < pl.cap->pl.df < w.heap.size:=fun {k x pl} a d l=>by
  obtain ⟨D,r,s,n,m⟩:=g.rep.ob k x a;rw [d] at n;cases n;exact ft (m.df l)
 refine ⟨e,⟨⟨g.fr.os,g.fr.tape,g.fr.output,by have:=g.fr.size;simp;omega,fun b f u=>(c b (sM f g.fr.size)).trans (g.fr.df b f u)⟩,
  g.S0,fun b f=>by have:=g.S1 b f;simp;omega,g.S2,⟨?_,?_⟩,?_,fun k y=>?_,g.Xm t _ _ (fun _=>aV _) (fun i=>rfl) c (fun _ h=>h) (fun _ h=>.inl h)⟩⟩
 ·intro k x a;rw [bz] at a
  by_cases o:nk=k
  ·rw [if_pos o] at a;cases a;refine ⟨⟨w.heap.size,1,0⟩,#[],0,by simp [di,o],rfl,fun _=>(heap_alloc_new w _).trans (by simp [IP,gH]),ao,ao,fun _ z=>yS _ (g.S1 _ z),fun i hi=>absurd hi (dX _),fun i j x v hi=>absurd hi (dX _),fun _=>⟨Nat.one_pos,rfl,rfl,rfl,fun j x v a=>by simp at a⟩⟩
  ·rw [if_neg o] at a;obtain ⟨pl,r,s,n,m⟩:=g.rep.ob k x a;exact ⟨pl,r,s,e.mu _ _ n,m.ext e (fun l=>c _ (ft (m.df l))) m.out⟩
 ·intro k k' x x' pl lL A a p d q B C;rw [bz] at a p;simp only [di] at d q
  by_cases h1:nk=k
  ·grind
  ·rw [if_neg h1] at a;rw [if_neg (fun h=>h1 h.symm)] at d
   by_cases h2:nk=k'
   ·grind
   ·rw [if_neg h2] at p;rw [if_neg (fun h=>h2 h.symm)] at q;exact g.rep.ne k k' x x' pl lL A a p d q B C
 ·intro k x pl a d l;rw [bz] at a;simp only [di] at d
  by_cases h1:nk=k
  ·rw [if_pos h1.symm] at d;cases d;exact .inr g.fr.size
  ·rw [if_neg h1] at a;rw [if_neg (fun h=>h1 h.symm)] at d;exact g.own k x pl a d l
 ·simp only [di];rw [if_neg ad];exact g.Lm k y
end Go.Ab
namespace Go.Ab
def bg:List Prop->Prop
 | []=>True
 | p :: ps=>p/\bg ps
theorem bg.app {a b:List Prop} (h:bg (a ++ b)):bg a/\bg b:=by
 induction a with
 | nil=>exact ⟨trivial,h⟩
 | cons p ps c=>exact ⟨⟨h.1,(c h.2).1⟩,(c h.2).2⟩
def AV.strip:AV->AV×List Prop
 | .when b x=>(x.strip.1,(b=true) :: x.strip.2)
 | x=>(x,[])
theorem av.strip {w:World} {S:Nat->Prop} {μ:Mu} {v:Value} {x:AV} (h:av w S μ v x):bg x.strip.2->av w S μ v x.strip.1:=by
 induction h with
 | when h1 _ c=>exact fun a=>c a.1 a.2
 | atom v=>exact fun _=>.atom v
 | agg h1 h2 _=>exact fun _=>.agg h1 h2
 | tup h1 h2 _=>exact fun _=>.tup h1 h2
 | sl b off sz f h1 h2 h3 h4 d _=>exact fun _=>.sl b off sz f h1 h2 h3 h4 d
 | rp b o f h1 h2 h3 _=>exact fun _=>.rp b o f h1 h2 h3
 | op pl h=>exact fun _=>.op pl h
 | os pl h h1 h2 h3=>exact fun _=>.os pl h h1 h2 h3
 | fn h1 h2 h3 h4 _ _=>exact fun _=>.fn h1 h2 h3 h4
 | mp pl h=>exact fun _=>.mp pl h
 | bn b h=>exact fun _=>.bn b h
 | pt h1 h2 _=>exact fun _=>.pt h1 h2
 | ov pl h h1=>exact fun _=>.ov pl h h1
 | Ll pl h h1 h2=>exact fun _=>.Ll pl h h1 h2
 | nq h h1 h2 _=>exact fun _=>.nq h h1 h2
 | nil=>exact fun _=>.nil
 | il=>exact fun _=>.il
 | mr=>exact fun _=>.mr
def AV.one:AV->Bool
 | .atom v=>match v with
  | .agg _ | .tuple _=>false
  | _=>true
 | .sl _ _ | .rp _ _ | .op _ _ _ | .os _ _ _ | .fn _ _ _ | .mp _ | .bn _ | .pt _ _ | .nil=>true
 | .nq _ x=>x.one
 | _=>false
theorem av.UG {w:World} {S:Nat->Prop} {μ:Mu} {v:Value} {x:AV} (h:av w S μ v x) (a:x.one=true):v.oneCell'=true:=by
 induction h with
 | atom v=>cases v<;>simp_all [AV.one,Value.oneCell']
 | nq _ _ _ c=>grind [AV.one]
 | @pt μ b cs v h1 h2 _ =>
  cases b with
  | false=>rw [h2 rfl];rfl
  | true=>have:=h1 rfl;cases this;rfl
 | _=>first | rfl | (simp [AV.one] at a;done)
def AV.vH:List AV->Bool
 | []=>true
 | c :: cs=>c.one && AV.vH cs
theorem PA {cs:List AV} (h:AV.vH cs=true) {j:Nat} {c:AV} (a:cs[j]?=some c):c.one=true:=by
 induction cs generalizing j with
 | nil=>simp at a
 | cons x xs b =>
  simp only [AV.vH,bd] at h;grind
def AV.cells:AV->Option (List AV)
 | .agg cs=>some cs
 | .atom v=>match v with
  | .agg _ | .tuple _=>none
  | v=>some [.atom v]
 | .sl n g=>some [.sl n g]
 | .rp c o=>some [.rp c o]
 | .op k i j=>some [.op k i j]
 | .os k o n=>some [.os k o n]
 | .fn f a b=>some [.fn f a b]
 | .mp k=>some [.mp k]
 | .bn n=>some [.bn n]
 | .pt b cs=>some [.pt b cs]
 | .nq st x=>match x.one with
  | true=>some [.nq st x]
  | false=>none
 | .nil=>some [.nil]
 | _=>none
theorem adM {v:Value} (h:v.oneCell'=true):v.cells=#[v]:=by
 cases v<;>simp_all [Value.oneCell',Value.cells]
theorem av.cells {w:World} {S:Nat->Prop} {μ:Mu} {v:Value} {x:AV} (h:av w S μ v x) {cs:List AV} (a:x.cells=some cs) :
  v.cells.size=cs.length/\∀ (j:Nat) (c:AV) (u:Value),cs[j]?=some c->v.cells[j]?=some u->av w S μ u c:=by
 have one:∀ {x:AV},av w S μ v x->x.one=true->cs=[x]->v.cells.size=cs.length/\∀ (j:Nat) (c:AV) (u:Value),cs[j]?=some c->v.cells[j]?=some u->av w S μ u c:=by
  intro x h h1 h2;rw [adM (h.UG h1),h2];refine ⟨rfl,?_⟩;intro j c u d b;cases j with
  | zero=>simp_all
  | succ j=>simp at d
 cases x with
 | agg l =>
  cases a;cases h with
  | agg h1 h2=>exact ⟨h1,fun j c u d b=>h2 j c u d b⟩
 | atom u =>
  have b:(AV.atom u).one=true:=by cases u<;>simp_all [AV.cells,AV.one]
  exact one h b (by cases u<;>simp_all [AV.cells])
 | sl=>exact one h rfl (by grind [AV.cells])
 | rp=>exact one h rfl (by grind [AV.cells])
 | op=>exact one h rfl (by grind [AV.cells])
 | os=>exact one h rfl (by grind [AV.cells])
 | fn=>exact one h rfl (by grind [AV.cells])
 | mp=>exact one h rfl (by grind [AV.cells])
 | bn=>exact one h rfl (by grind [AV.cells])
 | pt=>exact one h rfl (by grind [AV.cells])
 | nq st x =>
  simp only [AV.cells] at a;split at a
  ·rename_i h1;exact one h (by simpa [AV.one] using h1) (Option.some.inj a).symm
  ·cases a
 | nil=>exact one h rfl (by grind [AV.cells])
 | _=>simp [AV.cells] at a
def jz:Value->AV
 | .slice none 0 0=>.nil
 | .func f vs ws=>if vs.size=0/\ws.size=0 then .fn f [] [] else .atom (.func f vs ws)
 | v=>.atom v
def ofConst:Value->AV
 | .agg vs=>.agg (vs.toList.map jz)
 | .tuple vs=>.tup (vs.toList.map jz)
 | v=>jz v
theorem IQ (w:World) (S:Nat->Prop) (μ:Mu) (v:Value):av w S μ v (jz v):=by
 unfold jz;split
 ·exact .nil
 ·split
  ·rename_i h;exact .fn (by simpa using h.1) (by simpa using h.2) (fun j c v a=>by simp at a) (fun j c v a=>by simp at a)
  ·exact .atom _
 ·exact .atom _
theorem Tz (w:World) (S:Nat->Prop) (μ:Mu) (v:Value):av w S μ v (ofConst v):=by
 have f:∀ (vs:Array Value) (j:Nat) (c:AV) (u:Value),(vs.toList.map jz)[j]?=some c->vs[j]?=some u->av w S μ u c:=by
  intro vs j c u a d;have b:vs.toList[j]?=some u:=by simpa using d
  rw [List.getElem?_map,b] at a;simp at a;exact a ▸ IQ w S μ u
 unfold ofConst;split
 ·exact .agg ao (f _)
 ·exact .tup ao (f _)
 ·exact IQ w S μ _
def AM (P:Program) (t:TypeId):Option Nat:=(P.info? t).map (·.size)
def DT (P:Program) (t:TypeId):Option Nat:=(P.info? t).map (·.bytes)
def yL (P:Program) (t:TypeId):Option Value:=(P.info? t).bind (·.zero)
theorem ij {P:Program} {t n:Nat} (h:AM P t=some n) (w:World):(sizeOf t).run P w=.ok n w:=by
 unfold AM at h;cases hi:P.info? t with
 | none=>simp [hi] at h
 | some i=>simp_all [sizeOf,typeInfo]
theorem TA {P:Program} {t:Nat} {z:Value} (h:yL P t=some z) (w:World):(zeroValue t).run P w=.ok z w:=by
 unfold yL at h;cases hi:P.info? t with
 | none=>simp [hi] at h
 | some i=>simp_all [zeroValue,typeInfo]
theorem DU {P:Program} {t n b:Nat} {z:Value} (h:AM P t=some n) (a:DT P t=some b) (c:yL P t=some z) :
  ∃ i,P.info? t=some i/\i.size=n/\i.bytes=b/\i.zero=some z:=by
 unfold AM at h;unfold DT at a;unfold yL at c;cases hi:P.info? t with
 | none=>simp [hi] at h
 | some i=>simp_all
def al4 (op:BinOp) (k:IntKind) (a b:Int):Option (List Prop×AV) :=
 match op with
 | .add=>some ([],.atom (.int k (k.wrap (a+b))))
 | .sub=>some ([],.atom (.int k (k.wrap (a - b))))
 | .mul=>some ([],.atom (.int k (k.wrap (a * b))))
 | .quo=>some ([b≠0],.atom (.int k (k.wrap (a.tdiv b))))
 | .rem=>some ([b≠0],.atom (.int k (a.tmod b)))
 | .and=>some ([],.atom (.int k (k.wrap (BitVec.ofInt k.bits a &&& BitVec.ofInt k.bits b).toNat)))
 | .or=>some ([],.atom (.int k (k.wrap (BitVec.ofInt k.bits a ||| BitVec.ofInt k.bits b).toNat)))
 | .xor=>some ([],.atom (.int k (k.wrap (BitVec.ofInt k.bits a ^^^ BitVec.ofInt k.bits b).toNat)))
 | .andNot=>some ([],.atom (.int k (k.wrap (BitVec.ofInt k.bits a &&& ~~~BitVec.ofInt k.bits b).toNat)))
 | .eql=>some ([],.atom (.bool (a == b)))
 | .neq=>some ([],.atom (.bool (a != b)))
 | .lss=>some ([],.atom (.bool (decide (a < b))))
 | .leq=>some ([],.atom (.bool (decide (a<=b))))
 | .gtr=>some ([],.atom (.bool (decide (a > b))))
 | .geq=>some ([],.atom (.bool (decide (a>=b))))
 | _=>none
def O4 (op:BinOp) (k:IntKind) (a b:Int):Option (List Prop×AV) :=
 match op with
 | .shl=>some ([0<=b],.atom (.int k (k.wrap (a * 2 ^ (min b.toNat k.bits)))))
 | .shr=>some ([0<=b],.atom (.int k (a.fdiv (2 ^ (min b.toNat k.bits)))))
 | _=>none
def dZ (a b:ByteArray):Bool:=a.toList == b.toList
def al5 (op:BinOp) (a b:ByteArray):Option (List Prop×AV) :=
 match op with
 | .eql=>some ([],.atom (.bool (dZ a b)))
 | .neq=>some ([],.atom (.bool (!dZ a b)))
 | .lss=>some ([],.atom (.bool (Op.bytesLess a.toList b.toList)))
 | .leq=>some ([],.atom (.bool (Op.bytesLess a.toList b.toList || dZ a b)))
 | .gtr=>some ([],.atom (.bool (!(Op.bytesLess a.toList b.toList || dZ a b))))
 | .geq=>some ([],.atom (.bool (!Op.bytesLess a.toList b.toList)))
 | .add=>some ([((a.size+b.size:Nat):Int)<=IntKind.i64.max],.atom (.string (a ++ b)))
 | _=>none
def nO (P:Program) (t:TypeId) (cs:List AV) (off:Nat):Option AV :=
 match P.underlying t,AM P t with
 | some d,some n=>match d.isRow with
  | true=>some (.agg ((cs.drop off).take n))
  | false=>cs[off]?
 | _,_=>none
theorem nP {P:Program} {w:World} {S:Nat->Prop} {μ:Mu} {vs:Array Value} {cs:List AV} (k:vs.size=cs.length)
  (h:∀ (j:Nat) (c:AV) (v:Value),cs[j]?=some c->vs[j]?=some v->av w S μ v c) {t off:Nat} {x:AV} (a:nO P t cs off=some x)
  (f:∀ n,AM P t=some n->off+n<=cs.length) :
  ∃ v,(part t vs off).run P w=.ok v w/\av w S μ v x:=by
 unfold nO at a;cases hu:P.underlying t with
 | none=>simp [hu] at a
 | some d =>
  cases e:AM P t with
  | none=>simp [hu,e] at a
  | some n =>
   have l:=f n e;cases g:d.isRow with
   | true =>
    simp [hu,e,g] at a;have b:(isAgg t).run P w=.ok true w:=by
     unfold isAgg;rw [cb,run_underlying hu w];cases d<;>simp_all
    refine ⟨.agg (vs.extract off (off+n)),by simp [part,b,ij e],?_⟩;rw [<- a];refine .agg (by simp;omega) ?_;grind
   | false =>
    simp [hu,e,g] at a;have b:(isAgg t).run P w=.ok false w:=by
     unfold isAgg;rw [cb,run_underlying hu w];cases d<;>simp_all
    have i:off < vs.size:=by rw [k];exact (eK.1 a).1
    refine ⟨vs[off],by simp [part,b,hH i],?_⟩;exact h off x _ a (hH i)
mutual
def Lv (P:Program):Nat->TypeId->AV->AV->Option Bool
 | 0,_,_,_=>none
 | d+1,t,x,y =>
  match P.underlying t with
  | some .bool=>match x,y with
   | .atom (.bool a),.atom (.bool b)=>some (a == b)
   | _,_=>none
  | some (.int _)=>match x,y with
   | .atom (.int k a),.atom (.int k' b)=>match decide (k=k') with
    | true=>some (a == b)
    | false=>none
   | _,_=>none
  | some .string=>match x,y with
   | .atom (.string a),.atom (.string b)=>some (dZ a b)
   | _,_=>none
  | some (.struct fs)=>match x,y with
   | .agg xs,.agg ys=>match P.stoodInHeld t with
    | false=>PB P d xs ys fs.toList
    | true=>none
   | _,_=>none
  | some (.array n e)=>match x,y,AM P e with
   | .agg xs,.agg ys,some m=>Iu P d e m xs ys 0 n
   | _,_,_=>none
  | _=>none
def PB (P:Program):Nat->List AV->List AV->List Field->Option Bool
 | _,_,_,[]=>some true
 | 0,_,_,_=>none
 | d+1,xs,ys,f :: fs =>
  match decide (f.name = "_"),AM P f.type with
  | false,some n=>match Nat.ble (f.offset+n) xs.length && Nat.ble (f.offset+n) ys.length,nO P f.type xs f.offset,nO P f.type ys f.offset with
   | true,some a,some b=>match Lv P d f.type a b,PB P d xs ys fs with
    | some p,some q=>some (p && q)
    | _,_=>none
   | _,_,_=>none
  | _,_=>none
def Iu (P:Program):Nat->TypeId->Nat->List AV->List AV->Nat->Nat->Option Bool
 | _,_,_,_,_,_,0=>some true
 | 0,_,_,_,_,_,_=>none
 | d+1,e,m,xs,ys,i,n+1 =>
  match Nat.ble (i * m+m) xs.length && Nat.ble (i * m+m) ys.length,nO P e xs (i * m),nO P e ys (i * m) with
  | true,some a,some b=>match Lv P d e a b,Iu P d e m xs ys (i+1) n with
   | some p,some q=>some (p && q)
   | _,_=>none
  | _,_,_=>none
end
end Go.Ab
namespace Go.Ab
theorem eH {w:World} {S:Nat->Prop} {μ:Mu} {v u:Value} (h:av w S μ v (.atom u)):v=u:=by cases h;rfl
theorem sN {w:World} {S:Nat->Prop} {μ:Mu} {v:Value} {cs:List AV} (h:av w S μ v (.agg cs)) :
  ∃ vs:Array Value,v=.agg vs/\vs.size=cs.length/\∀ (j:Nat) (c:AV) (u:Value),cs[j]?=some c->vs[j]?=some u->av w S μ u c:=by
 cases h with
 | agg h1 h2=>grind
section
variable {P:Program} {w:World} {S:Nat->Prop} {μ:Mu}
theorem Xo {t:TypeId} {fs:Array Field} (h:P.underlying t=some (.struct fs)):P.fieldsOf t=fs:=by
 simp [Program.fieldsOf,h]
theorem Xp:∀ d:Nat,
  (∀ D t x y v u b,d<=D->av w S μ v x->av w S μ u y->Lv P d t x y=some b->(Op.equalIn D t v u).run P w=.ok b w) /\
  (∀ D (vs g:Array Value) xs ys fs b,d<=D->vs.size=xs.length->(∀ (j:Nat) c z,xs[j]?=some c->vs[j]?=some z->av w S μ z c)->g.size=ys.length ->
   (∀ (j:Nat) c z,ys[j]?=some c->g[j]?=some z->av w S μ z c)->PB P d xs ys fs=some b->(Op.eqFields D vs g fs).run P w=.ok b w) /\
  (∀ D (vs g:Array Value) e m xs ys i n b,d<=D->AM P e=some m->vs.size=xs.length->(∀ (j:Nat) c z,xs[j]?=some c->vs[j]?=some z->av w S μ z c)->g.size=ys.length ->
   (∀ (j:Nat) c z,ys[j]?=some c->g[j]?=some z->av w S μ z c)->Iu P d e m xs ys i n=some b ->
   (forIn (m:=Sem) (List.range' i n) ((none,()):Option Bool×Unit) fun i _=>do
      let p <- part e vs (i * m)
      let q <- part e g (i * m)
      let r <- Op.equalIn D e p q
      if (!r)=true then pure (ForInStep.done (some false,())) else pure (ForInStep.yield (none,()))).run P w=.ok (if b then none else some false,()) w):=by
 intro d
 induction d with
 | zero =>
  refine ⟨fun D t x y v u b _ _ _ h=>by simp [Lv] at h,?_,?_⟩
  ·intro D vs g xs ys fs b _ _ _ _ _ h;cases fs with
   | nil=>simp_all [PB,Op.eqFields]
   | cons f fs=>simp [PB] at h
  ·intro D vs g e m xs ys i n b _ _ _ _ _ _ h;cases n with
   | zero=>simp_all [Iu]
   | succ n=>simp [Iu] at h
 | succ d ih =>
  obtain ⟨H,I,J⟩:=ih;refine ⟨?_,?_,?_⟩
  ·intro D t x y v u b hD K L h;obtain ⟨D,rfl⟩:∃ D',D=D'+1:=⟨D - 1,ad⟩;simp only [Lv] at h;split at h
   ·rename_i A;split at h
    ·cases K;cases L;simp at h;subst h;simp [Op.equalIn,run_underlying A]
    ·cases h
   ·rename_i A;split at h
    ·rename_i k a k' b';cases K;cases L
     by_cases M:k=k'
     ·simp [M] at h;subst h;simp [Op.equalIn,run_underlying A,M]
     ·simp [M] at h
    ·cases h
   ·rename_i A;split at h
    ·cases K;cases L;simp at h;subst h;rw [run_equalIn_string w D t _ _ A];rfl
    ·cases h
   ·rename_i fs A;split at h
    ·split at h
     ·rename_i Ln;obtain ⟨vs,rfl,B,C⟩:=sN K;obtain ⟨g,rfl,E,F⟩:=sN L;have hf:=Xo A;rw [run_equalIn_struct w D t vs g (hf ▸ A) Ln,hf];exact I D vs g _ _ _ b ad B C E F h
     ·cases h
    ·cases h
   ·rename_i n e A;split at h
    ·rename_i m hm;obtain ⟨vs,rfl,B,C⟩:=sN K;obtain ⟨g,rfl,E,F⟩:=sN L;simp only [Op.equalIn,cb,run_underlying A,eM,ij hm];rw [Std.Legacy.Range.forIn_eq_forIn_range'];simp only [Std.Legacy.Range.size,Nat.sub_zero,Nat.add_sub_cancel,Nat.div_one];rw [J D vs g e m _ _ 0 n b ad hm B C E F h];cases b<;>simp
    ·cases h
   ·cases h
  ·intro D vs g xs ys fs b hD B C E F h;cases fs with
   | nil=>simp [PB] at h;subst h;simp [Op.eqFields]
   | cons f fs =>
    simp only [PB] at h;split at h
    ·rename_i n N hn;split at h
     ·rename_i a c l O Q;split at h
      ·rename_i p q R T;simp only [bd,Nat.ble_eq] at l;have G:∀ o,AM P f.type=some o->f.offset+o<=xs.length:=fun o s=>by rw [hn] at s;cases s;exact l.1
       have U:∀ o,AM P f.type=some o->f.offset+o<=ys.length:=fun o s=>by rw [hn] at s;cases s;exact l.2
       obtain ⟨v1,V,W⟩:=nP B C O G;obtain ⟨v2,X,Y⟩:=nP E F Q U;have Z:=H D f.type a c v1 v2 p ad W Y R;have e2:=I D vs g xs ys fs q ad B C E F T
       have gU:f.name≠ "_":=yQ N
       simp at h;subst h;simp only [Op.eqFields,if_pos gU,cb,V,X,Z,eM];cases p
       ·simp
       ·simp [e2]
      ·cases h
     ·cases h
    ·cases h
  ·intro D vs g e m xs ys i n b hD hm B C E F h;cases n with
   | zero=>simp [Iu] at h;subst h;simp
   | succ n =>
    simp only [Iu] at h;split at h
    ·rename_i a c l O Q;split at h
     ·rename_i p q R T;simp only [bd,Nat.ble_eq] at l;have G:∀ o,AM P e=some o->i * m+o<=xs.length:=fun o s=>by rw [hm] at s;cases s;exact l.1
      have U:∀ o,AM P e=some o->i * m+o<=ys.length:=fun o s=>by rw [hm] at s;cases s;exact l.2
      obtain ⟨v1,V,W⟩:=nP B C O G;obtain ⟨v2,X,Y⟩:=nP E F Q U;have Z:=H D e a c v1 v2 p ad W Y R;have e2:=J D vs g e m xs ys (i+1) n q ad hm B C E F T;simp at h;subst h;rw [List.range'_succ,List.forIn_cons];simp only [cb,V,X,Z,eM];cases p
      ·simp
      ·simpa using e2
     ·cases h
    ·cases h
def PC (o:BinOp) (q:Bool):Option AV :=
 match o with
 | .eql=>some (.atom (.bool q))
 | .neq=>some (.atom (.bool (!q)))
 | _=>none
def afj:AV->Bool
 | .atom v=>match v with
  | .pointer none=>true
  | _=>false
 | _=>false
def afk (P:Program) (o:BinOp) (t:TypeId) (x y:AV):Option AV :=
 match P.underlying t,y with
 | some (.slice _),.nil=>match x with
  | .nil=>PC o true
  | .sl n _ | .os _ _ n=>match o with
   | .eql=>some (.bn n)
   | _=>none
  | _=>none
 | some (.pointer _),y=>match afj y with
  | true=>match x with
   | .atom v=>match v with
    | .pointer none=>PC o true
    | _=>none
   | .rp _ _ | .op _ _ _=>PC o false
   | .pt b _=>PC o (!b)
   | _=>none
  | false=>none
 | _,_=>none
theorem tC (op:BinOp) (t:TypeId) (x y:Operand) (a b:Value) (h1:a≠.nilIface) (h2:∀ c,a≠.agg c):(eqGuard op t x y a b).run P w=.ok () w:=by
 simp_all [eqGuard]
theorem abY {o:BinOp} {t:TypeId} {a b:Option Addr} {l c d e:Nat} {q:Bool} (h:(Op.equal t (.slice a l c) (.slice b d e)).run P w=.ok q w) {r:AV} (f:PC o q=some r):∃ z,(binOp o t (.slice a l c) (.slice b d e)).run P w=.ok z w/\av w S μ z r:=by
 cases o<;>simp only [PC,aX,reduceCtorEq] at f<;>subst f
 ·exact ⟨.bool q,by simp_all [binOp,cb],.atom _⟩
 ·exact ⟨.bool (!q),by simp_all [binOp,cb],.atom _⟩
theorem Ka {o:BinOp} {t:TypeId} {a:Option Addr} {q:Bool} (h:(Op.equal t (.pointer a) (.pointer none)).run P w=.ok q w) {r:AV} (b:PC o q=some r):∃ z,(binOp o t (.pointer a) (.pointer none)).run P w=.ok z w/\av w S μ z r:=by
 cases o<;>simp only [PC,aX,reduceCtorEq] at b<;>subst b
 ·exact ⟨.bool q,by simp_all [binOp,cb],.atom _⟩
 ·exact ⟨.bool (!q),by simp_all [binOp,cb],.atom _⟩
theorem am3 {op:BinOp} {t:TypeId} {x y:AV} {k m:Operand} {v u:Value} (i:av w S μ v x) (o:av w S μ u y) {r:AV} (h:afk P op t x y=some r) :
  ∃ z,(do eqGuard op t k m v u;binOp op t v u:Sem Value).run P w=.ok z w/\av w S μ z r:=by
 have g:∀ (v u:Value),v≠.nilIface->(∀ c,v≠.agg c)->(∃ z,(binOp op t v u).run P w=.ok z w/\av w S μ z r)->∃ z,(do eqGuard op t k m v u;binOp op t v u:Sem Value).run P w=.ok z w/\av w S μ z r:=by
  intro v u h1 h2 h3;have q:=tC (P:=P) (w:=w) op t k m v u h1 h2;simpa only [cb,q,eM] using h3
 unfold afk at h;split at h
 ·rename_i e n;cases o;have sl:∀ (a:Option Addr) (l c:Nat),(Op.equal t (.slice a l c) (.slice none 0 0)).run P w=.ok a.isNone w:=by
   intro a l c;unfold Op.equal Op.maxDepth Op.equalIn;rw [cb,run_underlying n];cases a<;>rfl
  split at h
  ·cases i;exact g _ _ ao ao (abY (sl none 0 0) h)
  ·split at h
   ·cases h;cases i with
    | sl b off sz f h1 h2 h3 h4 A =>
     rename_i a cap;refine g _ _ ao ao ⟨.bool a.isNone,?_,.bn _ fun j=>?_⟩
     ·simp only [binOp,cb,sl];rfl
     ·refine Nat.eq_zero_of_not_pos fun p=>?_;rw [(h1 p).1] at j;cases j
   ·cases h
  ·split at h
   ·cases h;cases i with
    | os pl hm h1 h2 h3 =>
     rename_i cap a;refine g _ _ ao ao ⟨.bool a.isNone,?_,.bn _ fun j=>?_⟩
     ·simp only [binOp,cb,sl];rfl
     ·refine Nat.eq_zero_of_not_pos fun p=>?_;rw [h1 ad] at j;cases j
   ·cases h
  ·cases h
 ·rename_i e n;split at h
  ·rename_i d;have s:u=.pointer none:=by
    unfold afj at d;split at d
    ·split at d
     ·exact eH o
     ·cases d
    ·cases d
   subst s;have pt:∀ (a:Option Addr),(Op.equal t (.pointer a) (.pointer none)).run P w=.ok a.isNone w:=by
    intro a;unfold Op.equal Op.maxDepth Op.equalIn;rw [cb,run_underlying n];cases a<;>rfl
   split at h
   ·split at h
    ·have:=eH i;subst this;exact g _ _ ao ao (Ka (pt none) h)
    ·cases h
   ·cases i;exact g _ _ ao ao (Ka (pt (some _)) h)
   ·cases i;exact g _ _ ao ao (Ka (pt (some _)) h)
   ·rename_i b cs;cases i with
    | pt h1 h2 =>
     cases b with
     | true =>
      have:=h1 rfl;cases this;exact g _ _ ao ao (Ka (pt (some _)) h)
     | false =>
      rw [h2 rfl];exact g _ _ ao ao (Ka (pt none) h)
   ·cases h
  ·cases h
 ·cases h
def nqB:Option Bool->Bool
 | some b=>b
 | none=>false
theorem al6 {op:BinOp} {t e:TypeId} {st:Option Bool} {x:AV} {d f:Operand} {v u:Value} (g:P.underlying t=some (.slice e)) (i:av w S μ v (.nq st x)) (j:av w S μ u .nil) {n:Nat}
  (k:∃ a c,v=.slice a n c/\(0 < n->a.isNone=false)) (l:st=none->0 < n) {r:AV} (h:PC op (nqB st)=some r) :
  ∃ z,(do eqGuard op t d f v u;binOp op t v u:Sem Value).run P w=.ok z w/\av w S μ z r:=by
 obtain ⟨a,c,rfl,m⟩:=k;cases j;have o:a.isNone=nqB st:=by
  cases i with
  | nq _ h1 h2 =>
   cases st with
   | none=>exact m (l rfl)
   | some b=>cases b with
    | true=>have:=h1 rfl;injection this with p;subst p;rfl
    | false=>have:=h2 rfl;cases a with
     | none=>cases this
     | some a=>rfl
 have q:=tC (P:=P) (w:=w) op t d f (.slice a n c) (.slice none 0 0) ao ao;have he:(Op.equal t (.slice a n c) (.slice none 0 0)).run P w=.ok (nqB st) w:=by
  rw [<- o];unfold Op.equal Op.maxDepth Op.equalIn;rw [cb,run_underlying g];cases a<;>rfl
 obtain ⟨z,h1,h2⟩:=abY (S:=S) (μ:=μ) he h;exact ⟨z,by simpa only [cb,q,eM] using h1,h2⟩
def afl (P:Program) (op:BinOp) (t:TypeId) (x y:AV):Option (List Prop×AV) :=
 match x,y with
 | .atom (.int k a),.atom (.int k' b)=>match op with
  | .shl=>O4 .shl k a b
  | .shr=>O4 .shr k a b
  | op=>match decide (k=k') with
   | true=>al4 op k a b
   | false=>none
 | .atom (.string a),.atom (.string b)=>al5 op a b
 | .atom (.bool _),.atom (.bool _)=>match op with
  | .eql=>(Lv P 1 t x y).map fun b=>([],.atom (.bool b))
  | .neq=>(Lv P 1 t x y).map fun b=>([],.atom (.bool (!b)))
  | _=>none
 | .agg _,.agg _=>match P.eqGuardType P.depth t with
  | false=>match op with
   | .eql=>(Lv P 60 t x y).map fun b=>([],.atom (.bool b))
   | .neq=>(Lv P 60 t x y).map fun b=>([],.atom (.bool (!b)))
   | _=>none
  | true=>none
 | .nq st x,.nil=>match P.underlying t,x with
  | some (.slice _),.sl n _=>(PC op (nqB st)).map fun v=>([st=none->0 < n],v)
  | some (.slice _),.os _ _ n=>(PC op (nqB st)).map fun v=>([st=none->0 < n],v)
  | _,_=>none
 | x,y=>(afk P op t x y).map fun v=>([],v)
theorem am4 {op:BinOp} {t:TypeId} {x y:AV} {m p:Operand} {v u:Value} (c:av w S μ v x) (i:av w S μ u y) {ps:List Prop} {r:AV} (h:afl P op t x y=some (ps,r)) (s:bg ps) :
  ∃ z,(do eqGuard op t m p v u;binOp op t v u:Sem Value).run P w=.ok z w/\av w S μ z r:=by
 unfold afl at h;split at h
 ·rename_i k a k' b;have:=eH c;subst this;have:=eH i;subst this;have j:=tC (P:=P) (w:=w) op t m p (.int k a) (.int k' b) ao ao;simp only [cb,j,eM];have D:∀ o,(o=.shl\/o=.shr)->O4 o k a b=some (ps,r)->∃ z,(binOp o t (.int k a) (.int k' b)).run P w=.ok z w/\av w S μ z r:=by
   intro o F h;rcases F with rfl | rfl<;>simp only [O4,aX,aQ] at h<;>obtain ⟨rfl,rfl⟩:=h <;>
    (have l:¬ b < 0:=by have:=s.1;omega)<;>exact ⟨_,by simp [binOp,Op.shift,l],.atom _⟩
  split at h
  ·exact D .shl (.inl rfl) h
  ·exact D .shr (.inr rfl) h
  ·rename_i G H;split at h
   ·rename_i A;have A:=xl A;subst A;cases op<;>simp only [al4,aX,aQ,reduceCtorEq] at h <;>
     first
      | exact absurd rfl G
      | exact absurd rfl H
      | (obtain ⟨rfl,rfl⟩:=h
         exact ⟨_,by
         first
          | (simp [binOp,Op.intArith];done)
          | (have I:¬ b=0:=s.1
             simp [binOp,Op.intDiv,I];done)
          | (simp [binOp,Op.intBits];done)
          | (simp [binOp,Op.intCmp];done),.atom _⟩)
   ·cases h
 ·rename_i a b;have:=eH c;subst this;have:=eH i;subst this;have j:=tC (P:=P) (w:=w) op t m p (.string a) (.string b) ao ao;simp only [cb,j,eM];cases op<;>simp only [al5,aX,aQ,reduceCtorEq] at h<;>obtain ⟨rfl,rfl⟩:=h
  ·have l:¬ ((a.size+b.size:Nat):Int) > IntKind.i64.max:=by have:=s.1;omega
   exact ⟨_,by simp only [binOp,Op.stringOp,if_neg l];rfl,.atom _⟩
  all_goals exact ⟨_,by simp only [binOp,Op.stringOp];rfl,.atom _⟩
 ·rename_i a b;have:=eH c;subst this;have:=eH i;subst this;have j:=tC (P:=P) (w:=w) op t m p (.bool a) (.bool b) ao ao;simp only [cb,j,eM];split at h
  ·simp only [a4,aQ] at h;obtain ⟨q,d,rfl,rfl⟩:=h;have:=(Xp (w:=w) (S:=S) (μ:=μ) 1).1 10000 t _ _ _ _ q ad c i d;exact ⟨_,by simp only [binOp,Op.equal,Op.maxDepth,cb,this];rfl,.atom _⟩
  ·simp only [a4,aQ] at h;obtain ⟨q,d,rfl,rfl⟩:=h;have:=(Xp (w:=w) (S:=S) (μ:=μ) 1).1 10000 t _ _ _ _ q ad c i d;exact ⟨_,by simp only [binOp,Op.equal,Op.maxDepth,cb,this];rfl,.atom _⟩
  ·cases h
 ·split at h
  ·rename_i B;obtain ⟨vs,rfl,K,L⟩:=sN c;obtain ⟨J,rfl,M,N⟩:=sN i;have j:=run_eqGuard_agg (P:=P) w op t m p vs J B;simp only [cb,j,eM];split at h
   ·simp only [a4,aQ] at h;obtain ⟨q,d,rfl,rfl⟩:=h;have:=(Xp (w:=w) (S:=S) (μ:=μ) 60).1 10000 t _ _ _ _ q ad c i d;exact ⟨_,by rw [run_eql_struct,this];rfl,.atom _⟩
   ·simp only [a4,aQ] at h;obtain ⟨q,d,rfl,rfl⟩:=h;have:=(Xp (w:=w) (S:=S) (μ:=μ) 60).1 10000 t _ _ _ _ q ad c i d;exact ⟨_,by rw [run_neq_struct,this];rfl,.atom _⟩
   ·cases h
  ·cases h
 ·split at h
  ·rename_i e n g C;simp only [a4,aQ] at h;obtain ⟨q,d,rfl,rfl⟩:=h;refine al6 C c i (n:=n) ?_ s.1 d;cases c with
   | nq l _ _=>cases l with
    | sl b off sz f h1 h2 h3 h4 O=>exact ⟨_,_,rfl,fun E=>by rw [(h1 E).1];rfl⟩
  ·rename_i e k o n C;simp only [a4,aQ] at h;obtain ⟨q,d,rfl,rfl⟩:=h;refine al6 C c i (n:=n) ?_ s.1 d;cases c with
   | nq l _ _=>cases l with
    | os pl hm h1 h2 h3=>exact ⟨_,_,rfl,fun E=>by rw [h1 ad];rfl⟩
  ·cases h
 ·simp only [a4,aQ] at h;obtain ⟨q,d,rfl,rfl⟩:=h;exact am3 c i d
def am5 (op:UnOp) (x:AV):Option AV :=
 match op,x with
 | .neg,.atom (.int k n)=>some (.atom (.int k (k.wrap (0 - n))))
 | .not,.atom (.bool b)=>some (.atom (.bool (!b)))
 | _,_=>none
theorem apt {op:UnOp} {x:AV} {v:Value} (a:av w S μ v x) {r:AV} (h:am5 op x=some r):∃ z,(Op.unary op v).run P w=.ok z w/\av w S μ z r:=by
 unfold am5 at h;split at h<;>cases h<;>(have:=eH a;subst this)
 ·exact ⟨_,by rfl,.atom _⟩
 ·exact ⟨_,by simp [Op.unary],.atom _⟩
def Zz (P:Program) (a dst:TypeId) (x:AV):Option AV :=
 match P.underlying a,P.underlying dst,x with
 | some _,some (.int k),.atom (.int _ n)=>some (.atom (.int k (k.wrap n)))
 | some _,some .string,.atom (.string s)=>some (.atom (.string s))
 | _,_,_=>none
theorem akj {a dst:TypeId} {x:AV} {v:Value} (b:av w S μ v x) {r:AV} (h:Zz P a dst x=some r):∃ z,(convert a dst v).run P w=.ok z w/\av w S μ z r:=by
 unfold Zz at h;split at h
 ·rename_i h1 h2;cases h;have:=eH b;subst this;exact ⟨_,by simp_all [convert,run_underlying,Conv.intToInt],.atom _⟩
 ·rename_i h1 h2;cases h;have:=eH b;simp_all [convert,run_underlying]
 ·cases h
end
end Go.Ab
namespace Go.Ab
abbrev x8:=List (Nat×Option Ob)
def Step (P:Program) (E:Env) (nk:Nat) (σ:fe) (S:Nat->Prop) (μ:Mu) (w:World) (s:Sem Value) (val:AV) (pD:x8):Prop :=
 ∃ v w' S' ey,s.run P w=.ok v w'/\Ext w S μ w' S' ey/\Good E (iC σ pD) S' ey w'/\(∀ k,k≠nk->μ k=none->ey k=none)/\av w' S' ey v val
def RL (w:World) (S:Nat->Prop) (μ:Mu) (vs:Array Value) (cs:List AV):Prop :=
 vs.size=cs.length/\∀ (j:Nat) (c:AV) (v:Value),cs[j]?=some c->vs[j]?=some v->av w S μ v c
section
variable {P:Program} {E:Env} {nk:Nat} {σ:fe} {S:Nat->Prop} {μ:Mu} {w:World}
theorem Step.pure (g:Good E σ S μ w) {s:Sem Value} {v:Value} {val:AV} (h:s.run P w=.ok v w) (a:av w S μ v val):Step P E nk σ S μ w s val [] :=
 ⟨v,w,S,μ,h,Ext.refl w S μ,g,fun _ _ h=>h,a⟩
theorem RL.mk' {vs:Array Value} {cs:List AV} (h:RL w S μ vs cs):av w S μ (.agg vs) (.agg cs):=.agg h.1 h.2
theorem RL.pr {vs:Array Value} {cs:List AV} (h:RL w S μ vs cs) {j:Nat} {c:AV} {v:Value} (a:cs[j]?=some c) (b:vs[j]?=some v) :
  av w S (if AV.pX cs then kf else μ) v c:=by
 split
 ·rename_i d;exact (h.2 j c v a b).pure (zE d a) kf
 ·exact h.2 j c v a b
theorem rM {k n:Nat} (pl:Place) (h:n≠k):di μ k pl n=μ n:=by simp [di,h]
theorem Step.al7 (g:Good E σ S μ w) (c:μ nk=none) (hm:E.m0<=nk) {s:Sem Value} {vs:Array Value} {T:TypeId} {cs:List AV}
  (h:s.run P w=.ok (.pointer (some ⟨w.heap.size,0,none⟩)) (w.alloc (.cells vs T))) (a:RL w S μ vs cs) (f:1<=cs.length) :
  Step P E nk σ S μ w s (.op nk 0 0) [(nk,some ⟨true,cs.length,1,AV.pX cs,fun _=>cs⟩)]:=by
 have b:=g.alloc c hm vs T ⟨true,cs.length,1,AV.pX cs,fun _=>cs⟩ 1 (by simp [a.1]) (aV _) (fun _ _=>rfl) (fun i j x v hi d e=>by
  have:i=0:=by simp at hi;exact hi
  subst this;exact a.pr d (by simpa using e)) (by grind) (fun i=>FX rfl i)
 refine ⟨_,_,_,_,h,b.1,b.2,fun k l m=>by grind [rM],?_⟩;have:=av.op (w:=w.alloc (.cells vs T)) (S:=S) (k:=nk) (i:=0) (j:=0) (μ:=di μ nk ⟨w.heap.size,1,cs.length⟩) ⟨w.heap.size,1,cs.length⟩ (by simp [di]);simpa using this
def UH (P:Program) (nk:Nat) (T:TypeId):Option (AV×x8) :=
 match yL P T with
 | some z=>match Nat.ble 1 (z.cells.toList.map jz).length with
  | true=>some (.op nk 0 0,[(nk,some ⟨true,(z.cells.toList.map jz).length,1,AV.pX (z.cells.toList.map jz),fun _=>z.cells.toList.map jz⟩)])
  | false=>none
 | none=>none
theorem FY (vs:Array Value):RL w S μ vs (vs.toList.map jz) :=
 ⟨ao,fun j c v a d=>by
  have b:vs.toList[j]?=some v:=by simpa using d
  rw [List.getElem?_map,b] at a;simp at a;exact a ▸ IQ w S μ v⟩
theorem afm (g:Good E σ S μ w) (a:μ nk=none) (hm:E.m0<=nk) {T:TypeId} {val:AV} {pD:x8} (h:UH P nk T=some (val,pD)) :
  Step P E nk σ S μ w (Instr.alloc T true (.tuple #[])) val pD:=by
 unfold UH at h;split at h
 ·rename_i z b;split at h
  ·rename_i c;cases h;exact Step.al7 g a hm (vs:=z.cells) (T:=T) (by simp [Instr.alloc,TA b,newVar,newRow]) (FY _) (Nat.le_of_ble_eq_true c)
  ·cases h
 ·cases h
def afn (nk:Nat) (x:AV):Option (AV×x8) :=
 match x.cells with
 | some cs=>match Nat.ble 1 cs.length with
  | true=>some (.op nk 0 0,[(nk,some ⟨true,cs.length,1,AV.pX cs,fun _=>cs⟩)])
  | false=>none
 | none=>none
theorem am6 (g:Good E σ S μ w) (a:μ nk=none) (hm:E.m0<=nk) {T:TypeId} {x:AV} {v:Value} (b:av w S μ v x) {val:AV} {pD:x8} (h:afn nk x=some (val,pD)) :
  Step P E nk σ S μ w (Instr.box T v) val pD:=by
 unfold afn at h;split at h
 ·rename_i cs c;split at h
  ·rename_i d;cases h;exact Step.al7 g a hm (vs:=v.cells) (T:=T) (by rfl) (b.cells c) (Nat.le_of_ble_eq_true d)
  ·cases h
 ·cases h
def uv (cs:List AV) (off:Nat) (a:List AV):List AV:=cs.take off ++ (a ++ cs.drop (off+a.length))
theorem zV (cs:List AV) (off:Nat) (a:List AV) (h:off+a.length<=cs.length) (m:Nat) :
  (uv cs off a)[m]?=if off<=m/\m < off+a.length then a[m - off]? else cs[m]?:=by
 have h1:(cs.take off).length=off:=by simp;omega
 unfold uv;grind
theorem tD (cs:List AV) (off:Nat) (a:List AV) (h:off+a.length<=cs.length):(uv cs off a).length=cs.length:=by
 simp [uv];omega
theorem foldl_set (off:Nat):∀ (a:List Value) (s:Nat) (vs:Array Value),
  ((a.zipIdx s).foldl (fun cs x=>cs.setIfInBounds (off+x.2) x.1) vs).size=vs.size /\
  ∀ m,((a.zipIdx s).foldl (fun cs x=>cs.setIfInBounds (off+x.2) x.1) vs)[m]?=if off+s<=m/\m < off+s+a.length/\m < vs.size then a[m - (off+s)]? else vs[m]?
 | [],s,vs=>⟨rfl,fun m=>by simp;intro h1 h2;omega⟩
 | u :: a,s,vs=>by
  obtain ⟨h1,h2⟩:=foldl_set off a (s+1) (vs.setIfInBounds (off+s) u);simp only [List.zipIdx_cons,List.foldl_cons];grind
theorem RL.uv {vs a:Array Value} {cs i:List AV} (h:RL w S μ vs cs) (k:RL w S μ a i) {off:Nat} (b:off+i.length<=cs.length) :
  RL w S μ (a.zipIdx.foldl (fun cs (c,j)=>cs.setIfInBounds (off+j) c) vs) (uv cs off i):=by
 have f:=foldl_set off a.toList 0 vs;have e:a.zipIdx.foldl (fun cs (c,j)=>cs.setIfInBounds (off+j) c) vs=(a.toList.zipIdx 0).foldl (fun cs x=>cs.setIfInBounds (off+x.2) x.1) vs:=by
  rw [<- Array.foldl_toList];simp
 rw [e];refine ⟨by rw [f.1,h.1,tD _ _ _ b],?_⟩;intro j c v d g;rw [f.2 j] at g;rw [zV _ _ _ b] at d;have m:=k.1;have n:=h.1
 by_cases l:off<=j/\j < off+i.length
 ·rw [if_pos l] at d;rw [if_pos (by simp;omega)] at g;exact k.2 (j - off) c v d (by simpa using g)
 ·rw [if_neg l] at d;rw [if_neg (by simp;omega)] at g;exact h.2 j c v d g
def Iv (place:Nat->Option (Nat×Nat)) (cells:List AV):List (Nat×AV)->Option (List AV)
 | []=>some cells
 | (i,x) :: rest =>
  match place i,x.cells with
  | some (off,size),some a=>match Nat.beq a.length size && Nat.ble (off+a.length) cells.length with
   | true=>Iv place (uv cells off a) rest
   | false=>none
  | _,_=>none
theorem Kb (place:Nat->Option (Nat×Nat)):∀ (parts:List (Nat×AV)) (e:List (Nat×Value)) (vs:Array Value) (cs out:List AV),
  e.map (·.1)=parts.map (·.1)->(∀ (j:Nat) x y,parts[j]?=some x->e[j]?=some y->av w S μ y.2 x.2)->RL w S μ vs cs->Iv place cs parts=some out ->
  ∃ f,Instr.fill place vs e=some f/\RL w S μ f out
 | [],e,vs,cs,out,hi,_,h,c=>by
  simp at hi;subst hi;simp [Iv] at c;subst c;exact ⟨vs,rfl,h⟩
 | (i,x) :: rest,e,vs,cs,out,hi,l,h,c=>by
  obtain ⟨⟨i',v⟩,g,rfl⟩:∃ a b,e=a :: b:=by
   cases e with
   | nil=>simp at hi
   | cons a b=>exact ⟨a,b,rfl⟩
  simp at hi;obtain ⟨rfl,hi⟩:=hi;have m:av w S μ v x:=l 0 (i',x) (i',v) rfl rfl;simp only [Iv] at c;split at c
  ·rename_i off size q r n;split at c
   ·rename_i k;simp only [bd,Nat.ble_eq] at k;have s:=bZ k.1;have d:=m.cells n;obtain ⟨f,h1,h2⟩:=Kb place rest g _ _ out hi (fun j x y o p=>l (j+1) x y (by simpa using o) (by simpa using p)) (h.uv ⟨d.1,d.2⟩ k.2) c;refine ⟨f,?_,h2⟩;have t:¬ v.cells.size≠size:=by rw [d.1];omega
    have u:¬ off+v.cells.size > vs.size:=by rw [d.1,h.1];omega
    simp_all [Instr.fill,if_neg,Bool.or_eq_true,decide_eq_true_eq,not_or]
   ·cases c
  ·cases c
def UI (P:Program) (t:TypeId) (parts:List (Nat×AV)):Option AV :=
 match yL P t,P.underlying t with
 | some z,some (.struct fs)=>match fs.toList.mapM fun f=>(AM P f.type).map fun n=>(f.offset,n) with
  | some a=>(Iv (a[·]?) (z.cells.toList.map jz) parts).map .agg
  | none=>none
 | some z,some (.array _ e)=>match AM P e with
  | some n=>(Iv (fun i=>some (i * n,n)) (z.cells.toList.map jz) parts).map .agg
  | none=>none
 | _,_=>none
theorem afp {t:TypeId} {parts:List (Nat×AV)} {b:Array (Nat×Value)} (hi:b.toList.map (·.1)=parts.map (·.1))
  (g:∀ (j:Nat) x y,parts[j]?=some x->b.toList[j]?=some y->av w S μ y.2 x.2) {r:AV} (h:UI P t parts=some r) :
  ∃ v,(Instr.build t b).run P w=.ok v w/\av w S μ v r:=by
 unfold UI at h;split at h
 ·rename_i z fs d hu;split at h
  ·rename_i l m;simp only [a4] at h;obtain ⟨out,f,rfl⟩:=h;obtain ⟨c,h1,h2⟩:=Kb (w:=w) (S:=S) (μ:=μ) _ parts b.toList z.cells _ out hi g (FY _) f;refine ⟨.agg c,run_build w t b c ?_,h2.mk'⟩;have a:=d;unfold yL at a;cases hi:P.info? t with
   | none=>simp [hi] at a
   | some i =>
    simp_all [Program.built,AM,Function.comp_def]
  ·cases h
 ·rename_i z n e d hu;split at h
  ·rename_i o k;simp only [a4] at h;obtain ⟨out,f,rfl⟩:=h;obtain ⟨c,h1,h2⟩:=Kb (w:=w) (S:=S) (μ:=μ) _ parts b.toList z.cells _ out hi g (FY _) f;refine ⟨.agg c,run_build w t b c ?_,h2.mk'⟩;have a:=d;unfold yL at a;unfold AM at k;cases hi:P.info? t with
   | none=>simp [hi] at a
   | some i =>
    simp [hi] at a;cases he:P.info? e with
    | none=>simp [he] at k
    | some p =>
     simp_all [Program.built]
  ·cases h
 ·cases h
end
end Go.Ab
namespace Go.Ab
section
variable {P:Program} {E:Env} {nk:Nat} {σ:fe} {S:Nat->Prop} {μ:Mu} {w:World}
theorem Step.afq (g:Good E σ S μ w) (d:μ nk=none) (hm:E.m0<=nk) {s:Sem Value} {vs:Array Value} {T:TypeId} {len cap sz:Nat} {pr:Bool} {get:Nat->List AV}
  (h:s.run P w=.ok (.slice (some ⟨w.heap.size,0,none⟩) len cap) (w.alloc (.cells vs T))) (e:cap * sz<=vs.size) (a:len<=cap)
  (f:∀ i,i < len->(get i).length=sz)
  (l:∀ i j x v,i < len->(get i)[j]?=some x->vs[i * sz+j]?=some v->av w S (if pr then kf else μ) v x) (m:sz≠0) (b:∀ i,rowOf ⟨false,sz,len,pr,get⟩ i=none) :
  Step P E nk σ S μ w s (.os nk 0 len) [(nk,some ⟨false,sz,len,pr,get⟩)]:=by
 have c:=g.alloc d hm vs T ⟨false,sz,len,pr,get⟩ cap e a f l m b;refine ⟨_,_,_,_,h,c.1,c.2,fun k n o=>by grind [rM],?_⟩;simp_all [av.os,di]
def AV.akk:AV->Bool
 | .mr _ _ _=>true
 | _=>false
def qF:List AV->Bool
 | []=>true
 | c :: cs=>!c.akk && qF cs
theorem TC:∀ {cs:List AV},qF cs=true->∀ c∈cs,c.akk=false
 | [],_,c,h=>by simp at h
 | a :: cs,h,c,b=>by
  simp only [qF,bd,Bool.not_eq_true'] at h;rcases kY.1 b with rfl | b
  ·exact h.1
  ·exact TC h.2 c b
theorem ZA (v:Value):(jz v).akk=false:=by
 unfold jz;split
 ·rfl
 ·split<;>rfl
 ·rfl
theorem FZ {o:Ob} {l:List AV} (h:∀ i,i < o.len->∀ c∈o.get i,c∈l) (a:∀ c∈l,c.akk=false) (i:Nat):rowOf o i=none:=by
 cases b:rowOf o i with
 | none=>rfl
 | some x =>
  obtain ⟨_,h1,h2⟩:=dS b;have:=a _ (h i h1 (.mr x.1 x.2.1 x.2.2) (by simp_all));cases this
theorem vI {o:Ob} (h:∀ i,i < o.len->AV.vH (o.get i)=true) (i:Nat):rowOf o i=none:=by
 cases a:rowOf o i with
 | none=>rfl
 | some x =>
  obtain ⟨_,h1,h2⟩:=dS a;have:=h i h1;rw [h2] at this;cases this
def qS (P:Program) (t:TypeId):Option TypeId :=
 match P.underlying t with
 | some (.slice e)=>some e
 | _=>none
theorem oG {t e:TypeId} (h:qS P t=some e):P.underlying t=some (.slice e):=by
 grind [qS]
def rows (n:Nat):Nat->List AV->List (List AV)
 | 0,_=>[]
 | k+1,cs=>cs.take n :: rows n k (cs.drop n)
theorem Xq (n:Nat):∀ (k:Nat) (cs:List AV) (i:Nat),i < k->(rows n k cs)[i]?=some ((cs.drop (i * n)).take n)
 | 0,_,i,h=>ad
 | k+1,cs,0,_=>by simp [rows]
 | k+1,cs,i+1,h=>by
  simp only [rows,J9];rw [Xq n k (cs.drop n) i ad,List.drop_drop];grind
theorem Lx (n k:Nat) (cs:List AV) (i:Nat) (h:i < k):(rows n k cs).getD i []=(cs.drop (i * n)).take n:=by
 rw [jP,Xq n k cs i h];rfl
def ND (z:List AV):Nat->List AV
 | 0=>[]
 | k+1=>z ++ ND z k
theorem DV (z:List AV):∀ k,(ND z k).length=k * z.length
 | 0=>by simp [ND]
 | k+1=>by simp [ND,DV z k,dq];omega
theorem TD (z:List AV) (b:z.length≠0):∀ (k j:Nat),j < k * z.length->(ND z k)[j]?=z[j % z.length]?
 | 0,j,h=>by simp at h
 | k+1,j,h=>by
  simp only [ND]
  by_cases a:j < z.length
  ·rw [lx a,Nat.mod_eq_of_lt a]
  ·rw [og ad,TD z b k (j - z.length) (by grind)];congr 1
   conv=>rhs;rw [show j=(j - z.length)+z.length by omega]
   simp
theorem afr {z:Value} {n:Nat} (b:z.cells.size=n) (i:n≠0) (k:Nat) (c:Array Value) (g:c=(Array.range (k * n)).map (z.cells[· % z.cells.size]!)) :
  RL w S μ c (ND (z.cells.toList.map jz) k):=by
 subst g;have d:(z.cells.toList.map jz).length=n:=by simp [b]
 refine ⟨by simp [DV,b],?_⟩;intro j x v e a;have f:j < k * n:=by
  have:=(Array.getElem?_eq_some_iff.1 a).1;simpa using this
 rw [TD _ ad k j (by rw [d];exact f),d] at e;have h:j % n < z.cells.size:=by rw [b];exact Nat.mod_lt _ ad
 have l:v=z.cells[j % n]:=by
  simp only [Array.getElem?_map] at a;rw [Array.getElem?_range,if_pos f] at a;simp at a;rw [<- a,b];simp [getElem!_pos,h]
 refine (FY (w:=w) (S:=S) (μ:=μ) z.cells).2 (j % n) x v e ?_;simp_all
def DW (P:Program) (nk:Nat) (t:TypeId) (len:Nat) (parts:List (Nat×AV)):Option (AV×x8) :=
 match qS P t with
 | some e=>match AM P e,DT P e,yL P e with
  | some n,some _,some z=>match Nat.ble 1 (len * n) && Nat.ble (len * n) 16777216 && Nat.beq z.cells.size n with
   | true=>match Iv (fun i=>some (i * n,n)) (ND (z.cells.toList.map jz) len) parts with
    | some cs=>match qF cs with
     | true=>some (.os nk 0 len,[(nk,some ⟨false,n,len,AV.pX cs,fun i=>(rows n len cs).getD i []⟩)])
     | false=>none
    | none=>none
   | false=>match Nat.beq len 0 && Nat.ble 1 n with
    | true=>some (.os nk 0 0,[(nk,some ⟨false,n,0,true,fun _=>[]⟩)])
    | false=>none
  | _,_,_=>none
 | none=>none
theorem Oe {t e:TypeId} {n:Nat} (he:P.underlying t=some (.slice e)) (a:AM P e=some n) (w:World) :
  (Instr.buildSlice t 0 #[]).run P w=.ok (.slice (some ⟨w.heap.size,0,none⟩) 0 0) (w.alloc (.cells #[] e)):=by
 simp [Instr.buildSlice,run_underlying he,ij a,Instr.fill,newRow,Array.range_zero']
theorem S8 (g:Good E σ S μ w) (D:μ nk=none) (hm:E.m0<=nk) {t:TypeId} {len:Nat} {parts:List (Nat×AV)} {a:Array (Nat×Value)} (hi:a.toList.map (·.1)=parts.map (·.1))
  (I:∀ (j:Nat) x y,parts[j]?=some x->a.toList[j]?=some y->av w S μ y.2 x.2) {val:AV} {pD:x8} (h:DW P nk t len parts=some (val,pD)) (d:len=0->parts=[]) :
  Step P E nk σ S μ w (Instr.buildSlice t len a) val pD:=by
 unfold DW at h;split at h
 ·rename_i e he;have he:=oG he;split at h
  ·rename_i n b z F J K;split at h
   ·rename_i A;simp only [bd,Nat.ble_eq] at A;have m:=bZ A.2;split at h
    ·rename_i cs o;split at h
     case h_2=>cases h
     rename_i B;cases h;have q:n≠0:=by rintro rfl;simp at A
     have k:=afr (w:=w) (S:=S) (μ:=μ) m q len _ rfl;obtain ⟨G,h1,h2⟩:=Kb (w:=w) (S:=S) (μ:=μ) _ parts a.toList _ _ cs hi I k o;obtain ⟨f,L,M,N,C⟩:=DU F J K;subst M;have O:=run_buildSlice w t e len a G f z he L C ad ad h1;have r:G.size=len * f.size:=by
      have:=h2.1;have Q:∀ (parts:List (Nat×AV)) (cs out:List AV),Iv (fun i=>some (i * f.size,f.size)) cs parts=some out->out.length=cs.length:=by
       intro parts
       induction parts with
       | nil=>intro cs out h;simp [Iv] at h;rw [h]
       | cons p ps R =>
        intro cs out h;simp only [Iv] at h;split at h
        ·split at h
         ·rename_i H;simp only [bd,Nat.ble_eq] at H;rw [R _ _ h,tD _ _ _ H.2]
         ·cases h
        ·cases h
      rw [this,Q _ _ _ o,DV];simp [m]
     refine Step.afq g D hm O (by rw [r];exact aV _) (aV _) ?_ ?_ q (FZ (l:=cs) (fun i hi c u=>by
      have u:c∈(rows f.size len cs).getD i []:=u;rw [Lx _ _ _ _ hi] at u;exact List.mem_of_mem_drop (List.mem_of_mem_take u)) (TC B))
     ·intro i hi;rw [Lx _ _ _ _ hi];have:=h2.1;have:(i+1) * f.size<=len * f.size:=fy _ hi;rw [dq] at this;simp;omega
     ·intro i j x v hi s T;rw [Lx _ _ _ _ hi,vE] at s;split at s
      ·rw [ud] at s;exact h2.pr s T
      ·cases s
    ·cases h
   ·split at h
    ·rename_i k;cases h;simp only [bd,Nat.ble_eq] at k;obtain ⟨k,U⟩:=k;have:=bZ k;subst this;have d:=d rfl;subst d;have:a=#[]:=by
      have:a.toList=[]:=by simpa using hi
      exact Array.toList_eq_nil_iff.1 this
     subst this;exact Step.afq g D hm (Oe he F w) ao (aV _) (fun i hi=>absurd hi (dX _)) (fun i j x v hi=>absurd hi (dX _)) ad (fun i=>rfl)
    ·cases h
  ·cases h
 ·cases h
def ZD (P:Program) (nk:Nat) (t:TypeId) (l c:AV):Option (List Prop×AV×x8) :=
 match qS P t,l,c with
 | some e,.atom (.int _ l),.atom (.int _ c)=>match AM P e,DT P e,yL P e with
  | some n,some b,some z=>match Nat.ble 1 n && Nat.beq z.cells.size n with
   | true=>some ([0<=l,l<=c,(b:Int) * c<=281474976710656,c<=9223372036854775807],.os nk 0 l.toNat,
     [(nk,some ⟨false,n,l.toNat,AV.pX (z.cells.toList.map jz),fun _=>z.cells.toList.map jz⟩)])
   | false=>none
  | _,_,_=>none
 | _,_,_=>none
theorem akl (g:Good E σ S μ w) (A:μ nk=none) (hm:E.m0<=nk) {t:TypeId} {l c:AV} {r s:Value} (B:av w S μ r l) (m:av w S μ s c)
  {ps:List Prop} {val:AV} {pD:x8} (h:ZD P nk t l c=some (ps,val,pD)) (C:bg ps) :
  Step P E nk σ S μ w (Instr.makeSlice t r s) val pD:=by
 unfold ZD at h;split at h
 ·rename_i e k l k' c he;have he:=oG he;have:=eH B;subst this;have:=eH m;subst this;split at h
  ·rename_i n b z D F G;split at h
   ·rename_i u;cases h;simp only [bd,Nat.ble_eq] at u;have a:=bZ u.2;obtain ⟨h1,h2,h3,h4,_⟩:=C;obtain ⟨f,H,I,p,q⟩:=DU D F G;subst I p;have J:=run_make (P:=P) w t e f z he H q k k' l c h1 h2 h3 h4;refine Step.afq g A hm J (by rw [size_madeCells];exact aV _) ad (fun _ _=>by simp [a]) ?_ ad (FZ (l:=z.cells.toList.map jz) (fun _ _ c m=>m) (fun c m=>by
     obtain ⟨v,_,rfl⟩:=List.mem_map.1 m;exact ZA v))
    intro i j x v hi y d;have K:j < f.size:=by
     have:=(eK.1 y).1;simpa [a] using this
    have L:z.cells[j]?=some v:=by
     unfold madeCells at d;simp only [Array.getElem?_map] at d;have M:i * f.size+j < c.toNat * f.size:=by
      have:(i+1) * f.size<=c.toNat * f.size:=fy _ ad;rw [dq] at this;omega
     rw [Array.getElem?_range,if_pos M] at d;simp only [Option.map_some,aX] at d;rw [a,vF i,Nat.mul_add_mod,Nat.mod_eq_of_lt K] at d;have o:j < z.cells.size:=ad;rw [hH o];rw [getElem!_pos z.cells j o] at d;exact congrArg some d
    exact (FY (w:=w) (S:=S) (μ:=μ) z.cells).pr y L
   ·cases h
  ·cases h
 ·cases h
def ldv (agg:Bool) (n:Nat) (cs:List AV) (j:Nat):Option AV :=
 match Nat.ble (j+n) cs.length with
 | true=>match agg with
  | true=>some (.agg ((cs.drop j).take n))
  | false=>cs[j]?
 | false=>none
theorem O5 {T:TypeId} {d:TypeDesc} {n:Nat} (e:P.underlying T=some d) (g:AM P T=some n) {cs:List AV} {j:Nat} {x:AV} (h:ldv d.isRow n cs j=some x) (b o:Nat)
  (f:Nat->Value) (l:∀ i,i < cs.length->w.cell? ⟨b,o+i,none⟩=some (f i)) (m:∀ (i:Nat) c,cs[i]?=some c->av w S μ (f i) c) :
  ∃ v,(Instr.loadAt T (.pointer (some ⟨b,o+j,none⟩))).run P w=.ok v w/\av w S μ v x:=by
 unfold ldv at h;split at h
 ·rename_i hle;simp only [Nat.ble_eq] at hle;cases a:d.isRow with
  | true =>
   simp [a] at h;have p:((List.range n).map fun i=>f (j+i)).length=n:=ao;refine ⟨.agg ((List.range n).map fun i=>f (j+i)).toArray,run_loadAt_mid w b (o+j) T _ d ?_ e a (by simpa [AM] using g),?_⟩
   ·intro i v q;grind
   ·rw [<- h];refine .agg (by simp;omega) ?_;grind
  | false =>
   simp [a] at h;have r:j < cs.length:=(eK.1 h).1;have k:(isAgg T).run P w=.ok false w:=by
    unfold isAgg;rw [cb,run_underlying e w];cases d<;>simp_all
   simp_all [Instr.loadAt,Instr.sureAddr,loadVar]
 ·cases h
def akn (a:IntKind):AV->Option Int
 | .atom v=>match v with
  | .int k n=>match decide (k=a) with
   | true=>some n
   | false=>none
  | _=>none
 | _=>none
def Iw (b:IntKind):Nat->List AV->Option (List Int)
 | 0,_=>some []
 | m+1,c :: cs=>match akn b c,Iw b m cs with
  | some a,some r=>some (a :: r)
  | _,_=>none
 | _+1,[]=>none
def TE (l:List Int) (n:Nat):Int:=l.getD n 0
def am8 (q t:Nat) (v a:Int):Int:=if q=t then v else a
theorem abZ {b:IntKind} {c:AV} {a:Int} (h:akn b c=some a):c=.atom (.int b a):=by
 unfold akn at h;grind
theorem LC {b:IntKind}:∀ {m:Nat} {cs:List AV} {l:List Int},Iw b m cs=some l->∀ n,n < m->cs[n]?=some (.atom (.int b (TE l n)))
 | 0,_,_,_,n,d=>absurd d (dX n)
 | m+1,[],_,h,_,_=>by simp [Iw] at h
 | m+1,c :: cs,l,h,n,d=>by
  simp only [Iw] at h;split at h
  ·rename_i a r h1 h2;cases h;cases n with
   | zero=>simp [TE,abZ h1]
   | succ n =>
    have:=LC h2 n ad;simpa [TE] using this
  ·cases h
def ab0:AV->Option Bool
 | .atom v=>match v with
  | .bool b=>some b
  | _=>none
 | _=>none
def BH:Nat->List AV->Option (List Bool)
 | 0,_=>some []
 | m+1,c :: cs=>match ab0 c,BH m cs with
  | some a,some r=>some (a :: r)
  | _,_=>none
 | _+1,[]=>none
def TF (l:List Bool) (n:Nat):Bool:=l.getD n false
def am9 (q t:Nat) (v a:Bool):Bool:=if q=t then v else a
theorem Xs {c:AV} {a:Bool} (h:ab0 c=some a):c=.atom (.bool a):=by
 unfold ab0 at h;grind
theorem IS:∀ {m:Nat} {cs:List AV} {l:List Bool},BH m cs=some l->∀ n,n < m->cs[n]?=some (.atom (.bool (TF l n)))
 | 0,_,_,_,n,b=>absurd b (dX n)
 | m+1,[],_,h,_,_=>by simp [BH] at h
 | m+1,c :: cs,l,h,n,b=>by
  simp only [BH] at h;split at h
  ·rename_i a r h1 h2;cases h;cases n with
   | zero=>simp [TF,Xs h1]
   | succ n =>
    have:=IS h2 n ad;simpa [TF] using this
  ·cases h
def F0 (P:Program) (σ:fe) (T:TypeId) (a:AV):Option (List Prop×AV×List Nat) :=
 match P.underlying T,AM P T with
 | some d,some n=>match a with
  | .op k i j=>match ay σ k with
   | some o=>(ldv d.isRow n (o.get i) j).map fun x=>([i < o.len],x,[k])
   | none=>none
  | .rp cs j=>(ldv d.isRow n cs j).map fun x=>([],x,[])
  | .ov k i j m q=>match ay σ k,d with
   | some o,.int b=>match Iw b m ((o.get i).drop j) with
    | some l=>match Nat.beq n 1 with
     | true=>some ([i < o.len],.atom (.int b (TE l q)),[k])
     | false=>none
    | none=>none
   | some o,.bool=>match BH m ((o.get i).drop j) with
    | some l=>match Nat.beq n 1 with
     | true=>some ([i < o.len],.atom (.bool (TF l q)),[k])
     | false=>none
    | none=>none
   | _,_=>none
  | _=>none
 | _,_=>none
theorem dg {o:Ob} {pl:Place} {c:Array Value} {T:TypeId} (h:kg w S μ o pl c T) {i j:Nat} (hi:i < o.len) (b:j < o.sz) :
  ∃ v,c[i * o.sz+j]?=some v/\w.cell? ⟨pl.df,i * o.sz+j,none⟩=some v:=by
 have a:i * o.sz+j < c.size:=by
  have h1:(i+1) * o.sz<=pl.cap * o.sz:=fy _ (by have:=h.len;omega);have:=h.cap;rw [dq] at h1;omega
 exact ⟨c[i * o.sz+j],hH a,by rw [cell_of_row w _ _ _ _ _ ((h.df (by have:=h.len;omega)).trans (by rw [jf ad]))];simp⟩
theorem ln {v:Value} {x:AV} {pr:Bool} (h:av w S (if pr then kf else μ) v x):av w S μ v x:=by
 refine h.mono (fun _ h=>h) (fun _ _=>rfl) ?_;cases pr
 ·exact fun _ _ h=>h
 ·exact fun _ _ h=>by cases h
theorem UJ (g:Good E σ S μ w) {T:TypeId} {a:AV} {J:Value} (C:av w S μ J a) {ps:List Prop} {x:AV} {rd:List Nat} (h:F0 P σ T a=some (ps,x,rd)) (F:bg ps) :
  ∃ v,(Instr.loadAt T J).run P w=.ok v w/\av w S μ v x:=by
 unfold F0 at h;split at h
 ·rename_i d n hu D;split at h
  ·rename_i k i j;split at h
   ·rename_i o z;simp only [a4,aQ] at h;obtain ⟨y,s,rfl,rfl,rfl⟩:=h;obtain ⟨pl,c,K,hm,r⟩:=g.rep.ob k o z;have hi:=F.1;cases C with
    | op lL t =>
     rw [hm] at t;cases t;rw [r.sz];have e:=r.zF i hi;refine O5 hu D s pl.df (i * o.sz) (fun j=>(c[i * o.sz+j]?).getD undef) ?_ ?_
     ·grind [dg]
     ·intro j A p;obtain ⟨v,h1,h2⟩:=dg r hi (e ▸ (eK.1 p).1);rw [h1];exact ln (r.rep i j A v hi p h1)
   ·cases h
  ·rename_i cs j;simp only [a4,aQ] at h;obtain ⟨y,s,rfl,rfl,rfl⟩:=h;cases C with
   | rp b o f h1 h2 h3 =>
    exact O5 hu D s b o f h2 (fun i c M=>(h3 i c M).mono (fun _ h=>h) (fun _ _=>rfl) (fun _ _ h=>by cases h))
  ·rename_i k i j m q;split at h
   ·rename_i o L z;split at h
    ·rename_i l G;split at h
     ·rename_i B;have B:=bZ B;simp only [aX,aQ] at h;obtain ⟨rfl,rfl,rfl⟩:=h;obtain ⟨pl,c,K,hm,r⟩:=g.rep.ob k o z;have hi:=F.1;cases C with
      | ov lL t H =>
       rw [hm] at t;cases t;rw [r.sz];have e:=r.zF i hi;have s:=LC G q H;rw [ud] at s;have I:=(eK.1 s).1;have u:ldv (TypeDesc.int L).isRow n (o.get i) (j+q)=some (.atom (.int L (TE l q))):=by
        unfold ldv;have:Nat.ble (j+q+n) (o.get i).length=true:=by rw [Nat.ble_eq];omega
        rw [this];exact s
       refine O5 hu D u pl.df (i * o.sz) (fun j=>(c[i * o.sz+j]?).getD undef) ?_ ?_
       ·grind [dg]
       ·intro j A p;obtain ⟨v,h1,h2⟩:=dg r hi (e ▸ (eK.1 p).1);rw [h1];exact ln (r.rep i j A v hi p h1)
     ·cases h
    ·cases h
   ·rename_i o z;split at h
    ·rename_i l G;split at h
     ·rename_i B;have B:=bZ B;simp only [aX,aQ] at h;obtain ⟨rfl,rfl,rfl⟩:=h;obtain ⟨pl,c,K,hm,r⟩:=g.rep.ob k o z;have hi:=F.1;cases C with
      | ov lL t H =>
       rw [hm] at t;cases t;rw [r.sz];have e:=r.zF i hi;have s:=IS G q H;rw [ud] at s;have I:=(eK.1 s).1;have u:ldv (TypeDesc.bool).isRow n (o.get i) (j+q)=some (.atom (.bool (TF l q))):=by
        unfold ldv;have:Nat.ble (j+q+n) (o.get i).length=true:=by rw [Nat.ble_eq];omega
        rw [this];exact s
       refine O5 hu D u pl.df (i * o.sz) (fun j=>(c[i * o.sz+j]?).getD undef) ?_ ?_
       ·grind [dg]
       ·intro j A p;obtain ⟨v,h1,h2⟩:=dg r hi (e ▸ (eK.1 p).1);rw [h1];exact ln (r.rep i j A v hi p h1)
     ·cases h
    ·cases h
   ·cases h
  ·cases h
 ·cases h
end
end Go.Ab
namespace Go.Ab
def da:Nat->Nat->Nat
 | 0,n=>n
 | m+1,n=>m+1+n
theorem fk (m n:Nat):da m n=m+n:=by cases m<;>simp [da]
section
variable {P:Program} {E:Env} {nk:Nat} {σ:fe} {S:Nat->Prop} {μ:Mu} {w:World}
def Ob.put (o:Ob) (i:Nat) (cs:List AV) (pr:Bool):Ob :=
 match o.var with
 | true=>{ o with pr:=o.pr && pr,get:=fun _=>cs }
 | false=>{ o with pr:=o.pr && pr,get:=fun m=>if m=i then cs else o.get m }
def spl (sz:Nat) (cs:List AV) (off:Nat) (a:List AV):List AV :=
 match Nat.beq a.length sz with
 | true=>a
 | false=>uv cs off a
theorem ZE {sz:Nat} {cs:List AV} {off:Nat} {a:List AV} (h:off+a.length<=sz) (d:cs.length=sz):spl sz cs off a=uv cs off a:=by
 unfold spl;split
 ·rename_i b;have b:=bZ b;have c:off=0:=ad;subst c;unfold uv;rw [List.drop_eq_nil_of_le ad];simp
 ·rfl
def tE (P:Program) (σ:fe) (T:TypeId) (a x:AV):Option (List Prop×x8×List Nat) :=
 match a,x.cells,AM P T with
 | .op k i j,some b,some n=>match ay σ k with
  | some o=>match Nat.beq b.length n && AV.vH b && Nat.ble (j+n) o.sz && (!o.var || Nat.beq o.len 1) && Nat.ble 1 o.sz with
   | true=>some ([i < o.len],[(k,some (o.put i (spl o.sz (o.get i) j b) (AV.pX b)))],[k])
   | false=>none
  | none=>none
 | _,_,_=>none
theorem LD (g:Good E σ S μ w) {T:TypeId} {a x:AV} {N vx:Value} (ha:av w S μ N a) (I:av w S μ vx x) {ps:List Prop} {pD:x8} {rd:List Nat}
  (h:tE P σ T a x=some (ps,pD,rd)) (hp:bg ps) :
  ∃ w',(Instr.storeAt T N vx).run P w=.ok () w'/\Ext w S μ w' S μ/\Good E (iC σ pD) S μ w':=by
 unfold tE at h;split at h
 ·rename_i k i j p n J hn;split at h
  ·rename_i o O;split at h
   ·rename_i Q;simp only [aX,aQ] at h;obtain ⟨rfl,rfl,rfl⟩:=h;simp only [bd,Nat.ble_eq] at Q;obtain ⟨⟨⟨⟨K,R⟩,hb3⟩,u⟩,hb5⟩:=Q;have K:=bZ K;have hi:i < o.len:=hp.1;obtain ⟨pl,c,T',hm,d⟩:=g.rep.ob k o O;cases ha with
    | op lL U =>
     rw [hm] at U;cases U;have V:0 < pl.cap:=by have:=d.len;omega
     have x6:i * o.sz+o.sz<=c.size:=by
      have h1:(i+1) * o.sz<=pl.cap * o.sz:=fy _ (by have:=d.len;omega);have:=d.cap;rw [dq] at h1;omega
     obtain ⟨hcs,z⟩:=I.cells J;have S9:∀ v∈vx.cells.toList,v.oneCell'=true:=by
      intro v e;obtain ⟨q,A⟩:=List.getElem?_of_mem e;have W:q < p.length:=by
       have:=(eK.1 A).1;simp at this;omega
      exact (z q _ v (ub W) (by simpa using A)).UG (PA R (ub W))
     have L:=run_storeCells_at P pl.df (i * pl.sz+j) T' vx.cells.toList 0 c w ((d.df V).trans (by grind [jf])) (by rw [d.sz];simp;omega) S9;simp only [Nat.add_zero] at L;generalize X:(c.toList.take (i * pl.sz+j) ++ vx.cells.toList ++ c.toList.drop (i * pl.sz+j+vx.cells.toList.length)).toArray=t at L;have F1:(c.toList.take (i * pl.sz+j)).length=i * o.sz+j:=by rw [d.sz];simp;omega
     have B:vx.cells.toList.length=n:=by simp;omega
     have UK:t.size=c.size:=by
      rw [<- X];simp only [List.size_toArray,oi,Bf,B,d.sz];simp;omega
     have Y:∀ m,t[m]?=if i * o.sz+j<=m/\m < i * o.sz+j+n then vx.cells[m - (i * o.sz+j)]? else c[m]?:=by
      intro m;rw [<- X];simp only [List.getElem?_toArray,DR]
      by_cases h1:m < i * o.sz+j
      ·grind
      ·rw [og ad,F1]
       by_cases h2:m < i * o.sz+j+n
       ·rw [lx ad,if_pos ad];simp
       ·rw [og ad,if_neg ad,ud,B,d.sz];simp only [Array.getElem?_toList];congr 1;omega
     have r:=d.zF i hi;have Zp:∀ (o':Ob),o'.sz=o.sz->o'.len=o.len->o'.var=o.var->o'.pr=(o.pr && AV.pX p)->(o'.get i=uv (o.get i) j p)->(∀ m,m < o.len->m≠i->o'.get m=o.get m) ->
       Ext w S μ (w.setRow pl.df t) S μ/\Good E (sset σ k o') S μ (w.setRow pl.df t):=by
      intro o' D F ev e3 G e5;have Z:∀ m q,m≠i->q < o.sz->¬ (i * o.sz+j<=m * o.sz+q/\m * o.sz+q < i * o.sz+j+n):=by
       rintro m q b A ⟨h1,h2⟩;rcases Nat.lt_or_gt_of_ne b with h3 | h3
       ·have:(m+1) * o.sz<=i * o.sz:=fy _ h3;rw [dq] at this;omega
       ·have:(i+1) * o.sz<=m * o.sz:=fy _ h3;rw [dq] at this;omega
      refine g.write O hm V d ad o' t D UK (by rw [F];exact d.len) ?_ ?_ ?_
      rotate_left 2
      ·intro m x I;obtain ⟨M,H,s⟩:=dS I;rw [F] at H;rw [ev] at M;rw [Y]
       by_cases b:m=i
       ·subst b;rw [G] at s;cases n with
        | zero =>
         have:p=[]:=List.eq_nil_of_length_eq_zero K;rw [this] at s;refine ⟨nL M H (by rw [<- s];unfold uv;simp),if_neg ad⟩
        | succ n =>
         have h1:=tD (o.get m) j p ad;rw [s] at h1;have hj0:j=0:=by simp at h1;omega
         have h2:=zV (o.get m) j p ad 0;rw [s,if_pos ad] at h2;have h3:=PA R (j:=0 - j) (c:=.mr x.1 x.2.1 x.2.2) (by rw [<- h2];rfl);cases h3
       ·rw [e5 m H b] at s;exact ⟨nL M H s,if_neg (Z m 0 b ad)⟩
      ·intro m hm;rw [F] at hm
       by_cases b:m=i
       ·subst b;rw [G,tD _ _ _ ad,r,D]
       ·rw [e5 m hm b,d.zF m hm,D]
      ·intro m q y v hm f e;rw [F] at hm;rw [D,Y] at e;rw [e3];have A:q < o.sz:=by
        have:=(eK.1 f).1
        by_cases b:m=i
        ·subst b;rw [G,tD _ _ _ ad,r] at this;exact this
        ·rw [e5 m hm b,d.zF m hm] at this;exact this
       have l:(o.get m)[q]?=some y->c[m * o.sz+q]?=some v->av w S (if (o.pr && AV.pX p)=true then kf else μ) v y:=by
        intro f e;have:=d.rep m q y v hm f e;cases Xt:o.pr
        ·simpa [Xt] using this
        ·rw [Xt] at this;split
         ·exact this
         ·exact ln this
       by_cases b:m=i
       ·subst b;rw [G,zV _ _ _ ad] at f
        by_cases hjq:j<=q/\q < j+n
        ·rw [if_pos ad] at f e;have xz:vx.cells[q - j]?=some v:=by rw [<- e];congr 1;omega
         have:=z (q - j) y v f xz;split
         ·rename_i C;simp only [bd] at C;exact this.pure (zE C.2 f) kf
         ·exact this
        ·rw [if_neg ad] at f e;exact l f e
       ·rw [e5 m hm b] at f;rw [if_neg (Z m q b A)] at e;exact l f e
     refine ⟨w.setRow pl.df t,?_,?_⟩
     ·simp only [Instr.storeAt,Instr.sureAddr,cb,Sem.run_pure,eM,storeVar,ij hn];rw [Sem.run_ite,if_neg ad];exact L
     ·show Ext _ _ _ _ _ _/\Good E (sset σ k _) S μ _;refine Zp _ ?_ ?_ ?_ ?_ ?_ ?_
      ·unfold Ob.put;split<;>rfl
      ·unfold Ob.put;split<;>rfl
      ·unfold Ob.put;split<;>rfl
      ·unfold Ob.put;split<;>rfl
      ·rw [<- ZE ad r];unfold Ob.put;split<;>simp
      ·intro m hm b;unfold Ob.put;split
       ·rename_i Ik;simp only [Ik,Bool.not_true,Bool.false_or] at u;have:=bZ u;omega
       ·simp [b]
   ·cases h
  ·cases h
 ·cases h
def adO (b:IntKind) (q:Nat) (v:Int):Nat->Nat->List AV->List AV
 | t,m+1,c :: cs=>(match akn b c with
  | some a=>.atom (.int b (am8 q t v a))
  | none=>c) :: adO b q v (t+1) m cs
 | _,_,cs=>cs
theorem Xu {b:IntKind} {q:Nat} {v:Int}:∀ {m:Nat} {cs:List AV} {l:List Int} (t:Nat),Iw b m cs=some l->∀ r,(adO b q v t m cs)[r]?=if q=t+r/\r < m then some (.atom (.int b v)) else cs[r]?
 | 0,cs,_,t,_,r=>by cases cs<;>simp [adO]
 | m+1,[],_,_,h,_=>by simp [Iw] at h
 | m+1,c :: cs,l,t,h,r=>by
  simp only [Iw] at h;split at h
  ·rename_i a e h1 h2;cases h;simp only [adO,h1];cases r with
   | zero =>
    simp only [List.getElem?_cons_zero,Nat.add_zero]
    by_cases d:q=t
    ·simp_all [if_pos,am8]
    ·rw [if_neg (fun h=>d h.1),am8,if_neg d,<- abZ h1]
   | succ r =>
    simp only [J9];rw [Xu (t+1) h2 r];grind
  ·cases h
def adP (q:Nat) (v:Bool):Nat->Nat->List AV->List AV
 | t,m+1,c :: cs=>(match ab0 c with
  | some a=>.atom (.bool (am9 q t v a))
  | none=>c) :: adP q v (t+1) m cs
 | _,_,cs=>cs
theorem Xv {q:Nat} {v:Bool}:∀ {m:Nat} {cs:List AV} {l:List Bool} (t:Nat),BH m cs=some l->∀ r,(adP q v t m cs)[r]?=if q=t+r/\r < m then some (.atom (.bool v)) else cs[r]?
 | 0,cs,_,t,_,r=>by cases cs<;>simp [adP]
 | m+1,[],_,_,h,_=>by simp [BH] at h
 | m+1,c :: cs,l,t,h,r=>by
  simp only [BH] at h;split at h
  ·rename_i a d h1 h2;cases h;simp only [adP,h1];cases r with
   | zero =>
    simp only [List.getElem?_cons_zero,Nat.add_zero]
    by_cases b:q=t
    ·simp_all [if_pos,am9]
    ·rw [if_neg (fun h=>b h.1),am9,if_neg b,<- Xs h1]
   | succ r =>
    simp only [J9];rw [Xv (t+1) h2 r];grind
  ·cases h
def HE (P:Program) (σ:fe) (T:TypeId) (a x:AV):Option (List Prop×x8×List Nat) :=
 match a with
 | .ov k i j m q=>match ay σ k,x,AM P T with
  | some o,.atom (.int b v),some n=>match Iw b m ((o.get i).drop j) with
   | some _=>match Nat.beq n 1 && Nat.ble (j+m) o.sz && Nat.ble (j+m) (o.get i).length && (!o.var || Nat.beq o.len 1) && Nat.ble 1 o.sz with
    | true=>some ([i < o.len],[(k,some (o.put i ((o.get i).take j ++ adO b q v 0 m ((o.get i).drop j)) true))],[k])
    | false=>none
   | none=>none
  | some o,.atom (.bool v),some n=>match BH m ((o.get i).drop j) with
   | some _=>match Nat.beq n 1 && Nat.ble (j+m) o.sz && Nat.ble (j+m) (o.get i).length && (!o.var || Nat.beq o.len 1) && Nat.ble 1 o.sz with
    | true=>some ([i < o.len],[(k,some (o.put i ((o.get i).take j ++ adP q v 0 m ((o.get i).drop j)) true))],[k])
    | false=>none
   | none=>none
  | _,_,_=>none
 | a=>tE P σ T a x
theorem afs (g:Good E σ S μ w) {T:TypeId} {a x:AV} {M vx:Value} (z:av w S μ M a) (A:av w S μ vx x) {ps:List Prop} {pD:x8} {rd:List Nat}
  (h:HE P σ T a x=some (ps,pD,rd)) (p:bg ps) :
  ∃ w',(Instr.storeAt T M vx).run P w=.ok () w'/\Ext w S μ w' S μ/\Good E (iC σ pD) S μ w':=by
 unfold HE at h;split at h
 ·rename_i k i j m q;split at h
  ·rename_i o y v n s B;split at h
   ·rename_i l C;split at h
    ·rename_i t;simp only [aX,aQ] at h;obtain ⟨rfl,rfl,rfl⟩:=h;simp only [bd,Nat.ble_eq] at t;obtain ⟨⟨⟨⟨D,N⟩,F⟩,b⟩,c⟩:=t;cases z with
     | ov pl hm O =>
      have u:(o.get i).take j ++ adO y q v 0 m ((o.get i).drop j)=uv (o.get i) (j+q) [.atom (.int y v)]:=by
       have d:((o.get i).take j).length=j:=by simp;omega
       apply List.ext_getElem?;intro r;rw [zV _ _ _ (by simp;omega)];simp only [List.length_singleton]
       by_cases G:r < j
       ·rw [lx ad,vE,if_pos G,if_neg ad]
       ·rw [og ad,d,Xu 0 C]
        by_cases H:r=j+q
        ·rw [if_pos ad,if_pos ad];have:r - (j+q)=0:=ad;rw [this];rfl
        ·rw [if_neg ad,if_neg ad,ud];congr 1;omega
      have e:(o.get i).length=o.sz:=by obtain ⟨_,_,_,_,I⟩:=g.rep.ob k o s;exact I.zF i p.1
      rw [<- ZE (sz:=o.sz) (by simp;omega) e] at u;have J:tE P σ T (.op k i (j+q)) (.atom (.int y v))=some ([i < o.len],[(k,some (o.put i (spl o.sz (o.get i) (j+q) [.atom (.int y v)]) true))],[k]):=by
       have f:=bZ D;subst f;have K:Nat.ble (j+q+1) o.sz=true:=by rw [Nat.ble_eq];omega
       have L:Nat.ble 1 o.sz=true:=by rw [Nat.ble_eq];exact c
       unfold tE;simp only [AV.cells,B,s,List.length_singleton,AV.vH,AV.one,AV.pX,AV.pure,K,L,b,Bool.and_true,Bool.and_self]
      rw [u];exact LD g (av.op pl hm) A J p
    ·cases h
   ·cases h
  ·rename_i o v n s B;split at h
   ·rename_i l C;split at h
    ·rename_i t;simp only [aX,aQ] at h;obtain ⟨rfl,rfl,rfl⟩:=h;simp only [bd,Nat.ble_eq] at t;obtain ⟨⟨⟨⟨D,N⟩,F⟩,b⟩,c⟩:=t;cases z with
     | ov pl hm O =>
      have u:(o.get i).take j ++ adP q v 0 m ((o.get i).drop j)=uv (o.get i) (j+q) [.atom (.bool v)]:=by
       have d:((o.get i).take j).length=j:=by simp;omega
       apply List.ext_getElem?;intro r;rw [zV _ _ _ (by simp;omega)];simp only [List.length_singleton]
       by_cases G:r < j
       ·rw [lx ad,vE,if_pos G,if_neg ad]
       ·rw [og ad,d,Xv 0 C]
        by_cases H:r=j+q
        ·rw [if_pos ad,if_pos ad];have:r - (j+q)=0:=ad;rw [this];rfl
        ·rw [if_neg ad,if_neg ad,ud];congr 1;omega
      have e:(o.get i).length=o.sz:=by obtain ⟨_,_,_,_,I⟩:=g.rep.ob k o s;exact I.zF i p.1
      rw [<- ZE (sz:=o.sz) (by simp;omega) e] at u;have J:tE P σ T (.op k i (j+q)) (.atom (.bool v))=some ([i < o.len],[(k,some (o.put i (spl o.sz (o.get i) (j+q) [.atom (.bool v)]) true))],[k]):=by
       have f:=bZ D;subst f;have K:Nat.ble (j+q+1) o.sz=true:=by rw [Nat.ble_eq];omega
       have L:Nat.ble 1 o.sz=true:=by rw [Nat.ble_eq];exact c
       unfold tE;simp only [AV.cells,B,s,List.length_singleton,AV.vH,AV.one,AV.pX,AV.pure,K,L,b,Bool.and_true,Bool.and_self]
      rw [u];exact LD g (av.op pl hm) A J p
    ·cases h
   ·cases h
  ·cases h
 ·exact LD g z A h p
def F3 (P:Program) (T:TypeId) (x:AV) (f:Nat):Option AV :=
 match P.underlying T with
 | some (.struct fs)=>match fs[f]? with
  | some fl=>match AM P fl.type with
   | some (_+1)=>match x with
    | .op k i j=>some (.op k i (j+fl.offset))
    | .rp cs j=>some (.rp cs (j+fl.offset))
    | _=>none
   | _=>none
  | none=>none
 | _=>none
theorem UL {T:TypeId} {x:AV} {f:Nat} {v:Value} (a:av w S μ v x) {r:AV} (h:F3 P T x f=some r) :
  ∃ u,(Instr.fieldAt T v f).run P w=.ok u w/\av w S μ u r:=by
 unfold F3 at h;split at h
 ·rename_i fs hu;split at h
  ·rename_i fl d;split at h
   ·rename_i n e;split at h
    ·cases h;cases a with
     | op pl hm =>
      rename_i k i j;refine ⟨.pointer (some ⟨pl.df,i * pl.sz+(j+fl.offset),none⟩),?_,.op pl hm⟩;simp_all [Instr.fieldAt,run_underlying,Instr.sureAddr,fieldPlace,ij,Addr.add_mid,Nat.add_assoc]
    ·cases h;cases a with
     | rp b o c h1 h2 h3 =>
      rename_i cs j;refine ⟨.pointer (some ⟨b,o+(j+fl.offset),none⟩),?_,.rp b o c h1 h2 h3⟩;simp_all [Instr.fieldAt,run_underlying,Instr.sureAddr,fieldPlace,ij,Addr.add_mid,Nat.add_assoc]
    ·cases h
   ·cases h
  ·cases h
 ·cases h
def UM (P:Program) (T:TypeId) (x:AV) (f:Nat):Option AV :=
 match P.underlying T,x with
 | some (.struct fs),.agg cs=>match fs[f]? with
  | some fl=>match AM P fl.type with
   | some n=>match Nat.ble (fl.offset+n) cs.length with
    | true=>nO P fl.type cs fl.offset
    | false=>none
   | none=>none
  | none=>none
 | _,_=>none
theorem afu {T:TypeId} {x:AV} {f:Nat} {v:Value} (a:av w S μ v x) {r:AV} (h:UM P T x f=some r) :
  ∃ u,(Instr.field T v f).run P w=.ok u w/\av w S μ u r:=by
 unfold UM at h;split at h
 ·rename_i fs cs hu;split at h
  ·rename_i fl d;split at h
   ·rename_i n e;split at h
    ·rename_i hle;simp only [Nat.ble_eq] at hle;obtain ⟨vs,rfl,b,c⟩:=sN a;obtain ⟨u,g,i⟩:=nP b c h (fun j k=>by simp_all);simp_all [Instr.field,run_underlying,asAgg]
    ·cases h
   ·cases h
  ·cases h
 ·cases h
def uR (P:Program) (σ:fe) (T:TypeId) (x a:AV):Option (List Prop×AV×List Nat) :=
 match P.underlying T,a with
 | some (.slice e),.atom (.int _ n)=>match AM P e with
  | some sz=>match x with
   | .os k off len=>match ay σ k with
    | some o=>match Nat.beq o.sz sz with
     | true=>some ([0<=n/\n < len],.op k (da off n.toNat) 0,[k])
     | false=>none
    | none=>none
   | .sl len get=>match Nat.beq (get n.toNat).length sz with
    | true=>some ([0<=n/\n < len],.rp (get n.toNat) 0,[])
    | false=>none
   | _=>none
  | none=>none
 | some (.array len e),.atom (.int _ n)=>match AM P e with
  | some sz=>match x with
   | .op k i j=>match P.underlying e with
    | some (.int _)=>match Nat.beq sz 1 with
     | true=>some ([0<=n/\n < len],.ov k i j len n.toNat,[])
     | false=>none
    | some .bool=>match Nat.beq sz 1 with
     | true=>some ([0<=n/\n < len],.ov k i j len n.toNat,[])
     | false=>none
    | _=>some ([0<=n/\n < len],.op k i (j+n.toNat * sz),[])
   | .rp cs j=>some ([0<=n/\n < len],.rp cs (j+n.toNat * sz),[])
   | _=>none
  | none=>none
 | _,_=>none
theorem UN (g:Good E σ S μ w) {T:TypeId} {x B:AV} {v C:Value} (q:av w S μ v x) (hi:av w S μ C B) {ps:List Prop} {r:AV} {rd:List Nat}
  (h:uR P σ T x B=some (ps,r,rd)) (s:bg ps) :
  ∃ u,(Instr.indexAt T v C).run P w=.ok u w/\av w S μ u r:=by
 unfold uR at h;split at h
 ·rename_i e D n hu;have:=eH hi;subst this;split at h
  ·rename_i sz t;split at h
   ·rename_i k off len;split at h
    ·rename_i o G;split at h
     ·rename_i l;have l:=bZ l;simp only [aX,aQ] at h;obtain ⟨rfl,rfl,rfl⟩:=h;obtain ⟨pl,c,K,hm,H⟩:=g.rep.ob k o G;have d:=s.1;cases q with
      | os lL F h1 h2 h3 =>
       rename_i cap a;rw [hm] at F;cases F;have y:=h1 ad;subst y;refine ⟨.pointer (some ⟨pl.df,da off n.toNat * pl.sz+0,none⟩),?_,.op pl hm⟩;simp only [Instr.indexAt,asIntOf,run_underlying hu,cb,Sem.run_pure,eM];rw [Sem.run_ite,if_pos d];simp only [cb,ij t,eM,Sem.run_pure,Addr.add_mid];rw [fk,H.sz,l,dq];rfl
     ·cases h
    ·cases h
   ·rename_i len get;split at h
    ·rename_i l;have l:=bZ l;simp only [aX,aQ] at h;obtain ⟨rfl,rfl,rfl⟩:=h;have d:=s.1;cases q with
     | sl b off m f h1 h2 h3 h4 _ =>
      rename_i cap a;have I:n.toNat < len:=ad;obtain ⟨y,J⟩:=h1 ad;subst y;have z:m=sz:=by rw [<- h2 n.toNat I,l]
      subst z;refine ⟨.pointer (some ⟨b,(off+n.toNat * m)+0,none⟩),?_,.rp b (off+n.toNat * m) (f n.toNat) J ?_ ?_⟩
      ·simp only [Instr.indexAt,asIntOf,run_underlying hu,cb,Sem.run_pure,eM];simp_all [Sem.run_ite,if_pos,cb,ij,eM,Sem.run_pure,Addr.add_mid]
      ·simp_all
      simp_all
    ·cases h
   ·cases h
  ·cases h
 ·rename_i len e D n hu;have:=eH hi;subst this;split at h
  ·rename_i sz t;split at h
   ·rename_i k i j;have A:0<=n/\n < len->∀ pl:Place,(Instr.indexAt T (.pointer (some ⟨pl.df,i * pl.sz+j,none⟩)) (.int D n)).run P w=.ok (.pointer (some ⟨pl.df,i * pl.sz+(j+n.toNat * sz),none⟩)) w:=by
     intro d pl;simp only [Instr.indexAt,Instr.sureAddr,asIntOf,run_underlying hu,cb,Sem.run_pure,eM];rw [Sem.run_ite,if_pos d];simp only [cb,ij t,eM,Sem.run_pure,Addr.add_mid,Nat.add_assoc]
    split at h
    ·split at h
     ·rename_i p;have p:=bZ p;simp only [aX,aQ] at h;obtain ⟨rfl,rfl,rfl⟩:=h;have d:=s.1;cases q with
      | op pl hm =>
       refine ⟨_,A d pl,?_⟩;rw [p,Nat.mul_one];exact .ov pl hm ad
     ·cases h
    ·split at h
     ·rename_i p;have p:=bZ p;simp only [aX,aQ] at h;obtain ⟨rfl,rfl,rfl⟩:=h;have d:=s.1;cases q with
      | op pl hm =>
       refine ⟨_,A d pl,?_⟩;rw [p,Nat.mul_one];exact .ov pl hm ad
     ·cases h
    ·simp only [aX,aQ] at h;obtain ⟨rfl,rfl,rfl⟩:=h;have d:=s.1;cases q with
     | op pl hm=>exact ⟨_,A d pl,.op pl hm⟩
   ·rename_i cs j;simp only [aX,aQ] at h;obtain ⟨rfl,rfl,rfl⟩:=h;have d:=s.1;cases q with
    | rp b o f h1 h2 h3 =>
     refine ⟨.pointer (some ⟨b,o+(j+n.toNat * sz),none⟩),?_,.rp b o f h1 h2 h3⟩;simp only [Instr.indexAt,Instr.sureAddr,asIntOf,run_underlying hu,cb,Sem.run_pure,eM];simp_all [Sem.run_ite,if_pos,cb,ij,eM,Sem.run_pure,Addr.add_mid,Nat.add_assoc]
   ·cases h
  ·cases h
 ·cases h
def om (s:ByteArray) (i:Nat):Int:=((s[i]?).getD 0).toNat
def UO (P:Program) (T:TypeId) (x b:AV):Option (List Prop×AV) :=
 match P.underlying T,x,b with
 | some .string,.atom (.string s),.atom (.int _ n)=>some ([0<=n/\n < s.size],.atom (.int .u8 (om s n.toNat)))
 | some (.array len e),.agg cs,.atom (.int _ n)=>match P.underlying e,AM P e with
  | some (.int a),some sz=>match Iw a len cs with
   | some l=>match Nat.beq sz 1 && Nat.beq cs.length len with
    | true=>some ([0<=n/\n < len],.atom (.int a (TE l n.toNat)))
    | false=>none
   | none=>none
  | some .bool,some sz=>match BH len cs with
   | some l=>match Nat.beq sz 1 && Nat.beq cs.length len with
    | true=>some ([0<=n/\n < len],.atom (.bool (TF l n.toNat)))
    | false=>none
   | none=>none
  | some _,some sz=>match Nat.ble (n.toNat * sz+sz) cs.length with
   | true=>(nO P e cs (n.toNat * sz)).map fun r=>([0<=n/\n < len],r)
   | false=>none
  | _,_=>none
 | _,_,_=>none
theorem afv {T:TypeId} {x p:AV} {v j:Value} (q:av w S μ v x) (hi:av w S μ j p) {ps:List Prop} {r:AV} (h:UO P T x p=some (ps,r)) (g:bg ps) :
  ∃ u,(Instr.index T v j).run P w=.ok u w/\av w S μ u r:=by
 unfold UO at h;split at h
 ·rename_i s t n hu;simp only [aX,aQ] at h;obtain ⟨rfl,rfl⟩:=h;have:=eH hi;subst this;have:=eH q;subst this;have f:=g.1;have E:n.toNat < s.size:=ad;refine ⟨_,?_,.atom _⟩;simp_all [Instr.index,asIntOf,run_underlying,cb,Sem.run_pure,eM,if_pos,om]
 ·rename_i len e cs t n hu;have fin:∀ {sz:Nat} {i:AV},AM P e=some sz->n.toNat * sz+sz<=cs.length->nO P e cs (n.toNat * sz)=some i->0<=n/\n < len ->
    ∃ u,(Instr.index T v j).run P w=.ok u w/\av w S μ u i:=by
   intro sz i a b k f;have:=eH hi;subst this;obtain ⟨vs,rfl,y,z⟩:=sN q;obtain ⟨u,A,B⟩:=nP y z k (fun F G=>by simp_all);refine ⟨u,?_,B⟩;simp only [Instr.index,asIntOf,run_underlying hu,cb,Sem.run_pure,eM];rw [Sem.run_ite,if_pos f];simp only [cb,ij a,eM,A]
  split at h
  ·rename_i H sz he a;split at h
   ·rename_i l m;split at h
    ·rename_i c;simp only [bd] at c;have o:=bZ c.1;have C:=bZ c.2;simp only [aX,aQ] at h;obtain ⟨rfl,rfl⟩:=h;have f:=g.1;refine fin a (by rw [o];omega) ?_ f;have D:=LC m n.toNat ad;simp_all [nO,Nat.mul_one]
    ·cases h
   ·cases h
  ·rename_i sz he a;split at h
   ·rename_i l m;split at h
    ·rename_i c;simp only [bd] at c;have o:=bZ c.1;have C:=bZ c.2;simp only [aX,aQ] at h;obtain ⟨rfl,rfl⟩:=h;have f:=g.1;refine fin a (by rw [o];omega) ?_ f;have D:=IS m n.toNat ad;simp_all [nO,Nat.mul_one]
    ·cases h
   ·cases h
  ·rename_i d sz he a;split at h
   ·rename_i b;simp only [Nat.ble_eq] at b;simp only [a4,aQ] at h;obtain ⟨i,k,rfl,rfl⟩:=h;exact fin a b k g.1
   ·cases h
  ·cases h
 ·cases h
def bound (len:Nat):Option AV->Option Nat
 | none=>some len
 | some (.atom (.int _ n))=>some n.toNat
 | _=>none
def BI:Option AV->List Prop
 | some (.atom (.int _ n))=>[0<=n]
 | _=>[]
def HF (P:Program) (σ:fe) (T:TypeId) (x:AV) (lo hi:Option AV):Option (List Prop×AV×List Nat) :=
 match P.underlying T,x with
 | some .string,.atom (.string s)=>match bound 0 lo,bound s.size hi with
  | some l,some h=>some ((l<=h/\h<=s.size) :: (BI lo ++ BI hi),.atom (.string (s.extract l h)),[])
  | _,_=>none
 | some (.slice e),x=>match AM P e with
  | some sz=>match x with
   | .os k off len=>match bound 0 lo,bound len hi,ay σ k with
    | some l,some h,some o=>match Nat.beq o.sz sz with
     | true=>some ((l<=h/\h<=len) :: (BI lo ++ BI hi),.os k (da off l) (h - l),[k])
     | false=>none
    | _,_,_=>none
   | .sl len get=>match bound 0 lo,bound len hi with
    | some l,some h=>match Nat.beq (get l).length sz with
     | true=>some ((l<=h/\h<=len) :: (BI lo ++ BI hi),.sl (h - l) fun i=>get (da l i),[])
     | false=>none
    | _,_=>none
   | _=>none
  | none=>none
 | _,_=>none
theorem IT {lo:Option AV} {vlo:Option Value} (c:(vlo=none↔lo=none)/\∀ a b,lo=some a->vlo=some b->av w S μ b a) {len l:Nat} (h:bound len lo=some l) :
  (lo=none/\vlo=none/\l=len)\/∃ k n,vlo=some (.int k n)/\lo=some (.atom (.int k n))/\l=n.toNat:=by
 unfold bound at h;split at h
 ·simp_all
 ·rename_i k n;right;cases vlo with
  | none=>simp_all
  | some b =>
   have:=eH (c.2 _ b rfl rfl);grind
 ·cases h
theorem DX (isSlice:Bool) {len cap l h:Nat} {lo hi:Option AV} {vlo vhi:Option Value} (i:(vlo=none↔lo=none)/\∀ a b,lo=some a->vlo=some b->av w S μ b a)
  (c:(vhi=none↔hi=none)/\∀ a b,hi=some a->vhi=some b->av w S μ b a) (q:bound 0 lo=some l) (n:bound len hi=some h) (r:l<=h) (v:h<=cap) (s:bg (BI lo ++ BI hi)) :
  (Instr.sliceBounds isSlice len cap vlo vhi none).run P w=.ok (l,h,cap) w:=by
 obtain ⟨t,o⟩:=bg.app s;rcases IT i q with ⟨j,k,m⟩ | ⟨x,p,j,k,m⟩
 ·subst j k m;rcases IT c n with ⟨d,e,f⟩ | ⟨u,g,d,e,f⟩
  ·simp_all [Instr.sliceBounds]
  ·subst d e f;have:=o.1;simp_all [Instr.sliceBounds,Instr.sliceBound,asIntOf]
 ·subst j k m;have:=t.1;rcases IT c n with ⟨d,e,f⟩ | ⟨u,g,d,e,f⟩
  ·simp_all [Instr.sliceBounds,Instr.sliceBound,asIntOf]
  ·subst d e f;have:=o.1;have h2:0<=g/\g<=cap:=ad;have h3:0<=p/\p<=(g.toNat:Int):=ad;simp_all [Instr.sliceBounds,Instr.sliceBound,asIntOf,cb,Sem.run_pure,eM,Sem.run_ite,if_pos]
theorem afw (g:Good E σ S μ w) {T:TypeId} {x:AV} {v:Value} (C:av w S μ v x) {lo hi:Option AV} {vlo vhi:Option Value}
  (n:(vlo=none↔lo=none)/\∀ a b,lo=some a->vlo=some b->av w S μ b a)
  (p:(vhi=none↔hi=none)/\∀ a b,hi=some a->vhi=some b->av w S μ b a) {ps:List Prop} {r:AV} {rd:List Nat} (h:HF P σ T x lo hi=some (ps,r,rd)) (D:bg ps) :
  ∃ u,(Instr.sliceAt T v vlo vhi none).run P w=.ok u w/\av w S μ u r:=by
 unfold HF at h;split at h
 ·rename_i s hu;have:=eH C;subst this;split at h
  ·rename_i l t y d;simp only [aX,aQ] at h;obtain ⟨rfl,rfl,rfl⟩:=h;obtain ⟨⟨z,F⟩,A⟩:=D;have m:=DX (P:=P) (w:=w) false (cap:=s.size) n p y d z F A;refine ⟨_,?_,.atom _⟩;simp [Instr.sliceAt,Instr.slice,run_underlying hu,m]
  ·cases h
 ·rename_i e hu;split at h
  ·rename_i sz I;split at h
   ·rename_i k off len;split at h
    ·rename_i l t o y d K;split at h
     ·rename_i m;have m:=bZ m;simp only [aX,aQ] at h;obtain ⟨rfl,rfl,rfl⟩:=h;obtain ⟨⟨z,F⟩,A⟩:=D;obtain ⟨pl,c,O,hm,L⟩:=g.rep.ob k o K;cases C with
      | os lL J h1 h2 h3 =>
       rename_i cap a;rw [hm] at J;cases J;have q:=DX (P:=P) (w:=w) true (cap:=cap) n p y d z ad A;refine ⟨.slice (if cap=l then a else a.map (·.add (l * sz))) (t - l) (cap - l),?_,?_⟩
       ·simp [Instr.sliceAt,Instr.slice,run_underlying hu,q,ij I]
       ·refine .os pl hm ?_ ad (by rw [fk];omega);intro G;have:=h1 ad;subst this;rw [if_neg ad];simp only [Option.map_some,Addr.add_mid];rw [fk,L.sz,m,dq]
     ·cases h
    ·cases h
   ·rename_i len get;split at h
    ·rename_i l t y d;split at h
     ·rename_i m;have m:=bZ m;simp only [aX,aQ] at h;obtain ⟨rfl,rfl,rfl⟩:=h;obtain ⟨⟨z,F⟩,A⟩:=D;cases C with
      | sl b off B f h1 h2 h3 h4 Q =>
       rename_i a cap;have q:=DX (P:=P) (w:=w) true (cap:=cap) n p y d z ad A;have H:l < t->B=sz:=fun R=>by grind
       refine ⟨.slice (if cap=l then a else a.map (·.add (l * sz))) (t - l) (cap - l),?_,?_⟩
       ·simp [Instr.sliceAt,Instr.slice,run_underlying hu,q,ij I]
       ·refine .sl b (off+l * sz) B (fun i j=>f (da l i) j) ?_ (fun i hi=>h2 _ (by rw [fk];omega)) ?_ (fun i j c hi G=>h4 _ _ _ (by rw [fk];omega) G) ad
        ·intro G;obtain ⟨M,U⟩:=h1 ad;subst M;rw [if_neg ad];simp_all [Option.map_some,Addr.add_mid,trivial]
        ·intro i j hi N;have:=h3 (da l i) j (by rw [fk];omega) N;rw [fk] at this ⊢;rw [<- this,<- H ad,dq];congr 2;omega
     ·cases h
    ·cases h
   ·cases h
  ·cases h
 ·cases h
end
end Go.Ab
namespace Go.Ab
section
variable {P:Program} {E:Env} {nk:Nat} {σ:fe} {S:Nat->Prop} {μ:Mu} {w:World}
def afx (P:Program) (T:TypeId) (x:AV):Option AV :=
 match P.underlying T with
 | some .string=>match x with
  | .atom (.string s)=>some (.atom (.int .i64 s.size))
  | _=>none
 | some (.array n _)=>some (.atom (.int .i64 n))
 | some (.slice _)=>match x with
  | .os _ _ n=>some (.atom (.int .i64 n))
  | .sl n _=>some (.atom (.int .i64 n))
  | .nil=>some (.atom (.int .i64 0))
  | _=>none
 | _=>none
theorem anf {T:TypeId} {x:AV} {v:Value} (a:av w S μ v x) {r:AV} (h:afx P T x=some r) (ty:TypeId) :
  ∃ u,(Builtin.len_ #[T] ty #[v]).run P w=.ok u w/\av w S μ u r:=by
 unfold afx at h;split at h
 ·rename_i hu;split at h
  ·cases h;have:=eH a;subst this;exact ⟨_,by simp [Builtin.len_,run_underlying hu,goInt],.atom _⟩
  ·cases h
 ·rename_i n e hu;cases h;exact ⟨_,by simp [Builtin.len_,run_underlying hu,goInt],.atom _⟩
 ·rename_i e hu;split at h
  ·cases h;cases a with
   | os pl hm h1 h2 h3=>exact ⟨_,by simp [Builtin.len_,run_underlying hu,goInt],.atom _⟩
  ·cases h;cases a with
   | sl b off sz f h1 h2 h3 h4 c=>exact ⟨_,by simp [Builtin.len_,run_underlying hu,goInt],.atom _⟩
  ·cases h;cases a;exact ⟨_,by simp [Builtin.len_,run_underlying hu,goInt],.atom _⟩
  ·cases h
 ·cases h
def CA (σ:fe) (sz:Nat) (x:AV):Option (Nat×(Nat->List AV)×Bool×List Prop×List Nat) :=
 match x with
 | .nil=>some (0,fun _=>[],true,[],[])
 | .sl n g=>match Nat.beq (g 0).length sz with
  | true=>some (n,g,true,[∀ i,i < n->AV.vH (g i)=true],[])
  | false=>none
 | .os k off n=>match ay σ k with
  | some o=>match Nat.beq o.sz sz with
   | true=>some (n,(fun i=>o.get (da off i)),o.pr,[off+n<=o.len,∀ i,i < n->AV.vH (o.get (da off i))=true],[k])
   | false=>none
  | none=>none
 | _=>none
structure Src (P:Program) (w:World) (S:Nat->Prop) (μ:Mu) (sz:Nat) (v:Value) (n:Nat) (g:Nat->List AV) (pr:Bool) (news:List Value):Prop where
 len:∀ w':World,(Builtin.lenOf v).run P w'=.ok n w'
 cells:∀ w':World,w'.heap=w.heap->(Builtin.firstCells sz n v).run P w'=.ok news.toArray w'
 size:news.length=n * sz
 one:∀ u∈news,u.oneCell'=true
 zF:∀ i,i < n->(g i).length=sz
 rep:∀ i j x u,i < n->(g i)[j]?=some x->news[i * sz+j]?=some u->av w S (if pr then kf else μ) u x
 akq:∀ i,i < n->AV.vH (g i)=true
theorem TG {n sz q:Nat} (h:q < n * sz):q / sz < n/\q % sz < sz/\q=q / sz * sz+q % sz:=by
 have a:0 < sz:=by
  rcases Nat.eq_zero_or_pos sz with h1 | h1
  ·subst h1;simp at h
  ·exact h1
 simp_all [Nat.div_lt_of_lt_mul,vF,Nat.mod_lt,Nat.div_add_mod]
theorem Src.mk' {sz n:Nat} {g:Nat->List AV} {pr:Bool} {b o len cap:Nat} (f:Nat->Nat->Value) (r:n=len)
  (s:∀ i j,i < n->j < sz->w.cell? ⟨b,o+i * sz+j,none⟩=some (f i j)) (h1:∀ i,i < n->AV.vH (g i)=true) (h:∀ i,i < n->(g i).length=sz)
  (m:∀ i j x,i < n->(g i)[j]?=some x->av w S (if pr then kf else μ) (f i j) x) :
  ∃ news,Src P w S μ sz (.slice (some ⟨b,o,none⟩) len cap) n g pr news:=by
 subst r;refine ⟨(List.range (n * sz)).map fun q=>f (q / sz) (q % sz),?_⟩;have k:∀ q u,((List.range (n * sz)).map fun q=>f (q / sz) (q % sz))[q]?=some u->q < n * sz/\u=f (q / sz) (q % sz):=by
  intro q u c;have d:q < n * sz:=by
   have:=(eK.1 c).1;simpa using this
  simp [List.getElem?_range d] at c;exact ⟨d,c.symm⟩
 refine ⟨fun w'=>by simp [Builtin.lenOf],fun w' hw=>?_,ao,?_,h,?_,h1⟩
 ·have t:∀ a,w'.cell? a=w.cell? a:=fun a=>by simp [World.cell?,hw]
  refine run_firstCells_some w' sz n ⟨b,o,none⟩ n cap _ ao ?_;intro q u c;obtain ⟨d,rfl⟩:=k q u c;obtain ⟨h2,h3,h4⟩:=TG d;rw [t,Addr.add_mid];have:=s _ _ h2 h3;rw [Nat.add_assoc,<- h4] at this;exact this
 ·intro u l;obtain ⟨q,c⟩:=List.getElem?_of_mem l;obtain ⟨d,rfl⟩:=k q u c;obtain ⟨h2,h3,h4⟩:=TG d;have e:(g (q / sz))[q % sz]?=some ((g (q / sz))[q % sz]'(by rw [h _ h2];exact h3)):=ub _;exact (m _ _ _ h2 e).UG (PA (h1 _ h2) e)
 ·intro i j x u hi e l;obtain ⟨d,rfl⟩:=k _ u l;have p:j < sz:=by
   have:=(eK.1 e).1;rwa [h i hi] at this
  have v:(i * sz+j) / sz=i:=by
   rw [vF,Nat.mul_add_div ad,Nat.div_eq_of_lt p];omega
  have y:(i * sz+j) % sz=j:=by
   rw [vF,Nat.mul_add_mod,Nat.mod_eq_of_lt p]
  rw [v,y];exact m i j x hi e
theorem Src.empty {sz:Nat} {g:Nat->List AV} {pr:Bool} {a:Option Addr} {cap:Nat}:Src P w S μ sz (.slice a 0 cap) 0 g pr []:=by
 refine ⟨fun w'=>by simp [Builtin.lenOf],fun w' _=>?_,ao,ao,fun i h=>absurd h ad,fun i j x u h=>absurd h ad,fun i h=>absurd h ad⟩;cases a with
 | none=>simp [Builtin.firstCells]
 | some a=>simp [Builtin.firstCells,loadCells,loadCellsFrom]
theorem F4 (g:Good E σ S μ w) {sz:Nat} {x:AV} {v:Value} (d:av w S μ v x) {n:Nat} {gt:Nat->List AV} {pr:Bool} {ps:List Prop} {rd:List Nat}
  (h:CA σ sz x=some (n,gt,pr,ps,rd)) (u:bg ps):∃ news,Src P w S μ sz v n gt pr news:=by
 unfold CA at h;split at h
 ·simp only [aX,aQ] at h;obtain ⟨rfl,rfl,rfl,rfl,rfl⟩:=h;cases d;exact ⟨[],Src.empty⟩
 ·rename_i q H;split at h
  ·rename_i e;have e:=bZ e;simp only [aX,aQ] at h;obtain ⟨rfl,rfl,rfl,rfl,rfl⟩:=h;cases d with
   | sl b off r f h1 h2 h3 h4 I =>
    rcases Nat.eq_zero_or_pos q with l | l
    ·subst l;exact ⟨[],Src.empty⟩
    ·obtain ⟨s,_⟩:=h1 l;subst s;have B:r=sz:=by rw [<- h2 0 l,e]
     subst B;exact Src.mk' f rfl h3 u.1 h2 (fun i j x hi d=>h4 i j x hi d)
  ·cases h
 ·rename_i k off q;split at h
  ·rename_i o C;split at h
   ·rename_i e;have e:=bZ e;simp only [aX,aQ] at h;obtain ⟨rfl,D,rfl,rfl,rfl⟩:=h;have t:gt=fun i=>o.get (off+i):=by
     rw [<- D];funext i;rw [fk]
    subst t;obtain ⟨F,y,_⟩:=u;simp only [fk] at y;obtain ⟨pl,c,J,hm,m⟩:=g.rep.ob k o C;subst e;cases d with
    | os lL z h1 h2 h3 =>
     rename_i cap a;rw [hm] at z;cases z;rcases Nat.eq_zero_or_pos q with l | l
     ·subst l;exact ⟨[],Src.empty⟩
     ·have s:=h1 ad;subst s;refine Src.mk' (fun i j=>(c[(off+i) * o.sz+j]?).getD undef) rfl ?_ y (fun i hi=>m.zF _ ad) ?_
      ·intro i j hi G;obtain ⟨v,p,A⟩:=dg m (i:=off+i) ad G;rw [p,m.sz,<- dq,A];rfl
      ·intro i j x hi d;obtain ⟨v,p,A⟩:=dg m (i:=off+i) ad (by have:=(eK.1 d).1;rwa [m.zF _ ad] at this);rw [p];exact m.rep _ j x v ad d p
   ·cases h
  ·cases h
 ·cases h
def xA (P:Program) (nk:Nat) (σ:fe) (t:TypeId) (s x:AV):Option (List Prop×AV×List Nat×x8) :=
 match qS P t with
 | some e=>match AM P e,DT P e,yL P e with
  | some sz,some b,some z=>match Nat.ble 1 sz && Nat.ble 1 b && Nat.beq z.cells.size sz,CA σ sz x with
   | true,some (n,g,pr,ps,rd)=>match s with
    | .nil=>some ((n * b<=140737488355328) :: ps,.os nk 0 n,rd,[(nk,some ⟨false,sz,n,pr,g⟩)])
    | .os k 0 len=>match ay σ k with
     | some o=>match Nat.beq o.sz sz && !o.var with
      | true=>some ((len=o.len) :: ((len+n) * b<=140737488355328) :: ps,.os nk 0 (len+n),k :: rd,
        [(k,none),(nk,some ⟨false,sz,len+n,o.pr && pr,fun m=>if m < len then o.get m else g (m - len)⟩)])
      | false=>none
     | none=>none
    | _=>none
   | _,_=>none
  | _,_,_=>none
 | none=>none
theorem NF {t ty e:TypeId} {i:TypeInfo} (b:P.underlying t=some (.slice e)) (hi:P.info? e=some i) {sLen sCap n:Nat} {vx:Value} {news:List Value}
  (c:∀ w':World,(Builtin.lenOf vx).run P w'=.ok n w') (d:∀ w':World,w'.heap=w.heap->(Builtin.firstCells i.size n vx).run P w'=.ok news.toArray w') (a:sLen+n<=sCap) :
  (Builtin.append_ #[t,t] ty #[.slice none sLen sCap,vx]).run P w=.ok (.slice none (sLen+n) sCap) w:=by
 simp [Builtin.append_,run_underlying b,sizeOf,typeInfo,hi,c,a,d w rfl]
theorem PD {t ty e:TypeId} {i:TypeInfo} (c:P.underlying t=some (.slice e)) (hi:P.info? e=some i) {g sLen sCap n:Nat} {cur:Array Value} {T:TypeId} (d:w.heap[g]?=some (.cells cur T (0,0))) {vx:Value} {news:List Value}
  (f:∀ w':World,(Builtin.lenOf vx).run P w'=.ok n w') (h:∀ w':World,w'.heap=w.heap->(Builtin.firstCells i.size n vx).run P w'=.ok news.toArray w') (h1:∀ u∈news,u.oneCell'=true)
  (a:sLen+n<=sCap) (j:sLen * i.size+news.length<=cur.size) :
  (Builtin.append_ #[t,t] ty #[.slice (some ⟨g,0,none⟩) sLen sCap,vx]).run P w =
   .ok (.slice (some ⟨g,0,none⟩) (sLen+n) sCap) (w.setRow g (cur.toList.take (sLen * i.size) ++ news ++ cur.toList.drop (sLen * i.size+news.length)).toArray):=by
 have b:=run_storeCells_at P g (sLen * i.size) T news 0 cur w d (by simpa using j) h1;simp only [Nat.add_zero] at b;simp [Builtin.append_,run_underlying c,sizeOf,typeInfo,hi,f,a,h w rfl,Addr.add_lit,b]
theorem ZF {t ty e:TypeId} {i:TypeInfo} (d:P.underlying t=some (.slice e)) (hi:P.info? e=some i) {g b sLen sCap n:Nat} {cur:Array Value} {T:TypeId} (f:w.heap[g]?=some (.cells cur T (0,0))) {vx:Value} {news:List Value}
  (h:∀ w':World,(Builtin.lenOf vx).run P w'=.ok n w') (j:∀ w':World,w'.heap=w.heap->(Builtin.firstCells i.size n vx).run P w'=.ok news.toArray w') (h1:∀ u∈news,u.oneCell'=true)
  (a:sLen+n<=sCap) (k:b+sLen * i.size+news.length<=cur.size) :
  (Builtin.append_ #[t,t] ty #[.slice (some ⟨g,b,none⟩) sLen sCap,vx]).run P w =
   .ok (.slice (some ⟨g,b,none⟩) (sLen+n) sCap) (w.setRow g (cur.toList.take (b+sLen * i.size) ++ news ++ cur.toList.drop (b+sLen * i.size+news.length)).toArray):=by
 have c:=run_storeCells_at P g (b+sLen * i.size) T news 0 cur w f (by simpa using k) h1;simp only [Nat.add_zero] at c;simp [Builtin.append_,run_underlying d,sizeOf,typeInfo,hi,h,a,j w rfl,Addr.add_lit,c]
theorem DY {t ty e:TypeId} {i:TypeInfo} {z:Value} (c:P.underlying t=some (.slice e)) (hi:P.info? e=some i) (d:i.zero=some z) {base:Option Addr} {sLen sCap n:Nat} {vx:Value} {olds news:List Value}
  (f:∀ w':World,w'.heap=w.heap->(Builtin.firstCells i.size sLen (.slice base sLen sCap)).run P w'=.ok olds.toArray w')
  (g:∀ w':World,(Builtin.lenOf vx).run P w'=.ok n w') (h:∀ w':World,w'.heap=w.heap->(Builtin.firstCells i.size n vx).run P w'=.ok news.toArray w')
  (j:sCap < sLen+n) (k:1<=i.bytes) (l:(sLen+n) * i.bytes<=140737488355328) :
  (Builtin.append_ #[t,t] ty #[.slice base sLen sCap,vx]).run P w =
   .ok (.slice (some ⟨w.heap.size,0,none⟩) (sLen+n) (grownCap w (sLen+n) sCap e))
    (w.drew.alloc (.cells (olds.toArray ++ news.toArray ++ Builtin.zeroCells z.cells (grownCap w (sLen+n) sCap e - (sLen+n))) e)):=by
 have m:¬ (sLen+n<=sCap):=ad;have r:(sLen+n) * 1<=(sLen+n) * i.bytes:=Nat.mul_le_mul_left _ k;have a:¬ (9223372036854775807 < ((sLen:Int)+(n:Int))):=ad;have o:=growslice_fits j l;have b:¬ (281474976710656 < Builtin.nextslicecap (sLen+n) sCap * i.bytes):=ad;have p:=h w.drew rfl;have q:=f w.drew rfl;simp [Builtin.append_,run_underlying c,sizeOf,typeInfo,zeroValue,hi,d,g,m,a,b,Question.forced,p,q,newRow,grownCap];grind
theorem PE (w:World) (a Fy:Nat) (e:TypeId):a<=grownCap w a Fy e:=by simp [grownCap,Question.cut]
theorem Good.grow (g:Good E σ S μ w) (o:μ nk=none) (hm:E.m0<=nk) {sz n len cap:Nat} {e:TypeId} {olds news:List Value} {rest:Array Value} {pr:Bool} {get:Nat->List AV}
  (d:olds.length=len * sz) (f:news.length=n * sz) (p:rest.size=(cap - (len+n)) * sz) (a:len+n<=cap)
  (k:∀ i,i < len+n->(get i).length=sz)
  (q:∀ i j x u,i < len+n->(get i)[j]?=some x->(olds ++ news)[i * sz+j]?=some u->av w S (if pr then kf else μ) u x) (r:sz≠0)
  (b:MX E.fp E.w0.heap.size (w.drew.alloc (.cells (olds.toArray ++ news.toArray ++ rest) e)) S (di μ nk ⟨w.heap.size,cap,sz⟩) (sset σ nk ⟨false,sz,len+n,pr,get⟩)) :
  Ext w S μ (w.drew.alloc (.cells (olds.toArray ++ news.toArray ++ rest) e)) S (di μ nk ⟨w.heap.size,cap,sz⟩) /\
  Good E (sset σ nk ⟨false,sz,len+n,pr,get⟩) S (di μ nk ⟨w.heap.size,cap,sz⟩) (w.drew.alloc (.cells (olds.toArray ++ news.toArray ++ rest) e)):=by
 have s:(olds.toArray ++ news.toArray ++ rest).size=cap * sz:=by
  simp only [Array.size_append,List.size_toArray,d,f,p];rw [<- dq,<- dq];congr 1;omega
 have l:=g.drew.afh (nk:=nk) o hm (olds.toArray ++ news.toArray ++ rest) e ⟨false,sz,len+n,pr,get⟩ cap (by rw [s];exact aV _) a k ?_ r b
 ·exact ⟨(Ext.drew w S μ).trans l.1,l.2⟩
 ·intro i j x v hi m c;have z:j < sz:=by
   have:=(eK.1 m).1;have e:(get i).length=sz:=k i hi;exact e ▸ this
  have t:i * sz+j < (olds ++ news).length:=by
   have h1:(i+1) * sz<=(len+n) * sz:=fy _ (show i+1<=len+n from hi);rw [dq,dq] at h1;simp only [oi,d,f];omega
  have y:(olds ++ news)[i * sz+j]?=some v:=by
   rw [show olds.toArray ++ news.toArray ++ rest=(olds ++ news).toArray ++ rest by simp] at c;rw [Array.getElem?_append_left (by simpa using t)] at c;simpa using c
  have:=q i j x v hi m y;exact av.mono (w:=w) (w':=w.drew) (S':=S) (fun _ h=>h) (fun _ _=>rfl) this (fun _ _ h=>h)
theorem Good.move (g:Good E σ S μ w) (U:μ nk=none) (hm:E.m0<=nk) {k:Nat} {o:Ob} {pl:Place} (A:ay σ k=some o) (B:μ k=some pl) (o':Ob) {c:Array Value} {T:TypeId} (G:kg w S μ o' pl c T)
  (N:∀ i x,rowOf o' i=some x->rowOf o i=some x) :
  Ext w S μ w S (di μ nk pl)/\Good E (sset (wE σ k) nk o') S (di μ nk pl) w:=by
 have H:=g.del k;have I:∀ n lL,μ n=some lL->di μ nk pl n=some lL:=fun n lL h=>by
  grind [di]
 have ex:Ext w S μ w S (di μ nk pl):=⟨aV _,fun _ h=>h,fun _ _=>rfl,I⟩;refine ⟨ex,⟨g.fr,g.S0,g.S1,g.S2,⟨?_,?_⟩,?_,?_,?_⟩⟩
 rotate_right
 ·have O:k≠nk:=fun h=>by simp_all
  have key:∀ q i x v,kj w (di μ nk pl) (sset (wE σ k) nk o') q i x v->(q=nk/\kj w μ σ k i x v)\/(q≠nk/\q≠k/\kj w μ σ q i x v):=by
   rintro q i x v ⟨J,l,h1,h2,h3,h4⟩;rw [bz] at h1;unfold di at h3
   by_cases a:nk=q
   ·rw [if_pos a] at h1;cases h1;rw [if_pos a.symm] at h3;cases h3;exact .inl ⟨a.symm,o,pl,A,N i x h2,B,h4⟩
   ·rw [if_neg a] at h1;rw [if_neg (fun h=>a h.symm)] at h3;rw [iE] at h1;split at h1
    ·cases h1
    ·rename_i C;exact .inr ⟨fun h=>a h.symm,fun h=>C h.symm,J,l,h1,h2,h3,h4⟩
  refine g.mx.tr (fun q=>if q=nk then k else q) (fun q i x v h=>?_) (fun q i x v u i' x' v' h V e=>?_) (fun _ h=>h) (fun _ _=>rfl) (fun q i x v b _ h P=>⟨rfl,(g.mx.df h P).2.1,fun h=>h⟩) (fun q J l h1 h2 h3=>?_)
  ·grind
  ·grind
  ·rw [bz] at h1;unfold di at h2
   by_cases a:nk=q
   ·grind
   ·rw [if_neg a,iE] at h1;grind
 ·intro q r a;rw [bz] at a
  by_cases m:nk=q
  ·rw [if_pos m] at a;cases a;exact ⟨pl,c,T,by simp [di,m],G.ext ex (fun _=>rfl) G.out⟩
  ·rw [if_neg m] at a;obtain ⟨l,y,Q,R,K⟩:=H.rep.ob q r a;exact ⟨l,y,Q,I _ _ R,K.ext ex (fun _=>rfl) K.out⟩
 ·intro q u r z L l M a d f p s y;rw [bz] at a d;simp only [di] at f p
  by_cases j:nk=q
  ·rw [if_pos j.symm] at f;cases f;have t:¬ nk=u:=fun h=>M (j.symm.trans h);rw [if_neg t] at d;rw [if_neg (fun h=>t h.symm)] at p;rw [iE] at d;split at d
   ·cases d
   ·rename_i D;exact g.rep.ne k u o z pl l D A d B p s y
  ·rw [if_neg j] at a;rw [if_neg (fun h=>j h.symm)] at f;rw [iE] at a;split at a
   ·cases a
   ·rename_i D
    by_cases t:nk=u
    ·rw [if_pos t.symm] at p;cases p;exact g.rep.ne q k r o L pl (fun h=>D h.symm) a A f B s y
    ·rw [if_neg t] at d;rw [if_neg (fun h=>t h.symm)] at p;rw [iE] at d;split at d
     ·cases d
     ·exact g.rep.ne q u r z L l M a d f p s y
 ·intro q r F a f s;rw [bz] at a;simp only [di] at f
  by_cases j:nk=q
  ·rw [if_pos j.symm] at f;cases f;exact g.own k o _ A B s
  ·rw [if_neg j] at a;rw [if_neg (fun h=>j h.symm)] at f;exact H.own q r F a f s
 ·intro q a;rw [rM _ ad];exact g.Lm q a
theorem Good.congr {c:fe} (g:Good E σ S μ w) (h:∀ n,ay c n=ay σ n):Good E c S μ w :=
 ⟨g.fr,g.S0,g.S1,g.S2,⟨fun k o a=>g.rep.ob k o (h k ▸ a),fun k k' o o' pl lL d a e=>g.rep.ne k k' o o' pl lL d (h k ▸ a) (h k' ▸ e)⟩,
  fun k o pl a=>g.own k o pl (h k ▸ a),g.Lm,g.mx.tr id (fun k i x v ⟨o,pl,h1,h2⟩=>⟨o,pl,h k ▸ h1,h2⟩) (fun _ _ _ _ _ _ _ _ _ _ h=>h) (fun _ h=>h) (fun _ _=>rfl)
   (fun k i x v b _ h f=>⟨rfl,(g.mx.df h f).2.1,fun h=>h⟩) (fun k o pl h1 h2 h3=>.inl ⟨k,o,pl,h k ▸ h1,h2,h3,rfl⟩)⟩
theorem TH (g:Good E σ S μ w) (Q:μ nk=none) (hm:E.m0<=nk) {t ty:TypeId} {s x:AV} {vs vx:Value} (hs:av w S μ vs s) (l:av w S μ vx x) {ps:List Prop} {val:AV} {rd:List Nat} {pD:x8}
  (h:xA P nk σ t s x=some (ps,val,rd,pD)) (H:bg ps):Step P E nk σ S μ w (Builtin.append_ #[t,t] ty #[vs,vx]) val pD:=by
 unfold xA at h;split at h
 ·rename_i e he;have he:=oG he;split at h
  ·rename_i sz b z rK hb hz;obtain ⟨d,R,rfl,rfl,hze⟩:=DU rK hb hz;split at h
   ·rename_i n gt pr ps' rd' Ly CB;simp only [bd,Nat.ble_eq] at Ly;obtain ⟨⟨b1,b2⟩,b3⟩:=Ly;have b3:=bZ b3;split at h
    ·simp only [aX,aQ] at h;obtain ⟨rfl,rfl,rfl,rfl⟩:=h;obtain ⟨p1,p2⟩:=H;obtain ⟨news,f⟩:=F4 (P:=P) g l CB p2;cases hs;rcases Nat.eq_zero_or_pos n with h0 | h0
     ·subst h0;have B:=NF (P:=P) (w:=w) (ty:=ty) (sLen:=0) (sCap:=0) he R f.len f.cells ad;have ga:Good E (sset σ nk ⟨false,d.size,0,pr,gt⟩) S (di μ nk ⟨0,0,d.size⟩) w:=by
       have Zq:∀ k pl,μ k=some pl->di μ nk ⟨0,0,d.size⟩ k=some pl:=fun k pl h=>by
        grind [di]
       have ex:Ext w S μ w S (di μ nk ⟨0,0,d.size⟩):=⟨aV _,fun _ h=>h,fun _ _=>rfl,Zq⟩;have hnr:∀ i,rowOf ⟨false,d.size,0,pr,gt⟩ i=none:=vI fun i hi=>absurd hi (dX _);refine ⟨g.fr,g.S0,g.S1,g.S2,⟨?_,?_⟩,?_,?_,g.Xm Q _ _ (fun h=>absurd h ao) hnr (fun _ _=>rfl) (fun _ h=>h) (fun _ h=>.inl h)⟩
       ·intro k o y;rw [bz] at y
        by_cases E6:nk=k
        ·rw [if_pos E6] at y;cases y;exact ⟨⟨0,0,d.size⟩,#[],0,by simp [di,E6],rfl,fun h=>absurd h ao,ao,ao,fun h=>absurd h ao,fun i h=>absurd h ao,fun i j x v h=>absurd h ao,fun h=>absurd (show d.size=0 from h) ad⟩
        ·rw [if_neg E6] at y;obtain ⟨pl,c,T,iq,r⟩:=g.rep.ob k o y;exact ⟨pl,c,T,Zq _ _ iq,r.ext ex (fun _=>rfl) r.out⟩
       ·intro k k' o o' pl lL gU y rN L PF c1 c2;rw [bz] at y rN;simp only [di] at L PF
        by_cases h1:nk=k
        ·grind
        ·by_cases h2:nk=k'
         ·grind
         ·rw [if_neg h1] at y;rw [if_neg h2] at rN;rw [if_neg (fun h=>h1 h.symm)] at L;rw [if_neg (fun h=>h2 h.symm)] at PF;exact g.rep.ne k k' o o' pl lL gU y rN L PF c1 c2
       ·intro k o pl y L c1;rw [bz] at y;simp only [di] at L
        by_cases h1:nk=k
        ·grind
        ·rw [if_neg h1] at y;rw [if_neg (fun h=>h1 h.symm)] at L;exact g.own k o pl y L c1
       ·intro k C;rw [rM _ ad];exact g.Lm k C
      refine ⟨_,w,S,_,B,⟨aV _,fun _ h=>h,fun _ _=>rfl,?_⟩,ga,fun k C M=>by grind [rM],?_⟩
      ·grind [di]
      simp_all [av.os,di,absurd]
     ·have B:=DY (P:=P) (w:=w) (ty:=ty) (base:=none) (sLen:=0) (sCap:=0) (olds:=[]) he R hze (fun w' _=>by simp [Builtin.firstCells]) f.len f.cells ad b2 (by simpa using p1);simp only [Nat.zero_add] at B;have yT:=PE w n 0 e;have U:=g.grow (e:=e) Q hm (sz:=d.size) (n:=n) (len:=0) (cap:=grownCap w n 0 e) (olds:=[]) (news:=news) (rest:=Builtin.zeroCells z.cells (grownCap w n 0 e - n)) (pr:=pr) (get:=gt)
       ao f.size (by rw [size_zeroCells,b3,Nat.zero_add]) ad (fun i hi=>f.zF i ad) (fun i j x u hi l V=>f.rep i j x u ad l (by simpa using V)) ad
       (g.Xm Q _ _ (fun _=>aV _) (vI fun i hi=>f.akq i (by simp_all)) (fun b h=>gI (w:=w.drew) h) (fun _ h=>h) (fun _ h=>.inl h))
      simp only [Nat.zero_add] at U;refine ⟨_,_,S,_,B,U.1,U.2,fun k C M=>by grind [rM],?_⟩;simp_all [av.os,grownCap,di]
    ·rename_i k len;split at h
     ·rename_i o y;split at h
      ·rename_i A;simp only [bd,Bool.not_eq_true'] at A;obtain ⟨A,Ik⟩:=A;have A:=bZ A;simp only [aX,aQ] at h;obtain ⟨rfl,rfl,rfl,rfl⟩:=h;obtain ⟨p0,p1,p2⟩:=H;subst p0;obtain ⟨news,f⟩:=F4 (P:=P) g l CB p2;obtain ⟨pl,c,T',W,r⟩:=g.rep.ob k o y;have E6:k≠nk:=fun h=>by simp_all
       show Step P E nk σ S μ w _ _ [(k,none),(nk,some ⟨false,d.size,o.len+n,o.pr && pr,fun m=>if m < o.len then o.get m else gt (m - o.len)⟩)];have vG:∀ i,i < o.len+n->((fun m=>if m < o.len then o.get m else gt (m - o.len)) i).length=d.size:=by
        intro i hi;show (if i < o.len then o.get i else gt (i - o.len)).length=_;split
        ·rw [r.zF i (by assumption),A]
        ·exact f.zF _ ad
       have prw:∀ {u:Value} {x:AV},av w S (if o.pr then kf else μ) u x->pr=true\/pr=false->av w S (if (o.pr && pr)=true then kf else μ) u x:=by
        intro u x hh H;rcases H with H | H
        ·simp_all
        ·rw [H,Bool.and_false];exact ln hh
       have akr:∀ {u:Value} {x:AV},av w S (if pr then kf else μ) u x->av w S (if (o.pr && pr)=true then kf else μ) u x:=by
        intro u x hh;cases H:o.pr
        ·rw [Bool.false_and];exact ln hh
        ·rw [Bool.true_and];exact hh
       have prb:pr=true\/pr=false:=by cases pr<;>simp
       have x6:∀ i x,rowOf ⟨false,d.size,o.len+n,o.pr && pr,fun m=>if m < o.len then o.get m else gt (m - o.len)⟩ i=some x->rowOf o i=some x:=by
        intro i x l;obtain ⟨_,I,X⟩:=dS l;have I:i < o.len+n:=I;have X:(if i < o.len then o.get i else gt (i - o.len))=[.mr x.1 x.2.1 x.2.2]:=X;split at X
        ·rename_i h1;exact nL Ik h1 X
        ·have:=f.akq (i - o.len) ad;rw [X] at this;cases this
       cases hs with
       | os lL iq h1 h2 h3 =>
        rename_i cap a;rw [W] at iq;cases iq
        by_cases Xw:o.len+n<=cap
        ·rcases Nat.eq_zero_or_pos cap with HG | HG
         ·have hn0:n=0:=ad;have Xr:o.len=0:=ad;subst hn0;have amc:news=[]:=List.length_eq_zero_iff.1 (by rw [f.size];simp);have B:(Builtin.append_ #[t,t] ty #[.slice a o.len cap,vx]).run P w=.ok (.slice a (o.len+0) cap) w:=by
           subst HG;cases a with
           | none=>exact NF (P:=P) (w:=w) (ty:=ty) he R f.len f.cells ad
           | some a =>
            have Y:=f.cells w rfl;rw [amc] at Y;simp [Builtin.append_,run_underlying he,sizeOf,typeInfo,R,f.len,Xr,Y,storeCells]
          have gm:=g.move Q hm y W ⟨false,d.size,o.len+0,o.pr && pr,fun m=>if m < o.len then o.get m else gt (m - o.len)⟩ (c:=c) (T:=T')
           ⟨r.sz.trans A,A ▸ r.df,A ▸ r.cap,r.len,r.out,vG,fun i j x v hi=>absurd hi (by show ¬ i < o.len+0;omega),fun h=>absurd (show d.size=0 from h) ad⟩ x6
          exact ⟨_,w,S,di μ nk pl,B,gm.1,gm.2,fun k C M=>by rw [rM _ C];exact M,av.os pl (by simp [di]) h1 ad h3⟩
         ·have ha:=h1 HG;simp only [Nat.zero_mul] at ha;subst ha;have Z:0 < pl.cap:=ad;have FA:o.len * d.size+news.length<=c.size:=by
           have Y:(o.len+n) * d.size<=pl.cap * d.size:=fy _ ad;have e2:=r.cap;rw [A] at e2;rw [f.size,<- dq];omega
          have B:=PD (P:=P) (w:=w) (ty:=ty) he R ((r.df Z).trans (by rw [jf ad])) f.len f.cells f.one Xw FA;generalize oH:(c.toList.take (o.len * d.size) ++ news ++ c.toList.drop (o.len * d.size+news.length)).toArray=c' at B;have F1:(c.toList.take (o.len * d.size)).length=o.len * d.size:=by simp;omega
          have UK:c'.size=c.size:=by
           rw [<- oH];simp;omega
          have tk:∀ m,m < o.len * d.size+news.length->c'[m]?=if m < o.len * d.size then c[m]? else news[m - o.len * d.size]?:=by
           intro m hm;rw [<- oH];simp only [List.getElem?_toArray];rw [lx (by simp;omega)]
           by_cases h1:m < o.len * d.size
           ·rw [lx ad,vE,if_pos h1,if_pos h1];simp
           ·rw [og ad,F1,if_neg h1]
          have gw:=g.write y W Z r ad ⟨false,d.size,o.len+n,o.pr && pr,fun m=>if m < o.len then o.get m else gt (m - o.len)⟩ c' A.symm UK (by show o.len+n<=_;omega) vG (by
           intro i j x v hi l N;have hi:i < o.len+n:=hi;have l:(if i < o.len then o.get i else gt (i - o.len))[j]?=some x:=l;have hj:j < d.size:=by
            have Y:=(eK.1 l).1;have e2:(if i < o.len then o.get i else gt (i - o.len)).length=d.size:=vG i hi;omega
           have N:c'[i * d.size+j]?=some v:=N;have tB:(i+1) * d.size<=(o.len+n) * d.size:=fy _ hi;rw [dq,dq] at tB;rw [tk _ (by rw [f.size];omega)] at N
           by_cases D:i < o.len
           ·have F:(i+1) * d.size<=o.len * d.size:=fy _ D;rw [dq] at F;rw [if_pos ad] at N;rw [if_pos D] at l;exact prw (r.rep i j x v D l (by rw [A];exact N)) prb
           ·have F:o.len * d.size<=i * d.size:=fy _ ad;rw [if_neg ad] at N;rw [if_neg D] at l;refine akr (f.rep (i - o.len) j x v ad l ?_);rw [<- N,Nat.sub_mul];congr 1;omega) (fun i x l=>⟨x6 i x l,by
           obtain ⟨_,I,_⟩:=dS (x6 i x l);have F:(i+1) * d.size<=o.len * d.size:=fy _ I;rw [dq] at F;rw [A,tk _ ad,if_pos ad]⟩)
          obtain ⟨gw1,gw2⟩:=gw;have hsk:ay (sset σ k ⟨false,d.size,o.len+n,o.pr && pr,fun m=>if m < o.len then o.get m else gt (m - o.len)⟩) k=some ⟨false,d.size,o.len+n,o.pr && pr,fun m=>if m < o.len then o.get m else gt (m - o.len)⟩:=by
           rw [bz,if_pos rfl]
          obtain ⟨pl3,c3,T3,J,ar8⟩:=gw2.rep.ob k _ hsk;rw [W] at J;cases J;have gm:=gw2.move Q hm hsk W _ ar8 (fun _ _ h=>h);refine ⟨_,_,S,di μ nk pl,B,gw1.trans gm.1,gm.2.congr ?_,fun k C M=>by rw [rM _ C];exact M,av.os pl (by simp [di]) ao Xw h3⟩;intro n;show ay (sset (wE σ k) nk _) n=_;rw [bz,bz,iE,iE,bz];split
          ·rfl
          ·split
           ·rfl
           ·rfl
        ·have hg:cap < o.len+n:=ad;have holds:∃ olds:List Value,olds.length=o.len * d.size/\(∀ w':World,w'.heap=w.heap->(Builtin.firstCells d.size o.len (.slice a o.len cap)).run P w'=.ok olds.toArray w') /\
           (∀ (q:Nat) (u:Value),olds[q]?=some u->c[q]?=some u):=by
          rcases Nat.eq_zero_or_pos o.len with Xr | Xr
          ·refine ⟨[],by simp [Xr],fun w' _=>?_,ao⟩;rw [Xr];cases a with
           | none=>simp [Builtin.firstCells]
           | some a=>simp [Builtin.firstCells,loadCells,loadCellsFrom]
          ·have Z:0 < pl.cap:=by have:=r.len;omega
           have ha:=h1 ad;simp only [Nat.zero_mul] at ha;subst ha;have hle:o.len * d.size<=c.size:=by
            have Y:o.len * d.size<=pl.cap * d.size:=fy _ r.len;have e2:=r.cap;rw [A] at e2;omega
           refine ⟨c.toList.take (o.len * d.size),by simp;omega,fun w' hw'=>?_,?_⟩
           ·refine run_firstCells_some w' d.size o.len _ o.len cap _ (by simp;omega) ?_;intro q u p;rw [Addr.add_lit,Nat.zero_add,cell_of_row w' _ _ _ _ _ (by rw [hw'];exact (r.df Z).trans (by rw [jf ad]))];rw [vE] at p;split at p
            ·simpa using p
            ·cases p
           ·intro q u p;rw [vE] at p;split at p
            ·simpa using p
            ·cases p
         obtain ⟨olds,hol,hoc,hoo⟩:=holds;have B:=DY (P:=P) (w:=w) (ty:=ty) he R hze hoc f.len f.cells hg b2 p1;have yT:=PE w (o.len+n) cap e;have gd:=g.del k;have U:=gd.grow (e:=e) Q hm (sz:=d.size) (n:=n) (len:=o.len) (cap:=grownCap w (o.len+n) cap e) (olds:=olds) (news:=news)
          (rest:=Builtin.zeroCells z.cells (grownCap w (o.len+n) cap e - (o.len+n))) (pr:=o.pr && pr) (get:=fun m=>if m < o.len then o.get m else gt (m - o.len))
          hol f.size (by rw [size_zeroCells,b3]) yT vG (by
           intro i j x u hi l V;have l:(if i < o.len then o.get i else gt (i - o.len))[j]?=some x:=l;have hj:j < d.size:=by
            have Y:=(eK.1 l).1;have e2:(if i < o.len then o.get i else gt (i - o.len)).length=d.size:=vG i hi;omega
           by_cases D:i < o.len
           ·have F:(i+1) * d.size<=o.len * d.size:=fy _ D;rw [dq] at F;rw [if_pos D] at l;rw [lx ad] at V;exact prw (r.rep i j x u D l (by rw [A];exact hoo _ _ V)) prb
           ·have F:o.len * d.size<=i * d.size:=fy _ ad;rw [if_neg D] at l;rw [og ad,hol] at V;refine akr (f.rep (i - o.len) j x u ad l ?_);rw [<- V,Nat.sub_mul];congr 1;omega) ad (by
          have O:∀ b,b < w.heap.size->(w.drew.alloc (.cells (olds.toArray ++ news.toArray ++ Builtin.zeroCells z.cells (grownCap w (o.len+n) cap e - (o.len+n))) e)).heap[b]?=w.heap[b]?:=fun b h=>gI (w:=w.drew) h;have mf:∀ {q:Nat} {G:Ob} {K:Place},ay σ q=some G->μ q=some K->0 < K.cap->K.df < w.heap.size:=fun {q G K} h1 h2 h3=>by
           obtain ⟨pl3,c3,T3,J,Zo⟩:=g.rep.ob q G h1;rw [h2] at J;cases J;exact ft (Zo.df h3)
          refine g.mx.tr (fun q=>if q=nk then k else q) (fun q i x v h=>?_) (fun q i x v q' i' x' v' h h' he=>?_) (fun _ h=>h) (fun b hb=>O b (g.S1 b hb)) (fun q i x v b _ h hb=>?_) (fun q G K h1 h2 h3=>?_)
          ·obtain ⟨G,K,h1,h2,h3,h4⟩:=h;rw [bz] at h1;unfold di at h3
           by_cases p:nk=q
           ·rw [if_pos p] at h1;cases h1;rw [if_pos p.symm] at h3;cases h3;show kj w μ σ (if q=nk then k else q) i x v;rw [if_pos p.symm];have hr:=x6 i x h2;obtain ⟨_,I,_⟩:=dS hr;refine ⟨o,pl,y,hr,W,?_⟩;have Z:0 < pl.cap:=by have:=r.len;omega
            have F:(i+1) * d.size<=o.len * d.size:=fy _ I;rw [dq] at F;have h4:(w.drew.alloc (.cells (olds.toArray ++ news.toArray ++ Builtin.zeroCells z.cells (grownCap w (o.len+n) cap e - (o.len+n))) e)).cell? ⟨w.drew.heap.size,i * d.size,none⟩=some v:=h4;rw [cell_of_row _ _ _ _ _ _ (heap_alloc_new w.drew _)] at h4;rw [Array.getElem?_append_left (by simp;omega),Array.getElem?_append_left (by simp;omega)] at h4;rw [cell_of_row w _ _ _ _ _ ((r.df Z).trans (by rw [jf ad])),r.sz,A];exact hoo _ _ (by simpa using h4)
           ·rw [if_neg p,iE] at h1;rw [if_neg (fun h=>p h.symm)] at h3;split at h1
            ·cases h1
            ·show kj w μ σ (if q=nk then k else q) i x v;rw [if_neg (fun h=>p h.symm)];refine ⟨G,K,h1,h2,h3,?_⟩;obtain ⟨pl3,c3,T3,J,Zo⟩:=g.rep.ob q G h1;rw [h3] at J;cases J;rw [<- h4];exact (xy (O _ (ft (Zo.df (by have:=(dS h2).2.1;have:=Zo.len;omega)))) _).symm
          ·have he:(if q=nk then k else q)=(if q'=nk then k else q'):=he;have Oh:∀ {q i x v},kj (w.drew.alloc (.cells (olds.toArray ++ news.toArray ++ Builtin.zeroCells z.cells (grownCap w (o.len+n) cap e - (o.len+n))) e)) (di μ nk ⟨w.heap.size,grownCap w (o.len+n) cap e,d.size⟩) (sset (wE σ k) nk ⟨false,d.size,o.len+n,o.pr && pr,fun m=>if m < o.len then o.get m else gt (m - o.len)⟩) q i x v->q≠nk->q≠k:=by
            rintro q i x v ⟨G,_,h1,_⟩ p rfl;rw [bz,if_neg (fun h=>p h.symm),iE,if_pos rfl] at h1;cases h1
           by_cases h1:q=nk<;>by_cases h3:q'=nk
           ·exact h1.trans h3.symm
           ·rw [if_pos h1,if_neg h3] at he;exact absurd he.symm (Oh h' h3)
           ·rw [if_neg h1,if_pos h3] at he;exact absurd he (Oh h h1)
           ·rw [if_neg h1,if_neg h3] at he;exact he
          ·obtain ⟨q1,I,X,_⟩:=g.mx.df h hb;exact ⟨O b q1,I,fun h=>h⟩
          ·rw [bz] at h1;unfold di at h2
           by_cases p:nk=q
           ·rw [if_pos p.symm] at h2;cases h2;exact .inr (aV _)
           ·rw [if_neg p,iE] at h1;rw [if_neg (fun h=>p h.symm)] at h2;split at h1
            ·cases h1
            ·exact .inl ⟨q,G,K,h1,h2,h3,rfl⟩)
         refine ⟨_,_,S,_,B,U.1,U.2,fun k C M=>by rw [rM _ C];exact M,?_⟩;exact av.os ⟨w.heap.size,grownCap w (o.len+n) cap e,d.size⟩ (by simp [di]) ao yT ao
      ·cases h
     ·cases h
    ·cases h
   ·cases h
  ·cases h
 ·cases h
end
end Go.Ab
