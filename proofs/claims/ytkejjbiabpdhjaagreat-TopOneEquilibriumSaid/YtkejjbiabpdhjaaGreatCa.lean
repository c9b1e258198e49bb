/- Abstract values over the heap of the machine, and functions read off its code (part 1). No conditions. -/
import Derived.Orders
import Derived.Laws.Cells
import Derived.Laws.World
import Derived.Laws.Rows
import Derived.Laws.Sem
import Derived.KernelRfl
import Derived.Laws.CopyRow
import Derived.Laws.AppendOwn
import Derived.Laws.MakeOwn
import Derived.Laws.StructEq
import Derived.Great.BuildSlice
import Derived.Deep.MidRow
set_option linter.unusedVariables false
set_option linter.unusedSimpArgs false
namespace Go
theorem ad {p:Prop} (h:p:=by omega):p:=h
theorem ay {p:Prop} (h:p:=by decide):p:=h
theorem aD {p:Prop} (h:p:=by simp):p:=h
end Go
namespace Go
abbrev bE:=@Option.map_eq_some_iff
abbrev bu:=@Option.some.injEq
abbrev dp:=@Nat.eq_of_beq_eq_true
abbrev bk:=@Prod.mk.injEq
abbrev cy:=@Bool.and_eq_true
abbrev gW:=@List.getElem?_eq_some_iff
abbrev lH:=@List.getD_eq_getElem?_getD
abbrev db:=@Option.bind_some
abbrev tx:=@List.length_replicate
abbrev Aa:=@Array.getD_eq_getD_getElem?
abbrev mT:=@Array.getElem?_eq_getElem
abbrev mg:=@List.getElem?_append_left
abbrev o5:=@List.getElem?_append_right
abbrev dU:=@Nat.mul_le_mul_right
abbrev o6:=@Int.mul_le_mul_of_nonneg_right
abbrev dk:=@Sem.run_bind
abbrev mU:=@List.take_of_length_le
abbrev w9:=@List.getElem?_eq_getElem
abbrev fZ:=@Result.andThen_ok
abbrev aH:=@Nat.le_refl
abbrev CJ:=@Bool.and_eq_true_iff
abbrev yZ:=@List.getElem?_eq_none
abbrev iq:=@Nat.not_lt_zero
abbrev qF:=@Classical.byContradiction
abbrev nH:=@of_decide_eq_true
abbrev o7:=@of_decide_eq_false
abbrev rH:=@Nat.lt_of_lt_of_le
abbrev gf:=@Nat.le_trans
abbrev rI:=@List.length_append
abbrev Fp:=@List.length_cons
abbrev Qj:=@List.getElem?_cons_succ
abbrev AX:=@List.append_assoc
abbrev AY:=@Int.mul_le_mul_of_nonneg_left
abbrev y3:=@Nat.lt_irrefl
abbrev ud:=@List.length_take
abbrev vz:=@List.getElem?_drop
abbrev xa:=@List.getElem?_take
abbrev rJ:=@List.mem_cons
abbrev eS:=@Nat.add_mul
abbrev rK:=@Nat.mul_comm
abbrev Fq:=@Nat.add_assoc
abbrev lM:=@Int.mul_add
abbrev jb:=@Int.add_mul
abbrev kM:=@Int.mul_comm
abbrev pM:=@Int.mul_assoc
end Go
namespace Go.Ab
inductive AV where
 | atom (v:Value)
 | agg (cs:List AV)
 | tup (cs:List AV)
 | sl (len:Nat) (get:Nat->List AV)
 | rp (cs:List AV) (off:Nat)
 | op (k i j:Nat)
 | os (k off len:Nat)
 | fn (f:Fn) (first cap:List AV)
 | when (b:Bool) (v:AV)
 | mp (k:Nat)
 | bn (n:Nat)
 | pt (b:Bool) (cs:List AV)
 | ov (k i j m n:Nat)
 | PD (k off len:Nat)
 | nq (st:Option Bool) (x:AV)
 | nil
 | qm
 | mr (sz len:Nat) (get:Nat->List AV)
 deriving Inhabited
structure Place where
 eC:Nat
 cap:Nat
 sz:Nat
abbrev Mu:=Nat->Option Place
def lI:Mu:=fun _=>none
def agM:Value->Bool
 | .slice none _ _=>true
 | _=>false
inductive aE (w:World) (S:Nat->Prop):Mu->Value->AV->Prop where
 | atom {μ:Mu} (v:Value):aE w S μ v (.atom v)
 | agg {μ:Mu} {vs:Array Value} {cs:List AV}:vs.size=cs.length ->
   (∀ (j:Nat) (c:AV) (v:Value),cs[j]?=some c->vs[j]?=some v->aE w S μ v c)->aE w S μ (.agg vs) (.agg cs)
 | tup {μ:Mu} {vs:Array Value} {cs:List AV}:vs.size=cs.length ->
   (∀ (j:Nat) (c:AV) (v:Value),cs[j]?=some c->vs[j]?=some v->aE w S μ v c)->aE w S μ (.tuple vs) (.tup cs)
 | sl {μ:Mu} {a:Option Addr} {len cap:Nat} {get:Nat->List AV} (b off sz:Nat) (f:Nat->Nat->Value) :
   (0 < len->a=some ⟨b,off,none⟩/\S b)->(∀ i,i < len->(get i).length=sz) ->
   (∀ i j,i < len->j < sz->w.cell? ⟨b,off+i * sz+j,none⟩=some (f i j)) ->
   (∀ i j c,i < len->(get i)[j]?=some c->aE w S lI (f i j) c)->len<=cap->aE w S μ (.slice a len cap) (.sl len get)
 | rp {μ:Mu} {cs:List AV} {off:Nat} (b o:Nat) (f:Nat->Value):S b ->
   (∀ j,j < cs.length->w.cell? ⟨b,o+j,none⟩=some (f j)) ->
   (∀ j c,cs[j]?=some c->aE w S lI (f j) c)->aE w S μ (.pointer (some ⟨b,o+off,none⟩)) (.rp cs off)
 | op {μ:Mu} {k i j:Nat} (pl:Place):μ k=some pl->aE w S μ (.pointer (some ⟨pl.eC,i * pl.sz+j,none⟩)) (.op k i j)
 | os {μ:Mu} {k off len cap:Nat} {a:Option Addr} (pl:Place):μ k=some pl ->
   (0 < cap->a=some ⟨pl.eC,off * pl.sz,none⟩)->len<=cap->off+cap=pl.cap->aE w S μ (.slice a len cap) (.os k off len)
 | fn {μ:Mu} {f:Fn} {vs ws:Array Value} {first cap:List AV}:vs.size=first.length->ws.size=cap.length ->
   (∀ (j:Nat) (c:AV) (v:Value),first[j]?=some c->vs[j]?=some v->aE w S μ v c) ->
   (∀ (j:Nat) (c:AV) (v:Value),cap[j]?=some c->ws[j]?=some v->aE w S μ v c)->aE w S μ (.func f vs ws) (.fn f first cap)
 | when {μ:Mu} {b:Bool} {v:Value} {x:AV}:(b=true->aE w S μ v x)->(b=false->v=undef)->aE w S μ v (.when b x)
 | mp {μ:Mu} {k:Nat} (pl:Place):μ k=some pl->aE w S μ (.map (some pl.eC)) (.mp k)
 | bn {μ:Mu} {n:Nat} (b:Bool):(b=true->n=0)->aE w S μ (.bool b) (.bn n)
 | pt {μ:Mu} {b:Bool} {cs:List AV} {v:Value}:(b=true->aE w S μ v (.rp cs 0))->(b=false->v=.pointer none)->aE w S μ v (.pt b cs)
 | ov {μ:Mu} {k i j m n:Nat} (pl:Place):μ k=some pl->n < m->aE w S μ (.pointer (some ⟨pl.eC,i * pl.sz+(j+n),none⟩)) (.ov k i j m n)
 | PD {μ:Mu} {k off len:Nat} {a:Option Addr} (pl:Place):μ k=some pl->(0 < len->a=some ⟨pl.eC,off * pl.sz,none⟩)->off+len=pl.cap->aE w S μ (.slice a len len) (.PD k off len)
 | nq {μ:Mu} {st:Option Bool} {v:Value} {x:AV}:aE w S μ v x->(st=some true->v=.slice none 0 0)->(st=some false->agM v=false)->aE w S μ v (.nq st x)
 | nil {μ:Mu}:aE w S μ (.slice none 0 0) .nil
 | qm {μ:Mu} {v:Value}:aE w S μ v .qm
 | mr {μ:Mu} {v:Value} {sz len:Nat} {get:Nat->List AV}:aE w S μ v (.mr sz len get)
structure Ext (w:World) (S:Nat->Prop) (μ:Mu) (w':World) (S':Nat->Prop) (gn:Mu):Prop where
 size:w.heap.size<=w'.heap.size
 Wj:∀ b,S b->S' b
 eC:∀ b,S b->w'.heap[b]?=w.heap[b]?
 mu:∀ k pl,μ k=some pl->gn k=some pl
theorem Ext.refl (w:World) (S:Nat->Prop) (μ:Mu):Ext w S μ w S μ:=⟨aH _,fun _ h=>h,fun _ _=>rfl,fun _ _ h=>h⟩
theorem Ext.trans {w w' a:World} {S S' c:Nat->Prop} {μ gn QI:Mu} (h:Ext w S μ w' S' gn) (k:Ext w' S' gn a c QI):Ext w S μ a c QI :=
 ⟨gf h.size k.size,fun b hb=>k.Wj b (h.Wj b hb),fun b hb=>(k.eC b (h.Wj b hb)).trans (h.eC b hb),fun i pl hi=>k.mu i pl (h.mu i pl hi)⟩
theorem zl {w w':World} {b:Nat} (h:w'.heap[b]?=w.heap[b]?) (o:Nat):w'.cell? ⟨b,o,none⟩=w.cell? ⟨b,o,none⟩:=by
 simp [World.cell?,h]
theorem aE.mono {w w':World} {S S':Nat->Prop} (m:∀ b,S b->S' b) (hb:∀ b,S b->w'.heap[b]?=w.heap[b]?) {μ:Mu} {v:Value} {x:AV} (h:aE w S μ v x) :
  ∀ {gn:Mu},(∀ k pl,μ k=some pl->gn k=some pl)->aE w' S' gn v x:=by
 induction h with
 | atom v=>exact fun _=>.atom v
 | agg d _ e=>grind [agg]
 | tup d _ e=>grind [tup]
 | @sl μ a len cap get b off sz f d g p _ q e =>
  intro gn _;refine .sl b off sz f (fun n=>⟨(d n).1,m _ (d n).2⟩) g ?_ (fun i j c hi l=>e i j c hi l fun _ _ h=>h) q;grind [zl]
 | @rp μ cs off b o f d g _ e =>
  intro gn _;refine .rp b o f (m _ d) ?_ (fun j c l=>e j c l fun _ _ h=>h);grind [zl]
 | op pl h=>grind [op]
 | os pl h d g p=>grind [os]
 | fn d g _ _ r s=>grind [fn]
 | when _ t e=>grind [when]
 | mp pl h=>grind [mp]
 | bn b h=>exact fun _=>.bn b h
 | pt _ g e=>grind [pt]
 | ov pl h d=>grind [ov]
 | PD pl h d g=>grind [PD]
 | nq _ d g e=>grind [nq]
 | nil=>exact fun _=>.nil
 | qm=>exact fun _=>.qm
 | mr=>exact fun _=>.mr
theorem aE.ext {w w':World} {S S':Nat->Prop} {μ gn:Mu} {v:Value} {x:AV} (h:aE w S μ v x) (e:Ext w S μ w' S' gn):aE w' S' gn v x :=
 h.mono e.Wj e.eC e.mu
mutual
def AV.pure:AV->Bool
 | .atom _ | .sl _ _ | .rp _ _ | .bn _ | .pt _ _ | .nil | .qm=>true
 | .agg cs | .tup cs=>AV.qL cs
 | .fn _ a b=>AV.qL a && AV.qL b
 | .when _ v=>v.pure
 | .nq _ v=>v.pure
 | .op _ _ _ | .os _ _ _ | .mp _ | .ov _ _ _ _ _ | .PD _ _ _ | .mr _ _ _=>false
def AV.qL:List AV->Bool
 | []=>true
 | c :: cs=>c.pure && AV.qL cs
end
mutual
def AV.flat:AV->Bool
 | .atom _ | .bn _ | .nil=>true
 | .agg cs | .tup cs=>AV.GM cs
 | .fn _ a b=>AV.GM a && AV.GM b
 | _=>false
def AV.GM:List AV->Bool
 | []=>true
 | c :: cs=>c.flat && AV.GM cs
end
theorem yu {cs:List AV} (h:AV.qL cs=true) {j:Nat} {c:AV} (a:cs[j]?=some c):c.pure=true:=by
 induction cs generalizing j with
 | nil=>simp at a
 | cons x xs b =>
  simp only [AV.qL,cy] at h;grind
theorem D3 {cs:List AV} (h:AV.GM cs=true) {j:Nat} {c:AV} (a:cs[j]?=some c):c.flat=true:=by
 induction cs generalizing j with
 | nil=>simp at a
 | cons x xs b =>
  simp only [AV.GM,cy] at h;grind
theorem aE.pure {w:World} {S:Nat->Prop} {μ:Mu} {v:Value} {x:AV} (h:aE w S μ v x):x.pure=true->∀ gn,aE w S gn v x:=by
 induction h with
 | atom v=>exact fun _ _=>.atom v
 | agg a _ d=>grind [agg,yu,AV.pure]
 | tup a _ d=>grind [tup,yu,AV.pure]
 | sl b off sz f a c e g i _=>exact fun _ _=>.sl b off sz f a c e g i
 | rp b o f a c e _=>simp_all [rp]
 | op pl h=>grind [AV.pure]
 | os pl h a c e=>grind [AV.pure]
 | fn a c _ _ j k =>
  intro l gn;simp only [AV.pure,cy] at l;grind [fn,yu]
 | when _ m d=>grind [when,AV.pure]
 | mp pl h=>grind [AV.pure]
 | bn b h=>exact fun _ _=>.bn b h
 | pt _ c d=>exact fun _ gn=>.pt (fun hb=>d hb rfl gn) c
 | ov=>grind [AV.pure]
 | PD=>grind [AV.pure]
 | nq _ a c d=>grind [nq,AV.pure]
 | nil=>exact fun _ _=>.nil
 | qm=>exact fun _ _=>.qm
 | mr=>grind [AV.pure]
theorem aE.flat {w:World} {S:Nat->Prop} {μ:Mu} {v:Value} {x:AV} (h:aE w S μ v x):x.flat=true->∀ w' S' gn,aE w' S' gn v x:=by
 induction h with
 | atom v=>grind [atom]
 | agg a _ c=>grind [agg,D3,AV.flat]
 | tup a _ c=>grind [tup,D3,AV.flat]
 | sl=>grind [AV.flat]
 | rp=>grind [AV.flat]
 | op=>grind [AV.flat]
 | os=>grind [AV.flat]
 | fn a g _ _ d e =>
  intro f w' S' gn;simp only [AV.flat,cy] at f;grind [fn,D3]
 | when=>grind [AV.flat]
 | mp=>grind [AV.flat]
 | bn b h=>grind [bn]
 | pt=>grind [AV.flat]
 | ov=>grind [AV.flat]
 | PD=>grind [AV.flat]
 | nq=>grind [AV.flat]
 | nil=>exact fun _ _ _ _=>.nil
 | qm=>grind [AV.flat]
 | mr=>grind [AV.flat]
structure Ob where
 var:Bool
 sz:Nat
 len:Nat
 pr:Bool
 get:Nat->List AV
abbrev gp:=List (Nat×Ob)
def aR:gp->Nat->Option Ob
 | [],_=>none
 | (k,o) :: r,n=>match Nat.beq k n with
  | true=>some o
  | false=>aR r n
def sset:gp->Nat->Ob->gp
 | [],k,o=>[(k,o)]
 | (a,x) :: r,k,o=>match Nat.beq a k with
  | true=>(a,o) :: r
  | false=>(a,x) :: sset r k o
def D4:gp->Nat->gp
 | [],_=>[]
 | (a,x) :: r,k=>match Nat.beq a k with
  | true=>D4 r k
  | false=>(a,x) :: D4 r k
theorem xc {a b:Nat} (h:a=b):Nat.beq a b=true:=by simp_all
theorem tz {a b:Nat} (h:¬ a=b):Nat.beq a b=false:=Bool.eq_false_iff.2 fun e=>h (dp e)
theorem bP (σ:gp) (k n:Nat) (o:Ob):aR (sset σ k o) n=if k=n then some o else aR σ n:=by
 induction σ with
 | nil =>
  simp only [sset,aR]
  by_cases h:k=n
  ·rw [xc h,if_pos h]
  ·rw [tz h,if_neg h]
 | cons x r c =>
  obtain ⟨a,x⟩:=x;simp only [sset]
  by_cases b:a=k
  ·rw [xc b];simp only [aR];subst b
   by_cases h:a=n
   ·rw [xc h,if_pos h]
   ·rw [tz h,if_neg h]
  ·rw [tz b];simp only [aR,c]
   by_cases d:a=n
   ·grind
   ·rw [tz d]
theorem jU (σ:gp) (k n:Nat):aR (D4 σ k) n=if k=n then none else aR σ n:=by
 induction σ with
 | nil=>simp [D4,aR]
 | cons x r b =>
  obtain ⟨a,x⟩:=x;simp only [D4]
  by_cases c:a=k
  ·simp_all [xc,aR,if_pos,tz]
  ·rw [tz c];simp only [aR,b]
   by_cases d:a=n
   ·grind
   ·rw [tz d]
def js:gp->List (Nat×Option Ob)->gp
 | σ,[]=>σ
 | σ,(k,some o) :: r=>js (sset σ k o) r
 | σ,(k,none) :: r=>js (D4 σ k) r
def k8 (c:Array Value):Array MapEntry:=(Array.range (c.size / 2)).map fun i=>⟨c[2 * i]?.getD undef,c[2 * i+1]?.getD undef,i⟩
def Kh (sz:Nat) (c:Array Value) (T:TypeId):Obj :=
 match sz with
 | 0=>.map (k8 c) (c.size / 2)
 | _+1=>.cells c T (0,0)
theorem kr {sz:Nat} (h:sz≠0) (c:Array Value) (T:TypeId):Kh sz c T=.cells c T (0,0):=by
 cases sz with
 | zero=>exact absurd rfl h
 | succ n=>rfl
theorem Ki {sz:Nat} (h:sz=0) (c:Array Value) (T:TypeId):Kh sz c T=.map (k8 c) (c.size / 2):=by subst h;rfl
structure kY (w:World) (S:Nat->Prop) (μ:Mu) (o:Ob) (pl:Place) (c:Array Value) (T:TypeId):Prop where
 sz:pl.sz=o.sz
 eC:0 < pl.cap->w.heap[pl.eC]?=some (Kh o.sz c T)
 cap:pl.cap * o.sz<=c.size
 len:o.len<=pl.cap
 out:0 < pl.cap->¬ S pl.eC
 Co:∀ i,i < o.len->(o.get i).length=o.sz
 rep:∀ i j x v,i < o.len->(o.get i)[j]?=some x->c[i * o.sz+j]?=some v->aE w S (if o.pr then lI else μ) v x
 mp:o.sz=0->0 < pl.cap/\c.size % 2=0/\c.size=(o.get 0).length/\o.pr=true/\∀ (j:Nat) x v,(o.get 0)[j]?=some x->c[j]?=some v->aE w S lI v x
structure arI (w:World) (S:Nat->Prop) (μ:Mu) (σ:gp):Prop where
 ob:∀ k o,aR σ k=some o->∃ pl c T,μ k=some pl/\kY w S μ o pl c T
 ne:∀ k k' o o' pl oG,k≠k'->aR σ k=some o->aR σ k'=some o'->μ k=some pl->μ k'=some oG->0 < pl.cap->0 < oG.cap->pl.eC≠oG.eC
theorem kY.ext {w w':World} {S S':Nat->Prop} {μ gn:Mu} {o:Ob} {pl:Place} {c:Array Value} {T:TypeId} (h:kY w S μ o pl c T) (e:Ext w S μ w' S' gn)
  (hb:0 < pl.cap->w'.heap[pl.eC]?=w.heap[pl.eC]?) (f:0 < pl.cap->¬ S' pl.eC):kY w' S' gn o pl c T :=
 { h with
  eC:=fun d=>(hb d).trans (h.eC d)
  out:=f
  rep:=fun i j x v hi a b=>(h.rep i j x v hi a b).mono e.Wj e.eC (by
   cases o.pr
   ·exact e.mu
   ·exact fun _ _ h=>h)
  mp:=fun g=>let ⟨k,l,m,n,p⟩:=h.mp g
   ⟨k,l,m,n,fun j x v a b=>(p j x v a b).mono e.Wj e.eC (fun _ _ h=>h)⟩ }
def rowOf (o:Ob) (i:Nat):Option (Nat×Nat×(Nat->List AV)) :=
 match o.var,o.get i with
 | false,[.mr sz len g]=>if i < o.len then some (sz,len,g) else none
 | _,_=>none
def YY (fp:Nat->Prop) (n0:Nat) (w:World) (S:Nat->Prop) (v:Value) (x:Nat×Nat×(Nat->List AV)):Prop :=
 ∃ a cap,v=.slice a x.2.1 cap/\x.2.1<=cap/\(1<=x.1/\∀ j,rowOf ⟨false,x.1,x.2.1,true,x.2.2⟩ j=none)/\(0 < cap->∃ b c T,a=some ⟨b,0,none⟩/\kY w S lI ⟨false,x.1,x.2.1,true,x.2.2⟩ ⟨b,cap,x.1⟩ c T/\(fp b\/n0<=b))
def ptrTo (v:Value) (b:Nat):Prop:=∃ len cap,v=.slice (some ⟨b,0,none⟩) len cap/\0 < cap
def lV (w:World) (μ:Mu) (σ:gp) (k i:Nat) (x:Nat×Nat×(Nat->List AV)) (v:Value):Prop :=
 ∃ o pl,aR σ k=some o/\rowOf o i=some x/\μ k=some pl/\w.cell? ⟨pl.eC,i * pl.sz,none⟩=some v
structure MX (fp:Nat->Prop) (n0:Nat) (w:World) (S:Nat->Prop) (μ:Mu) (σ:gp):Prop where
 row:∀ k i x v,lV w μ σ k i x v->YY fp n0 w S v x
 obj:∀ k i x v b,lV w μ σ k i x v->ptrTo v b->∀ k' o' oG,aR σ k'=some o'->μ k'=some oG->0 < oG.cap->oG.eC≠b
 two:∀ k i x v b k' i' x' v',lV w μ σ k i x v->lV w μ σ k' i' x' v'->ptrTo v b->ptrTo v' b->k=k'/\i=i'
theorem tA {o:Ob} (h:o.var=true) (i:Nat):rowOf o i=none:=by unfold rowOf;rw [h]
theorem gF {o:Ob} {i:Nat} {x:Nat×Nat×(Nat->List AV)} (h:rowOf o i=some x):o.var=false/\i < o.len/\o.get i=[.mr x.1 x.2.1 x.2.2]:=by
 grind [rowOf]
theorem qM {o:Ob} {i:Nat} {x:Nat×Nat×(Nat->List AV)} (a:o.var=false) (b:i < o.len) (c:o.get i=[.mr x.1 x.2.1 x.2.2]):rowOf o i=some x:=by
 grind [rowOf]
theorem MX.eC {fp:Nat->Prop} {n0:Nat} {w:World} {S:Nat->Prop} {μ:Mu} {σ:gp} (h:MX fp n0 w S μ σ) {k i:Nat} {x:Nat×Nat×(Nat->List AV)} {v:Value} {b:Nat} (m:lV w μ σ k i x v) (hb:ptrTo v b) :
  b < w.heap.size/\¬ S b/\(fp b\/n0<=b)/\∃ c T,w.heap[b]?=some (.cells c T (0,0)):=by
 obtain ⟨len,cap,rfl,g⟩:=hb;obtain ⟨a,n,e,y,o,p⟩:=h.row _ _ _ _ m;injection e with q r s
 subst q r s;obtain ⟨z,c,T,d,l,t⟩:=p g;injection d with d
 injection d with d
 subst d;have j:=l.eC g;have u:Kh x.1 c T=.cells c T (0,0):=kr (by have:=o.1;omega) c T;have f:w.heap[b]?=some (.cells c T (0,0)):=by rw [j];exact congrArg some u
 exact ⟨(Array.getElem?_eq_some_iff.1 f).1,l.out g,t,c,T,f⟩
theorem YY.ext {fp e:Nat->Prop} {n0 f:Nat} {w w':World} {S S':Nat->Prop} {v:Value} {x:Nat×Nat×(Nat->List AV)} (h:YY fp n0 w S v x) (k:∀ b,S b->S' b) (hb:∀ b,S b->w'.heap[b]?=w.heap[b]?)
  (l:∀ b,ptrTo v b->w'.heap[b]?=w.heap[b]?/\¬ S' b/\((fp b\/n0<=b)->(e b\/f<=b))):YY e f w' S' v x:=by
 obtain ⟨a,cap,rfl,m,n,o⟩:=h;refine ⟨a,cap,rfl,m,n,fun g=>?_⟩;obtain ⟨b,c,T,rfl,d,p⟩:=o g;obtain ⟨q,p2,r⟩:=l b ⟨_,_,rfl,g⟩;refine ⟨b,c,T,rfl,⟨d.sz,fun h=>q.trans (d.eC h),d.cap,d.len,fun _=>p2,d.Co,fun i j x v hi s t=>(d.rep i j x v hi s t).mono k hb (fun _ _ h=>h),fun u=>?_⟩,r p⟩;simp_all
theorem MX.tr {fp c:Nat->Prop} {n0 d:Nat} {w w':World} {S S':Nat->Prop} {μ gn:Mu} {σ gV:gp} (h:MX fp n0 w S μ σ) (j:Nat->Nat)
  (e:∀ k i x v,lV w' gn gV k i x v->lV w μ σ (j k) i x v)
  (hi:∀ k i x v k' i' x' v',lV w' gn gV k i x v->lV w' gn gV k' i' x' v'->j k=j k'->k=k')
  (n:∀ b,S b->S' b) (hb:∀ b,S b->w'.heap[b]?=w.heap[b]?)
  (p:∀ k i x v b,lV w' gn gV k i x v->lV w μ σ (j k) i x v->ptrTo v b->w'.heap[b]?=w.heap[b]?/\¬ S' b/\((fp b\/n0<=b)->(c b\/d<=b)))
  (r:∀ k o pl,aR gV k=some o->gn k=some pl->0 < pl.cap->(∃ l o1 f,aR σ l=some o1/\μ l=some f/\0 < f.cap/\f.eC=pl.eC)\/w.heap.size<=pl.eC):MX c d w' S' gn gV:=by
 refine ⟨fun k i x v a=>(h.row _ _ _ _ (e _ _ _ _ a)).ext n hb fun b m=>p _ _ _ _ _ a (e _ _ _ _ a) m,fun k i x v b a m k' o' oG s t u he=>?_,fun k i x v b k' i' x' v' a y z A=>?_⟩
 ·have g:=e _ _ _ _ a;rcases r k' o' oG s t u with ⟨l,o1,f,B,C,D,E⟩ | q
  ·exact h.obj _ _ _ _ b g m l o1 f B C D (E.trans he)
  ·have:=(h.eC g m).1;omega
 ·obtain ⟨F,G⟩:=h.two _ _ _ _ _ _ _ _ _ (e _ _ _ _ a) (e _ _ _ _ y) z A;grind
theorem MX.nil {fp:Nat->Prop} {n0:Nat} {w:World} {S:Nat->Prop} {μ:Mu} {σ:gp} (h:∀ k o i,aR σ k=some o->rowOf o i=none):MX fp n0 w S μ σ:=by
 have no:∀ {k i x v},lV w μ σ k i x v->False:=by
  rintro k i x v ⟨o,pl,b,a,_⟩;rw [h k o i b] at a;cases a
 exact ⟨fun _ _ _ _ h=>(no h).elim,fun _ _ _ _ _ h=>(no h).elim,fun _ _ _ _ _ _ _ _ _ h=>(no h).elim⟩
structure Env where
 w0:World
 S0:Nat->Prop
 fp:Nat->Prop
 μ0:Mu
 m0:Nat
structure Fr (w0:World) (fp:Nat->Prop) (w:World):Prop where
 os:w.os=w0.os
 tape:w.tape=w0.tape
 output:w.output=w0.output
 size:w0.heap.size<=w.heap.size
 eC:∀ b,b < w0.heap.size->¬ fp b->w.heap[b]?=w0.heap[b]?
theorem Fr.refl (w:World) (fp:Nat->Prop):Fr w fp w:=⟨rfl,rfl,rfl,aH _,fun _ _ _=>rfl⟩
structure Good (E:Env) (σ:gp) (S:Nat->Prop) (μ:Mu) (w:World):Prop where
 fr:Fr E.w0 E.fp w
 S0:∀ b,E.S0 b->S b
 S1:∀ b,S b->b < w.heap.size
 S2:∀ b,S b->E.S0 b\/E.w0.heap.size<=b
 rep:arI w S μ σ
 own:∀ k o pl,aR σ k=some o->μ k=some pl->0 < pl.cap->E.fp pl.eC\/E.w0.heap.size<=pl.eC
 LO:∀ k,k < E.m0->μ k=E.μ0 k
 mx:MX E.fp E.w0.heap.size w S μ σ
theorem gK {w:World} {b:Nat} {o:Obj} (h:w.heap[b]?=some o):b < w.heap.size:=(Array.getElem?_eq_some_iff.1 h).1
def dQ (μ:Mu) (k:Nat) (pl:Place):Mu:=fun n=>if n=k then some pl else μ n
theorem jq {w:World} {o:Obj} {b:Nat} (h:b < w.heap.size):(w.alloc o).heap[b]?=w.heap[b]?:=heap_alloc_old w o b h
theorem lV.D6 {w w':World} {S:Nat->Prop} {μ gn:Mu} {σ gV:gp} (g:arI w S μ σ) {k a i:Nat} {x:Nat×Nat×(Nat->List AV)} {v:Value} (h:lV w' gn gV k i x v)
  (j:∀ o,aR gV k=some o->∃ o1,aR σ a=some o1/\rowOf o1 i=some x) (hm:∀ pl,gn k=some pl->μ a=some pl)
  (hb:∀ o pl,aR σ a=some o->μ a=some pl->0 < pl.cap->w'.heap[pl.eC]?=w.heap[pl.eC]?):lV w μ σ a i x v:=by
 obtain ⟨o,pl,l,p,m,q⟩:=h;obtain ⟨o1,b,d⟩:=j o l;have e:=hm pl m;refine ⟨o1,pl,b,d,e,?_⟩;obtain ⟨r,c,T,f,n⟩:=g.ob a o1 b;rw [e] at f;cases f;have s:0 < pl.cap:=by have:=(gF d).2.1;have:=n.len;omega
 grind [zl]
theorem lV.ob {w:World} {μ:Mu} {σ:gp} {k i:Nat} {x:Nat×Nat×(Nat->List AV)} {v:Value} (h:lV w μ σ k i x v):∃ o,aR σ k=some o/\rowOf o i=some x:=by
 obtain ⟨o,_,a,b,_⟩:=h;exact ⟨o,a,b⟩
theorem Good.agN {E:Env} {σ:gp} {S:Nat->Prop} {μ:Mu} {w:World} (g:Good E σ S μ w) {nk:Nat} (M:μ nk=none) (hm:E.m0<=nk) (c:Array Value) (T:TypeId) (o:Ob) (cap:Nat)
  (B:cap * o.sz<=c.size) (l:o.len<=cap) (C:∀ i,i < o.len->(o.get i).length=o.sz)
  (D:∀ i j x v,i < o.len->(o.get i)[j]?=some x->c[i * o.sz+j]?=some v->aE w S (if o.pr then lI else μ) v x) (u:o.sz≠0)
  (q:MX E.fp E.w0.heap.size (w.alloc (.cells c T)) S (dQ μ nk ⟨w.heap.size,cap,o.sz⟩) (sset σ nk o)) :
  Ext w S μ (w.alloc (.cells c T)) S (dQ μ nk ⟨w.heap.size,cap,o.sz⟩)/\Good E (sset σ nk o) S (dQ μ nk ⟨w.heap.size,cap,o.sz⟩) (w.alloc (.cells c T)):=by
 have e:Ext w S μ (w.alloc (.cells c T)) S (dQ μ nk ⟨w.heap.size,cap,o.sz⟩) :=
  ⟨aD,fun _ h=>h,fun b hb=>jq (g.S1 b hb),fun k pl h=>by
   grind [dQ]⟩
 refine ⟨e,⟨⟨g.fr.os,g.fr.tape,g.fr.output,by have:=g.fr.size;simp;omega,fun b hb F=>(jq (rH hb g.fr.size)).trans (g.fr.eC b hb F)⟩,
  g.S0,fun b hb=>by have:=g.S1 b hb;simp;omega,g.S2,⟨?_,?_⟩,?_,fun k G=>?_,q⟩⟩
 ·intro k x a;rw [bP] at a
  by_cases r:nk=k
  ·rw [if_pos r] at a;cases a;refine ⟨⟨w.heap.size,cap,o.sz⟩,c,T,by simp [dQ,r],rfl,fun _=>(heap_alloc_new w _).trans (by rw [kr u]),B,l,fun _ H=>y3 _ (g.S1 _ H),C,?_,fun h=>absurd h u⟩;intro i j x v hi a I;refine (D i j x v hi a I).mono e.Wj e.eC ?_;cases o.pr
   ·exact e.mu
   ·exact fun _ _ h=>h
  ·rw [if_neg r] at a;obtain ⟨pl,y,z,p,m⟩:=g.rep.ob k x a;exact ⟨pl,y,z,e.mu _ _ p,m.ext e (fun n=>jq (gK (m.eC n))) m.out⟩
 ·intro k k' x x' pl oG J a s d t K L;rw [bP] at a s;simp only [dQ] at d t;have lt:∀ {k x pl},nk≠k->aR σ k=some x->μ k=some pl->0 < pl.cap->pl.eC < w.heap.size:=fun {k x pl} _ a d n=>by
   obtain ⟨N,y,z,p,m⟩:=g.rep.ob k x a;rw [d] at p;cases p;exact gK (m.eC n)
  by_cases f:nk=k
  ·grind
  ·rw [if_neg f] at a;rw [if_neg (fun h=>f h.symm)] at d
   by_cases A:nk=k'
   ·grind
   ·rw [if_neg A] at s;rw [if_neg (fun h=>A h.symm)] at t;exact g.rep.ne k k' x x' pl oG J a s d t K L
 ·intro k x pl a d n;rw [bP] at a;simp only [dQ] at d
  by_cases f:nk=k
  ·rw [if_pos f.symm] at d;cases d;exact .inr g.fr.size
  ·rw [if_neg f] at a;rw [if_neg (fun h=>f h.symm)] at d;exact g.own k x pl a d n
 ·simp only [dQ];rw [if_neg ad];exact g.LO k G
theorem Good.YZ {E:Env} {σ:gp} {S:Nat->Prop} {μ:Mu} {w w':World} (g:Good E σ S μ w) {nk:Nat} (z:μ nk=none) (o:Ob) (pl:Place) (A:0 < pl.cap->w.heap.size<=pl.eC) (l:∀ i,rowOf o i=none)
  (hw:∀ b,b < w.heap.size->w'.heap[b]?=w.heap[b]?) {S':Nat->Prop} (p:∀ b,S b->S' b) (q:∀ b,S' b->S b\/w.heap.size<=b):MX E.fp E.w0.heap.size w' S' (dQ μ nk pl) (sset σ nk o):=by
 have key:∀ k i x v,lV w' (dQ μ nk pl) (sset σ nk o) k i x v->k≠nk:=by
  rintro k i x v h rfl;obtain ⟨j,a,c⟩:=h.ob;rw [bP,if_pos rfl] at a;cases a;rw [l] at c;cases c
 refine g.mx.tr id (fun k i x v h=>?_) (fun _ _ _ _ _ _ _ _ _ _ h=>h) p (fun b hb=>hw b (g.S1 b hb)) (fun k i x v b _ h hb=>?_) (fun k j m a c d=>?_)
 ·have r:=key _ _ _ _ h;obtain ⟨s,d,t⟩:=h.ob;refine h.D6 g.rep (fun j a=>?_) (fun m c=>?_) (fun j m a c d=>?_)
  ·rw [d] at a;cases a;rw [bP,if_neg (fun e=>r e.symm)] at d;exact ⟨s,d,t⟩
  ·simp_all [dQ,if_neg]
  ·obtain ⟨u,B,C,f,n⟩:=g.rep.ob k j a;have c:μ k=some m:=c;rw [c] at f;cases f;exact hw _ (gK (n.eC d))
 ·obtain ⟨D,F,G,_⟩:=g.mx.eC h hb;grind
 ·by_cases y:nk=k
  ·simp_all [dQ,if_pos]
  ·rw [bP,if_neg y] at a;unfold dQ at c;grind
theorem Good.alloc {E:Env} {σ:gp} {S:Nat->Prop} {μ:Mu} {w:World} (g:Good E σ S μ w) {nk:Nat} (d:μ nk=none) (hm:E.m0<=nk) (c:Array Value) (T:TypeId) (o:Ob) (cap:Nat)
  (e:cap * o.sz<=c.size) (a:o.len<=cap) (f:∀ i,i < o.len->(o.get i).length=o.sz)
  (k:∀ i j x v,i < o.len->(o.get i)[j]?=some x->c[i * o.sz+j]?=some v->aE w S (if o.pr then lI else μ) v x) (l:o.sz≠0) (b:∀ i,rowOf o i=none) :
  Ext w S μ (w.alloc (.cells c T)) S (dQ μ nk ⟨w.heap.size,cap,o.sz⟩)/\Good E (sset σ nk o) S (dQ μ nk ⟨w.heap.size,cap,o.sz⟩) (w.alloc (.cells c T)) :=
 g.agN d hm c T o cap e a f k l (g.YZ d o _ (fun _=>aH _) b (fun _ h=>jq h) (fun _ h=>h) (fun _ h=>.inl h))
theorem Good.aa8 {E:Env} {σ:gp} {S:Nat->Prop} {μ:Mu} {w w':World} (g:Good E σ S μ w)
  (hw:∀ b,b < w.heap.size->w'.heap[b]?=w.heap[b]?) {S':Nat->Prop} (m:∀ b,S b->S' b) (n:∀ b,S' b->S b\/w.heap.size<=b):MX E.fp E.w0.heap.size w' S' μ σ:=by
 refine g.mx.tr id (fun k i x v h=>?_) (fun _ _ _ _ _ _ _ _ _ _ h=>h) m (fun b hb=>hw b (g.S1 b hb)) (fun k i x v b _ h hb=>?_) (fun k e f j a c=>.inl ⟨k,e,f,j,a,c,rfl⟩)
 ·obtain ⟨o,c,p⟩:=h.ob;refine h.D6 g.rep (fun e j=>⟨o,c,p⟩) (fun f a=>a) (fun e f j a c=>?_);obtain ⟨q,r,s,d,l⟩:=g.rep.ob k e j;have a:μ k=some f:=a;rw [a] at d;cases d;exact hw _ (gK (l.eC c))
 ·obtain ⟨t,u,y,_⟩:=g.mx.eC h hb;grind
theorem Good.afc {E:Env} {σ:gp} {S:Nat->Prop} {μ:Mu} {w:World} (g:Good E σ S μ w) (o:Obj) :
  Ext w S μ (w.alloc o) (fun b=>S b\/b=w.heap.size) μ/\Good E σ (fun b=>S b\/b=w.heap.size) μ (w.alloc o):=by
 have e:Ext w S μ (w.alloc o) (fun b=>S b\/b=w.heap.size) μ :=
  ⟨aD,fun _ h=>.inl h,fun b hb=>jq (g.S1 b hb),fun k pl h=>h⟩
 refine ⟨e,⟨⟨g.fr.os,g.fr.tape,g.fr.output,by have:=g.fr.size;simp;omega,fun b hb d=>(jq (rH hb g.fr.size)).trans (g.fr.eC b hb d)⟩,
  fun b h=>.inl (g.S0 b h),fun b hb=>?_,fun b hb=>?_,⟨?_,g.rep.ne⟩,g.own,g.LO,g.aa8 (fun _ h=>jq h) (fun _ h=>.inl h) (fun b h=>h.elim .inl (fun h=>.inr (Nat.le_of_eq h.symm)))⟩⟩
 ·rcases hb with hb | hb
  ·have:=g.S1 b hb;simp;omega
  ·simp;omega
 ·rcases hb with hb | hb
  ·exact g.S2 b hb
  ·exact .inr (hb ▸ g.fr.size)
 ·intro k x f;obtain ⟨pl,i,j,l,a⟩:=g.rep.ob k x f;exact ⟨pl,i,j,l,a.ext e (fun c=>jq (gK (a.eC c))) (fun c h=>h.elim (a.out c) (by have:=gK (a.eC c);omega))⟩
theorem Good.drew {E:Env} {σ:gp} {S:Nat->Prop} {μ:Mu} {w:World} (g:Good E σ S μ w):Good E σ S μ w.drew :=
 ⟨⟨g.fr.os,g.fr.tape,g.fr.output,g.fr.size,g.fr.eC⟩,g.S0,g.S1,g.S2,
  ⟨fun k o h=>let ⟨pl,c,T,hm,a⟩:=g.rep.ob k o h
   ⟨pl,c,T,hm,a.ext (w':=w.drew) ⟨aH _,fun _ h=>h,fun _ _=>rfl,fun _ _ h=>h⟩ (fun _=>rfl) a.out⟩,g.rep.ne⟩,g.own,g.LO,g.aa8 (w':=w.drew) (fun _ _=>rfl) (fun _ h=>h) (fun _ h=>.inl h)⟩
theorem Ext.drew (w:World) (S:Nat->Prop) (μ:Mu):Ext w S μ w.drew S μ:=⟨aH _,fun _ h=>h,fun _ _=>rfl,fun _ _ h=>h⟩
theorem Good.del {E:Env} {σ:gp} {S:Nat->Prop} {μ:Mu} {w:World} (g:Good E σ S μ w) (k:Nat):Good E (D4 σ k) S μ w:=by
 have a:∀ n o,aR (D4 σ k) n=some o->aR σ n=some o:=fun n o h=>by
  grind [jU]
 exact ⟨g.fr,g.S0,g.S1,g.S2,⟨fun n o h=>g.rep.ob n o (a n o h),fun k k' o o' pl oG e h h'=>g.rep.ne k k' o o' pl oG e (a _ _ h) (a _ _ h')⟩,
  fun k o pl h=>g.own k o pl (a _ _ h),g.LO,g.mx.tr id (fun k i x v ⟨o,pl,c,d⟩=>⟨o,pl,a _ _ c,d⟩) (fun _ _ _ _ _ _ _ _ _ _ h=>h) (fun _ h=>h) (fun _ _=>rfl)
   (fun k i x v b _ h hb=>⟨rfl,(g.mx.eC h hb).2.1,fun h=>h⟩) (fun k o pl c d f=>.inl ⟨k,o,pl,a _ _ c,d,f,rfl⟩)⟩
theorem Good.mxW {E:Env} {σ:gp} {S:Nat->Prop} {μ:Mu} {w w':World} (g:Good E σ S μ w) {k:Nat} {o:Ob} (l:aR σ k=some o) {pl:Place} (hm:μ k=some pl) (s:0 < pl.cap) (u:¬ S pl.eC)
  (m:∀ b,b≠pl.eC->w'.heap[b]?=w.heap[b]?) (o':Ob) (y:∀ i x,rowOf o' i=some x->rowOf o i=some x/\∀ v,w'.cell? ⟨pl.eC,i * pl.sz,none⟩=some v->w.cell? ⟨pl.eC,i * pl.sz,none⟩=some v) :
  MX E.fp E.w0.heap.size w' S μ (sset σ k o'):=by
 refine g.mx.tr id (fun n i x v h=>?_) (fun _ _ _ _ _ _ _ _ _ _ h=>h) (fun _ h=>h) (fun b hb=>m b fun e=>u (e ▸ hb)) (fun n i x v b _ h hb=>?_) (fun n f j c d a=>?_)
 ·by_cases p:k=n
  ·subst p;obtain ⟨f,j,c,d,a,q⟩:=h;rw [bP,if_pos rfl] at c;cases c;rw [hm] at a;cases a;obtain ⟨t,r⟩:=y i x d;exact ⟨o,pl,l,t,hm,r v q⟩
  ·obtain ⟨z,a,q⟩:=h.ob;rw [bP,if_neg p] at a;refine h.D6 g.rep (fun f c=>⟨z,a,q⟩) (fun j d=>d) (fun f j c d a=>?_);exact m _ (g.rep.ne n k f o j pl (fun h=>p h.symm) c l d hm a s)
 ·obtain ⟨t,r,A,_⟩:=g.mx.eC h hb;exact ⟨m b fun e=>g.mx.obj _ _ _ _ _ h hb k o pl l hm s e.symm,r,fun h=>h⟩
 ·rw [bP] at c;grind
theorem Good.write {E:Env} {σ:gp} {S:Nat->Prop} {μ:Mu} {w:World} (g:Good E σ S μ w) {k:Nat} {o:Ob} (r:aR σ k=some o) {pl:Place} {c:Array Value} {T:TypeId}
  (hm:μ k=some pl) (m:0 < pl.cap) (l:kY w S μ o pl c T) (t:o.sz≠0) (o':Ob) (d:Array Value) (u:o'.sz=o.sz) (q:d.size=c.size) (s:o'.len<=pl.cap)
  (N:∀ i,i < o'.len->(o'.get i).length=o'.sz)
  (O:∀ i j x v,i < o'.len->(o'.get i)[j]?=some x->d[i * o'.sz+j]?=some v->aE w S (if o'.pr then lI else μ) v x)
  (H:∀ i x,rowOf o' i=some x->rowOf o i=some x/\d[i * o.sz]?=c[i * o.sz]?) :
  Ext w S μ (w.setRow pl.eC d) S μ/\Good E (sset σ k o') S μ (w.setRow pl.eC d):=by
 have z:∀ b,b≠pl.eC->(w.setRow pl.eC d).heap[b]?=w.heap[b]?:=fun b hb=>by
  simp only [World.setRow,Array.getElem?_modify];grind
 have e:Ext w S μ (w.setRow pl.eC d) S μ :=
  ⟨aD,fun _ h=>h,fun b hb=>z b fun h=>l.out m (h ▸ hb),fun _ _ h=>h⟩
 refine ⟨e,⟨⟨g.fr.os,g.fr.tape,g.fr.output,by have:=g.fr.size;simpa using this,fun b hb I=>?_⟩,g.S0,fun b hb=>by simpa using g.S1 b hb,g.S2,⟨?_,?_⟩,?_,g.LO,?_⟩⟩
 rotate_right
 ·refine g.mxW r hm m (l.out m) z o' fun i x a=>⟨(H i x a).1,fun v A=>?_⟩;have D:=l.eC m;rw [kr t] at D;rw [cell_of_row _ _ _ _ _ _ (setRow_heap w _ c d T (0,0) D),l.sz,(H i x a).2] at A;rw [cell_of_row _ _ _ _ _ _ D,l.sz];exact A
 ·rw [z b,g.fr.eC b hb I];rintro rfl;rcases g.own k o pl r hm m with h | h
  ·exact I h
  ·omega
 ·intro n x a;rw [bP] at a
  by_cases B:k=n
  ·rw [if_pos B] at a;cases a;refine ⟨pl,d,T,B ▸ hm,l.sz.trans u.symm,fun _=>(setRow_heap w _ c d T (0,0) ((l.eC m).trans (by rw [kr t]))).trans (by rw [kr (by rw [u];exact t)]),?_,s,l.out,N,?_,fun h=>absurd (u ▸ h) t⟩
   ·rw [u,q];exact l.cap
   ·intro i j x v hi a A;refine (O i j x v hi a A).mono e.Wj e.eC ?_;cases o'.pr
    ·exact e.mu
    ·exact fun _ _ h=>h
  ·rw [if_neg B] at a;obtain ⟨J,P,Q,K,L⟩:=g.rep.ob n x a;exact ⟨J,P,Q,K,L.ext e (fun q=>z _ (g.rep.ne n k x o J pl (fun h=>B h.symm) a r K hm q m)) L.out⟩
 ·intro n n' x x' p R U a M C V W X;rw [bP] at a M;have f:∀ {n x},(if k=n then some o' else aR σ n)=some x->∃ y,aR σ n=some y:=fun {n x} h=>by
   split at h
   ·rename_i F;exact ⟨o,F ▸ r⟩
   ·exact ⟨_,h⟩
  obtain ⟨y,Y⟩:=f a;obtain ⟨Z,G⟩:=f M;exact g.rep.ne n n' y Z p R U Y G C V W X
 ·intro n x p a C q;rw [bP] at a;split at a
  ·rename_i F;subst F;exact g.own _ o p r C q
  ·exact g.own n x p a C q
theorem Good.alY {E:Env} {σ:gp} {S:Nat->Prop} {μ:Mu} {w w':World} (g:Good E σ S μ w) {k:Nat} {o:Ob} (j:aR σ k=some o) {pl:Place} {c:Array Value} {T:TypeId}
  (hm:μ k=some pl) (d:0 < pl.cap) (t:kY w S μ o pl c T) (D:w'.os=w.os) (F:w'.tape=w.tape) (G:w'.output=w.output) (H:w'.heap.size=w.heap.size) (l:∀ b,b≠pl.eC->w'.heap[b]?=w.heap[b]?)
  (o':Ob) (r:∀ i,rowOf o' i=none) (I:Ext w S μ w' S μ->∃ J K,kY w' S μ o' pl J K):Ext w S μ w' S μ/\Good E (sset σ k o') S μ w':=by
 have e:Ext w S μ w' S μ:=⟨ad,fun _ h=>h,fun b hb=>l b fun h=>t.out d (h ▸ hb),fun _ _ h=>h⟩;refine ⟨e,⟨⟨D.trans g.fr.os,F.trans g.fr.tape,G.trans g.fr.output,by have:=g.fr.size;omega,fun b hb u=>?_⟩,g.S0,fun b hb=>by rw [H];exact g.S1 b hb,g.S2,⟨?_,?_⟩,?_,g.LO,g.mxW j hm d (t.out d) l o' fun i x a=>by rw [r] at a;cases a⟩⟩
 ·rw [l b,g.fr.eC b hb u];rintro rfl;rcases g.own k o pl j hm d with h | h
  ·exact u h
  ·omega
 ·intro n x a;rw [bP] at a
  by_cases v:k=n
  ·simp_all
  ·rw [if_neg v] at a;obtain ⟨z,L,M,A,B⟩:=g.rep.ob n x a;exact ⟨z,L,M,A,B.ext e (fun m=>l _ (g.rep.ne n k x o z pl (fun h=>v h.symm) a j A hm m d)) B.out⟩
 ·intro n n' x x' p N O a C q P Q R;rw [bP] at a C;have f:∀ {n x},(if k=n then some o' else aR σ n)=some x->∃ y,aR σ n=some y:=fun {n x} h=>by
   grind
  obtain ⟨y,U⟩:=f a;obtain ⟨V,s⟩:=f C;exact g.rep.ne n n' y V p N O U s q P Q R
 ·intro n x p a q m;rw [bP] at a;split at a
  ·rename_i W;subst W;exact g.own _ o p j q m
  ·exact g.own n x p a q m
theorem Good.allocMap {E:Env} {σ:gp} {S:Nat->Prop} {μ:Mu} {w:World} (g:Good E σ S μ w) {nk:Nat} (u:μ nk=none) (hm:E.m0<=nk) :
  Ext w S μ (w.alloc (.map #[] 0)) S (dQ μ nk ⟨w.heap.size,1,0⟩)/\Good E (sset σ nk ⟨false,0,0,true,fun _=>[]⟩) S (dQ μ nk ⟨w.heap.size,1,0⟩) (w.alloc (.map #[] 0)):=by
 have c:∀ b,b < w.heap.size->(w.alloc (.map #[] 0)).heap[b]?=w.heap[b]?:=fun b h=>jq h;have e:Ext w S μ (w.alloc (.map #[] 0)) S (dQ μ nk ⟨w.heap.size,1,0⟩) :=
  ⟨aD,fun _ h=>h,fun b hb=>c b (g.S1 b hb),fun k pl h=>by
   grind [dQ]⟩
 have lt:∀ {k x pl},aR σ k=some x->μ k=some pl->0 < pl.cap->pl.eC < w.heap.size:=fun {k x pl} a d l=>by
  obtain ⟨F,r,s,n,m⟩:=g.rep.ob k x a;rw [d] at n;cases n;exact gK (m.eC l)
 refine ⟨e,⟨⟨g.fr.os,g.fr.tape,g.fr.output,by have:=g.fr.size;simp;omega,fun b hb y=>(c b (rH hb g.fr.size)).trans (g.fr.eC b hb y)⟩,
  g.S0,fun b hb=>by have:=g.S1 b hb;simp;omega,g.S2,⟨?_,?_⟩,?_,fun k z=>?_,g.YZ u _ _ (fun _=>aH _) (fun i=>rfl) c (fun _ h=>h) (fun _ h=>.inl h)⟩⟩
 ·intro k x a;rw [bP] at a
  by_cases o:nk=k
  ·rw [if_pos o] at a;cases a;refine ⟨⟨w.heap.size,1,0⟩,#[],0,by simp [dQ,o],rfl,fun _=>(heap_alloc_new w _).trans (by simp [Kh,k8]),aD,aD,fun _ A=>y3 _ (g.S1 _ A),fun i hi=>absurd hi (iq _),fun i j x v hi=>absurd hi (iq _),fun _=>⟨Nat.one_pos,rfl,rfl,rfl,fun j x v a=>by simp at a⟩⟩
  ·rw [if_neg o] at a;obtain ⟨pl,r,s,n,m⟩:=g.rep.ob k x a;exact ⟨pl,r,s,e.mu _ _ n,m.ext e (fun l=>c _ (gK (m.eC l))) m.out⟩
 ·intro k k' x x' pl oG B a p d q C D;rw [bP] at a p;simp only [dQ] at d q
  by_cases f:nk=k
  ·grind
  ·rw [if_neg f] at a;rw [if_neg (fun h=>f h.symm)] at d
   by_cases t:nk=k'
   ·grind
   ·rw [if_neg t] at p;rw [if_neg (fun h=>t h.symm)] at q;exact g.rep.ne k k' x x' pl oG B a p d q C D
 ·intro k x pl a d l;rw [bP] at a;simp only [dQ] at d
  by_cases f:nk=k
  ·rw [if_pos f.symm] at d;cases d;exact .inr g.fr.size
  ·rw [if_neg f] at a;rw [if_neg (fun h=>f h.symm)] at d;exact g.own k x pl a d l
 ·simp only [dQ];rw [if_neg ad];exact g.LO k z
def bO:List Prop->Prop
 | []=>True
 | p :: ps=>p/\bO ps
theorem bO.app {a b:List Prop} (h:bO (a ++ b)):bO a/\bO b:=by
 induction a with
 | nil=>exact ⟨trivial,h⟩
 | cons p ps c=>exact ⟨⟨h.1,(c h.2).1⟩,(c h.2).2⟩
def AV.strip:AV->AV×List Prop
 | .when b x=>(x.strip.1,(b=true) :: x.strip.2)
 | x=>(x,[])
theorem aE.strip {w:World} {S:Nat->Prop} {μ:Mu} {v:Value} {x:AV} (h:aE w S μ v x):bO x.strip.2->aE w S μ v x.strip.1:=by
 induction h with
 | when a _ i=>exact fun g=>i g.1 g.2
 | atom v=>exact fun _=>.atom v
 | agg a c _=>exact fun _=>.agg a c
 | tup a c _=>exact fun _=>.tup a c
 | sl b off sz f a c d e j _=>exact fun _=>.sl b off sz f a c d e j
 | rp b o f a c d _=>exact fun _=>.rp b o f a c d
 | op pl h=>exact fun _=>.op pl h
 | os pl h a c d=>exact fun _=>.os pl h a c d
 | fn a c d e _ _=>exact fun _=>.fn a c d e
 | mp pl h=>exact fun _=>.mp pl h
 | bn b h=>exact fun _=>.bn b h
 | pt a c _=>exact fun _=>.pt a c
 | ov pl h a=>exact fun _=>.ov pl h a
 | PD pl h a c=>exact fun _=>.PD pl h a c
 | nq h a c _=>exact fun _=>.nq h a c
 | nil=>exact fun _=>.nil
 | qm=>exact fun _=>.qm
 | mr=>exact fun _=>.mr
def AV.one:AV->Bool
 | .atom v=>match v with
  | .agg _ | .tuple _=>false
  | _=>true
 | .sl _ _ | .rp _ _ | .op _ _ _ | .os _ _ _ | .fn _ _ _ | .mp _ | .bn _ | .pt _ _ | .nil=>true
 | .nq _ x=>x.one
 | _=>false
theorem aE.Wk {w:World} {S:Nat->Prop} {μ:Mu} {v:Value} {x:AV} (h:aE w S μ v x) (a:x.one=true):v.oneCell'=true:=by
 induction h with
 | atom v=>cases v<;>simp_all [AV.one,Value.oneCell']
 | nq _ _ _ e=>grind [AV.one]
 | @pt μ b cs v c d _ =>
  cases b with
  | false=>rw [d rfl];rfl
  | true=>have:=c rfl;cases this;rfl
 | _=>first | rfl | (simp [AV.one] at a;done)
def AV.xe:List AV->Bool
 | []=>true
 | c :: cs=>c.one && AV.xe cs
theorem QJ {cs:List AV} (h:AV.xe cs=true) {j:Nat} {c:AV} (a:cs[j]?=some c):c.one=true:=by
 induction cs generalizing j with
 | nil=>simp at a
 | cons x xs b =>
  simp only [AV.xe,cy] at h;grind
def AV.cells:AV->Option (List AV)
 | .agg cs=>some cs
 | .atom v=>match v with
  | .agg _ | .tuple _=>none
  | v=>some [.atom v]
 | .sl n g=>some [.sl n g]
 | .rp c o=>some [.rp c o]
 | .op k i j=>some [.op k i j]
 | .os k o n=>some [.os k o n]
 | .fn f a b=>some [.fn f a b]
 | .mp k=>some [.mp k]
 | .bn n=>some [.bn n]
 | .pt b cs=>some [.pt b cs]
 | .nq st x=>match x.one with
  | true=>some [.nq st x]
  | false=>none
 | .nil=>some [.nil]
 | _=>none
theorem afd {v:Value} (h:v.oneCell'=true):v.cells=#[v]:=by
 cases v<;>simp_all [Value.oneCell',Value.cells]
theorem aE.cells {w:World} {S:Nat->Prop} {μ:Mu} {v:Value} {x:AV} (h:aE w S μ v x) {cs:List AV} (a:x.cells=some cs) :
  v.cells.size=cs.length/\∀ (j:Nat) (c:AV) (u:Value),cs[j]?=some c->v.cells[j]?=some u->aE w S μ u c:=by
 have one:∀ {x:AV},aE w S μ v x->x.one=true->cs=[x]->v.cells.size=cs.length/\∀ (j:Nat) (c:AV) (u:Value),cs[j]?=some c->v.cells[j]?=some u->aE w S μ u c:=by
  intro x h b e;rw [afd (h.Wk b),e];refine ⟨rfl,?_⟩;intro j c u f d;cases j with
  | zero=>simp_all
  | succ j=>simp at f
 cases x with
 | agg l =>
  cases a;cases h with
  | agg b e=>exact ⟨b,fun j c u f d=>e j c u f d⟩
 | atom u =>
  have d:(AV.atom u).one=true:=by cases u<;>simp_all [AV.cells,AV.one]
  exact one h d (by cases u<;>simp_all [AV.cells])
 | sl=>exact one h rfl (by grind [AV.cells])
 | rp=>exact one h rfl (by grind [AV.cells])
 | op=>exact one h rfl (by grind [AV.cells])
 | os=>exact one h rfl (by grind [AV.cells])
 | fn=>exact one h rfl (by grind [AV.cells])
 | mp=>exact one h rfl (by grind [AV.cells])
 | bn=>exact one h rfl (by grind [AV.cells])
 | pt=>exact one h rfl (by grind [AV.cells])
 | nq st x =>
  simp only [AV.cells] at a;split at a
  ·rename_i b;exact one h (by simpa [AV.one] using b) (Option.some.inj a).symm
  ·cases a
 | nil=>exact one h rfl (by grind [AV.cells])
 | _=>simp [AV.cells] at a
def jZ:Value->AV
 | .slice none 0 0=>.nil
 | .func f vs ws=>if vs.size=0/\ws.size=0 then .fn f [] [] else .atom (.func f vs ws)
 | v=>.atom v
def ofConst:Value->AV
 | .agg vs=>.agg (vs.toList.map jZ)
 | .tuple vs=>.tup (vs.toList.map jZ)
 | v=>jZ v
theorem Kk (w:World) (S:Nat->Prop) (μ:Mu) (v:Value):aE w S μ v (jZ v):=by
 unfold jZ;split
 ·exact .nil
 ·split
  ·rename_i h;exact .fn (by simpa using h.1) (by simpa using h.2) (fun j c v a=>by simp at a) (fun j c v a=>by simp at a)
  ·exact .atom _
 ·exact .atom _
theorem UX (w:World) (S:Nat->Prop) (μ:Mu) (v:Value):aE w S μ v (ofConst v):=by
 have f:∀ (vs:Array Value) (j:Nat) (c:AV) (u:Value),(vs.toList.map jZ)[j]?=some c->vs[j]?=some u->aE w S μ u c:=by
  intro vs j c u a d;have b:vs.toList[j]?=some u:=by simpa using d
  rw [List.getElem?_map,b] at a;simp at a;exact a ▸ Kk w S μ u
 unfold ofConst;split
 ·exact .agg aD (f _)
 ·exact .tup aD (f _)
 ·exact Kk w S μ _
def Ct (P:Program) (t:TypeId):Option Nat:=(P.info? t).map (·.size)
def Ft (P:Program) (t:TypeId):Option Nat:=(P.info? t).map (·.bytes)
def AP (P:Program) (t:TypeId):Option Value:=(P.info? t).bind (·.zero)
theorem jg {P:Program} {t n:Nat} (h:Ct P t=some n) (w:World):(sizeOf t).run P w=.ok n w:=by
 unfold Ct at h;cases hi:P.info? t with
 | none=>simp [hi] at h
 | some i=>simp_all [sizeOf,typeInfo]
theorem UY {P:Program} {t:Nat} {z:Value} (h:AP P t=some z) (w:World):(zeroValue t).run P w=.ok z w:=by
 unfold AP at h;cases hi:P.info? t with
 | none=>simp [hi] at h
 | some i=>simp_all [zeroValue,typeInfo]
theorem Fu {P:Program} {t n b:Nat} {z:Value} (h:Ct P t=some n) (hb:Ft P t=some b) (a:AP P t=some z) :
  ∃ i,P.info? t=some i/\i.size=n/\i.bytes=b/\i.zero=some z:=by
 unfold Ct at h;unfold Ft at hb;unfold AP at a;cases hi:P.info? t with
 | none=>simp [hi] at h
 | some i=>simp_all
def anV (op:BinOp) (k:IntKind) (a b:Int):Option (List Prop×AV) :=
 match op with
 | .add=>some ([],.atom (.int k (k.wrap (a+b))))
 | .sub=>some ([],.atom (.int k (k.wrap (a - b))))
 | .mul=>some ([],.atom (.int k (k.wrap (a * b))))
 | .quo=>some ([b≠0],.atom (.int k (k.wrap (a.tdiv b))))
 | .rem=>some ([b≠0],.atom (.int k (a.tmod b)))
 | .and=>some ([],.atom (.int k (k.wrap (BitVec.ofInt k.bits a &&& BitVec.ofInt k.bits b).toNat)))
 | .or=>some ([],.atom (.int k (k.wrap (BitVec.ofInt k.bits a ||| BitVec.ofInt k.bits b).toNat)))
 | .xor=>some ([],.atom (.int k (k.wrap (BitVec.ofInt k.bits a ^^^ BitVec.ofInt k.bits b).toNat)))
 | .andNot=>some ([],.atom (.int k (k.wrap (BitVec.ofInt k.bits a &&& ~~~BitVec.ofInt k.bits b).toNat)))
 | .eql=>some ([],.atom (.bool (a == b)))
 | .neq=>some ([],.atom (.bool (a != b)))
 | .lss=>some ([],.atom (.bool (decide (a < b))))
 | .leq=>some ([],.atom (.bool (decide (a<=b))))
 | .gtr=>some ([],.atom (.bool (decide (a > b))))
 | .geq=>some ([],.atom (.bool (decide (a>=b))))
 | _=>none
def Qk (op:BinOp) (k:IntKind) (a b:Int):Option (List Prop×AV) :=
 match op with
 | .shl=>some ([0<=b],.atom (.int k (k.wrap (a * 2 ^ (min b.toNat k.bits)))))
 | .shr=>some ([0<=b],.atom (.int k (a.fdiv (2 ^ (min b.toNat k.bits)))))
 | _=>none
def LX (a b:ByteArray):Bool:=a.toList == b.toList
def anW (op:BinOp) (a b:ByteArray):Option (List Prop×AV) :=
 match op with
 | .eql=>some ([],.atom (.bool (LX a b)))
 | .neq=>some ([],.atom (.bool (!LX a b)))
 | .lss=>some ([],.atom (.bool (Op.bytesLess a.toList b.toList)))
 | .leq=>some ([],.atom (.bool (Op.bytesLess a.toList b.toList || LX a b)))
 | .gtr=>some ([],.atom (.bool (!(Op.bytesLess a.toList b.toList || LX a b))))
 | .geq=>some ([],.atom (.bool (!Op.bytesLess a.toList b.toList)))
 | .add=>some ([((a.size+b.size:Nat):Int)<=IntKind.i64.max],.atom (.string (a ++ b)))
 | _=>none
def oH (P:Program) (t:TypeId) (cs:List AV) (off:Nat):Option AV :=
 match P.underlying t,Ct P t with
 | some d,some n=>match d.isRow with
  | true=>some (.agg ((cs.drop off).take n))
  | false=>cs[off]?
 | _,_=>none
theorem oI {P:Program} {w:World} {S:Nat->Prop} {μ:Mu} {vs:Array Value} {cs:List AV} (k:vs.size=cs.length)
  (h:∀ (j:Nat) (c:AV) (v:Value),cs[j]?=some c->vs[j]?=some v->aE w S μ v c) {t off:Nat} {x:AV} (a:oH P t cs off=some x)
  (f:∀ n,Ct P t=some n->off+n<=cs.length) :
  ∃ v,(part t vs off).run P w=.ok v w/\aE w S μ v x:=by
 unfold oH at a;cases hu:P.underlying t with
 | none=>simp [hu] at a
 | some d =>
  cases e:Ct P t with
  | none=>simp [hu,e] at a
  | some n =>
   have l:=f n e;cases g:d.isRow with
   | true =>
    simp [hu,e,g] at a;have b:(isAgg t).run P w=.ok true w:=by
     unfold isAgg;rw [dk,run_underlying hu w];cases d<;>simp_all
    refine ⟨.agg (vs.extract off (off+n)),by simp [part,b,jg e],?_⟩;rw [<- a];refine .agg (by simp;omega) ?_;grind
   | false =>
    simp [hu,e,g] at a;have b:(isAgg t).run P w=.ok false w:=by
     unfold isAgg;rw [dk,run_underlying hu w];cases d<;>simp_all
    have i:off < vs.size:=by rw [k];exact (gW.1 a).1
    refine ⟨vs[off],by simp [part,b,mT i],?_⟩;exact h off x _ a (mT i)
mutual
def Nj (P:Program):Nat->TypeId->AV->AV->Option Bool
 | 0,_,_,_=>none
 | d+1,t,x,y =>
  match P.underlying t with
  | some .bool=>match x,y with
   | .atom (.bool a),.atom (.bool b)=>some (a == b)
   | _,_=>none
  | some (.int _)=>match x,y with
   | .atom (.int k a),.atom (.int k' b)=>match decide (k=k') with
    | true=>some (a == b)
    | false=>none
   | _,_=>none
  | some .string=>match x,y with
   | .atom (.string a),.atom (.string b)=>some (LX a b)
   | _,_=>none
  | some (.struct fs)=>match x,y with
   | .agg xs,.agg ys=>match P.stoodInHeld t with
    | false=>QK P d xs ys fs.toList
    | true=>none
   | _,_=>none
  | some (.array n e)=>match x,y,Ct P e with
   | .agg xs,.agg ys,some m=>J3 P d e m xs ys 0 n
   | _,_,_=>none
  | _=>none
def QK (P:Program):Nat->List AV->List AV->List Field->Option Bool
 | _,_,_,[]=>some true
 | 0,_,_,_=>none
 | d+1,xs,ys,f :: fs =>
  match decide (f.name = "_"),Ct P f.type with
  | false,some n=>match Nat.ble (f.offset+n) xs.length && Nat.ble (f.offset+n) ys.length,oH P f.type xs f.offset,oH P f.type ys f.offset with
   | true,some a,some b=>match Nj P d f.type a b,QK P d xs ys fs with
    | some p,some q=>some (p && q)
    | _,_=>none
   | _,_,_=>none
  | _,_=>none
def J3 (P:Program):Nat->TypeId->Nat->List AV->List AV->Nat->Nat->Option Bool
 | _,_,_,_,_,_,0=>some true
 | 0,_,_,_,_,_,_=>none
 | d+1,e,m,xs,ys,i,n+1 =>
  match Nat.ble (i * m+m) xs.length && Nat.ble (i * m+m) ys.length,oH P e xs (i * m),oH P e ys (i * m) with
  | true,some a,some b=>match Nj P d e a b,J3 P d e m xs ys (i+1) n with
   | some p,some q=>some (p && q)
   | _,_=>none
  | _,_,_=>none
end
theorem gh {w:World} {S:Nat->Prop} {μ:Mu} {v u:Value} (h:aE w S μ v (.atom u)):v=u:=by cases h;rfl
theorem ue {w:World} {S:Nat->Prop} {μ:Mu} {v:Value} {cs:List AV} (h:aE w S μ v (.agg cs)) :
  ∃ vs:Array Value,v=.agg vs/\vs.size=cs.length/\∀ (j:Nat) (c:AV) (u:Value),cs[j]?=some c->vs[j]?=some u->aE w S μ u c:=by
 cases h with
 | agg a b=>grind
section
variable {P:Program} {w:World} {S:Nat->Prop} {μ:Mu}
theorem Y0 {t:TypeId} {fs:Array Field} (h:P.underlying t=some (.struct fs)):P.fieldsOf t=fs:=by
 simp [Program.fieldsOf,h]
theorem Y1:∀ d:Nat,
  (∀ D t x y v u b,d<=D->aE w S μ v x->aE w S μ u y->Nj P d t x y=some b->(Op.equalIn D t v u).run P w=.ok b w) /\
  (∀ D (vs l:Array Value) xs ys fs b,d<=D->vs.size=xs.length->(∀ (j:Nat) c z,xs[j]?=some c->vs[j]?=some z->aE w S μ z c)->l.size=ys.length ->
   (∀ (j:Nat) c z,ys[j]?=some c->l[j]?=some z->aE w S μ z c)->QK P d xs ys fs=some b->(Op.eqFields D vs l fs).run P w=.ok b w) /\
  (∀ D (vs l:Array Value) e m xs ys i n b,d<=D->Ct P e=some m->vs.size=xs.length->(∀ (j:Nat) c z,xs[j]?=some c->vs[j]?=some z->aE w S μ z c)->l.size=ys.length ->
   (∀ (j:Nat) c z,ys[j]?=some c->l[j]?=some z->aE w S μ z c)->J3 P d e m xs ys i n=some b ->
   (forIn (m:=Sem) (List.range' i n) ((none,()):Option Bool×Unit) fun i _=>do
      let p <- part e vs (i * m)
      let q <- part e l (i * m)
      let r <- Op.equalIn D e p q
      if (!r)=true then pure (ForInStep.done (some false,())) else pure (ForInStep.yield (none,()))).run P w=.ok (if b then none else some false,()) w):=by
 intro d
 induction d with
 | zero =>
  refine ⟨fun D t x y v u b _ _ _ h=>by simp [Nj] at h,?_,?_⟩
  ·intro D vs l xs ys fs b _ _ _ _ _ h;cases fs with
   | nil=>simp_all [QK,Op.eqFields]
   | cons f fs=>simp [QK] at h
  ·intro D vs l e m xs ys i n b _ _ _ _ _ _ h;cases n with
   | zero=>simp_all [J3]
   | succ n=>simp [J3] at h
 | succ d ih =>
  obtain ⟨G,H,I⟩:=ih;refine ⟨?_,?_,?_⟩
  ·intro D t x y v u b Y J K h;obtain ⟨D,rfl⟩:∃ D',D=D'+1:=⟨D - 1,ad⟩;simp only [Nj] at h;split at h
   ·rename_i s;split at h
    ·cases J;cases K;simp at h;subst h;simp [Op.equalIn,run_underlying s]
    ·cases h
   ·rename_i s;split at h
    ·rename_i k a k' b';cases J;cases K
     by_cases L:k=k'
     ·simp [L] at h;subst h;simp [Op.equalIn,run_underlying s,L]
     ·simp [L] at h
    ·cases h
   ·rename_i s;split at h
    ·cases J;cases K;simp at h;subst h;rw [run_equalIn_string w D t _ _ s];rfl
    ·cases h
   ·rename_i fs s;split at h
    ·split at h
     ·rename_i Hh;obtain ⟨vs,rfl,A,B⟩:=ue J;obtain ⟨l,rfl,g,C⟩:=ue K;have Z:=Y0 s;rw [run_equalIn_struct w D t vs l (Z ▸ s) Hh,Z];exact H D vs l _ _ _ b ad A B g C h
     ·cases h
    ·cases h
   ·rename_i n e s;split at h
    ·rename_i m hm;obtain ⟨vs,rfl,A,B⟩:=ue J;obtain ⟨l,rfl,g,C⟩:=ue K;simp only [Op.equalIn,dk,run_underlying s,fZ,jg hm];rw [Std.Legacy.Range.forIn_eq_forIn_range'];simp only [Std.Legacy.Range.size,Nat.sub_zero,Nat.add_sub_cancel,Nat.div_one];rw [I D vs l e m _ _ 0 n b ad hm A B g C h];cases b<;>simp
    ·cases h
   ·cases h
  ·intro D vs l xs ys fs b Y A B g C h;cases fs with
   | nil=>simp [QK] at h;subst h;simp [Op.eqFields]
   | cons f fs =>
    simp only [QK] at h;split at h
    ·rename_i n M hn;split at h
     ·rename_i a c o N O;split at h
      ·rename_i p q Q hq;simp only [cy,Nat.ble_eq] at o;have E:∀ n',Ct P f.type=some n'->f.offset+n'<=xs.length:=fun n' h'=>by rw [hn] at h';cases h';exact o.1
       have F:∀ n',Ct P f.type=some n'->f.offset+n'<=ys.length:=fun n' h'=>by rw [hn] at h';cases h';exact o.2
       obtain ⟨v1,R,T⟩:=oI A B N E;obtain ⟨v2,U,V⟩:=oI g C O F;have W:=G D f.type a c v1 v2 p ad T V Q;have X:=H D vs l xs ys fs q ad A B g C hq
       have jr:f.name≠ "_":=o7 M
       simp at h;subst h;simp only [Op.eqFields,if_pos jr,dk,R,U,W,fZ];cases p
       ·simp
       ·simp [X]
      ·cases h
     ·cases h
    ·cases h
  ·intro D vs l e m xs ys i n b Y hm A B g C h;cases n with
   | zero=>simp [J3] at h;subst h;simp
   | succ n =>
    simp only [J3] at h;split at h
    ·rename_i a c o N O;split at h
     ·rename_i p q Q hq;simp only [cy,Nat.ble_eq] at o;have E:∀ n',Ct P e=some n'->i * m+n'<=xs.length:=fun n' h'=>by rw [hm] at h';cases h';exact o.1
      have F:∀ n',Ct P e=some n'->i * m+n'<=ys.length:=fun n' h'=>by rw [hm] at h';cases h';exact o.2
      obtain ⟨v1,R,T⟩:=oI A B N E;obtain ⟨v2,U,V⟩:=oI g C O F;have W:=G D e a c v1 v2 p ad T V Q;have X:=I D vs l e m xs ys (i+1) n q ad hm A B g C hq;simp at h;subst h;rw [List.range'_succ,List.forIn_cons];simp only [dk,R,U,W,fZ];cases p
      ·simp
      ·simpa using X
     ·cases h
    ·cases h
def QL (o:BinOp) (q:Bool):Option AV :=
 match o with
 | .eql=>some (.atom (.bool q))
 | .neq=>some (.atom (.bool (!q)))
 | _=>none
def agP:AV->Bool
 | .atom v=>match v with
  | .pointer none=>true
  | _=>false
 | _=>false
def agQ (P:Program) (o:BinOp) (t:TypeId) (x y:AV):Option AV :=
 match P.underlying t,y with
 | some (.slice _),.nil=>match x with
  | .nil=>QL o true
  | .sl n _ | .os _ _ n=>match o with
   | .eql=>some (.bn n)
   | _=>none
  | _=>none
 | some (.pointer _),y=>match agP y with
  | true=>match x with
   | .atom v=>match v with
    | .pointer none=>QL o true
    | _=>none
   | .rp _ _ | .op _ _ _=>QL o false
   | .pt b _=>QL o (!b)
   | _=>none
  | false=>none
 | _,_=>none
theorem uX (op:BinOp) (t:TypeId) (x y:Operand) (a b:Value) (d:a≠.nilIface) (e:∀ c,a≠.agg c):(eqGuard op t x y a b).run P w=.ok () w:=by
 simp_all [eqGuard]
theorem adp {o:BinOp} {t:TypeId} {a b:Option Addr} {l c d e:Nat} {q:Bool} (h:(Op.equal t (.slice a l c) (.slice b d e)).run P w=.ok q w) {r:AV} (f:QL o q=some r):∃ z,(binOp o t (.slice a l c) (.slice b d e)).run P w=.ok z w/\aE w S μ z r:=by
 cases o<;>simp only [QL,bu,reduceCtorEq] at f<;>subst f
 ·exact ⟨.bool q,by simp_all [binOp,dk],.atom _⟩
 ·exact ⟨.bool (!q),by simp_all [binOp,dk],.atom _⟩
theorem LY {o:BinOp} {t:TypeId} {a:Option Addr} {q:Bool} (h:(Op.equal t (.pointer a) (.pointer none)).run P w=.ok q w) {r:AV} (b:QL o q=some r):∃ z,(binOp o t (.pointer a) (.pointer none)).run P w=.ok z w/\aE w S μ z r:=by
 cases o<;>simp only [QL,bu,reduceCtorEq] at b<;>subst b
 ·exact ⟨.bool q,by simp_all [binOp,dk],.atom _⟩
 ·exact ⟨.bool (!q),by simp_all [binOp,dk],.atom _⟩
theorem ao1 {op:BinOp} {t:TypeId} {x y:AV} {n o:Operand} {v u:Value} (i:aE w S μ v x) (s:aE w S μ u y) {r:AV} (h:agQ P op t x y=some r) :
  ∃ z,(do eqGuard op t n o v u;binOp op t v u:Sem Value).run P w=.ok z w/\aE w S μ z r:=by
 have g:∀ (v u:Value),v≠.nilIface->(∀ c,v≠.agg c)->(∃ z,(binOp op t v u).run P w=.ok z w/\aE w S μ z r)->∃ z,(do eqGuard op t n o v u;binOp op t v u:Sem Value).run P w=.ok z w/\aE w S μ z r:=by
  intro v u j k p;have B:=uX (P:=P) (w:=w) op t n o v u j k;simpa only [dk,B,fZ] using p
 unfold agQ at h;split at h
 ·rename_i e q;cases s;have sl:∀ (a:Option Addr) (l c:Nat),(Op.equal t (.slice a l c) (.slice none 0 0)).run P w=.ok a.isNone w:=by
   intro a l c;unfold Op.equal Op.maxDepth Op.equalIn;rw [dk,run_underlying q];cases a<;>rfl
  split at h
  ·cases i;exact g _ _ aD aD (adp (sl none 0 0) h)
  ·split at h
   ·cases h;cases i with
    | sl b off sz f j k p D E =>
     rename_i a cap;refine g _ _ aD aD ⟨.bool a.isNone,?_,.bn _ fun m=>?_⟩
     ·simp only [binOp,dk,sl];rfl
     ·refine Nat.eq_zero_of_not_pos fun A=>?_;rw [(j A).1] at m;cases m
   ·cases h
  ·split at h
   ·cases h;cases i with
    | os pl hm j k p =>
     rename_i cap a;refine g _ _ aD aD ⟨.bool a.isNone,?_,.bn _ fun m=>?_⟩
     ·simp only [binOp,dk,sl];rfl
     ·refine Nat.eq_zero_of_not_pos fun A=>?_;rw [j ad] at m;cases m
   ·cases h
  ·cases h
 ·rename_i e q;split at h
  ·rename_i d;have C:u=.pointer none:=by
    unfold agP at d;split at d
    ·split at d
     ·exact gh s
     ·cases d
    ·cases d
   subst C;have pt:∀ (a:Option Addr),(Op.equal t (.pointer a) (.pointer none)).run P w=.ok a.isNone w:=by
    intro a;unfold Op.equal Op.maxDepth Op.equalIn;rw [dk,run_underlying q];cases a<;>rfl
   split at h
   ·split at h
    ·have:=gh i;subst this;exact g _ _ aD aD (LY (pt none) h)
    ·cases h
   ·cases i;exact g _ _ aD aD (LY (pt (some _)) h)
   ·cases i;exact g _ _ aD aD (LY (pt (some _)) h)
   ·rename_i b cs;cases i with
    | pt j k =>
     cases b with
     | true =>
      have:=j rfl;cases this;exact g _ _ aD aD (LY (pt (some _)) h)
     | false =>
      rw [k rfl];exact g _ _ aD aD (LY (pt none) h)
   ·cases h
  ·cases h
 ·cases h
def nqB:Option Bool->Bool
 | some b=>b
 | none=>false
theorem anX {op:BinOp} {t e:TypeId} {st:Option Bool} {x:AV} {g i:Operand} {v u:Value} (j:P.underlying t=some (.slice e)) (k:aE w S μ v (.nq st x)) (l:aE w S μ u .nil) {n:Nat}
  (m:∃ a c,v=.slice a n c/\(0 < n->a.isNone=false)) (o:st=none->0 < n) {r:AV} (h:QL op (nqB st)=some r) :
  ∃ z,(do eqGuard op t g i v u;binOp op t v u:Sem Value).run P w=.ok z w/\aE w S μ z r:=by
 obtain ⟨a,c,rfl,p⟩:=m;cases l;have hq:a.isNone=nqB st:=by
  cases k with
  | nq _ d f =>
   cases st with
   | none=>exact p (o rfl)
   | some b=>cases b with
    | true=>have:=d rfl;injection this with q;subst q;rfl
    | false=>have:=f rfl;cases a with
     | none=>cases this
     | some a=>rfl
 have s:=uX (P:=P) (w:=w) op t g i (.slice a n c) (.slice none 0 0) aD aD;have he:(Op.equal t (.slice a n c) (.slice none 0 0)).run P w=.ok (nqB st) w:=by
  rw [<- hq];unfold Op.equal Op.maxDepth Op.equalIn;rw [dk,run_underlying j];cases a<;>rfl
 obtain ⟨z,d,f⟩:=adp (S:=S) (μ:=μ) he h;exact ⟨z,by simpa only [dk,s,fZ] using d,f⟩
def agS (P:Program) (op:BinOp) (t:TypeId) (x y:AV):Option (List Prop×AV) :=
 match x,y with
 | .atom (.int k a),.atom (.int k' b)=>match op with
  | .shl=>Qk .shl k a b
  | .shr=>Qk .shr k a b
  | op=>match decide (k=k') with
   | true=>anV op k a b
   | false=>none
 | .atom (.string a),.atom (.string b)=>anW op a b
 | .atom (.bool _),.atom (.bool _)=>match op with
  | .eql=>(Nj P 1 t x y).map fun b=>([],.atom (.bool b))
  | .neq=>(Nj P 1 t x y).map fun b=>([],.atom (.bool (!b)))
  | _=>none
 | .agg _,.agg _=>match P.eqGuardType P.depth t with
  | false=>match op with
   | .eql=>(Nj P 60 t x y).map fun b=>([],.atom (.bool b))
   | .neq=>(Nj P 60 t x y).map fun b=>([],.atom (.bool (!b)))
   | _=>none
  | true=>none
 | .nq st x,.nil=>match P.underlying t,x with
  | some (.slice _),.sl n _=>(QL op (nqB st)).map fun v=>([st=none->0 < n],v)
  | some (.slice _),.os _ _ n=>(QL op (nqB st)).map fun v=>([st=none->0 < n],v)
  | _,_=>none
 | x,y=>(agQ P op t x y).map fun v=>([],v)
theorem ao2 {op:BinOp} {t:TypeId} {x y:AV} {l m:Operand} {v u:Value} (c:aE w S μ v x) (d:aE w S μ u y) {ps:List Prop} {r:AV} (h:agS P op t x y=some (ps,r)) (p:bO ps) :
  ∃ z,(do eqGuard op t l m v u;binOp op t v u:Sem Value).run P w=.ok z w/\aE w S μ z r:=by
 unfold agS at h;split at h
 ·rename_i k a k' b;have:=gh c;subst this;have:=gh d;subst this;have i:=uX (P:=P) (w:=w) op t l m (.int k a) (.int k' b) aD aD;simp only [dk,i,fZ];have D:∀ o,(o=.shl\/o=.shr)->Qk o k a b=some (ps,r)->∃ z,(binOp o t (.int k a) (.int k' b)).run P w=.ok z w/\aE w S μ z r:=by
   intro o F h;rcases F with rfl | rfl<;>simp only [Qk,bu,bk] at h<;>obtain ⟨rfl,rfl⟩:=h <;>
    (have j:¬ b < 0:=by have:=p.1;omega)<;>exact ⟨_,by simp [binOp,Op.shift,j],.atom _⟩
  split at h
  ·exact D .shl (.inl rfl) h
  ·exact D .shr (.inr rfl) h
  ·rename_i G H;split at h
   ·rename_i s;have s:=nH s;subst s;cases op<;>simp only [anV,bu,bk,reduceCtorEq] at h <;>
     first
      | exact absurd rfl G
      | exact absurd rfl H
      | (obtain ⟨rfl,rfl⟩:=h
         exact ⟨_,by
         first
          | (simp [binOp,Op.intArith];done)
          | (have hb:¬ b=0:=p.1
             simp [binOp,Op.intDiv,hb];done)
          | (simp [binOp,Op.intBits];done)
          | (simp [binOp,Op.intCmp];done),.atom _⟩)
   ·cases h
 ·rename_i a b;have:=gh c;subst this;have:=gh d;subst this;have i:=uX (P:=P) (w:=w) op t l m (.string a) (.string b) aD aD;simp only [dk,i,fZ];cases op<;>simp only [anW,bu,bk,reduceCtorEq] at h<;>obtain ⟨rfl,rfl⟩:=h
  ·have j:¬ ((a.size+b.size:Nat):Int) > IntKind.i64.max:=by have:=p.1;omega
   exact ⟨_,by simp only [binOp,Op.stringOp,if_neg j];rfl,.atom _⟩
  all_goals exact ⟨_,by simp only [binOp,Op.stringOp];rfl,.atom _⟩
 ·rename_i a b;have:=gh c;subst this;have:=gh d;subst this;have i:=uX (P:=P) (w:=w) op t l m (.bool a) (.bool b) aD aD;simp only [dk,i,fZ];split at h
  ·simp only [bE,bk] at h;obtain ⟨q,hq,rfl,rfl⟩:=h;have:=(Y1 (w:=w) (S:=S) (μ:=μ) 1).1 10000 t _ _ _ _ q ad c d hq;exact ⟨_,by simp only [binOp,Op.equal,Op.maxDepth,dk,this];rfl,.atom _⟩
  ·simp only [bE,bk] at h;obtain ⟨q,hq,rfl,rfl⟩:=h;have:=(Y1 (w:=w) (S:=S) (μ:=μ) 1).1 10000 t _ _ _ _ q ad c d hq;exact ⟨_,by simp only [binOp,Op.equal,Op.maxDepth,dk,this];rfl,.atom _⟩
  ·cases h
 ·split at h
  ·rename_i A;obtain ⟨vs,rfl,M,N⟩:=ue c;obtain ⟨I,rfl,J,O⟩:=ue d;have i:=run_eqGuard_agg (P:=P) w op t l m vs I A;simp only [dk,i,fZ];split at h
   ·simp only [bE,bk] at h;obtain ⟨q,hq,rfl,rfl⟩:=h;have:=(Y1 (w:=w) (S:=S) (μ:=μ) 60).1 10000 t _ _ _ _ q ad c d hq;exact ⟨_,by rw [run_eql_struct,this];rfl,.atom _⟩
   ·simp only [bE,bk] at h;obtain ⟨q,hq,rfl,rfl⟩:=h;have:=(Y1 (w:=w) (S:=S) (μ:=μ) 60).1 10000 t _ _ _ _ q ad c d hq;exact ⟨_,by rw [run_neq_struct,this];rfl,.atom _⟩
   ·cases h
  ·cases h
 ·split at h
  ·rename_i e n g B;simp only [bE,bk] at h;obtain ⟨q,hq,rfl,rfl⟩:=h;refine anX B c d (n:=n) ?_ p.1 hq;cases c with
   | nq j _ _=>cases j with
    | sl b off sz f C K L Q R=>exact ⟨_,_,rfl,fun E=>by rw [(C E).1];rfl⟩
  ·rename_i e k o n B;simp only [bE,bk] at h;obtain ⟨q,hq,rfl,rfl⟩:=h;refine anX B c d (n:=n) ?_ p.1 hq;cases c with
   | nq j _ _=>cases j with
    | os pl hm C K L=>exact ⟨_,_,rfl,fun E=>by rw [C ad];rfl⟩
  ·cases h
 ·simp only [bE,bk] at h;obtain ⟨q,hq,rfl,rfl⟩:=h;exact ao1 c d hq
def ao4 (op:UnOp) (x:AV):Option AV :=
 match op,x with
 | .neg,.atom (.int k n)=>some (.atom (.int k (k.wrap (0 - n))))
 | .not,.atom (.bool b)=>some (.atom (.bool (!b)))
 | _,_=>none
theorem arO {op:UnOp} {x:AV} {v:Value} (a:aE w S μ v x) {r:AV} (h:ao4 op x=some r):∃ z,(Op.unary op v).run P w=.ok z w/\aE w S μ z r:=by
 unfold ao4 at h;split at h<;>cases h<;>(have:=gh a;subst this)
 ·exact ⟨_,by rfl,.atom _⟩
 ·exact ⟨_,by simp [Op.unary],.atom _⟩
def aba (P:Program) (a dst:TypeId) (x:AV):Option AV :=
 match P.underlying a,P.underlying dst,x with
 | some _,some (.int k),.atom (.int _ n)=>some (.atom (.int k (k.wrap n)))
 | some _,some .string,.atom (.string s)=>some (.atom (.string s))
 | _,_,_=>none
theorem al0 {a dst:TypeId} {x:AV} {v:Value} (b:aE w S μ v x) {r:AV} (h:aba P a dst x=some r):∃ z,(convert a dst v).run P w=.ok z w/\aE w S μ z r:=by
 unfold aba at h;split at h
 ·rename_i c d;cases h;have:=gh b;subst this;exact ⟨_,by simp_all [convert,run_underlying,Conv.intToInt],.atom _⟩
 ·rename_i c d;cases h;have:=gh b;simp_all [convert,run_underlying]
 ·cases h
end
end Go.Ab
namespace Go.Ab
abbrev Ae:=List (Nat×Option Ob)
def Step (P:Program) (E:Env) (nk:Nat) (σ:gp) (S:Nat->Prop) (μ:Mu) (w:World) (s:Sem Value) (val:AV) (upd:Ae):Prop :=
 ∃ v w' S' gn,s.run P w=.ok v w'/\Ext w S μ w' S' gn/\Good E (js σ upd) S' gn w'/\(∀ k,k≠nk->μ k=none->gn k=none)/\aE w' S' gn v val
def RL (w:World) (S:Nat->Prop) (μ:Mu) (vs:Array Value) (cs:List AV):Prop :=
 vs.size=cs.length/\∀ (j:Nat) (c:AV) (v:Value),cs[j]?=some c->vs[j]?=some v->aE w S μ v c
section
variable {P:Program} {E:Env} {nk:Nat} {σ:gp} {S:Nat->Prop} {μ:Mu} {w:World}
theorem Step.pure (g:Good E σ S μ w) {s:Sem Value} {v:Value} {val:AV} (h:s.run P w=.ok v w) (a:aE w S μ v val):Step P E nk σ S μ w s val [] :=
 ⟨v,w,S,μ,h,Ext.refl w S μ,g,fun _ _ h=>h,a⟩
theorem RL.mk' {vs:Array Value} {cs:List AV} (h:RL w S μ vs cs):aE w S μ (.agg vs) (.agg cs):=.agg h.1 h.2
theorem RL.pr {vs:Array Value} {cs:List AV} (h:RL w S μ vs cs) {j:Nat} {c:AV} {v:Value} (a:cs[j]?=some c) (b:vs[j]?=some v) :
  aE w S (if AV.qL cs then lI else μ) v c:=by
 split
 ·rename_i d;exact (h.2 j c v a b).pure (yu d a) lI
 ·exact h.2 j c v a b
theorem tB {k n:Nat} (pl:Place) (h:n≠k):dQ μ k pl n=μ n:=by simp [dQ,h]
theorem Step.anZ (g:Good E σ S μ w) (c:μ nk=none) (hm:E.m0<=nk) {s:Sem Value} {vs:Array Value} {T:TypeId} {cs:List AV}
  (h:s.run P w=.ok (.pointer (some ⟨w.heap.size,0,none⟩)) (w.alloc (.cells vs T))) (a:RL w S μ vs cs) (f:1<=cs.length) :
  Step P E nk σ S μ w s (.op nk 0 0) [(nk,some ⟨true,cs.length,1,AV.qL cs,fun _=>cs⟩)]:=by
 have b:=g.alloc c hm vs T ⟨true,cs.length,1,AV.qL cs,fun _=>cs⟩ 1 (by simp [a.1]) (aH _) (fun _ _=>rfl) (fun i j x v hi d e=>by
  have:i=0:=by simp at hi;exact hi
  subst this;exact a.pr d (by simpa using e)) (by grind) (fun i=>tA rfl i)
 refine ⟨_,_,_,_,h,b.1,b.2,fun k l m=>by grind [tB],?_⟩;have:=aE.op (w:=w.alloc (.cells vs T)) (S:=S) (k:=nk) (i:=0) (j:=0) (μ:=dQ μ nk ⟨w.heap.size,1,cs.length⟩) ⟨w.heap.size,1,cs.length⟩ (by simp [dQ]);simpa using this
def Wl (P:Program) (nk:Nat) (T:TypeId):Option (AV×Ae) :=
 match AP P T with
 | some z=>match Nat.ble 1 (z.cells.toList.map jZ).length with
  | true=>some (.op nk 0 0,[(nk,some ⟨true,(z.cells.toList.map jZ).length,1,AV.qL (z.cells.toList.map jZ),fun _=>z.cells.toList.map jZ⟩)])
  | false=>none
 | none=>none
theorem HA (vs:Array Value):RL w S μ vs (vs.toList.map jZ) :=
 ⟨aD,fun j c v a d=>by
  have b:vs.toList[j]?=some v:=by simpa using d
  rw [List.getElem?_map,b] at a;simp at a;exact a ▸ Kk w S μ v⟩
theorem agT (g:Good E σ S μ w) (a:μ nk=none) (hm:E.m0<=nk) {T:TypeId} {val:AV} {upd:Ae} (h:Wl P nk T=some (val,upd)) :
  Step P E nk σ S μ w (Instr.alloc T true (.tuple #[])) val upd:=by
 unfold Wl at h;split at h
 ·rename_i z b;split at h
  ·rename_i hb;cases h;exact Step.anZ g a hm (vs:=z.cells) (T:=T) (by simp [Instr.alloc,UY b,newVar,newRow]) (HA _) (Nat.le_of_ble_eq_true hb)
  ·cases h
 ·cases h
def agU (nk:Nat) (x:AV):Option (AV×Ae) :=
 match x.cells with
 | some cs=>match Nat.ble 1 cs.length with
  | true=>some (.op nk 0 0,[(nk,some ⟨true,cs.length,1,AV.qL cs,fun _=>cs⟩)])
  | false=>none
 | none=>none
theorem ao5 (g:Good E σ S μ w) (a:μ nk=none) (hm:E.m0<=nk) {T:TypeId} {x:AV} {v:Value} (b:aE w S μ v x) {val:AV} {upd:Ae} (h:agU nk x=some (val,upd)) :
  Step P E nk σ S μ w (Instr.box T v) val upd:=by
 unfold agU at h;split at h
 ·rename_i cs c;split at h
  ·rename_i hb;cases h;exact Step.anZ g a hm (vs:=v.cells) (T:=T) (by rfl) (b.cells c) (Nat.le_of_ble_eq_true hb)
  ·cases h
 ·cases h
def vM (cs:List AV) (off:Nat) (a:List AV):List AV:=cs.take off ++ (a ++ cs.drop (off+a.length))
theorem BC (cs:List AV) (off:Nat) (a:List AV) (h:off+a.length<=cs.length) (m:Nat) :
  (vM cs off a)[m]?=if off<=m/\m < off+a.length then a[m - off]? else cs[m]?:=by
 have b:(cs.take off).length=off:=by simp;omega
 unfold vM;grind
theorem uY (cs:List AV) (off:Nat) (a:List AV) (h:off+a.length<=cs.length):(vM cs off a).length=cs.length:=by
 simp [vM];omega
theorem foldl_set (off:Nat):∀ (a:List Value) (s:Nat) (vs:Array Value),
  ((a.zipIdx s).foldl (fun cs x=>cs.setIfInBounds (off+x.2) x.1) vs).size=vs.size /\
  ∀ m,((a.zipIdx s).foldl (fun cs x=>cs.setIfInBounds (off+x.2) x.1) vs)[m]?=if off+s<=m/\m < off+s+a.length/\m < vs.size then a[m - (off+s)]? else vs[m]?
 | [],s,vs=>⟨rfl,fun m=>by simp;intro b c;omega⟩
 | u :: a,s,vs=>by
  obtain ⟨b,c⟩:=foldl_set off a (s+1) (vs.setIfInBounds (off+s) u);simp only [List.zipIdx_cons,List.foldl_cons];grind
theorem RL.vM {vs a:Array Value} {cs i:List AV} (h:RL w S μ vs cs) (k:RL w S μ a i) {off:Nat} (b:off+i.length<=cs.length) :
  RL w S μ (a.zipIdx.foldl (fun cs (c,j)=>cs.setIfInBounds (off+j) c) vs) (vM cs off i):=by
 have f:=foldl_set off a.toList 0 vs;have e:a.zipIdx.foldl (fun cs (c,j)=>cs.setIfInBounds (off+j) c) vs=(a.toList.zipIdx 0).foldl (fun cs x=>cs.setIfInBounds (off+x.2) x.1) vs:=by
  rw [<- Array.foldl_toList];simp
 rw [e];refine ⟨by rw [f.1,h.1,uY _ _ _ b],?_⟩;intro j c v d g;rw [f.2 j] at g;rw [BC _ _ _ b] at d;have m:=k.1;have n:=h.1
 by_cases l:off<=j/\j < off+i.length
 ·rw [if_pos l] at d;rw [if_pos (by simp;omega)] at g;exact k.2 (j - off) c v d (by simpa using g)
 ·rw [if_neg l] at d;rw [if_neg (by simp;omega)] at g;exact h.2 j c v d g
def J4 (place:Nat->Option (Nat×Nat)) (cells:List AV):List (Nat×AV)->Option (List AV)
 | []=>some cells
 | (i,x) :: rest =>
  match place i,x.cells with
  | some (off,size),some a=>match Nat.beq a.length size && Nat.ble (off+a.length) cells.length with
   | true=>J4 place (vM cells off a) rest
   | false=>none
  | _,_=>none
theorem LZ (place:Nat->Option (Nat×Nat)):∀ (parts:List (Nat×AV)) (e:List (Nat×Value)) (vs:Array Value) (cs out:List AV),
  e.map (·.1)=parts.map (·.1)->(∀ (j:Nat) x y,parts[j]?=some x->e[j]?=some y->aE w S μ y.2 x.2)->RL w S μ vs cs->J4 place cs parts=some out ->
  ∃ f,Instr.fill place vs e=some f/\RL w S μ f out
 | [],e,vs,cs,out,hi,_,h,c=>by
  simp at hi;subst hi;simp [J4] at c;subst c;exact ⟨vs,rfl,h⟩
 | (i,x) :: rest,e,vs,cs,out,hi,k,h,c=>by
  obtain ⟨⟨i',v⟩,g,rfl⟩:∃ a b,e=a :: b:=by
   cases e with
   | nil=>simp at hi
   | cons a b=>exact ⟨a,b,rfl⟩
  simp at hi;obtain ⟨rfl,hi⟩:=hi;have l:aE w S μ v x:=k 0 (i',x) (i',v) rfl rfl;simp only [J4] at c;split at c
  ·rename_i off size q r m;split at c
   ·rename_i hb;simp only [cy,Nat.ble_eq] at hb;have s:=dp hb.1;have d:=l.cells m;obtain ⟨f,t,n⟩:=LZ place rest g _ _ out hi (fun j x y o p=>k (j+1) x y (by simpa using o) (by simpa using p)) (h.vM ⟨d.1,d.2⟩ hb.2) c;refine ⟨f,?_,n⟩;have c1:¬ v.cells.size≠size:=by rw [d.1];omega
    have u:¬ off+v.cells.size > vs.size:=by rw [d.1,h.1];omega
    simp_all [Instr.fill,if_neg,Bool.or_eq_true,decide_eq_true_eq,not_or]
   ·cases c
  ·cases c
def Wm (P:Program) (t:TypeId) (parts:List (Nat×AV)):Option AV :=
 match AP P t,P.underlying t with
 | some z,some (.struct fs)=>match fs.toList.mapM fun f=>(Ct P f.type).map fun n=>(f.offset,n) with
  | some a=>(J4 (a[·]?) (z.cells.toList.map jZ) parts).map .agg
  | none=>none
 | some z,some (.array _ e)=>match Ct P e with
  | some n=>(J4 (fun i=>some (i * n,n)) (z.cells.toList.map jZ) parts).map .agg
  | none=>none
 | _,_=>none
theorem agV {t:TypeId} {parts:List (Nat×AV)} {b:Array (Nat×Value)} (hi:b.toList.map (·.1)=parts.map (·.1))
  (k:∀ (j:Nat) x y,parts[j]?=some x->b.toList[j]?=some y->aE w S μ y.2 x.2) {r:AV} (h:Wm P t parts=some r) :
  ∃ v,(Instr.build t b).run P w=.ok v w/\aE w S μ v r:=by
 unfold Wm at h;split at h
 ·rename_i z fs d hu;split at h
  ·rename_i o p;simp only [bE] at h;obtain ⟨out,f,rfl⟩:=h;obtain ⟨c,m,g⟩:=LZ (w:=w) (S:=S) (μ:=μ) _ parts b.toList z.cells _ out hi k (HA _) f;refine ⟨.agg c,run_build w t b c ?_,g.mk'⟩;have a:=d;unfold AP at a;cases hi:P.info? t with
   | none=>simp [hi] at a
   | some i =>
    simp_all [Program.built,Ct,Function.comp_def]
  ·cases h
 ·rename_i z n e d hu;split at h
  ·rename_i n' l;simp only [bE] at h;obtain ⟨out,f,rfl⟩:=h;obtain ⟨c,m,g⟩:=LZ (w:=w) (S:=S) (μ:=μ) _ parts b.toList z.cells _ out hi k (HA _) f;refine ⟨.agg c,run_build w t b c ?_,g.mk'⟩;have a:=d;unfold AP at a;unfold Ct at l;cases hi:P.info? t with
   | none=>simp [hi] at a
   | some i =>
    simp [hi] at a;cases he:P.info? e with
    | none=>simp [he] at l
    | some q =>
     simp_all [Program.built]
  ·cases h
 ·cases h
end
section
variable {P:Program} {E:Env} {nk:Nat} {σ:gp} {S:Nat->Prop} {μ:Mu} {w:World}
theorem Step.agW (g:Good E σ S μ w) (d:μ nk=none) (hm:E.m0<=nk) {s:Sem Value} {vs:Array Value} {T:TypeId} {len cap sz:Nat} {pr:Bool} {get:Nat->List AV}
  (h:s.run P w=.ok (.slice (some ⟨w.heap.size,0,none⟩) len cap) (w.alloc (.cells vs T))) (e:cap * sz<=vs.size) (a:len<=cap)
  (f:∀ i,i < len->(get i).length=sz)
  (l:∀ i j x v,i < len->(get i)[j]?=some x->vs[i * sz+j]?=some v->aE w S (if pr then lI else μ) v x) (m:sz≠0) (b:∀ i,rowOf ⟨false,sz,len,pr,get⟩ i=none) :
  Step P E nk σ S μ w s (.os nk 0 len) [(nk,some ⟨false,sz,len,pr,get⟩)]:=by
 have c:=g.alloc d hm vs T ⟨false,sz,len,pr,get⟩ cap e a f l m b;refine ⟨_,_,_,_,h,c.1,c.2,fun k n o=>by grind [tB],?_⟩;simp_all [aE.os,dQ]
def AV.al1:AV->Bool
 | .mr _ _ _=>true
 | _=>false
def uE:List AV->Bool
 | []=>true
 | c :: cs=>!c.al1 && uE cs
theorem UZ:∀ {cs:List AV},uE cs=true->∀ c∈cs,c.al1=false
 | [],_,c,h=>by simp at h
 | a :: cs,h,c,b=>by
  simp only [uE,cy,Bool.not_eq_true'] at h;rcases rJ.1 b with rfl | b
  ·exact h.1
  ·exact UZ h.2 c b
theorem abb (v:Value):(jZ v).al1=false:=by
 unfold jZ;split
 ·rfl
 ·split<;>rfl
 ·rfl
theorem HC {o:Ob} {l:List AV} (h:∀ i,i < o.len->∀ c∈o.get i,c∈l) (a:∀ c∈l,c.al1=false) (i:Nat):rowOf o i=none:=by
 cases b:rowOf o i with
 | none=>rfl
 | some x =>
  obtain ⟨_,d,e⟩:=gF b;have:=a _ (h i d (.mr x.1 x.2.1 x.2.2) (by simp_all));cases this
theorem xf {o:Ob} (h:∀ i,i < o.len->AV.xe (o.get i)=true) (i:Nat):rowOf o i=none:=by
 cases a:rowOf o i with
 | none=>rfl
 | some x =>
  obtain ⟨_,b,c⟩:=gF a;have:=h i b;rw [c] at this;cases this
def sG (P:Program) (t:TypeId):Option TypeId :=
 match P.underlying t with
 | some (.slice e)=>some e
 | _=>none
theorem pN {t e:TypeId} (h:sG P t=some e):P.underlying t=some (.slice e):=by
 grind [sG]
def rows (n:Nat):Nat->List AV->List (List AV)
 | 0,_=>[]
 | k+1,cs=>cs.take n :: rows n k (cs.drop n)
theorem Y3 (n:Nat):∀ (k:Nat) (cs:List AV) (i:Nat),i < k->(rows n k cs)[i]?=some ((cs.drop (i * n)).take n)
 | 0,_,i,h=>ad
 | k+1,cs,0,_=>by simp [rows]
 | k+1,cs,i+1,h=>by
  simp only [rows,Qj];rw [Y3 n k (cs.drop n) i ad,List.drop_drop];grind
theorem Nl (n k:Nat) (cs:List AV) (i:Nat) (h:i < k):(rows n k cs).getD i []=(cs.drop (i * n)).take n:=by
 rw [lH,Y3 n k cs i h];rfl
def Pd (z:List AV):Nat->List AV
 | 0=>[]
 | k+1=>z ++ Pd z k
theorem Fv (z:List AV):∀ k,(Pd z k).length=k * z.length
 | 0=>by simp [Pd]
 | k+1=>by simp [Pd,Fv z k,eS];omega
theorem U0 (z:List AV) (b:z.length≠0):∀ (k j:Nat),j < k * z.length->(Pd z k)[j]?=z[j % z.length]?
 | 0,j,h=>by simp at h
 | k+1,j,h=>by
  simp only [Pd]
  by_cases a:j < z.length
  ·rw [mg a,Nat.mod_eq_of_lt a]
  ·rw [o5 ad,U0 z b k (j - z.length) (by grind)];congr 1
   conv=>rhs;rw [show j=(j - z.length)+z.length by omega]
   simp
theorem agX {z:Value} {n:Nat} (b:z.cells.size=n) (i:n≠0) (k:Nat) (c:Array Value) (g:c=(Array.range (k * n)).map (z.cells[· % z.cells.size]!)) :
  RL w S μ c (Pd (z.cells.toList.map jZ) k):=by
 subst g;have d:(z.cells.toList.map jZ).length=n:=by simp [b]
 refine ⟨by simp [Fv,b],?_⟩;intro j x v e a;have f:j < k * n:=by
  have:=(Array.getElem?_eq_some_iff.1 a).1;simpa using this
 rw [U0 _ ad k j (by rw [d];exact f),d] at e;have h:j % n < z.cells.size:=by rw [b];exact Nat.mod_lt _ ad
 have l:v=z.cells[j % n]:=by
  simp only [Array.getElem?_map] at a;rw [Array.getElem?_range,if_pos f] at a;simp at a;rw [<- a,b];simp [getElem!_pos,h]
 refine (HA (w:=w) (S:=S) (μ:=μ) z.cells).2 (j % n) x v e ?_;simp_all
def Fw (P:Program) (nk:Nat) (t:TypeId) (len:Nat) (parts:List (Nat×AV)):Option (AV×Ae) :=
 match sG P t with
 | some e=>match Ct P e,Ft P e,AP P e with
  | some n,some _,some z=>match Nat.ble 1 (len * n) && Nat.ble (len * n) 16777216 && Nat.beq z.cells.size n with
   | true=>match J4 (fun i=>some (i * n,n)) (Pd (z.cells.toList.map jZ) len) parts with
    | some cs=>match uE cs with
     | true=>some (.os nk 0 len,[(nk,some ⟨false,n,len,AV.qL cs,fun i=>(rows n len cs).getD i []⟩)])
     | false=>none
    | none=>none
   | false=>match Nat.beq len 0 && Nat.ble 1 n with
    | true=>some (.os nk 0 0,[(nk,some ⟨false,n,0,true,fun _=>[]⟩)])
    | false=>none
  | _,_,_=>none
 | none=>none
theorem PF {t e:TypeId} {n:Nat} (he:P.underlying t=some (.slice e)) (a:Ct P e=some n) (w:World) :
  (Instr.buildSlice t 0 #[]).run P w=.ok (.slice (some ⟨w.heap.size,0,none⟩) 0 0) (w.alloc (.cells #[] e)):=by
 simp [Instr.buildSlice,run_underlying he,jg a,Instr.fill,newRow,Array.range_zero']
theorem Uk (g:Good E σ S μ w) (F:μ nk=none) (hm:E.m0<=nk) {t:TypeId} {len:Nat} {parts:List (Nat×AV)} {a:Array (Nat×Value)} (hi:a.toList.map (·.1)=parts.map (·.1))
  (J:∀ (j:Nat) x y,parts[j]?=some x->a.toList[j]?=some y->aE w S μ y.2 x.2) {val:AV} {upd:Ae} (h:Fw P nk t len parts=some (val,upd)) (d:len=0->parts=[]) :
  Step P E nk σ S μ w (Instr.buildSlice t len a) val upd:=by
 unfold Fw at h;split at h
 ·rename_i e he;have he:=pN he;split at h
  ·rename_i n b z G hb K;split at h
   ·rename_i A;simp only [cy,Nat.ble_eq] at A;have m:=dp A.2;split at h
    ·rename_i cs o;split at h
     case h_2=>cases h
     rename_i B;cases h;have q:n≠0:=by rintro rfl;simp at A
     have k:=agX (w:=w) (S:=S) (μ:=μ) m q len _ rfl;obtain ⟨H,L,C⟩:=LZ (w:=w) (S:=S) (μ:=μ) _ parts a.toList _ _ cs hi J k o;obtain ⟨f,M,N,O,D⟩:=Fu G hb K;subst N;have Q:=run_buildSlice w t e len a H f z he M D ad ad L;have r:H.size=len * f.size:=by
      have:=C.1;have R:∀ (parts:List (Nat×AV)) (cs out:List AV),J4 (fun i=>some (i * f.size,f.size)) cs parts=some out->out.length=cs.length:=by
       intro parts
       induction parts with
       | nil=>intro cs out h;simp [J4] at h;rw [h]
       | cons p ps T =>
        intro cs out h;simp only [J4] at h;split at h
        ·split at h
         ·rename_i I;simp only [cy,Nat.ble_eq] at I;rw [T _ _ h,uY _ _ _ I.2]
         ·cases h
        ·cases h
      rw [this,R _ _ _ o,Fv];simp [m]
     refine Step.agW g F hm Q (by rw [r];exact aH _) (aH _) ?_ ?_ q (HC (l:=cs) (fun i hi c u=>by
      have u:c∈(rows f.size len cs).getD i []:=u;rw [Nl _ _ _ _ hi] at u;exact List.mem_of_mem_drop (List.mem_of_mem_take u)) (UZ B))
     ·intro i hi;rw [Nl _ _ _ _ hi];have:=C.1;have:(i+1) * f.size<=len * f.size:=dU _ hi;rw [eS] at this;simp;omega
     ·intro i j x v hi s U;rw [Nl _ _ _ _ hi,xa] at s;split at s
      ·rw [vz] at s;exact C.pr s U
      ·cases s
    ·cases h
   ·split at h
    ·rename_i k;cases h;simp only [cy,Nat.ble_eq] at k;obtain ⟨k,V⟩:=k;have:=dp k;subst this;have d:=d rfl;subst d;have:a=#[]:=by
      have:a.toList=[]:=by simpa using hi
      exact Array.toList_eq_nil_iff.1 this
     subst this;exact Step.agW g F hm (PF he G w) aD (aH _) (fun i hi=>absurd hi (iq _)) (fun i j x v hi=>absurd hi (iq _)) ad (fun i=>rfl)
    ·cases h
  ·cases h
 ·cases h
def abd (P:Program) (nk:Nat) (t:TypeId) (l c:AV):Option (List Prop×AV×Ae) :=
 match sG P t,l,c with
 | some e,.atom (.int _ l),.atom (.int _ c)=>match Ct P e,Ft P e,AP P e with
  | some n,some b,some z=>match Nat.ble 1 n && Nat.beq z.cells.size n with
   | true=>some ([0<=l,l<=c,(b:Int) * c<=281474976710656,c<=9223372036854775807],.os nk 0 l.toNat,
     [(nk,some ⟨false,n,l.toNat,AV.qL (z.cells.toList.map jZ),fun _=>z.cells.toList.map jZ⟩)])
   | false=>none
  | _,_,_=>none
 | _,_,_=>none
theorem al2 (g:Good E σ S μ w) (A:μ nk=none) (hm:E.m0<=nk) {t:TypeId} {l c:AV} {r s:Value} (B:aE w S μ r l) (m:aE w S μ s c)
  {ps:List Prop} {val:AV} {upd:Ae} (h:abd P nk t l c=some (ps,val,upd)) (C:bO ps) :
  Step P E nk σ S μ w (Instr.makeSlice t r s) val upd:=by
 unfold abd at h;split at h
 ·rename_i e k l k' c he;have he:=pN he;have:=gh B;subst this;have:=gh m;subst this;split at h
  ·rename_i n b z D hb F;split at h
   ·rename_i u;cases h;simp only [cy,Nat.ble_eq] at u;have a:=dp u.2;obtain ⟨G,H,I,J,_⟩:=C;obtain ⟨f,K,L,p,q⟩:=Fu D hb F;subst L p;have M:=run_make (P:=P) w t e f z he K q k k' l c G H I J;refine Step.agW g A hm M (by rw [size_madeCells];exact aH _) ad (fun _ _=>by simp [a]) ?_ ad (HC (l:=z.cells.toList.map jZ) (fun _ _ c m=>m) (fun c m=>by
     obtain ⟨v,_,rfl⟩:=List.mem_map.1 m;exact abb v))
    intro i j x v hi y d;have N:j < f.size:=by
     have:=(gW.1 y).1;simpa [a] using this
    have O:z.cells[j]?=some v:=by
     unfold madeCells at d;simp only [Array.getElem?_map] at d;have Q:i * f.size+j < c.toNat * f.size:=by
      have:(i+1) * f.size<=c.toNat * f.size:=dU _ ad;rw [eS] at this;omega
     rw [Array.getElem?_range,if_pos Q] at d;simp only [Option.map_some,bu] at d;rw [a,rK i,Nat.mul_add_mod,Nat.mod_eq_of_lt N] at d;have o:j < z.cells.size:=ad;rw [mT o];rw [getElem!_pos z.cells j o] at d;exact congrArg some d
    exact (HA (w:=w) (S:=S) (μ:=μ) z.cells).pr y O
   ·cases h
  ·cases h
 ·cases h
def ldv (agg:Bool) (n:Nat) (cs:List AV) (j:Nat):Option AV :=
 match Nat.ble (j+n) cs.length with
 | true=>match agg with
  | true=>some (.agg ((cs.drop j).take n))
  | false=>cs[j]?
 | false=>none
theorem Qm {T:TypeId} {d:TypeDesc} {n:Nat} (e:P.underlying T=some d) (g:Ct P T=some n) {cs:List AV} {j:Nat} {x:AV} (h:ldv d.isRow n cs j=some x) (b o:Nat)
  (f:Nat->Value) (l:∀ i,i < cs.length->w.cell? ⟨b,o+i,none⟩=some (f i)) (m:∀ (i:Nat) c,cs[i]?=some c->aE w S μ (f i) c) :
  ∃ v,(Instr.loadAt T (.pointer (some ⟨b,o+j,none⟩))).run P w=.ok v w/\aE w S μ v x:=by
 unfold ldv at h;split at h
 ·rename_i hle;simp only [Nat.ble_eq] at hle;cases a:d.isRow with
  | true =>
   simp [a] at h;have p:((List.range n).map fun i=>f (j+i)).length=n:=aD;refine ⟨.agg ((List.range n).map fun i=>f (j+i)).toArray,run_loadAt_mid w b (o+j) T _ d ?_ e a (by simpa [Ct] using g),?_⟩
   ·intro i v q;grind
   ·rw [<- h];refine .agg (by simp;omega) ?_;grind
  | false =>
   simp [a] at h;have r:j < cs.length:=(gW.1 h).1;have k:(isAgg T).run P w=.ok false w:=by
    unfold isAgg;rw [dk,run_underlying e w];cases d<;>simp_all
   simp_all [Instr.loadAt,Instr.sureAddr,loadVar]
 ·cases h
def al4 (a:IntKind):AV->Option Int
 | .atom v=>match v with
  | .int k n=>match decide (k=a) with
   | true=>some n
   | false=>none
  | _=>none
 | _=>none
def J5 (b:IntKind):Nat->List AV->Option (List Int)
 | 0,_=>some []
 | m+1,c :: cs=>match al4 b c,J5 b m cs with
  | some a,some r=>some (a :: r)
  | _,_=>none
 | _+1,[]=>none
def U1 (l:List Int) (n:Nat):Int:=l.getD n 0
def ao7 (q t:Nat) (v a:Int):Int:=if q=t then v else a
theorem adq {b:IntKind} {c:AV} {a:Int} (h:al4 b c=some a):c=.atom (.int b a):=by
 unfold al4 at h;grind
theorem Nn {b:IntKind}:∀ {m:Nat} {cs:List AV} {l:List Int},J5 b m cs=some l->∀ n,n < m->cs[n]?=some (.atom (.int b (U1 l n)))
 | 0,_,_,_,n,d=>absurd d (iq n)
 | m+1,[],_,h,_,_=>by simp [J5] at h
 | m+1,c :: cs,l,h,n,d=>by
  simp only [J5] at h;split at h
  ·rename_i a r e f;cases h;cases n with
   | zero=>simp [U1,adq e]
   | succ n =>
    have:=Nn f n ad;simpa [U1] using this
  ·cases h
def adr:AV->Option Bool
 | .atom v=>match v with
  | .bool b=>some b
  | _=>none
 | _=>none
def De:Nat->List AV->Option (List Bool)
 | 0,_=>some []
 | m+1,c :: cs=>match adr c,De m cs with
  | some a,some r=>some (a :: r)
  | _,_=>none
 | _+1,[]=>none
def U2 (l:List Bool) (n:Nat):Bool:=l.getD n false
def ao8 (q t:Nat) (v a:Bool):Bool:=if q=t then v else a
theorem Y5 {c:AV} {a:Bool} (h:adr c=some a):c=.atom (.bool a):=by
 unfold adr at h;grind
theorem Kl:∀ {m:Nat} {cs:List AV} {l:List Bool},De m cs=some l->∀ n,n < m->cs[n]?=some (.atom (.bool (U2 l n)))
 | 0,_,_,_,n,b=>absurd b (iq n)
 | m+1,[],_,h,_,_=>by simp [De] at h
 | m+1,c :: cs,l,h,n,b=>by
  simp only [De] at h;split at h
  ·rename_i a r d e;cases h;cases n with
   | zero=>simp [U2,Y5 d]
   | succ n =>
    have:=Kl e n ad;simpa [U2] using this
  ·cases h
def HD (P:Program) (σ:gp) (T:TypeId) (a:AV):Option (List Prop×AV×List Nat) :=
 match P.underlying T,Ct P T with
 | some d,some n=>match a with
  | .op k i j=>match aR σ k with
   | some o=>(ldv d.isRow n (o.get i) j).map fun x=>([i < o.len],x,[k])
   | none=>none
  | .rp cs j=>(ldv d.isRow n cs j).map fun x=>([],x,[])
  | .ov k i j m q=>match aR σ k,d with
   | some o,.int b=>match J5 b m ((o.get i).drop j) with
    | some l=>match Nat.beq n 1 with
     | true=>some ([i < o.len],.atom (.int b (U1 l q)),[k])
     | false=>none
    | none=>none
   | some o,.bool=>match De m ((o.get i).drop j) with
    | some l=>match Nat.beq n 1 with
     | true=>some ([i < o.len],.atom (.bool (U2 l q)),[k])
     | false=>none
    | none=>none
   | _,_=>none
  | _=>none
 | _,_=>none
theorem fV {o:Ob} {pl:Place} {c:Array Value} {T:TypeId} (h:kY w S μ o pl c T) {i j:Nat} (hi:i < o.len) (d:j < o.sz) :
  ∃ v,c[i * o.sz+j]?=some v/\w.cell? ⟨pl.eC,i * o.sz+j,none⟩=some v:=by
 have a:i * o.sz+j < c.size:=by
  have b:(i+1) * o.sz<=pl.cap * o.sz:=dU _ (by have:=h.len;omega);have:=h.cap;rw [eS] at b;omega
 exact ⟨c[i * o.sz+j],mT a,by rw [cell_of_row w _ _ _ _ _ ((h.eC (by have:=h.len;omega)).trans (by rw [kr ad]))];simp⟩
theorem l7 {v:Value} {x:AV} {pr:Bool} (h:aE w S (if pr then lI else μ) v x):aE w S μ v x:=by
 refine h.mono (fun _ h=>h) (fun _ _=>rfl) ?_;cases pr
 ·exact fun _ _ h=>h
 ·exact fun _ _ h=>by cases h
theorem Wn (g:Good E σ S μ w) {T:TypeId} {a:AV} {K:Value} (D:aE w S μ K a) {ps:List Prop} {x:AV} {rd:List Nat} (h:HD P σ T a=some (ps,x,rd)) (H:bO ps) :
  ∃ v,(Instr.loadAt T K).run P w=.ok v w/\aE w S μ v x:=by
 unfold HD at h;split at h
 ·rename_i d n hu F;split at h
  ·rename_i k i j;split at h
   ·rename_i o A;simp only [bE,bk] at h;obtain ⟨y,s,rfl,rfl,rfl⟩:=h;obtain ⟨pl,c,L,hm,r⟩:=g.rep.ob k o A;have hi:=H.1;cases D with
    | op oG u =>
     rw [hm] at u;cases u;rw [r.sz];have e:=r.Co i hi;refine Qm hu F s pl.eC (i * o.sz) (fun j=>(c[i * o.sz+j]?).getD undef) ?_ ?_
     ·grind [fV]
     ·intro j B p;obtain ⟨v,t,G⟩:=fV r hi (e ▸ (gW.1 p).1);rw [t];exact l7 (r.rep i j B v hi p t)
   ·cases h
  ·rename_i cs j;simp only [bE,bk] at h;obtain ⟨y,s,rfl,rfl,rfl⟩:=h;cases D with
   | rp b o f t G N =>
    exact Qm hu F s b o f G (fun i c O=>(N i c O).mono (fun _ h=>h) (fun _ _=>rfl) (fun _ _ h=>by cases h))
  ·rename_i k i j m q;split at h
   ·rename_i o M A;split at h
    ·rename_i l I;split at h
     ·rename_i C;have C:=dp C;simp only [bu,bk] at h;obtain ⟨rfl,rfl,rfl⟩:=h;obtain ⟨pl,c,L,hm,r⟩:=g.rep.ob k o A;have hi:=H.1;cases D with
      | ov oG u hq =>
       rw [hm] at u;cases u;rw [r.sz];have e:=r.Co i hi;have s:=Nn I q hq;rw [vz] at s;have J:=(gW.1 s).1;have z:ldv (TypeDesc.int M).isRow n (o.get i) (j+q)=some (.atom (.int M (U1 l q))):=by
        unfold ldv;have:Nat.ble (j+q+n) (o.get i).length=true:=by rw [Nat.ble_eq];omega
        rw [this];exact s
       refine Qm hu F z pl.eC (i * o.sz) (fun j=>(c[i * o.sz+j]?).getD undef) ?_ ?_
       ·grind [fV]
       ·intro j B p;obtain ⟨v,t,G⟩:=fV r hi (e ▸ (gW.1 p).1);rw [t];exact l7 (r.rep i j B v hi p t)
     ·cases h
    ·cases h
   ·rename_i o A;split at h
    ·rename_i l I;split at h
     ·rename_i C;have C:=dp C;simp only [bu,bk] at h;obtain ⟨rfl,rfl,rfl⟩:=h;obtain ⟨pl,c,L,hm,r⟩:=g.rep.ob k o A;have hi:=H.1;cases D with
      | ov oG u hq =>
       rw [hm] at u;cases u;rw [r.sz];have e:=r.Co i hi;have s:=Kl I q hq;rw [vz] at s;have J:=(gW.1 s).1;have z:ldv (TypeDesc.bool).isRow n (o.get i) (j+q)=some (.atom (.bool (U2 l q))):=by
        unfold ldv;have:Nat.ble (j+q+n) (o.get i).length=true:=by rw [Nat.ble_eq];omega
        rw [this];exact s
       refine Qm hu F z pl.eC (i * o.sz) (fun j=>(c[i * o.sz+j]?).getD undef) ?_ ?_
       ·grind [fV]
       ·intro j B p;obtain ⟨v,t,G⟩:=fV r hi (e ▸ (gW.1 p).1);rw [t];exact l7 (r.rep i j B v hi p t)
     ·cases h
    ·cases h
   ·cases h
  ·cases h
 ·cases h
end
def eu:Nat->Nat->Nat
 | 0,n=>n
 | m+1,n=>m+1+n
theorem fw (m n:Nat):eu m n=m+n:=by cases m<;>simp [eu]
section
variable {P:Program} {E:Env} {nk:Nat} {σ:gp} {S:Nat->Prop} {μ:Mu} {w:World}
def Ob.put (o:Ob) (i:Nat) (cs:List AV) (pr:Bool):Ob :=
 match o.var with
 | true=>{ o with pr:=o.pr && pr,get:=fun _=>cs }
 | false=>{ o with pr:=o.pr && pr,get:=fun m=>if m=i then cs else o.get m }
def spl (sz:Nat) (cs:List AV) (off:Nat) (a:List AV):List AV :=
 match Nat.beq a.length sz with
 | true=>a
 | false=>vM cs off a
theorem abe {sz:Nat} {cs:List AV} {off:Nat} {a:List AV} (h:off+a.length<=sz) (c:cs.length=sz):spl sz cs off a=vM cs off a:=by
 unfold spl;split
 ·rename_i hb;have hb:=dp hb;have b:off=0:=ad;subst b;unfold vM;rw [List.drop_eq_nil_of_le ad];simp
 ·rfl
def uZ (P:Program) (σ:gp) (T:TypeId) (a x:AV):Option (List Prop×Ae×List Nat) :=
 match a,x.cells,Ct P T with
 | .op k i j,some b,some n=>match aR σ k with
  | some o=>match Nat.beq b.length n && AV.xe b && Nat.ble (j+n) o.sz && (!o.var || Nat.beq o.len 1) && Nat.ble 1 o.sz with
   | true=>some ([i < o.len],[(k,some (o.put i (spl o.sz (o.get i) j b) (AV.qL b)))],[k])
   | false=>none
  | none=>none
 | _,_,_=>none
theorem No (g:Good E σ S μ w) {T:TypeId} {a x:AV} {U l:Value} (ha:aE w S μ U a) (L:aE w S μ l x) {ps:List Prop} {upd:Ae} {rd:List Nat}
  (h:uZ P σ T a x=some (ps,upd,rd)) (hp:bO ps) :
  ∃ w',(Instr.storeAt T U l).run P w=.ok () w'/\Ext w S μ w' S μ/\Good E (js σ upd) S μ w':=by
 unfold uZ at h;split at h
 ·rename_i k i j r n M hn;split at h
  ·rename_i o V;split at h
   ·rename_i hb;simp only [bu,bk] at h;obtain ⟨rfl,rfl,rfl⟩:=h;simp only [cy,Nat.ble_eq] at hb;obtain ⟨⟨⟨⟨N,W⟩,hb3⟩,A⟩,hb5⟩:=hb;have N:=dp N;have hi:i < o.len:=hp.1;obtain ⟨pl,c,T',hm,d⟩:=g.rep.ob k o V;cases ha with
    | op oG X =>
     rw [hm] at X;cases X;have Y:0 < pl.cap:=by have:=d.len;omega
     have Fs:i * o.sz+o.sz<=c.size:=by
      have u:(i+1) * o.sz<=pl.cap * o.sz:=dU _ (by have:=d.len;omega);have:=d.cap;rw [eS] at u;omega
     obtain ⟨hcs,B⟩:=L.cells M;have Ul:∀ v∈l.cells.toList,v.oneCell'=true:=by
      intro v e;obtain ⟨q,hq⟩:=List.getElem?_of_mem e;have Z:q < r.length:=by
       have:=(gW.1 hq).1;simp at this;omega
      exact (B q _ v (w9 Z) (by simpa using hq)).Wk (QJ W (w9 Z))
     have O:=run_storeCells_at P pl.eC (i * pl.sz+j) T' l.cells.toList 0 c w ((d.eC Y).trans (by grind [kr])) (by rw [d.sz];simp;omega) Ul;simp only [Nat.add_zero] at O;generalize r7:(c.toList.take (i * pl.sz+j) ++ l.cells.toList ++ c.toList.drop (i * pl.sz+j+l.cells.toList.length)).toArray=z at O;have GO:(c.toList.take (i * pl.sz+j)).length=i * o.sz+j:=by rw [d.sz];simp;omega
     have C:l.cells.toList.length=n:=by simp;omega
     have QN:z.size=c.size:=by
      rw [<- r7];simp only [List.size_toArray,rI,List.length_drop,C,d.sz];simp;omega
     have yw:∀ m,z[m]?=if i * o.sz+j<=m/\m < i * o.sz+j+n then l.cells[m - (i * o.sz+j)]? else c[m]?:=by
      intro m;rw [<- r7];simp only [List.getElem?_toArray,AX]
      by_cases u:m < i * o.sz+j
      ·grind
      ·rw [o5 ad,GO]
       by_cases G:m < i * o.sz+j+n
       ·rw [mg ad,if_pos ad];simp
       ·rw [o5 ad,if_neg ad,vz,C,d.sz];simp only [Array.getElem?_toList];congr 1;omega
     have s:=d.Co i hi;have Q:∀ (o':Ob),o'.sz=o.sz->o'.len=o.len->o'.var=o.var->o'.pr=(o.pr && AV.qL r)->(o'.get i=vM (o.get i) j r)->(∀ m,m < o.len->m≠i->o'.get m=o.get m) ->
       Ext w S μ (w.setRow pl.eC z) S μ/\Good E (sset σ k o') S μ (w.setRow pl.eC z):=by
      intro o' H I ev e3 J e5;have jr:∀ m q,m≠i->q < o.sz->¬ (i * o.sz+j<=m * o.sz+q/\m * o.sz+q < i * o.sz+j+n):=by
       rintro m q b hq ⟨u,G⟩;rcases Nat.lt_or_gt_of_ne b with D | D
       ·have:(m+1) * o.sz<=i * o.sz:=dU _ D;rw [eS] at this;omega
       ·have:(i+1) * o.sz<=m * o.sz:=dU _ D;rw [eS] at this;omega
      refine g.write V hm Y d ad o' z H QN (by rw [I];exact d.len) ?_ ?_ ?_
      rotate_left 2
      ·intro m x L;obtain ⟨R,K,t⟩:=gF L;rw [I] at K;rw [ev] at R;rw [yw]
       by_cases b:m=i
       ·subst b;rw [J] at t;cases n with
        | zero =>
         have:r=[]:=List.eq_nil_of_length_eq_zero N;rw [this] at t;refine ⟨qM R K (by rw [<- t];unfold vM;simp),if_neg ad⟩
        | succ n =>
         have u:=uY (o.get m) j r ad;rw [t] at u;have hj0:j=0:=by simp at u;omega
         have G:=BC (o.get m) j r ad 0;rw [t,if_pos ad] at G;have D:=QJ W (j:=0 - j) (c:=.mr x.1 x.2.1 x.2.2) (by rw [<- G];rfl);cases D
       ·rw [e5 m K b] at t;exact ⟨qM R K t,if_neg (jr m 0 b ad)⟩
      ·intro m hm;rw [I] at hm
       by_cases b:m=i
       ·subst b;rw [J,uY _ _ _ ad,s,H]
       ·rw [e5 m hm b,d.Co m hm,H]
      ·intro m q y v hm f e;rw [I] at hm;rw [H,yw] at e;rw [e3];have hq:q < o.sz:=by
        have:=(gW.1 f).1
        by_cases b:m=i
        ·subst b;rw [J,uY _ _ _ ad,s] at this;exact this
        ·rw [e5 m hm b,d.Co m hm] at this;exact this
       have p:(o.get m)[q]?=some y->c[m * o.sz+q]?=some v->aE w S (if (o.pr && AV.qL r)=true then lI else μ) v y:=by
        intro f e;have:=d.rep m q y v hm f e;cases YT:o.pr
        ·simpa [YT] using this
        ·rw [YT] at this;split
         ·exact this
         ·exact l7 this
       by_cases b:m=i
       ·subst b;rw [J,BC _ _ _ ad] at f
        by_cases hjq:j<=q/\q < j+n
        ·rw [if_pos ad] at f e;have zo:l.cells[q - j]?=some v:=by rw [<- e];congr 1;omega
         have:=B (q - j) y v f zo;split
         ·rename_i F;simp only [cy] at F;exact this.pure (yu F.2 f) lI
         ·exact this
        ·rw [if_neg ad] at f e;exact p f e
       ·rw [e5 m hm b] at f;rw [if_neg (jr m q b hq)] at e;exact p f e
     refine ⟨w.setRow pl.eC z,?_,?_⟩
     ·simp only [Instr.storeAt,Instr.sureAddr,dk,Sem.run_pure,fZ,storeVar,jg hn];rw [Sem.run_ite,if_neg ad];exact O
     ·show Ext _ _ _ _ _ _/\Good E (sset σ k _) S μ _;refine Q _ ?_ ?_ ?_ ?_ ?_ ?_
      ·unfold Ob.put;split<;>rfl
      ·unfold Ob.put;split<;>rfl
      ·unfold Ob.put;split<;>rfl
      ·unfold Ob.put;split<;>rfl
      ·rw [<- abe ad s];unfold Ob.put;split<;>simp
      ·intro m hm b;unfold Ob.put;split
       ·rename_i L1;simp only [L1,Bool.not_true,Bool.false_or] at A;have:=dp A;omega
       ·simp [b]
   ·cases h
  ·cases h
 ·cases h
def afh (b:IntKind) (q:Nat) (v:Int):Nat->Nat->List AV->List AV
 | t,m+1,c :: cs=>(match al4 b c with
  | some a=>.atom (.int b (ao7 q t v a))
  | none=>c) :: afh b q v (t+1) m cs
 | _,_,cs=>cs
theorem Y6 {b:IntKind} {q:Nat} {v:Int}:∀ {m:Nat} {cs:List AV} {l:List Int} (t:Nat),J5 b m cs=some l->∀ r,(afh b q v t m cs)[r]?=if q=t+r/\r < m then some (.atom (.int b v)) else cs[r]?
 | 0,cs,_,t,_,r=>by cases cs<;>simp [afh]
 | m+1,[],_,_,h,_=>by simp [J5] at h
 | m+1,c :: cs,l,t,h,r=>by
  simp only [J5] at h;split at h
  ·rename_i a f d e;cases h;simp only [afh,d];cases r with
   | zero =>
    simp only [List.getElem?_cons_zero,Nat.add_zero]
    by_cases hq:q=t
    ·simp_all [if_pos,ao7]
    ·rw [if_neg (fun h=>hq h.1),ao7,if_neg hq,<- adq d]
   | succ r =>
    simp only [Qj];rw [Y6 (t+1) e r];grind
  ·cases h
def afi (q:Nat) (v:Bool):Nat->Nat->List AV->List AV
 | t,m+1,c :: cs=>(match adr c with
  | some a=>.atom (.bool (ao8 q t v a))
  | none=>c) :: afi q v (t+1) m cs
 | _,_,cs=>cs
theorem Y7 {q:Nat} {v:Bool}:∀ {m:Nat} {cs:List AV} {l:List Bool} (t:Nat),De m cs=some l->∀ r,(afi q v t m cs)[r]?=if q=t+r/\r < m then some (.atom (.bool v)) else cs[r]?
 | 0,cs,_,t,_,r=>by cases cs<;>simp [afi]
 | m+1,[],_,_,h,_=>by simp [De] at h
 | m+1,c :: cs,l,t,h,r=>by
  simp only [De] at h;split at h
  ·rename_i a e b d;cases h;simp only [afi,b];cases r with
   | zero =>
    simp only [List.getElem?_cons_zero,Nat.add_zero]
    by_cases hq:q=t
    ·simp_all [if_pos,ao8]
    ·rw [if_neg (fun h=>hq h.1),ao8,if_neg hq,<- Y5 b]
   | succ r =>
    simp only [Qj];rw [Y7 (t+1) d r];grind
  ·cases h
def Jd (P:Program) (σ:gp) (T:TypeId) (a x:AV):Option (List Prop×Ae×List Nat) :=
 match a with
 | .ov k i j m q=>match aR σ k,x,Ct P T with
  | some o,.atom (.int b v),some n=>match J5 b m ((o.get i).drop j) with
   | some _=>match Nat.beq n 1 && Nat.ble (j+m) o.sz && Nat.ble (j+m) (o.get i).length && (!o.var || Nat.beq o.len 1) && Nat.ble 1 o.sz with
    | true=>some ([i < o.len],[(k,some (o.put i ((o.get i).take j ++ afh b q v 0 m ((o.get i).drop j)) true))],[k])
    | false=>none
   | none=>none
  | some o,.atom (.bool v),some n=>match De m ((o.get i).drop j) with
   | some _=>match Nat.beq n 1 && Nat.ble (j+m) o.sz && Nat.ble (j+m) (o.get i).length && (!o.var || Nat.beq o.len 1) && Nat.ble 1 o.sz with
    | true=>some ([i < o.len],[(k,some (o.put i ((o.get i).take j ++ afi q v 0 m ((o.get i).drop j)) true))],[k])
    | false=>none
   | none=>none
  | _,_,_=>none
 | a=>uZ P σ T a x
theorem agZ (g:Good E σ S μ w) {T:TypeId} {a x:AV} {L M:Value} (y:aE w S μ L a) (z:aE w S μ M x) {ps:List Prop} {upd:Ae} {rd:List Nat}
  (h:Jd P σ T a x=some (ps,upd,rd)) (p:bO ps) :
  ∃ w',(Instr.storeAt T L M).run P w=.ok () w'/\Ext w S μ w' S μ/\Good E (js σ upd) S μ w':=by
 unfold Jd at h;split at h
 ·rename_i k i j m q;split at h
  ·rename_i o u v n s A;split at h
   ·rename_i l B;split at h
    ·rename_i hb;simp only [bu,bk] at h;obtain ⟨rfl,rfl,rfl⟩:=h;simp only [cy,Nat.ble_eq] at hb;obtain ⟨⟨⟨⟨C,N⟩,D⟩,b⟩,c⟩:=hb;cases y with
     | ov pl hm hq =>
      have t:(o.get i).take j ++ afh u q v 0 m ((o.get i).drop j)=vM (o.get i) (j+q) [.atom (.int u v)]:=by
       have d:((o.get i).take j).length=j:=by simp;omega
       apply List.ext_getElem?;intro r;rw [BC _ _ _ (by simp;omega)];simp only [List.length_singleton]
       by_cases F:r < j
       ·rw [mg ad,xa,if_pos F,if_neg ad]
       ·rw [o5 ad,d,Y6 0 B]
        by_cases G:r=j+q
        ·rw [if_pos ad,if_pos ad];have:r - (j+q)=0:=ad;rw [this];rfl
        ·rw [if_neg ad,if_neg ad,vz];congr 1;omega
      have e:(o.get i).length=o.sz:=by obtain ⟨_,_,_,_,H⟩:=g.rep.ob k o s;exact H.Co i p.1
      rw [<- abe (sz:=o.sz) (by simp;omega) e] at t;have I:uZ P σ T (.op k i (j+q)) (.atom (.int u v))=some ([i < o.len],[(k,some (o.put i (spl o.sz (o.get i) (j+q) [.atom (.int u v)]) true))],[k]):=by
       have f:=dp C;subst f;have J:Nat.ble (j+q+1) o.sz=true:=by rw [Nat.ble_eq];omega
       have K:Nat.ble 1 o.sz=true:=by rw [Nat.ble_eq];exact c
       unfold uZ;simp only [AV.cells,A,s,List.length_singleton,AV.xe,AV.one,AV.qL,AV.pure,J,K,b,Bool.and_true,Bool.and_self]
      rw [t];exact No g (aE.op pl hm) z I p
    ·cases h
   ·cases h
  ·rename_i o v n s A;split at h
   ·rename_i l B;split at h
    ·rename_i hb;simp only [bu,bk] at h;obtain ⟨rfl,rfl,rfl⟩:=h;simp only [cy,Nat.ble_eq] at hb;obtain ⟨⟨⟨⟨C,N⟩,D⟩,b⟩,c⟩:=hb;cases y with
     | ov pl hm hq =>
      have t:(o.get i).take j ++ afi q v 0 m ((o.get i).drop j)=vM (o.get i) (j+q) [.atom (.bool v)]:=by
       have d:((o.get i).take j).length=j:=by simp;omega
       apply List.ext_getElem?;intro r;rw [BC _ _ _ (by simp;omega)];simp only [List.length_singleton]
       by_cases F:r < j
       ·rw [mg ad,xa,if_pos F,if_neg ad]
       ·rw [o5 ad,d,Y7 0 B]
        by_cases G:r=j+q
        ·rw [if_pos ad,if_pos ad];have:r - (j+q)=0:=ad;rw [this];rfl
        ·rw [if_neg ad,if_neg ad,vz];congr 1;omega
      have e:(o.get i).length=o.sz:=by obtain ⟨_,_,_,_,H⟩:=g.rep.ob k o s;exact H.Co i p.1
      rw [<- abe (sz:=o.sz) (by simp;omega) e] at t;have I:uZ P σ T (.op k i (j+q)) (.atom (.bool v))=some ([i < o.len],[(k,some (o.put i (spl o.sz (o.get i) (j+q) [.atom (.bool v)]) true))],[k]):=by
       have f:=dp C;subst f;have J:Nat.ble (j+q+1) o.sz=true:=by rw [Nat.ble_eq];omega
       have K:Nat.ble 1 o.sz=true:=by rw [Nat.ble_eq];exact c
       unfold uZ;simp only [AV.cells,A,s,List.length_singleton,AV.xe,AV.one,AV.qL,AV.pure,J,K,b,Bool.and_true,Bool.and_self]
      rw [t];exact No g (aE.op pl hm) z I p
    ·cases h
   ·cases h
  ·cases h
 ·exact No g y z h p
def HE (P:Program) (T:TypeId) (x:AV) (f:Nat):Option AV :=
 match P.underlying T with
 | some (.struct fs)=>match fs[f]? with
  | some fl=>match Ct P fl.type with
   | some (_+1)=>match x with
    | .op k i j=>some (.op k i (j+fl.offset))
    | .rp cs j=>some (.rp cs (j+fl.offset))
    | _=>none
   | _=>none
  | none=>none
 | _=>none
theorem Wo {T:TypeId} {x:AV} {f:Nat} {v:Value} (a:aE w S μ v x) {r:AV} (h:HE P T x f=some r) :
  ∃ u,(Instr.fieldAt T v f).run P w=.ok u w/\aE w S μ u r:=by
 unfold HE at h;split at h
 ·rename_i fs hu;split at h
  ·rename_i fl g;split at h
   ·rename_i n l;split at h
    ·cases h;cases a with
     | op pl hm =>
      rename_i k i j;refine ⟨.pointer (some ⟨pl.eC,i * pl.sz+(j+fl.offset),none⟩),?_,.op pl hm⟩;simp_all [Instr.fieldAt,run_underlying,Instr.sureAddr,fieldPlace,jg,Addr.add_mid,Fq]
    ·cases h;cases a with
     | rp b o f' c d e =>
      rename_i cs j;refine ⟨.pointer (some ⟨b,o+(j+fl.offset),none⟩),?_,.rp b o f' c d e⟩;simp_all [Instr.fieldAt,run_underlying,Instr.sureAddr,fieldPlace,jg,Addr.add_mid,Fq]
    ·cases h
   ·cases h
  ·cases h
 ·cases h
def Wp (P:Program) (T:TypeId) (x:AV) (f:Nat):Option AV :=
 match P.underlying T,x with
 | some (.struct fs),.agg cs=>match fs[f]? with
  | some fl=>match Ct P fl.type with
   | some n=>match Nat.ble (fl.offset+n) cs.length with
    | true=>oH P fl.type cs fl.offset
    | false=>none
   | none=>none
  | none=>none
 | _,_=>none
theorem ag0 {T:TypeId} {x:AV} {f:Nat} {v:Value} (a:aE w S μ v x) {r:AV} (h:Wp P T x f=some r) :
  ∃ u,(Instr.field T v f).run P w=.ok u w/\aE w S μ u r:=by
 unfold Wp at h;split at h
 ·rename_i fs cs hu;split at h
  ·rename_i fl d;split at h
   ·rename_i n e;split at h
    ·rename_i hle;simp only [Nat.ble_eq] at hle;obtain ⟨vs,rfl,b,c⟩:=ue a;obtain ⟨u,g,i⟩:=oI b c h (fun n' h'=>by simp_all);simp_all [Instr.field,run_underlying,asAgg]
    ·cases h
   ·cases h
  ·cases h
 ·cases h
def wg (P:Program) (σ:gp) (T:TypeId) (x a:AV):Option (List Prop×AV×List Nat) :=
 match P.underlying T,a with
 | some (.slice e),.atom (.int _ n)=>match Ct P e with
  | some sz=>match x with
   | .os k off len=>match aR σ k with
    | some o=>match Nat.beq o.sz sz with
     | true=>some ([0<=n/\n < len],.op k (eu off n.toNat) 0,[k])
     | false=>none
    | none=>none
   | .sl len get=>match Nat.beq (get n.toNat).length sz with
    | true=>some ([0<=n/\n < len],.rp (get n.toNat) 0,[])
    | false=>none
   | _=>none
  | none=>none
 | some (.array len e),.atom (.int _ n)=>match Ct P e with
  | some sz=>match x with
   | .op k i j=>match P.underlying e with
    | some (.int _)=>match Nat.beq sz 1 with
     | true=>some ([0<=n/\n < len],.ov k i j len n.toNat,[])
     | false=>none
    | some .bool=>match Nat.beq sz 1 with
     | true=>some ([0<=n/\n < len],.ov k i j len n.toNat,[])
     | false=>none
    | _=>some ([0<=n/\n < len],.op k i (j+n.toNat * sz),[])
   | .rp cs j=>some ([0<=n/\n < len],.rp cs (j+n.toNat * sz),[])
   | _=>none
  | none=>none
 | _,_=>none
theorem Wq (g:Good E σ S μ w) {T:TypeId} {x D:AV} {v F:Value} (p:aE w S μ v x) (hi:aE w S μ F D) {ps:List Prop} {r:AV} {rd:List Nat}
  (h:wg P σ T x D=some (ps,r,rd)) (q:bO ps) :
  ∃ u,(Instr.indexAt T v F).run P w=.ok u w/\aE w S μ u r:=by
 unfold wg at h;split at h
 ·rename_i e G n hu;have:=gh hi;subst this;split at h
  ·rename_i sz y;split at h
   ·rename_i k off len;split at h
    ·rename_i o I;split at h
     ·rename_i hb;have hb:=dp hb;simp only [bu,bk] at h;obtain ⟨rfl,rfl,rfl⟩:=h;obtain ⟨pl,c,M,hm,J⟩:=g.rep.ob k o I;have d:=q.1;cases p with
      | os oG H s t z =>
       rename_i cap a;rw [hm] at H;cases H;have A:=s ad;subst A;refine ⟨.pointer (some ⟨pl.eC,eu off n.toNat * pl.sz+0,none⟩),?_,.op pl hm⟩;simp only [Instr.indexAt,asIntOf,run_underlying hu,dk,Sem.run_pure,fZ];rw [Sem.run_ite,if_pos d];simp only [dk,jg y,fZ,Sem.run_pure,Addr.add_mid];rw [fw,J.sz,hb,eS];rfl
     ·cases h
    ·cases h
   ·rename_i len get;split at h
    ·rename_i hb;have hb:=dp hb;simp only [bu,bk] at h;obtain ⟨rfl,rfl,rfl⟩:=h;have d:=q.1;cases p with
     | sl b off l f s t z N _ =>
      rename_i cap a;have K:n.toNat < len:=ad;obtain ⟨A,L⟩:=s ad;subst A;have B:l=sz:=by rw [<- t n.toNat K,hb]
      subst B;refine ⟨.pointer (some ⟨b,(off+n.toNat * l)+0,none⟩),?_,.rp b (off+n.toNat * l) (f n.toNat) L ?_ ?_⟩
      ·simp only [Instr.indexAt,asIntOf,run_underlying hu,dk,Sem.run_pure,fZ];simp_all [Sem.run_ite,if_pos,dk,jg,fZ,Sem.run_pure,Addr.add_mid]
      ·simp_all
      simp_all
    ·cases h
   ·cases h
  ·cases h
 ·rename_i len e G n hu;have:=gh hi;subst this;split at h
  ·rename_i sz y;split at h
   ·rename_i k i j;have C:0<=n/\n < len->∀ pl:Place,(Instr.indexAt T (.pointer (some ⟨pl.eC,i * pl.sz+j,none⟩)) (.int G n)).run P w=.ok (.pointer (some ⟨pl.eC,i * pl.sz+(j+n.toNat * sz),none⟩)) w:=by
     intro d pl;simp only [Instr.indexAt,Instr.sureAddr,asIntOf,run_underlying hu,dk,Sem.run_pure,fZ];rw [Sem.run_ite,if_pos d];simp only [dk,jg y,fZ,Sem.run_pure,Addr.add_mid,Fq]
    split at h
    ·split at h
     ·rename_i m;have m:=dp m;simp only [bu,bk] at h;obtain ⟨rfl,rfl,rfl⟩:=h;have d:=q.1;cases p with
      | op pl hm =>
       refine ⟨_,C d pl,?_⟩;rw [m,Nat.mul_one];exact .ov pl hm ad
     ·cases h
    ·split at h
     ·rename_i m;have m:=dp m;simp only [bu,bk] at h;obtain ⟨rfl,rfl,rfl⟩:=h;have d:=q.1;cases p with
      | op pl hm =>
       refine ⟨_,C d pl,?_⟩;rw [m,Nat.mul_one];exact .ov pl hm ad
     ·cases h
    ·simp only [bu,bk] at h;obtain ⟨rfl,rfl,rfl⟩:=h;have d:=q.1;cases p with
     | op pl hm=>exact ⟨_,C d pl,.op pl hm⟩
   ·rename_i cs j;simp only [bu,bk] at h;obtain ⟨rfl,rfl,rfl⟩:=h;have d:=q.1;cases p with
    | rp b o f s t z =>
     refine ⟨.pointer (some ⟨b,o+(j+n.toNat * sz),none⟩),?_,.rp b o f s t z⟩;simp only [Instr.indexAt,Instr.sureAddr,asIntOf,run_underlying hu,dk,Sem.run_pure,fZ];simp_all [Sem.run_ite,if_pos,dk,jg,fZ,Sem.run_pure,Addr.add_mid,Fq]
   ·cases h
  ·cases h
 ·cases h
def HF (s:ByteArray) (i:Nat):Int:=((s[i]?).getD 0).toNat
def Ws (P:Program) (T:TypeId) (x b:AV):Option (List Prop×AV) :=
 match P.underlying T,x,b with
 | some .string,.atom (.string s),.atom (.int _ n)=>some ([0<=n/\n < s.size],.atom (.int .u8 (HF s n.toNat)))
 | some (.array len e),.agg cs,.atom (.int _ n)=>match P.underlying e,Ct P e with
  | some (.int a),some sz=>match J5 a len cs with
   | some l=>match Nat.beq sz 1 && Nat.beq cs.length len with
    | true=>some ([0<=n/\n < len],.atom (.int a (U1 l n.toNat)))
    | false=>none
   | none=>none
  | some .bool,some sz=>match De len cs with
   | some l=>match Nat.beq sz 1 && Nat.beq cs.length len with
    | true=>some ([0<=n/\n < len],.atom (.bool (U2 l n.toNat)))
    | false=>none
   | none=>none
  | some _,some sz=>match Nat.ble (n.toNat * sz+sz) cs.length with
   | true=>(oH P e cs (n.toNat * sz)).map fun r=>([0<=n/\n < len],r)
   | false=>none
  | _,_=>none
 | _,_,_=>none
theorem ag1 {T:TypeId} {x o:AV} {v i:Value} (p:aE w S μ v x) (hi:aE w S μ i o) {ps:List Prop} {r:AV} (h:Ws P T x o=some (ps,r)) (f:bO ps) :
  ∃ u,(Instr.index T v i).run P w=.ok u w/\aE w S μ u r:=by
 unfold Ws at h;split at h
 ·rename_i s q n hu;simp only [bu,bk] at h;obtain ⟨rfl,rfl⟩:=h;have:=gh hi;subst this;have:=gh p;subst this;have c:=f.1;have D:n.toNat < s.size:=ad;refine ⟨_,?_,.atom _⟩;simp_all [Instr.index,asIntOf,run_underlying,dk,Sem.run_pure,fZ,if_pos,HF]
 ·rename_i len e cs q n hu;have fin:∀ {sz:Nat} {g:AV},Ct P e=some sz->n.toNat * sz+sz<=cs.length->oH P e cs (n.toNat * sz)=some g->0<=n/\n < len ->
    ∃ u,(Instr.index T v i).run P w=.ok u w/\aE w S μ u g:=by
   intro sz g a b j c;have:=gh hi;subst this;obtain ⟨vs,rfl,t,y⟩:=ue p;obtain ⟨u,z,A⟩:=oI t y j (fun n' h'=>by simp_all);refine ⟨u,?_,A⟩;simp only [Instr.index,asIntOf,run_underlying hu,dk,Sem.run_pure,fZ];rw [Sem.run_ite,if_pos c];simp only [dk,jg a,fZ,z]
  split at h
  ·rename_i E sz he a;split at h
   ·rename_i l k;split at h
    ·rename_i hb;simp only [cy] at hb;have m:=dp hb.1;have B:=dp hb.2;simp only [bu,bk] at h;obtain ⟨rfl,rfl⟩:=h;have c:=f.1;refine fin a (by rw [m];omega) ?_ c;have C:=Nn k n.toNat ad;simp_all [oH,Nat.mul_one]
    ·cases h
   ·cases h
  ·rename_i sz he a;split at h
   ·rename_i l k;split at h
    ·rename_i hb;simp only [cy] at hb;have m:=dp hb.1;have B:=dp hb.2;simp only [bu,bk] at h;obtain ⟨rfl,rfl⟩:=h;have c:=f.1;refine fin a (by rw [m];omega) ?_ c;have C:=Kl k n.toNat ad;simp_all [oH,Nat.mul_one]
    ·cases h
   ·cases h
  ·rename_i d sz he a;split at h
   ·rename_i b;simp only [Nat.ble_eq] at b;simp only [bE,bk] at h;obtain ⟨g,j,rfl,rfl⟩:=h;exact fin a b j f.1
   ·cases h
  ·cases h
 ·cases h
def bound (len:Nat):Option AV->Option Nat
 | none=>some len
 | some (.atom (.int _ n))=>some n.toNat
 | _=>none
def Df:Option AV->List Prop
 | some (.atom (.int _ n))=>[0<=n]
 | _=>[]
def Je (P:Program) (σ:gp) (T:TypeId) (x:AV) (lo hi:Option AV):Option (List Prop×AV×List Nat) :=
 match P.underlying T,x with
 | some .string,.atom (.string s)=>match bound 0 lo,bound s.size hi with
  | some l,some h=>some ((l<=h/\h<=s.size) :: (Df lo ++ Df hi),.atom (.string (s.extract l h)),[])
  | _,_=>none
 | some (.slice e),x=>match Ct P e with
  | some sz=>match x with
   | .os k off len=>match bound 0 lo,bound len hi,aR σ k with
    | some l,some h,some o=>match Nat.beq o.sz sz with
     | true=>some ((l<=h/\h<=len) :: (Df lo ++ Df hi),.os k (eu off l) (h - l),[k])
     | false=>none
    | _,_,_=>none
   | .sl len get=>match bound 0 lo,bound len hi with
    | some l,some h=>match Nat.beq (get l).length sz with
     | true=>some ((l<=h/\h<=len) :: (Df lo ++ Df hi),.sl (h - l) fun i=>get (eu l i),[])
     | false=>none
    | _,_=>none
   | _=>none
  | none=>none
 | _,_=>none
theorem Km {lo:Option AV} {vlo:Option Value} (c:(vlo=none↔lo=none)/\∀ a b,lo=some a->vlo=some b->aE w S μ b a) {len l:Nat} (h:bound len lo=some l) :
  (lo=none/\vlo=none/\l=len)\/∃ k n,vlo=some (.int k n)/\lo=some (.atom (.int k n))/\l=n.toNat:=by
 unfold bound at h;split at h
 ·simp_all
 ·rename_i k n;right;cases vlo with
  | none=>simp_all
  | some b =>
   have:=gh (c.2 _ b rfl rfl);grind
 ·cases h
theorem Fx (isSlice:Bool) {len cap l h:Nat} {lo hi:Option AV} {vlo vhi:Option Value} (i:(vlo=none↔lo=none)/\∀ a b,lo=some a->vlo=some b->aE w S μ b a)
  (c:(vhi=none↔hi=none)/\∀ a b,hi=some a->vhi=some b->aE w S μ b a) (p:bound 0 lo=some l) (n:bound len hi=some h) (q:l<=h) (u:h<=cap) (r:bO (Df lo ++ Df hi)) :
  (Instr.sliceBounds isSlice len cap vlo vhi none).run P w=.ok (l,h,cap) w:=by
 obtain ⟨s,p2⟩:=bO.app r;rcases Km i p with ⟨j,k,m⟩ | ⟨v,o,j,k,m⟩
 ·subst j k m;rcases Km c n with ⟨d,e,f⟩ | ⟨t,g,d,e,f⟩
  ·simp_all [Instr.sliceBounds]
  ·subst d e f;have:=p2.1;simp_all [Instr.sliceBounds,Instr.sliceBound,asIntOf]
 ·subst j k m;have:=s.1;rcases Km c n with ⟨d,e,f⟩ | ⟨t,g,d,e,f⟩
  ·simp_all [Instr.sliceBounds,Instr.sliceBound,asIntOf]
  ·subst d e f;have:=p2.1;have x:0<=g/\g<=cap:=ad;have y:0<=o/\o<=(g.toNat:Int):=ad;simp_all [Instr.sliceBounds,Instr.sliceBound,asIntOf,dk,Sem.run_pure,fZ,Sem.run_ite,if_pos]
theorem ag2 (g:Good E σ S μ w) {T:TypeId} {x:AV} {v:Value} (B:aE w S μ v x) {lo hi:Option AV} {vlo vhi:Option Value}
  (m:(vlo=none↔lo=none)/\∀ a b,lo=some a->vlo=some b->aE w S μ b a)
  (n:(vhi=none↔hi=none)/\∀ a b,hi=some a->vhi=some b->aE w S μ b a) {ps:List Prop} {r:AV} {rd:List Nat} (h:Je P σ T x lo hi=some (ps,r,rd)) (C:bO ps) :
  ∃ u,(Instr.sliceAt T v vlo vhi none).run P w=.ok u w/\aE w S μ u r:=by
 unfold Je at h;split at h
 ·rename_i s hu;have:=gh B;subst this;split at h
  ·rename_i l q t d;simp only [bu,bk] at h;obtain ⟨rfl,rfl,rfl⟩:=h;obtain ⟨⟨y,p2⟩,z⟩:=C;have hb:=Fx (P:=P) (w:=w) false (cap:=s.size) m n t d y p2 z;refine ⟨_,?_,.atom _⟩;simp [Instr.sliceAt,Instr.slice,run_underlying hu,hb]
  ·cases h
 ·rename_i e hu;split at h
  ·rename_i sz H;split at h
   ·rename_i k off len;split at h
    ·rename_i l q o t d L;split at h
     ·rename_i hb;have hb:=dp hb;simp only [bu,bk] at h;obtain ⟨rfl,rfl,rfl⟩:=h;obtain ⟨⟨y,p2⟩,z⟩:=C;obtain ⟨pl,c,R,hm,M⟩:=g.rep.ob k o L;cases B with
      | os oG I D J K =>
       rename_i cap a;rw [hm] at I;cases I;have p:=Fx (P:=P) (w:=w) true (cap:=cap) m n t d y ad z;refine ⟨.slice (if cap=l then a else a.map (·.add (l * sz))) (q - l) (cap - l),?_,?_⟩
       ·simp [Instr.sliceAt,Instr.slice,run_underlying hu,p,jg H]
       ·refine .os pl hm ?_ ad (by rw [fw];omega);intro F;have:=D ad;subst this;rw [if_neg ad];simp only [Option.map_some,Addr.add_mid];rw [fw,M.sz,hb,eS]
     ·cases h
    ·cases h
   ·rename_i len get;split at h
    ·rename_i l q t d;split at h
     ·rename_i hb;have hb:=dp hb;simp only [bu,bk] at h;obtain ⟨rfl,rfl,rfl⟩:=h;obtain ⟨⟨y,p2⟩,z⟩:=C;cases B with
      | sl b off A f D J K N U =>
       rename_i a cap;have p:=Fx (P:=P) (w:=w) true (cap:=cap) m n t d y ad z;have G:l < q->A=sz:=fun V=>by grind
       refine ⟨.slice (if cap=l then a else a.map (·.add (l * sz))) (q - l) (cap - l),?_,?_⟩
       ·simp [Instr.sliceAt,Instr.slice,run_underlying hu,p,jg H]
       ·refine .sl b (off+l * sz) A (fun i j=>f (eu l i) j) ?_ (fun i hi=>J _ (by rw [fw];omega)) ?_ (fun i j c hi F=>N _ _ _ (by rw [fw];omega) F) ad
        ·intro F;obtain ⟨O,W⟩:=D ad;subst O;rw [if_neg ad];simp_all [Option.map_some,Addr.add_mid,trivial]
        ·intro i j hi Q;have:=K (eu l i) j (by rw [fw];omega) Q;rw [fw] at this ⊢;rw [<- this,<- G ad,eS];congr 2;omega
     ·cases h
    ·cases h
   ·cases h
  ·cases h
 ·cases h
end
section
variable {P:Program} {E:Env} {nk:Nat} {σ:gp} {S:Nat->Prop} {μ:Mu} {w:World}
def ag4 (P:Program) (T:TypeId) (x:AV):Option AV :=
 match P.underlying T with
 | some .string=>match x with
  | .atom (.string s)=>some (.atom (.int .i64 s.size))
  | _=>none
 | some (.array n _)=>some (.atom (.int .i64 n))
 | some (.slice _)=>match x with
  | .os _ _ n=>some (.atom (.int .i64 n))
  | .sl n _=>some (.atom (.int .i64 n))
  | .nil=>some (.atom (.int .i64 0))
  | _=>none
 | _=>none
theorem apb {T:TypeId} {x:AV} {v:Value} (a:aE w S μ v x) {r:AV} (h:ag4 P T x=some r) (ty:TypeId) :
  ∃ u,(Builtin.len_ #[T] ty #[v]).run P w=.ok u w/\aE w S μ u r:=by
 unfold ag4 at h;split at h
 ·rename_i hu;split at h
  ·cases h;have:=gh a;subst this;exact ⟨_,by simp [Builtin.len_,run_underlying hu,goInt],.atom _⟩
  ·cases h
 ·rename_i n e hu;cases h;exact ⟨_,by simp [Builtin.len_,run_underlying hu,goInt],.atom _⟩
 ·rename_i e hu;split at h
  ·cases h;cases a with
   | os pl hm c d g=>exact ⟨_,by simp [Builtin.len_,run_underlying hu,goInt],.atom _⟩
  ·cases h;cases a with
   | sl b off sz f c d g i j=>exact ⟨_,by simp [Builtin.len_,run_underlying hu,goInt],.atom _⟩
  ·cases h;cases a;exact ⟨_,by simp [Builtin.len_,run_underlying hu,goInt],.atom _⟩
  ·cases h
 ·cases h
def D7 (σ:gp) (sz:Nat) (x:AV):Option (Nat×(Nat->List AV)×Bool×List Prop×List Nat) :=
 match x with
 | .nil=>some (0,fun _=>[],true,[],[])
 | .sl n g=>match Nat.beq (g 0).length sz with
  | true=>some (n,g,true,[∀ i,i < n->AV.xe (g i)=true],[])
  | false=>none
 | .os k off n=>match aR σ k with
  | some o=>match Nat.beq o.sz sz with
   | true=>some (n,(fun i=>o.get (eu off i)),o.pr,[off+n<=o.len,∀ i,i < n->AV.xe (o.get (eu off i))=true],[k])
   | false=>none
  | none=>none
 | _=>none
structure Src (P:Program) (w:World) (S:Nat->Prop) (μ:Mu) (sz:Nat) (v:Value) (n:Nat) (g:Nat->List AV) (pr:Bool) (news:List Value):Prop where
 len:∀ w':World,(Builtin.lenOf v).run P w'=.ok n w'
 cells:∀ w':World,w'.heap=w.heap->(Builtin.firstCells sz n v).run P w'=.ok news.toArray w'
 size:news.length=n * sz
 one:∀ u∈news,u.oneCell'=true
 Co:∀ i,i < n->(g i).length=sz
 rep:∀ i j x u,i < n->(g i)[j]?=some x->news[i * sz+j]?=some u->aE w S (if pr then lI else μ) u x
 al8:∀ i,i < n->AV.xe (g i)=true
theorem U3 {n sz q:Nat} (h:q < n * sz):q / sz < n/\q % sz < sz/\q=q / sz * sz+q % sz:=by
 have b:0 < sz:=by
  rcases Nat.eq_zero_or_pos sz with a | a
  ·subst a;simp at h
  ·exact a
 simp_all [Nat.div_lt_of_lt_mul,rK,Nat.mod_lt,Nat.div_add_mod]
theorem Src.mk' {sz n:Nat} {g:Nat->List AV} {pr:Bool} {b o len cap:Nat} (f:Nat->Nat->Value) (v:n=len)
  (y:∀ i j,i < n->j < sz->w.cell? ⟨b,o+i * sz+j,none⟩=some (f i j)) (p:∀ i,i < n->AV.xe (g i)=true) (h:∀ i,i < n->(g i).length=sz)
  (r:∀ i j x,i < n->(g i)[j]?=some x->aE w S (if pr then lI else μ) (f i j) x) :
  ∃ news,Src P w S μ sz (.slice (some ⟨b,o,none⟩) len cap) n g pr news:=by
 subst v;refine ⟨(List.range (n * sz)).map fun q=>f (q / sz) (q % sz),?_⟩;have k:∀ q u,((List.range (n * sz)).map fun q=>f (q / sz) (q % sz))[q]?=some u->q < n * sz/\u=f (q / sz) (q % sz):=by
  intro q u hq;have c:q < n * sz:=by
   have:=(gW.1 hq).1;simpa using this
  simp [List.getElem?_range c] at hq;exact ⟨c,hq.symm⟩
 refine ⟨fun w'=>by simp [Builtin.lenOf],fun w' hw=>?_,aD,?_,h,?_,p⟩
 ·have z:∀ a,w'.cell? a=w.cell? a:=fun a=>by simp [World.cell?,hw]
  refine run_firstCells_some w' sz n ⟨b,o,none⟩ n cap _ aD ?_;intro q u hq;obtain ⟨c,rfl⟩:=k q u hq;obtain ⟨d,l,s⟩:=U3 c;rw [z,Addr.add_mid];have:=y _ _ d l;rw [Fq,<- s] at this;exact this
 ·intro u m;obtain ⟨q,hq⟩:=List.getElem?_of_mem m;obtain ⟨c,rfl⟩:=k q u hq;obtain ⟨d,l,s⟩:=U3 c;have e:(g (q / sz))[q % sz]?=some ((g (q / sz))[q % sz]'(by rw [h _ d];exact l)):=w9 _;exact (r _ _ _ d e).Wk (QJ (p _ d) e)
 ·intro i j x u hi e m;obtain ⟨c,rfl⟩:=k _ u m;have t:j < sz:=by
   have:=(gW.1 e).1;rwa [h i hi] at this
  have A:(i * sz+j) / sz=i:=by
   rw [rK,Nat.mul_add_div ad,Nat.div_eq_of_lt t];omega
  have B:(i * sz+j) % sz=j:=by
   rw [rK,Nat.mul_add_mod,Nat.mod_eq_of_lt t]
  rw [A,B];exact r i j x hi e
theorem Src.empty {sz:Nat} {g:Nat->List AV} {pr:Bool} {a:Option Addr} {cap:Nat}:Src P w S μ sz (.slice a 0 cap) 0 g pr []:=by
 refine ⟨fun w'=>by simp [Builtin.lenOf],fun w' _=>?_,aD,aD,fun i h=>absurd h ad,fun i j x u h=>absurd h ad,fun i h=>absurd h ad⟩;cases a with
 | none=>simp [Builtin.firstCells]
 | some a=>simp [Builtin.firstCells,loadCells,loadCellsFrom]
theorem HG (g:Good E σ S μ w) {sz:Nat} {x:AV} {v:Value} (d:aE w S μ v x) {n:Nat} {gt:Nat->List AV} {pr:Bool} {ps:List Prop} {rd:List Nat}
  (h:D7 σ sz x=some (n,gt,pr,ps,rd)) (u:bO ps):∃ news,Src P w S μ sz v n gt pr news:=by
 unfold D7 at h;split at h
 ·simp only [bu,bk] at h;obtain ⟨rfl,rfl,rfl,rfl,rfl⟩:=h;cases d;exact ⟨[],Src.empty⟩
 ·rename_i n' J;split at h
  ·rename_i hb;have hb:=dp hb;simp only [bu,bk] at h;obtain ⟨rfl,rfl,rfl,rfl,rfl⟩:=h;cases d with
   | sl b off p f q r y C K =>
    rcases Nat.eq_zero_or_pos n' with e | e
    ·subst e;exact ⟨[],Src.empty⟩
    ·obtain ⟨s,_⟩:=q e;subst s;have D:p=sz:=by rw [<- r 0 e,hb]
     subst D;exact Src.mk' f rfl y u.1 r (fun i j x hi d=>C i j x hi d)
  ·cases h
 ·rename_i k off n';split at h
  ·rename_i o F;split at h
   ·rename_i hb;have hb:=dp hb;simp only [bu,bk] at h;obtain ⟨rfl,G,rfl,rfl,rfl⟩:=h;have t:gt=fun i=>o.get (off+i):=by
     rw [<- G];funext i;rw [fw]
    subst t;obtain ⟨H,z,_⟩:=u;simp only [fw] at z;obtain ⟨pl,c,L,hm,l⟩:=g.rep.ob k o F;subst hb;cases d with
    | os oG A q r y =>
     rename_i cap a;rw [hm] at A;cases A;rcases Nat.eq_zero_or_pos n' with e | e
     ·subst e;exact ⟨[],Src.empty⟩
     ·have s:=q ad;subst s;refine Src.mk' (fun i j=>(c[(off+i) * o.sz+j]?).getD undef) rfl ?_ z (fun i hi=>l.Co _ ad) ?_
      ·intro i j hi I;obtain ⟨v,m,B⟩:=fV l (i:=off+i) ad I;rw [m,l.sz,<- eS,B];rfl
      ·intro i j x hi d;obtain ⟨v,m,B⟩:=fV l (i:=off+i) ad (by have:=(gW.1 d).1;rwa [l.Co _ ad] at this);rw [m];exact l.rep _ j x v ad d m
   ·cases h
  ·cases h
 ·cases h
def zp (P:Program) (nk:Nat) (σ:gp) (t:TypeId) (s x:AV):Option (List Prop×AV×List Nat×Ae) :=
 match sG P t with
 | some e=>match Ct P e,Ft P e,AP P e with
  | some sz,some b,some z=>match Nat.ble 1 sz && Nat.ble 1 b && Nat.beq z.cells.size sz,D7 σ sz x with
   | true,some (n,g,pr,ps,rd)=>match s with
    | .nil=>some ((n * b<=140737488355328) :: ps,.os nk 0 n,rd,[(nk,some ⟨false,sz,n,pr,g⟩)])
    | .os k 0 len=>match aR σ k with
     | some o=>match Nat.beq o.sz sz && !o.var with
      | true=>some ((len=o.len) :: ((len+n) * b<=140737488355328) :: ps,.os nk 0 (len+n),k :: rd,
        [(k,none),(nk,some ⟨false,sz,len+n,o.pr && pr,fun m=>if m < len then o.get m else g (m - len)⟩)])
      | false=>none
     | none=>none
    | _=>none
   | _,_=>none
  | _,_,_=>none
 | none=>none
theorem Pf {t ty e:TypeId} {i:TypeInfo} (c:P.underlying t=some (.slice e)) (hi:P.info? e=some i) {sLen sCap n:Nat} {a:Value} {news:List Value}
  (d:∀ w':World,(Builtin.lenOf a).run P w'=.ok n w') (f:∀ w':World,w'.heap=w.heap->(Builtin.firstCells i.size n a).run P w'=.ok news.toArray w') (b:sLen+n<=sCap) :
  (Builtin.append_ #[t,t] ty #[.slice none sLen sCap,a]).run P w=.ok (.slice none (sLen+n) sCap) w:=by
 simp [Builtin.append_,run_underlying c,sizeOf,typeInfo,hi,d,b,f w rfl]
theorem QO {t ty e:TypeId} {i:TypeInfo} (d:P.underlying t=some (.slice e)) (hi:P.info? e=some i) {g sLen sCap n:Nat} {cur:Array Value} {T:TypeId} (f:w.heap[g]?=some (.cells cur T (0,0))) {a:Value} {news:List Value}
  (h:∀ w':World,(Builtin.lenOf a).run P w'=.ok n w') (j:∀ w':World,w'.heap=w.heap->(Builtin.firstCells i.size n a).run P w'=.ok news.toArray w') (k:∀ u∈news,u.oneCell'=true)
  (b:sLen+n<=sCap) (l:sLen * i.size+news.length<=cur.size) :
  (Builtin.append_ #[t,t] ty #[.slice (some ⟨g,0,none⟩) sLen sCap,a]).run P w =
   .ok (.slice (some ⟨g,0,none⟩) (sLen+n) sCap) (w.setRow g (cur.toList.take (sLen * i.size) ++ news ++ cur.toList.drop (sLen * i.size+news.length)).toArray):=by
 have c:=run_storeCells_at P g (sLen * i.size) T news 0 cur w f (by simpa using l) k;simp only [Nat.add_zero] at c;simp [Builtin.append_,run_underlying d,sizeOf,typeInfo,hi,h,b,j w rfl,Addr.add_lit,c]
theorem abf {t ty e:TypeId} {i:TypeInfo} (f:P.underlying t=some (.slice e)) (hi:P.info? e=some i) {g b sLen sCap n:Nat} {cur:Array Value} {T:TypeId} (h:w.heap[g]?=some (.cells cur T (0,0))) {a:Value} {news:List Value}
  (j:∀ w':World,(Builtin.lenOf a).run P w'=.ok n w') (k:∀ w':World,w'.heap=w.heap->(Builtin.firstCells i.size n a).run P w'=.ok news.toArray w') (l:∀ u∈news,u.oneCell'=true)
  (c:sLen+n<=sCap) (m:b+sLen * i.size+news.length<=cur.size) :
  (Builtin.append_ #[t,t] ty #[.slice (some ⟨g,b,none⟩) sLen sCap,a]).run P w =
   .ok (.slice (some ⟨g,b,none⟩) (sLen+n) sCap) (w.setRow g (cur.toList.take (b+sLen * i.size) ++ news ++ cur.toList.drop (b+sLen * i.size+news.length)).toArray):=by
 have d:=run_storeCells_at P g (b+sLen * i.size) T news 0 cur w h (by simpa using m) l;simp only [Nat.add_zero] at d;simp [Builtin.append_,run_underlying f,sizeOf,typeInfo,hi,j,c,k w rfl,Addr.add_lit,d]
theorem Fy {t ty e:TypeId} {i:TypeInfo} {z:Value} (d:P.underlying t=some (.slice e)) (hi:P.info? e=some i) (f:i.zero=some z) {base:Option Addr} {sLen sCap n:Nat} {a:Value} {olds news:List Value}
  (g:∀ w':World,w'.heap=w.heap->(Builtin.firstCells i.size sLen (.slice base sLen sCap)).run P w'=.ok olds.toArray w')
  (h:∀ w':World,(Builtin.lenOf a).run P w'=.ok n w') (j:∀ w':World,w'.heap=w.heap->(Builtin.firstCells i.size n a).run P w'=.ok news.toArray w')
  (k:sCap < sLen+n) (hb:1<=i.bytes) (l:(sLen+n) * i.bytes<=140737488355328) :
  (Builtin.append_ #[t,t] ty #[.slice base sLen sCap,a]).run P w =
   .ok (.slice (some ⟨w.heap.size,0,none⟩) (sLen+n) (grownCap w (sLen+n) sCap e))
    (w.drew.alloc (.cells (olds.toArray ++ news.toArray ++ Builtin.zeroCells z.cells (grownCap w (sLen+n) sCap e - (sLen+n))) e)):=by
 have m:¬ (sLen+n<=sCap):=ad;have r:(sLen+n) * 1<=(sLen+n) * i.bytes:=Nat.mul_le_mul_left _ hb;have b:¬ (9223372036854775807 < ((sLen:Int)+(n:Int))):=ad;have o:=growslice_fits k l;have c:¬ (281474976710656 < Builtin.nextslicecap (sLen+n) sCap * i.bytes):=ad;have p:=j w.drew rfl;have q:=g w.drew rfl;simp [Builtin.append_,run_underlying d,sizeOf,typeInfo,zeroValue,hi,f,h,m,b,c,Question.forced,p,q,newRow,grownCap];grind
theorem QP (w:World) (a D6:Nat) (e:TypeId):a<=grownCap w a D6 e:=by simp [grownCap,Question.cut]
theorem Good.grow (g:Good E σ S μ w) (o:μ nk=none) (hm:E.m0<=nk) {sz n len cap:Nat} {e:TypeId} {olds news:List Value} {rest:Array Value} {pr:Bool} {get:Nat->List AV}
  (d:olds.length=len * sz) (f:news.length=n * sz) (p:rest.size=(cap - (len+n)) * sz) (a:len+n<=cap)
  (k:∀ i,i < len+n->(get i).length=sz)
  (q:∀ i j x u,i < len+n->(get i)[j]?=some x->(olds ++ news)[i * sz+j]?=some u->aE w S (if pr then lI else μ) u x) (r:sz≠0)
  (b:MX E.fp E.w0.heap.size (w.drew.alloc (.cells (olds.toArray ++ news.toArray ++ rest) e)) S (dQ μ nk ⟨w.heap.size,cap,sz⟩) (sset σ nk ⟨false,sz,len+n,pr,get⟩)) :
  Ext w S μ (w.drew.alloc (.cells (olds.toArray ++ news.toArray ++ rest) e)) S (dQ μ nk ⟨w.heap.size,cap,sz⟩) /\
  Good E (sset σ nk ⟨false,sz,len+n,pr,get⟩) S (dQ μ nk ⟨w.heap.size,cap,sz⟩) (w.drew.alloc (.cells (olds.toArray ++ news.toArray ++ rest) e)):=by
 have s:(olds.toArray ++ news.toArray ++ rest).size=cap * sz:=by
  simp only [Array.size_append,List.size_toArray,d,f,p];rw [<- eS,<- eS];congr 1;omega
 have l:=g.drew.agN (nk:=nk) o hm (olds.toArray ++ news.toArray ++ rest) e ⟨false,sz,len+n,pr,get⟩ cap (by rw [s];exact aH _) a k ?_ r b
 ·exact ⟨(Ext.drew w S μ).trans l.1,l.2⟩
 ·intro i j x v hi m c;have A:j < sz:=by
   have:=(gW.1 m).1;have e:(get i).length=sz:=k i hi;exact e ▸ this
  have t:i * sz+j < (olds ++ news).length:=by
   have y:(i+1) * sz<=(len+n) * sz:=dU _ (show i+1<=len+n from hi);rw [eS,eS] at y;simp only [rI,d,f];omega
  have z:(olds ++ news)[i * sz+j]?=some v:=by
   rw [show olds.toArray ++ news.toArray ++ rest=(olds ++ news).toArray ++ rest by simp] at c;rw [Array.getElem?_append_left (by simpa using t)] at c;simpa using c
  have:=q i j x v hi m z;exact aE.mono (w:=w) (w':=w.drew) (S':=S) (fun _ h=>h) (fun _ _=>rfl) this (fun _ _ h=>h)
theorem Good.move (g:Good E σ S μ w) (V:μ nk=none) (hm:E.m0<=nk) {k:Nat} {o:Ob} {pl:Place} (B:aR σ k=some o) (C:μ k=some pl) (o':Ob) {c:Array Value} {T:TypeId} (I:kY w S μ o' pl c T)
  (P:∀ i x,rowOf o' i=some x->rowOf o i=some x) :
  Ext w S μ w S (dQ μ nk pl)/\Good E (sset (D4 σ k) nk o') S (dQ μ nk pl) w:=by
 have J:=g.del k;have K:∀ n oG,μ n=some oG->dQ μ nk pl n=some oG:=fun n oG h=>by
  grind [dQ]
 have ex:Ext w S μ w S (dQ μ nk pl):=⟨aH _,fun _ h=>h,fun _ _=>rfl,K⟩;refine ⟨ex,⟨g.fr,g.S0,g.S1,g.S2,⟨?_,?_⟩,?_,?_,?_⟩⟩
 rotate_right
 ·have Q:k≠nk:=fun h=>by simp_all
  have key:∀ q i x v,lV w (dQ μ nk pl) (sset (D4 σ k) nk o') q i x v->(q=nk/\lV w μ σ k i x v)\/(q≠nk/\q≠k/\lV w μ σ q i x v):=by
   rintro q i x v ⟨L,l,d,D,r,M⟩;rw [bP] at d;unfold dQ at r
   by_cases hq:nk=q
   ·rw [if_pos hq] at d;cases d;rw [if_pos hq.symm] at r;cases r;exact .inl ⟨hq.symm,o,pl,B,P i x D,C,M⟩
   ·rw [if_neg hq] at d;rw [if_neg (fun h=>hq h.symm)] at r;rw [jU] at d;split at d
    ·cases d
    ·rename_i F;exact .inr ⟨fun h=>hq h.symm,fun h=>F h.symm,L,l,d,D,r,M⟩
  refine g.mx.tr (fun q=>if q=nk then k else q) (fun q i x v h=>?_) (fun q i x v u i' x' v' h h' e=>?_) (fun _ h=>h) (fun _ _=>rfl) (fun q i x v b _ h hb=>⟨rfl,(g.mx.eC h hb).2.1,fun h=>h⟩) (fun q L l d D r=>?_)
  ·grind
  ·grind
  ·rw [bP] at d;unfold dQ at D
   by_cases hq:nk=q
   ·grind
   ·rw [if_neg hq,jU] at d;grind
 ·intro q s hq;rw [bP] at hq
  by_cases m:nk=q
  ·rw [if_pos m] at hq;cases hq;exact ⟨pl,c,T,by simp [dQ,m],I.ext ex (fun _=>rfl) I.out⟩
  ·rw [if_neg m] at hq;obtain ⟨l,y,R,U,z⟩:=J.rep.ob q s hq;exact ⟨l,y,R,K _ _ U,z.ext ex (fun _=>rfl) z.out⟩
 ·intro q u s A N l O hq f a p c1 y;rw [bP] at hq f;simp only [dQ] at a p
  by_cases j:nk=q
  ·rw [if_pos j.symm] at a;cases a;have t:¬ nk=u:=fun h=>O (j.symm.trans h);rw [if_neg t] at f;rw [if_neg (fun h=>t h.symm)] at p;rw [jU] at f;split at f
   ·cases f
   ·rename_i G;exact g.rep.ne k u o A pl l G B f C p c1 y
  ·rw [if_neg j] at hq;rw [if_neg (fun h=>j h.symm)] at a;rw [jU] at hq;split at hq
   ·cases hq
   ·rename_i G
    by_cases t:nk=u
    ·rw [if_pos t.symm] at p;cases p;exact g.rep.ne q k s o N pl (fun h=>G h.symm) hq B a C c1 y
    ·rw [if_neg t] at f;rw [if_neg (fun h=>t h.symm)] at p;rw [jU] at f;split at f
     ·cases f
     ·exact g.rep.ne q u s A N l O hq f a p c1 y
 ·intro q s H hq a c1;rw [bP] at hq;simp only [dQ] at a
  by_cases j:nk=q
  ·rw [if_pos j.symm] at a;cases a;exact g.own k o _ B C c1
  ·rw [if_neg j] at hq;rw [if_neg (fun h=>j h.symm)] at a;exact J.own q s H hq a c1
 ·intro q hq;rw [tB _ ad];exact g.LO q hq
theorem Good.congr {gV:gp} (g:Good E σ S μ w) (h:∀ n,aR gV n=aR σ n):Good E gV S μ w :=
 ⟨g.fr,g.S0,g.S1,g.S2,⟨fun k o a=>g.rep.ob k o (h k ▸ a),fun k k' o o' pl oG e a f=>g.rep.ne k k' o o' pl oG e (h k ▸ a) (h k' ▸ f)⟩,
  fun k o pl a=>g.own k o pl (h k ▸ a),g.LO,g.mx.tr id (fun k i x v ⟨o,pl,c,d⟩=>⟨o,pl,h k ▸ c,d⟩) (fun _ _ _ _ _ _ _ _ _ _ h=>h) (fun _ h=>h) (fun _ _=>rfl)
   (fun k i x v b _ h hb=>⟨rfl,(g.mx.eC h hb).2.1,fun h=>h⟩) (fun k o pl c d j=>.inl ⟨k,o,pl,h k ▸ c,d,j,rfl⟩)⟩
theorem U5 (g:Good E σ S μ w) (V:μ nk=none) (hm:E.m0<=nk) {t ty:TypeId} {s x:AV} {vs vx:Value} (hs:aE w S μ vs s) (p:aE w S μ vx x) {ps:List Prop} {val:AV} {rd:List Nat} {upd:Ae}
  (h:zp P nk σ t s x=some (ps,val,rd,upd)) (L:bO ps):Step P E nk σ S μ w (Builtin.append_ #[t,t] ty #[vs,vx]) val upd:=by
 unfold zp at h;split at h
 ·rename_i e he;have he:=pN he;split at h
  ·rename_i sz b z w7 hb hz;obtain ⟨d,W,rfl,rfl,hze⟩:=Fu w7 hb hz;split at h
   ·rename_i n gt pr ps' rd' Nm D8;simp only [cy,Nat.ble_eq] at Nm;obtain ⟨⟨b1,b2⟩,b3⟩:=Nm;have b3:=dp b3;split at h
    ·simp only [bu,bk] at h;obtain ⟨rfl,rfl,rfl,rfl⟩:=h;obtain ⟨p1,p2⟩:=L;obtain ⟨news,l⟩:=HG (P:=P) g p D8 p2;cases hs;rcases Nat.eq_zero_or_pos n with h0 | h0
     ·subst h0;have F:=Pf (P:=P) (w:=w) (ty:=ty) (sLen:=0) (sCap:=0) he W l.len l.cells ad;have ga:Good E (sset σ nk ⟨false,d.size,0,pr,gt⟩) S (dQ μ nk ⟨0,0,d.size⟩) w:=by
       have U4:∀ k pl,μ k=some pl->dQ μ nk ⟨0,0,d.size⟩ k=some pl:=fun k pl h=>by
        grind [dQ]
       have ex:Ext w S μ w S (dQ μ nk ⟨0,0,d.size⟩):=⟨aH _,fun _ h=>h,fun _ _=>rfl,U4⟩;have hnr:∀ i,rowOf ⟨false,d.size,0,pr,gt⟩ i=none:=xf fun i hi=>absurd hi (iq _);refine ⟨g.fr,g.S0,g.S1,g.S2,⟨?_,?_⟩,?_,?_,g.YZ V _ _ (fun h=>absurd h aD) hnr (fun _ _=>rfl) (fun _ h=>h) (fun _ h=>.inl h)⟩
       ·intro k o A;rw [bP] at A
        by_cases GN:nk=k
        ·rw [if_pos GN] at A;cases A;exact ⟨⟨0,0,d.size⟩,#[],0,by simp [dQ,GN],rfl,fun h=>absurd h aD,aD,aD,fun h=>absurd h aD,fun i h=>absurd h aD,fun i j x v h=>absurd h aD,fun h=>absurd (show d.size=0 from h) ad⟩
        ·rw [if_neg GN] at A;obtain ⟨pl,c,T,kZ,r⟩:=g.rep.ob k o A;exact ⟨pl,c,T,U4 _ _ kZ,r.ext ex (fun _=>rfl) r.out⟩
       ·intro k k' o o' pl oG jr A D1 O QQ c1 c2;rw [bP] at A D1;simp only [dQ] at O QQ
        by_cases f:nk=k
        ·grind
        ·by_cases D:nk=k'
         ·grind
         ·rw [if_neg f] at A;rw [if_neg D] at D1;rw [if_neg (fun h=>f h.symm)] at O;rw [if_neg (fun h=>D h.symm)] at QQ;exact g.rep.ne k k' o o' pl oG jr A D1 O QQ c1 c2
       ·intro k o pl A O c1;rw [bP] at A;simp only [dQ] at O
        by_cases f:nk=k
        ·grind
        ·rw [if_neg f] at A;rw [if_neg (fun h=>f h.symm)] at O;exact g.own k o pl A O c1
       ·intro k G;rw [tB _ ad];exact g.LO k G
      refine ⟨_,w,S,_,F,⟨aH _,fun _ h=>h,fun _ _=>rfl,?_⟩,ga,fun k G Q=>by grind [tB],?_⟩
      ·grind [dQ]
      simp_all [aE.os,dQ,absurd]
     ·have F:=Fy (P:=P) (w:=w) (ty:=ty) (base:=none) (sLen:=0) (sCap:=0) (olds:=[]) he W hze (fun w' _=>by simp [Builtin.firstCells]) l.len l.cells ad b2 (by simpa using p1);simp only [Nat.zero_add] at F;have Ad:=QP w n 0 e;have X:=g.grow (e:=e) V hm (sz:=d.size) (n:=n) (len:=0) (cap:=grownCap w n 0 e) (olds:=[]) (news:=news) (rest:=Builtin.zeroCells z.cells (grownCap w n 0 e - n)) (pr:=pr) (get:=gt)
       aD l.size (by rw [size_zeroCells,b3,Nat.zero_add]) ad (fun i hi=>l.Co i ad) (fun i j x u hi p Y=>l.rep i j x u ad p (by simpa using Y)) ad
       (g.YZ V _ _ (fun _=>aH _) (xf fun i hi=>l.al8 i (by simp_all)) (fun b h=>jq (w:=w.drew) h) (fun _ h=>h) (fun _ h=>.inl h))
      simp only [Nat.zero_add] at X;refine ⟨_,_,S,_,F,X.1,X.2,fun k G Q=>by grind [tB],?_⟩;simp_all [aE.os,grownCap,dQ]
    ·rename_i k len;split at h
     ·rename_i o A;split at h
      ·rename_i C;simp only [cy,Bool.not_eq_true'] at C;obtain ⟨C,L1⟩:=C;have C:=dp C;simp only [bu,bk] at h;obtain ⟨rfl,rfl,rfl,rfl⟩:=h;obtain ⟨p0,p1,p2⟩:=L;subst p0;obtain ⟨news,l⟩:=HG (P:=P) g p D8 p2;obtain ⟨pl,c,T',Z,r⟩:=g.rep.ob k o A;have GN:k≠nk:=fun h=>by simp_all
       show Step P E nk σ S μ w _ _ [(k,none),(nk,some ⟨false,d.size,o.len+n,o.pr && pr,fun m=>if m < o.len then o.get m else gt (m - o.len)⟩)];have xd:∀ i,i < o.len+n->((fun m=>if m < o.len then o.get m else gt (m - o.len)) i).length=d.size:=by
        intro i hi;show (if i < o.len then o.get i else gt (i - o.len)).length=_;split
        ·rw [r.Co i (by assumption),C]
        ·exact l.Co _ ad
       have prw:∀ {u:Value} {x:AV},aE w S (if o.pr then lI else μ) u x->pr=true\/pr=false->aE w S (if (o.pr && pr)=true then lI else μ) u x:=by
        intro u x hh L;rcases L with L | L
        ·simp_all
        ·rw [L,Bool.and_false];exact l7 hh
       have al9:∀ {u:Value} {x:AV},aE w S (if pr then lI else μ) u x->aE w S (if (o.pr && pr)=true then lI else μ) u x:=by
        intro u x hh;cases L:o.pr
        ·rw [Bool.false_and];exact l7 hh
        ·rw [Bool.true_and];exact hh
       have prb:pr=true\/pr=false:=by cases pr<;>simp
       have Fs:∀ i x,rowOf ⟨false,d.size,o.len+n,o.pr && pr,fun m=>if m < o.len then o.get m else gt (m - o.len)⟩ i=some x->rowOf o i=some x:=by
        intro i x p;obtain ⟨_,M,q3⟩:=gF p;have M:i < o.len+n:=M;have q3:(if i < o.len then o.get i else gt (i - o.len))=[.mr x.1 x.2.1 x.2.2]:=q3;split at q3
        ·rename_i f;exact qM L1 f q3
        ·have:=l.al8 (i - o.len) ad;rw [q3] at this;cases this
       cases hs with
       | os oG kZ f D y =>
        rename_i cap a;rw [Z] at kZ;cases kZ
        by_cases Y8:o.len+n<=cap
        ·rcases Nat.eq_zero_or_pos cap with Hj | Hj
         ·have hn0:n=0:=ad;have Y4:o.len=0:=ad;subst hn0;have an3:news=[]:=List.length_eq_zero_iff.1 (by rw [l.size];simp);have F:(Builtin.append_ #[t,t] ty #[.slice a o.len cap,vx]).run P w=.ok (.slice a (o.len+0) cap) w:=by
           subst Hj;cases a with
           | none=>exact Pf (P:=P) (w:=w) (ty:=ty) he W l.len l.cells ad
           | some a =>
            have e1:=l.cells w rfl;rw [an3] at e1;simp [Builtin.append_,run_underlying he,sizeOf,typeInfo,W,l.len,Y4,e1,storeCells]
          have gm:=g.move V hm A Z ⟨false,d.size,o.len+0,o.pr && pr,fun m=>if m < o.len then o.get m else gt (m - o.len)⟩ (c:=c) (T:=T')
           ⟨r.sz.trans C,C ▸ r.eC,C ▸ r.cap,r.len,r.out,xd,fun i j x v hi=>absurd hi (by show ¬ i < o.len+0;omega),fun h=>absurd (show d.size=0 from h) ad⟩ Fs
          exact ⟨_,w,S,dQ μ nk pl,F,gm.1,gm.2,fun k G Q=>by rw [tB _ G];exact Q,aE.os pl (by simp [dQ]) f ad y⟩
         ·have ha:=f Hj;simp only [Nat.zero_mul] at ha;subst ha;have Hg:0 < pl.cap:=ad;have Hi:o.len * d.size+news.length<=c.size:=by
           have e1:(o.len+n) * d.size<=pl.cap * d.size:=dU _ ad;have e2:=r.cap;rw [C] at e2;rw [l.size,<- eS];omega
          have F:=QO (P:=P) (w:=w) (ty:=ty) he W ((r.eC Hg).trans (by rw [kr ad])) l.len l.cells l.one Y8 Hi;generalize r7:(c.toList.take (o.len * d.size) ++ news ++ c.toList.drop (o.len * d.size+news.length)).toArray=c' at F;have GO:(c.toList.take (o.len * d.size)).length=o.len * d.size:=by simp;omega
          have QN:c'.size=c.size:=by
           rw [<- r7];simp;omega
          have yw:∀ m,m < o.len * d.size+news.length->c'[m]?=if m < o.len * d.size then c[m]? else news[m - o.len * d.size]?:=by
           intro m hm;rw [<- r7];simp only [List.getElem?_toArray];rw [mg (by simp;omega)]
           by_cases f:m < o.len * d.size
           ·rw [mg ad,xa,if_pos f,if_pos f];simp
           ·rw [o5 ad,GO,if_neg f]
          have gw:=g.write A Z Hg r ad ⟨false,d.size,o.len+n,o.pr && pr,fun m=>if m < o.len then o.get m else gt (m - o.len)⟩ c' C.symm QN (by show o.len+n<=_;omega) xd (by
           intro i j x v hi p R;have hi:i < o.len+n:=hi;have p:(if i < o.len then o.get i else gt (i - o.len))[j]?=some x:=p;have hj:j < d.size:=by
            have e1:=(gW.1 p).1;have e2:(if i < o.len then o.get i else gt (i - o.len)).length=d.size:=xd i hi;omega
           have R:c'[i * d.size+j]?=some v:=R;have z7:(i+1) * d.size<=(o.len+n) * d.size:=dU _ hi;rw [eS,eS] at z7;rw [yw _ (by rw [l.size];omega)] at R
           by_cases H:i < o.len
           ·have I:(i+1) * d.size<=o.len * d.size:=dU _ H;rw [eS] at I;rw [if_pos ad] at R;rw [if_pos H] at p;exact prw (r.rep i j x v H p (by rw [C];exact R)) prb
           ·have I:o.len * d.size<=i * d.size:=dU _ ad;rw [if_neg ad] at R;rw [if_neg H] at p;refine al9 (l.rep (i - o.len) j x v ad p ?_);rw [<- R,Nat.sub_mul];congr 1;omega) (fun i x p=>⟨Fs i x p,by
           obtain ⟨_,M,_⟩:=gF (Fs i x p);have I:(i+1) * d.size<=o.len * d.size:=dU _ M;rw [eS] at I;rw [C,yw _ ad,if_pos ad]⟩)
          obtain ⟨gw1,gw2⟩:=gw;have hsk:aR (sset σ k ⟨false,d.size,o.len+n,o.pr && pr,fun m=>if m < o.len then o.get m else gt (m - o.len)⟩) k=some ⟨false,d.size,o.len+n,o.pr && pr,fun m=>if m < o.len then o.get m else gt (m - o.len)⟩:=by
           rw [bP,if_pos rfl]
          obtain ⟨pl3,c3,T3,B,aut⟩:=gw2.rep.ob k _ hsk;rw [Z] at B;cases B;have gm:=gw2.move V hm hsk Z _ aut (fun _ _ h=>h);refine ⟨_,_,S,dQ μ nk pl,F,gw1.trans gm.1,gm.2.congr ?_,fun k G Q=>by rw [tB _ G];exact Q,aE.os pl (by simp [dQ]) aD Y8 y⟩;intro n;show aR (sset (D4 σ k) nk _) n=_;rw [bP,bP,jU,jU,bP];split
          ·rfl
          ·split
           ·rfl
           ·rfl
        ·have hg:cap < o.len+n:=ad;have holds:∃ olds:List Value,olds.length=o.len * d.size/\(∀ w':World,w'.heap=w.heap->(Builtin.firstCells d.size o.len (.slice a o.len cap)).run P w'=.ok olds.toArray w') /\
           (∀ (q:Nat) (u:Value),olds[q]?=some u->c[q]?=some u):=by
          rcases Nat.eq_zero_or_pos o.len with Y4 | Y4
          ·refine ⟨[],by simp [Y4],fun w' _=>?_,aD⟩;rw [Y4];cases a with
           | none=>simp [Builtin.firstCells]
           | some a=>simp [Builtin.firstCells,loadCells,loadCellsFrom]
          ·have Hg:0 < pl.cap:=by have:=r.len;omega
           have ha:=f ad;simp only [Nat.zero_mul] at ha;subst ha;have hle:o.len * d.size<=c.size:=by
            have e1:o.len * d.size<=pl.cap * d.size:=dU _ r.len;have e2:=r.cap;rw [C] at e2;omega
           refine ⟨c.toList.take (o.len * d.size),by simp;omega,fun w' hw'=>?_,?_⟩
           ·refine run_firstCells_some w' d.size o.len _ o.len cap _ (by simp;omega) ?_;intro q u hq;rw [Addr.add_lit,Nat.zero_add,cell_of_row w' _ _ _ _ _ (by rw [hw'];exact (r.eC Hg).trans (by rw [kr ad]))];rw [xa] at hq;split at hq
            ·simpa using hq
            ·cases hq
           ·intro q u hq;rw [xa] at hq;split at hq
            ·simpa using hq
            ·cases hq
         obtain ⟨olds,hol,hoc,hoo⟩:=holds;have F:=Fy (P:=P) (w:=w) (ty:=ty) he W hze hoc l.len l.cells hg b2 p1;have Ad:=QP w (o.len+n) cap e;have gd:=g.del k;have X:=gd.grow (e:=e) V hm (sz:=d.size) (n:=n) (len:=o.len) (cap:=grownCap w (o.len+n) cap e) (olds:=olds) (news:=news)
          (rest:=Builtin.zeroCells z.cells (grownCap w (o.len+n) cap e - (o.len+n))) (pr:=o.pr && pr) (get:=fun m=>if m < o.len then o.get m else gt (m - o.len))
          hol l.size (by rw [size_zeroCells,b3]) Ad xd (by
           intro i j x u hi p Y;have p:(if i < o.len then o.get i else gt (i - o.len))[j]?=some x:=p;have hj:j < d.size:=by
            have e1:=(gW.1 p).1;have e2:(if i < o.len then o.get i else gt (i - o.len)).length=d.size:=xd i hi;omega
           by_cases H:i < o.len
           ·have I:(i+1) * d.size<=o.len * d.size:=dU _ H;rw [eS] at I;rw [if_pos H] at p;rw [mg ad] at Y;exact prw (r.rep i j x u H p (by rw [C];exact hoo _ _ Y)) prb
           ·have I:o.len * d.size<=i * d.size:=dU _ ad;rw [if_neg H] at p;rw [o5 ad,hol] at Y;refine al9 (l.rep (i - o.len) j x u ad p ?_);rw [<- Y,Nat.sub_mul];congr 1;omega) ad (by
          have U:∀ b,b < w.heap.size->(w.drew.alloc (.cells (olds.toArray ++ news.toArray ++ Builtin.zeroCells z.cells (grownCap w (o.len+n) cap e - (o.len+n))) e)).heap[b]?=w.heap[b]?:=fun b h=>jq (w:=w.drew) h;have mV:∀ {q:Nat} {J:Ob} {N:Place},aR σ q=some J->μ q=some N->0 < N.cap->N.eC < w.heap.size:=fun {q J N} f D y=>by
           obtain ⟨pl3,c3,T3,B,K⟩:=g.rep.ob q J f;rw [D] at B;cases B;exact gK (K.eC y)
          refine g.mx.tr (fun q=>if q=nk then k else q) (fun q i x v h=>?_) (fun q i x v q' i' x' v' h h' he=>?_) (fun _ h=>h) (fun b hb=>U b (g.S1 b hb)) (fun q i x v b _ h hb=>?_) (fun q J N f D y=>?_)
          ·obtain ⟨J,N,f,D,y,h4⟩:=h;rw [bP] at f;unfold dQ at y
           by_cases hq:nk=q
           ·rw [if_pos hq] at f;cases f;rw [if_pos hq.symm] at y;cases y;show lV w μ σ (if q=nk then k else q) i x v;rw [if_pos hq.symm];have hr:=Fs i x D;obtain ⟨_,M,_⟩:=gF hr;refine ⟨o,pl,A,hr,Z,?_⟩;have Hg:0 < pl.cap:=by have:=r.len;omega
            have I:(i+1) * d.size<=o.len * d.size:=dU _ M;rw [eS] at I;have h4:(w.drew.alloc (.cells (olds.toArray ++ news.toArray ++ Builtin.zeroCells z.cells (grownCap w (o.len+n) cap e - (o.len+n))) e)).cell? ⟨w.drew.heap.size,i * d.size,none⟩=some v:=h4;rw [cell_of_row _ _ _ _ _ _ (heap_alloc_new w.drew _)] at h4;rw [Array.getElem?_append_left (by simp;omega),Array.getElem?_append_left (by simp;omega)] at h4;rw [cell_of_row w _ _ _ _ _ ((r.eC Hg).trans (by rw [kr ad])),r.sz,C];exact hoo _ _ (by simpa using h4)
           ·rw [if_neg hq,jU] at f;rw [if_neg (fun h=>hq h.symm)] at y;split at f
            ·cases f
            ·show lV w μ σ (if q=nk then k else q) i x v;rw [if_neg (fun h=>hq h.symm)];refine ⟨J,N,f,D,y,?_⟩;obtain ⟨pl3,c3,T3,B,K⟩:=g.rep.ob q J f;rw [y] at B;cases B;rw [<- h4];exact (zl (U _ (gK (K.eC (by have:=(gF D).2.1;have:=K.len;omega)))) _).symm
          ·have he:(if q=nk then k else q)=(if q'=nk then k else q'):=he;have Ud:∀ {q i x v},lV (w.drew.alloc (.cells (olds.toArray ++ news.toArray ++ Builtin.zeroCells z.cells (grownCap w (o.len+n) cap e - (o.len+n))) e)) (dQ μ nk ⟨w.heap.size,grownCap w (o.len+n) cap e,d.size⟩) (sset (D4 σ k) nk ⟨false,d.size,o.len+n,o.pr && pr,fun m=>if m < o.len then o.get m else gt (m - o.len)⟩) q i x v->q≠nk->q≠k:=by
            rintro q i x v ⟨J,_,f,_⟩ hq rfl;rw [bP,if_neg (fun h=>hq h.symm),jU,if_pos rfl] at f;cases f
           by_cases f:q=nk<;>by_cases y:q'=nk
           ·exact f.trans y.symm
           ·rw [if_pos f,if_neg y] at he;exact absurd he.symm (Ud h' y)
           ·rw [if_neg f,if_pos y] at he;exact absurd he (Ud h f)
           ·rw [if_neg f,if_neg y] at he;exact he
          ·obtain ⟨q1,M,q3,_⟩:=g.mx.eC h hb;exact ⟨U b q1,M,fun h=>h⟩
          ·rw [bP] at f;unfold dQ at D
           by_cases hq:nk=q
           ·rw [if_pos hq.symm] at D;cases D;exact .inr (aH _)
           ·rw [if_neg hq,jU] at f;rw [if_neg (fun h=>hq h.symm)] at D;split at f
            ·cases f
            ·exact .inl ⟨q,J,N,f,D,y,rfl⟩)
         refine ⟨_,_,S,_,F,X.1,X.2,fun k G Q=>by rw [tB _ G];exact Q,?_⟩;exact aE.os ⟨w.heap.size,grownCap w (o.len+n) cap e,d.size⟩ (by simp [dQ]) aD Ad aD
      ·cases h
     ·cases h
    ·cases h
   ·cases h
  ·cases h
 ·cases h
end
end Go.Ab
