/- Abstract values over the heap of the machine, and functions read off its code (part 1). No conditions. -/
import Derived.Orders
import Derived.Laws.Cells
import Derived.Laws.World
import Derived.Laws.Rows
import Derived.Laws.Sem
import Derived.KernelRfl
import Derived.Laws.CopyRow
import Derived.Laws.AppendOwn
import Derived.Laws.MakeOwn
import Derived.Laws.StructEq
import Derived.Great.BuildSlice
import Derived.Deep.MidRow
set_option linter.unusedVariables false
set_option linter.unusedSimpArgs false
namespace Go
abbrev aW:=@Option.map_eq_some_iff
abbrev aL:=@Option.some.injEq
abbrev cw:=@Nat.eq_of_beq_eq_true
abbrev aG:=@Prod.mk.injEq
abbrev a7:=@Bool.and_eq_true
abbrev fe:=@List.getElem?_eq_some_iff
abbrev ep:=@List.getD_eq_getElem?_getD
abbrev a9:=@Option.bind_some
abbrev po:=@List.length_replicate
abbrev As:=@Array.getD_eq_getD_getElem?
abbrev lF:=@Array.getElem?_eq_getElem
abbrev jj:=@List.getElem?_append_left
abbrev kU:=@List.getElem?_append_right
abbrev dN:=@Nat.mul_le_mul_right
abbrev mK:=@Int.mul_le_mul_of_nonneg_right
abbrev b8:=@Sem.run_bind
abbrev jv:=@List.take_of_length_le
abbrev ud:=@List.getElem?_eq_getElem
abbrev dP:=@Result.andThen_ok
abbrev aN:=@Nat.le_refl
abbrev Jl:=@Bool.and_eq_true_iff
abbrev sQ:=@List.getElem?_eq_none
abbrev fj:=@Nat.not_lt_zero
abbrev ue:=@Classical.byContradiction
abbrev xM:=@of_decide_eq_true
abbrev xN:=@of_decide_eq_false
abbrev uf:=@Nat.lt_of_lt_of_le
abbrev eF:=@Nat.le_trans
abbrev gI:=@List.length_append
abbrev px:=@List.length_cons
abbrev Oa:=@List.getElem?_cons_succ
abbrev qA:=@List.append_assoc
abbrev xO:=@Int.mul_le_mul_of_nonneg_left
abbrev Cs:=@Nat.lt_irrefl
abbrev rl:=@List.length_take
abbrev xP:=@List.length_drop
abbrev rm:=@List.getElem?_drop
abbrev sR:=@List.getElem?_take
abbrev zP:=@List.mem_range
abbrev lG:=@List.mem_cons
abbrev dn:=@Nat.add_mul
abbrev py:=@Nat.mul_comm
abbrev jS:=@Int.mul_add
abbrev fR:=@Int.add_mul
abbrev jk:=@Int.mul_comm
abbrev kV:=@Int.mul_assoc
end Go
namespace Go.Ab
inductive AV where
 | atom (v:Value)
 | agg (cs:List AV)
 | tup (cs:List AV)
 | sl (len:Nat) (get:Nat->List AV)
 | rp (cs:List AV) (off:Nat)
 | op (k i j:Nat)
 | os (k off len:Nat)
 | fn (f:Fn) (first cap:List AV)
 | when (b:Bool) (v:AV)
 | mp (k:Nat)
 | bn (n:Nat)
 | pt (b:Bool) (cs:List AV)
 | ov (k i j m n:Nat)
 | KG (k off len:Nat)
 | nq (st:Option Bool) (x:AV)
 | nil
 | rk
 | mr (sz len:Nat) (get:Nat->List AV)
 deriving Inhabited
structure Place where
 dD:Nat
 cap:Nat
 sz:Nat
abbrev Mu:=Nat->Option Place
def kF:Mu:=fun _=>none
def aes:Value->Bool
 | .slice none _ _=>true
 | _=>false
inductive ak (w:World) (S:Nat->Prop):Mu->Value->AV->Prop where
 | atom {μ:Mu} (v:Value):ak w S μ v (.atom v)
 | agg {μ:Mu} {vs:Array Value} {cs:List AV}:vs.size=cs.length ->
   (∀ (j:Nat) (c:AV) (v:Value),cs[j]?=some c->vs[j]?=some v->ak w S μ v c)->ak w S μ (.agg vs) (.agg cs)
 | tup {μ:Mu} {vs:Array Value} {cs:List AV}:vs.size=cs.length ->
   (∀ (j:Nat) (c:AV) (v:Value),cs[j]?=some c->vs[j]?=some v->ak w S μ v c)->ak w S μ (.tuple vs) (.tup cs)
 | sl {μ:Mu} {a:Option Addr} {len cap:Nat} {get:Nat->List AV} (b off sz:Nat) (f:Nat->Nat->Value) :
   (0 < len->a=some ⟨b,off,none⟩/\S b)->(∀ i,i < len->(get i).length=sz) ->
   (∀ i j,i < len->j < sz->w.cell? ⟨b,off+i * sz+j,none⟩=some (f i j)) ->
   (∀ i j c,i < len->(get i)[j]?=some c->ak w S kF (f i j) c)->len<=cap->ak w S μ (.slice a len cap) (.sl len get)
 | rp {μ:Mu} {cs:List AV} {off:Nat} (b o:Nat) (f:Nat->Value):S b ->
   (∀ j,j < cs.length->w.cell? ⟨b,o+j,none⟩=some (f j)) ->
   (∀ j c,cs[j]?=some c->ak w S kF (f j) c)->ak w S μ (.pointer (some ⟨b,o+off,none⟩)) (.rp cs off)
 | op {μ:Mu} {k i j:Nat} (pl:Place):μ k=some pl->ak w S μ (.pointer (some ⟨pl.dD,i * pl.sz+j,none⟩)) (.op k i j)
 | os {μ:Mu} {k off len cap:Nat} {a:Option Addr} (pl:Place):μ k=some pl ->
   (0 < cap->a=some ⟨pl.dD,off * pl.sz,none⟩)->len<=cap->off+cap=pl.cap->ak w S μ (.slice a len cap) (.os k off len)
 | fn {μ:Mu} {f:Fn} {vs ws:Array Value} {first cap:List AV}:vs.size=first.length->ws.size=cap.length ->
   (∀ (j:Nat) (c:AV) (v:Value),first[j]?=some c->vs[j]?=some v->ak w S μ v c) ->
   (∀ (j:Nat) (c:AV) (v:Value),cap[j]?=some c->ws[j]?=some v->ak w S μ v c)->ak w S μ (.func f vs ws) (.fn f first cap)
 | when {μ:Mu} {b:Bool} {v:Value} {x:AV}:(b=true->ak w S μ v x)->(b=false->v=undef)->ak w S μ v (.when b x)
 | mp {μ:Mu} {k:Nat} (pl:Place):μ k=some pl->ak w S μ (.map (some pl.dD)) (.mp k)
 | bn {μ:Mu} {n:Nat} (b:Bool):(b=true->n=0)->ak w S μ (.bool b) (.bn n)
 | pt {μ:Mu} {b:Bool} {cs:List AV} {v:Value}:(b=true->ak w S μ v (.rp cs 0))->(b=false->v=.pointer none)->ak w S μ v (.pt b cs)
 | ov {μ:Mu} {k i j m n:Nat} (pl:Place):μ k=some pl->n < m->ak w S μ (.pointer (some ⟨pl.dD,i * pl.sz+(j+n),none⟩)) (.ov k i j m n)
 | KG {μ:Mu} {k off len:Nat} {a:Option Addr} (pl:Place):μ k=some pl->(0 < len->a=some ⟨pl.dD,off * pl.sz,none⟩)->off+len=pl.cap->ak w S μ (.slice a len len) (.KG k off len)
 | nq {μ:Mu} {st:Option Bool} {v:Value} {x:AV}:ak w S μ v x->(st=some true->v=.slice none 0 0)->(st=some false->aes v=false)->ak w S μ v (.nq st x)
 | nil {μ:Mu}:ak w S μ (.slice none 0 0) .nil
 | rk {μ:Mu} {v:Value}:ak w S μ v .rk
 | mr {μ:Mu} {v:Value} {sz len:Nat} {get:Nat->List AV}:ak w S μ v (.mr sz len get)
structure Ext (w:World) (S:Nat->Prop) (μ:Mu) (w':World) (S':Nat->Prop) (eB:Mu):Prop where
 size:w.heap.size<=w'.heap.size
 TW:∀ b,S b->S' b
 dD:∀ b,S b->w'.heap[b]?=w.heap[b]?
 mu:∀ k pl,μ k=some pl->eB k=some pl
theorem Ext.refl (w:World) (S:Nat->Prop) (μ:Mu):Ext w S μ w S μ:=⟨aN _,fun _ h=>h,fun _ _=>rfl,fun _ _ h=>h⟩
theorem Ext.trans {w w' w'':World} {S S' Jh:Nat->Prop} {μ eB OF:Mu} (h:Ext w S μ w' S' eB) (k:Ext w' S' eB w'' Jh OF):Ext w S μ w'' Jh OF :=
 ⟨eF h.size k.size,fun b hb=>k.TW b (h.TW b hb),fun b hb=>(k.dD b (h.TW b hb)).trans (h.dD b hb),fun i pl hi=>k.mu i pl (h.mu i pl hi)⟩
theorem wg {w w':World} {b:Nat} (h:w'.heap[b]?=w.heap[b]?) (o:Nat):w'.cell? ⟨b,o,none⟩=w.cell? ⟨b,o,none⟩:=by
 simp [World.cell?,h]
theorem ak.mono {w w':World} {S S':Nat->Prop} (hS:∀ b,S b->S' b) (hb:∀ b,S b->w'.heap[b]?=w.heap[b]?) {μ:Mu} {v:Value} {x:AV} (h:ak w S μ v x) :
  ∀ {eB:Mu},(∀ k pl,μ k=some pl->eB k=some pl)->ak w' S' eB v x:=by
 induction h with
 | atom v=>exact fun _=>.atom v
 | agg h1 _ ih=>grind [agg]
 | tup h1 _ ih=>grind [tup]
 | @sl μ a len cap get b off sz f h1 h2 h3 _ h5 ih =>
  intro eB _
  refine .sl b off sz f (fun hl=>⟨(h1 hl).1,hS _ (h1 hl).2⟩) h2 ?_ (fun i j c hi hc=>ih i j c hi hc fun _ _ h=>h) h5
  grind [wg]
 | @rp μ cs off b o f h1 h2 _ ih =>
  intro eB _
  refine .rp b o f (hS _ h1) ?_ (fun j c hc=>ih j c hc fun _ _ h=>h)
  grind [wg]
 | op pl h=>grind [op]
 | os pl h h1 h2 h3=>grind [os]
 | fn h1 h2 _ _ ih1 ih2=>grind [fn]
 | when _ hu ih=>grind [when]
 | mp pl h=>grind [mp]
 | bn b h=>exact fun _=>.bn b h
 | pt _ h2 ih=>grind [pt]
 | ov pl h h1=>grind [ov]
 | KG pl h h1 h2=>grind [KG]
 | nq _ h1 h2 ih=>grind [nq]
 | nil=>exact fun _=>.nil
 | rk=>exact fun _=>.rk
 | mr=>exact fun _=>.mr
theorem ak.ext {w w':World} {S S':Nat->Prop} {μ eB:Mu} {v:Value} {x:AV} (h:ak w S μ v x) (e:Ext w S μ w' S' eB):ak w' S' eB v x :=
 h.mono e.TW e.dD e.mu
mutual
def AV.pure:AV->Bool
 | .atom _ | .sl _ _ | .rp _ _ | .bn _ | .pt _ _ | .nil | .rk=>true
 | .agg cs | .tup cs=>AV.oY cs
 | .fn _ a b=>AV.oY a && AV.oY b
 | .when _ v=>v.pure
 | .nq _ v=>v.pure
 | .op _ _ _ | .os _ _ _ | .mp _ | .ov _ _ _ _ _ | .KG _ _ _ | .mr _ _ _=>false
def AV.oY:List AV->Bool
 | []=>true
 | c :: cs=>c.pure && AV.oY cs
end
mutual
def AV.flat:AV->Bool
 | .atom _ | .bn _ | .nil=>true
 | .agg cs | .tup cs=>AV.Dx cs
 | .fn _ a b=>AV.Dx a && AV.Dx b
 | _=>false
def AV.Dx:List AV->Bool
 | []=>true
 | c :: cs=>c.flat && AV.Dx cs
end
theorem yi {cs:List AV} (h:AV.oY cs=true) {j:Nat} {c:AV} (hc:cs[j]?=some c):c.pure=true:=by
 induction cs generalizing j with
 | nil=>simp at hc
 | cons x xs ih =>
  simp only [AV.oY,a7] at h
  grind
theorem Bl {cs:List AV} (h:AV.Dx cs=true) {j:Nat} {c:AV} (hc:cs[j]?=some c):c.flat=true:=by
 induction cs generalizing j with
 | nil=>simp at hc
 | cons x xs ih =>
  simp only [AV.Dx,a7] at h
  grind
theorem ak.pure {w:World} {S:Nat->Prop} {μ:Mu} {v:Value} {x:AV} (h:ak w S μ v x):x.pure=true->∀ eB,ak w S eB v x:=by
 induction h with
 | atom v=>exact fun _ _=>.atom v
 | agg h1 _ ih=>grind [agg,yi,AV.pure]
 | tup h1 _ ih=>grind [tup,yi,AV.pure]
 | sl b off sz f h1 h2 h3 h4 h5 _=>exact fun _ _=>.sl b off sz f h1 h2 h3 h4 h5
 | rp b o f h1 h2 h3 _=>simp_all [rp]
 | op pl h=>grind [AV.pure]
 | os pl h h1 h2 h3=>grind [AV.pure]
 | fn h1 h2 _ _ ih1 ih2 =>
  intro hp eB
  simp only [AV.pure,a7] at hp
  grind [fn,yi]
 | when _ hu ih=>grind [when,AV.pure]
 | mp pl h=>grind [AV.pure]
 | bn b h=>exact fun _ _=>.bn b h
 | pt _ h2 ih=>exact fun _ eB=>.pt (fun hb=>ih hb rfl eB) h2
 | ov=>grind [AV.pure]
 | KG=>grind [AV.pure]
 | nq _ h1 h2 ih=>grind [nq,AV.pure]
 | nil=>exact fun _ _=>.nil
 | rk=>exact fun _ _=>.rk
 | mr=>grind [AV.pure]
theorem ak.flat {w:World} {S:Nat->Prop} {μ:Mu} {v:Value} {x:AV} (h:ak w S μ v x):x.flat=true->∀ w' S' eB,ak w' S' eB v x:=by
 induction h with
 | atom v=>grind [atom]
 | agg h1 _ ih=>grind [agg,Bl,AV.flat]
 | tup h1 _ ih=>grind [tup,Bl,AV.flat]
 | sl=>grind [AV.flat]
 | rp=>grind [AV.flat]
 | op=>grind [AV.flat]
 | os=>grind [AV.flat]
 | fn h1 h2 _ _ ih1 ih2 =>
  intro hp w' S' eB
  simp only [AV.flat,a7] at hp
  grind [fn,Bl]
 | when=>grind [AV.flat]
 | mp=>grind [AV.flat]
 | bn b h=>grind [bn]
 | pt=>grind [AV.flat]
 | ov=>grind [AV.flat]
 | KG=>grind [AV.flat]
 | nq=>grind [AV.flat]
 | nil=>exact fun _ _ _ _=>.nil
 | rk=>grind [AV.flat]
 | mr=>grind [AV.flat]
structure Ob where
 var:Bool
 sz:Nat
 len:Nat
 pr:Bool
 get:Nat->List AV
abbrev eE:=List (Nat×Ob)
def au:eE->Nat->Option Ob
 | [],_=>none
 | (k,o) :: r,n=>match Nat.beq k n with
  | true=>some o
  | false=>au r n
def sset:eE->Nat->Ob->eE
 | [],k,o=>[(k,o)]
 | (a,x) :: r,k,o=>match Nat.beq a k with
  | true=>(a,o) :: r
  | false=>(a,x) :: sset r k o
def Bm:eE->Nat->eE
 | [],_=>[]
 | (a,x) :: r,k=>match Nat.beq a k with
  | true=>Bm r k
  | false=>(a,x) :: Bm r k
theorem xA {a b:Nat} (h:a=b):Nat.beq a b=true:=by simp_all
theorem tH {a b:Nat} (h:¬ a=b):Nat.beq a b=false:=Bool.eq_false_iff.2 fun e=>h (cw e)
theorem bj (σ:eE) (k n:Nat) (o:Ob):au (sset σ k o) n=if k=n then some o else au σ n:=by
 induction σ with
 | nil =>
  simp only [sset,au]
  by_cases h:k=n
  ·rw [xA h,if_pos h]
  ·rw [tH h,if_neg h]
 | cons x r ih =>
  obtain ⟨a,x⟩:=x
  simp only [sset]
  by_cases ha:a=k
  ·rw [xA ha]
   simp only [au]
   subst ha
   by_cases h:a=n
   ·rw [xA h,if_pos h]
   ·rw [tH h,if_neg h]
  ·rw [tH ha]
   simp only [au,ih]
   by_cases hn:a=n
   ·grind
   ·rw [tH hn]
theorem im (σ:eE) (k n:Nat):au (Bm σ k) n=if k=n then none else au σ n:=by
 induction σ with
 | nil=>simp [Bm,au]
 | cons x r ih =>
  obtain ⟨a,x⟩:=x
  simp only [Bm]
  by_cases ha:a=k
  ·simp_all [xA,au,if_pos,tH]
  ·rw [tH ha]
   simp only [au,ih]
   by_cases hn:a=n
   ·grind
   ·rw [tH hn]
def gS:eE->List (Nat×Option Ob)->eE
 | σ,[]=>σ
 | σ,(k,some o) :: r=>gS (sset σ k o) r
 | σ,(k,none) :: r=>gS (Bm σ k) r
def jw (c:Array Value):Array MapEntry:=(Array.range (c.size / 2)).map fun i=>⟨c[2 * i]?.getD undef,c[2 * i+1]?.getD undef,i⟩
def HL (sz:Nat) (c:Array Value) (T:TypeId):Obj :=
 match sz with
 | 0=>.map (jw c) (c.size / 2)
 | _+1=>.cells c T (0,0)
theorem gY {sz:Nat} (h:sz≠0) (c:Array Value) (T:TypeId):HL sz c T=.cells c T (0,0):=by
 cases sz with
 | zero=>exact absurd rfl h
 | succ n=>rfl
theorem HM {sz:Nat} (h:sz=0) (c:Array Value) (T:TypeId):HL sz c T=.map (jw c) (c.size / 2):=by subst h;rfl
structure jq (w:World) (S:Nat->Prop) (μ:Mu) (o:Ob) (pl:Place) (c:Array Value) (T:TypeId):Prop where
 sz:pl.sz=o.sz
 dD:0 < pl.cap->w.heap[pl.dD]?=some (HL o.sz c T)
 cap:pl.cap * o.sz<=c.size
 len:o.len<=pl.cap
 out:0 < pl.cap->¬ S pl.dD
 zw:∀ i,i < o.len->(o.get i).length=o.sz
 rep:∀ i j x v,i < o.len->(o.get i)[j]?=some x->c[i * o.sz+j]?=some v->ak w S (if o.pr then kF else μ) v x
 mp:o.sz=0->0 < pl.cap/\c.size % 2=0/\c.size=(o.get 0).length/\o.pr=true/\∀ (j:Nat) x v,(o.get 0)[j]?=some x->c[j]?=some v->ak w S kF v x
structure aoG (w:World) (S:Nat->Prop) (μ:Mu) (σ:eE):Prop where
 ob:∀ k o,au σ k=some o->∃ pl c T,μ k=some pl/\jq w S μ o pl c T
 ne:∀ k k' o o' pl mf,k≠k'->au σ k=some o->au σ k'=some o'->μ k=some pl->μ k'=some mf->0 < pl.cap->0 < mf.cap->pl.dD≠mf.dD
theorem jq.ext {w w':World} {S S':Nat->Prop} {μ eB:Mu} {o:Ob} {pl:Place} {c:Array Value} {T:TypeId} (h:jq w S μ o pl c T) (e:Ext w S μ w' S' eB)
  (hb:0 < pl.cap->w'.heap[pl.dD]?=w.heap[pl.dD]?) (ho:0 < pl.cap->¬ S' pl.dD):jq w' S' eB o pl c T :=
 { h with
  dD:=fun hc=>(hb hc).trans (h.dD hc)
  out:=ho
  rep:=fun i j x v hi hx hv=>(h.rep i j x v hi hx hv).mono e.TW e.dD (by
   cases o.pr
   ·exact e.mu
   ·exact fun _ _ h=>h)
  mp:=fun hz=>let ⟨h0,h1,h2,h3,h4⟩:=h.mp hz
   ⟨h0,h1,h2,h3,fun j x v hx hv=>(h4 j x v hx hv).mono e.TW e.dD (fun _ _ h=>h)⟩ }
def rowOf (o:Ob) (i:Nat):Option (Nat×Nat×(Nat->List AV)) :=
 match o.var,o.get i with
 | false,[.mr sz len g]=>if i < o.len then some (sz,len,g) else none
 | _,_=>none
def WA (fp:Nat->Prop) (n0:Nat) (w:World) (S:Nat->Prop) (v:Value) (x:Nat×Nat×(Nat->List AV)):Prop :=
 ∃ a cap,v=.slice a x.2.1 cap/\x.2.1<=cap/\(1<=x.1/\∀ j,rowOf ⟨false,x.1,x.2.1,true,x.2.2⟩ j=none)/\(0 < cap->∃ b c T,a=some ⟨b,0,none⟩/\jq w S kF ⟨false,x.1,x.2.1,true,x.2.2⟩ ⟨b,cap,x.1⟩ c T/\(fp b\/n0<=b))
def ptrTo (v:Value) (b:Nat):Prop:=∃ len cap,v=.slice (some ⟨b,0,none⟩) len cap/\0 < cap
def kr (w:World) (μ:Mu) (σ:eE) (k i:Nat) (x:Nat×Nat×(Nat->List AV)) (v:Value):Prop :=
 ∃ o pl,au σ k=some o/\rowOf o i=some x/\μ k=some pl/\w.cell? ⟨pl.dD,i * pl.sz,none⟩=some v
structure MX (fp:Nat->Prop) (n0:Nat) (w:World) (S:Nat->Prop) (μ:Mu) (σ:eE):Prop where
 row:∀ k i x v,kr w μ σ k i x v->WA fp n0 w S v x
 obj:∀ k i x v b,kr w μ σ k i x v->ptrTo v b->∀ k' o' mf,au σ k'=some o'->μ k'=some mf->0 < mf.cap->mf.dD≠b
 two:∀ k i x v b k' i' x' v',kr w μ σ k i x v->kr w μ σ k' i' x' v'->ptrTo v b->ptrTo v' b->k=k'/\i=i'
theorem El {o:Ob} (h:o.var=true) (i:Nat):rowOf o i=none:=by unfold rowOf;rw [h]
theorem dW {o:Ob} {i:Nat} {x:Nat×Nat×(Nat->List AV)} (h:rowOf o i=some x):o.var=false/\i < o.len/\o.get i=[.mr x.1 x.2.1 x.2.2]:=by
 grind [rowOf]
theorem nh {o:Ob} {i:Nat} {x:Nat×Nat×(Nat->List AV)} (h2:o.var=false) (h3:i < o.len) (h4:o.get i=[.mr x.1 x.2.1 x.2.2]):rowOf o i=some x:=by
 grind [rowOf]
theorem MX.dD {fp:Nat->Prop} {n0:Nat} {w:World} {S:Nat->Prop} {μ:Mu} {σ:eE} (h:MX fp n0 w S μ σ) {k i:Nat} {x:Nat×Nat×(Nat->List AV)} {v:Value} {b:Nat} (hr:kr w μ σ k i x v) (hb:ptrTo v b) :
  b < w.heap.size/\¬ S b/\(fp b\/n0<=b)/\∃ c T,w.heap[b]?=some (.cells c T (0,0)):=by
 obtain ⟨len,cap,rfl,hc⟩:=hb
 obtain ⟨a,atP,e,h1,h2,h3⟩:=h.row _ _ _ _ hr
 injection e with e1 e2 e3
 subst e1 e2 e3
 obtain ⟨b',c,T,e4,h4,h5⟩:=h3 hc
 injection e4 with e4
 injection e4 with e4
 subst e4
 have hbk:=h4.dD hc
 have Ct:HL x.1 c T=.cells c T (0,0):=gY (by have:=h2.1;omega) c T
 have aoI:w.heap[b]?=some (.cells c T (0,0)):=by rw [hbk];exact congrArg some Ct
 exact ⟨(Array.getElem?_eq_some_iff.1 aoI).1,h4.out hc,h5,c,T,aoI⟩
theorem WA.ext {fp fp':Nat->Prop} {n0 n0':Nat} {w w':World} {S S':Nat->Prop} {v:Value} {x:Nat×Nat×(Nat->List AV)} (h:WA fp n0 w S v x) (hS:∀ b,S b->S' b) (hb:∀ b,S b->w'.heap[b]?=w.heap[b]?)
  (hp:∀ b,ptrTo v b->w'.heap[b]?=w.heap[b]?/\¬ S' b/\((fp b\/n0<=b)->(fp' b\/n0'<=b))):WA fp' n0' w' S' v x:=by
 obtain ⟨a,cap,rfl,h1,h2,h3⟩:=h
 refine ⟨a,cap,rfl,h1,h2,fun hc=>?_⟩
 obtain ⟨b,c,T,rfl,h4,h5⟩:=h3 hc
 obtain ⟨p1,p2,p3⟩:=hp b ⟨_,_,rfl,hc⟩
 refine ⟨b,c,T,rfl,⟨h4.sz,fun h=>p1.trans (h4.dD h),h4.cap,h4.len,fun _=>p2,h4.zw,fun i j x v hi hx hv=>(h4.rep i j x v hi hx hv).mono hS hb (fun _ _ h=>h),fun hz=>?_⟩,p3 h5⟩
 simp_all
theorem MX.tr {fp fp':Nat->Prop} {n0 n0':Nat} {w w':World} {S S':Nat->Prop} {μ eB:Mu} {σ gj:eE} (h:MX fp n0 w S μ σ) (φ:Nat->Nat)
  (hr:∀ k i x v,kr w' eB gj k i x v->kr w μ σ (φ k) i x v)
  (hi:∀ k i x v k' i' x' v',kr w' eB gj k i x v->kr w' eB gj k' i' x' v'->φ k=φ k'->k=k')
  (hS:∀ b,S b->S' b) (hb:∀ b,S b->w'.heap[b]?=w.heap[b]?)
  (hp:∀ k i x v b,kr w' eB gj k i x v->kr w μ σ (φ k) i x v->ptrTo v b->w'.heap[b]?=w.heap[b]?/\¬ S' b/\((fp b\/n0<=b)->(fp' b\/n0'<=b)))
  (ho:∀ k o pl,au gj k=some o->eB k=some pl->0 < pl.cap->(∃ k1 o1 Ji,au σ k1=some o1/\μ k1=some Ji/\0 < Ji.cap/\Ji.dD=pl.dD)\/w.heap.size<=pl.dD):MX fp' n0' w' S' eB gj:=by
 refine ⟨fun k i x v hv=>(h.row _ _ _ _ (hr _ _ _ _ hv)).ext hS hb fun b zQ=>hp _ _ _ _ _ hv (hr _ _ _ _ hv) zQ,fun k i x v b hv zQ k' o' mf h1 h2 h3 he=>?_,fun k i x v b k' i' x' v' hv yB wV ss=>?_⟩
 ·have hv0:=hr _ _ _ _ hv
  rcases ho k' o' mf h1 h2 h3 with ⟨k1,o1,Ji,q1,q2,q3,q4⟩ | q
  ·exact h.obj _ _ _ _ b hv0 zQ k1 o1 Ji q1 q2 q3 (q4.trans he)
  ·have:=(h.dD hv0 zQ).1;omega
 ·obtain ⟨e1,e2⟩:=h.two _ _ _ _ _ _ _ _ _ (hr _ _ _ _ hv) (hr _ _ _ _ yB) wV ss
  grind
theorem MX.nil {fp:Nat->Prop} {n0:Nat} {w:World} {S:Nat->Prop} {μ:Mu} {σ:eE} (h:∀ k o i,au σ k=some o->rowOf o i=none):MX fp n0 w S μ σ:=by
 have no:∀ {k i x v},kr w μ σ k i x v->False:=by
  rintro k i x v ⟨o,pl,h1,h2,_⟩
  rw [h k o i h1] at h2;cases h2
 exact ⟨fun _ _ _ _ h=>(no h).elim,fun _ _ _ _ _ h=>(no h).elim,fun _ _ _ _ _ _ _ _ _ h=>(no h).elim⟩
end Go.Ab
namespace Go.Ab
structure Env where
 w0:World
 S0:Nat->Prop
 fp:Nat->Prop
 μ0:Mu
 m0:Nat
structure Fr (w0:World) (fp:Nat->Prop) (w:World):Prop where
 os:w.os=w0.os
 tape:w.tape=w0.tape
 output:w.output=w0.output
 size:w0.heap.size<=w.heap.size
 dD:∀ b,b < w0.heap.size->¬ fp b->w.heap[b]?=w0.heap[b]?
theorem Fr.refl (w:World) (fp:Nat->Prop):Fr w fp w:=⟨rfl,rfl,rfl,aN _,fun _ _ _=>rfl⟩
structure Good (E:Env) (σ:eE) (S:Nat->Prop) (μ:Mu) (w:World):Prop where
 fr:Fr E.w0 E.fp w
 S0:∀ b,E.S0 b->S b
 S1:∀ b,S b->b < w.heap.size
 S2:∀ b,S b->E.S0 b\/E.w0.heap.size<=b
 rep:aoG w S μ σ
 own:∀ k o pl,au σ k=some o->μ k=some pl->0 < pl.cap->E.fp pl.dD\/E.w0.heap.size<=pl.dD
 Oc:∀ k,k < E.m0->μ k=E.μ0 k
 mx:MX E.fp E.w0.heap.size w S μ σ
theorem iV {w:World} {b:Nat} {o:Obj} (h:w.heap[b]?=some o):b < w.heap.size:=(Array.getElem?_eq_some_iff.1 h).1
def cK (μ:Mu) (k:Nat) (pl:Place):Mu:=fun n=>if n=k then some pl else μ n
theorem gJ {w:World} {o:Obj} {b:Nat} (h:b < w.heap.size):(w.alloc o).heap[b]?=w.heap[b]?:=heap_alloc_old w o b h
theorem kr.DW {w w':World} {S:Nat->Prop} {μ eB:Mu} {σ gj:eE} (g:aoG w S μ σ) {k k1 i:Nat} {x:Nat×Nat×(Nat->List AV)} {v:Value} (h:kr w' eB gj k i x v)
  (ho:∀ o,au gj k=some o->∃ o1,au σ k1=some o1/\rowOf o1 i=some x) (hm:∀ pl,eB k=some pl->μ k1=some pl)
  (hb:∀ o pl,au σ k1=some o->μ k1=some pl->0 < pl.cap->w'.heap[pl.dD]?=w.heap[pl.dD]?):kr w μ σ k1 i x v:=by
 obtain ⟨o,pl,h1,h2,h3,h4⟩:=h
 obtain ⟨o1,h5,h6⟩:=ho o h1
 have h7:=hm pl h3
 refine ⟨o1,pl,h5,h6,h7,?_⟩
 obtain ⟨xQ,c,T,h8,h9⟩:=g.ob k1 o1 h5
 rw [h7] at h8;cases h8
 have hc:0 < pl.cap:=by have:=(dW h6).2.1;have:=h9.len;omega
 grind [wg]
theorem kr.ob {w:World} {μ:Mu} {σ:eE} {k i:Nat} {x:Nat×Nat×(Nat->List AV)} {v:Value} (h:kr w μ σ k i x v):∃ o,au σ k=some o/\rowOf o i=some x:=by
 obtain ⟨o,_,h1,h2,_⟩:=h;exact ⟨o,h1,h2⟩
theorem Good.aet {E:Env} {σ:eE} {S:Nat->Prop} {μ:Mu} {w:World} (g:Good E σ S μ w) {nk:Nat} (hk:μ nk=none) (hm:E.m0<=nk) (c:Array Value) (T:TypeId) (o:Ob) (cap:Nat)
  (DX:cap * o.sz<=c.size) (hlen:o.len<=cap) (ug:∀ i,i < o.len->(o.get i).length=o.sz)
  (HN:∀ i j x v,i < o.len->(o.get i)[j]?=some x->c[i * o.sz+j]?=some v->ak w S (if o.pr then kF else μ) v x) (KL:o.sz≠0)
  (hmx:MX E.fp E.w0.heap.size (w.alloc (.cells c T)) S (cK μ nk ⟨w.heap.size,cap,o.sz⟩) (sset σ nk o)) :
  Ext w S μ (w.alloc (.cells c T)) S (cK μ nk ⟨w.heap.size,cap,o.sz⟩)/\Good E (sset σ nk o) S (cK μ nk ⟨w.heap.size,cap,o.sz⟩) (w.alloc (.cells c T)):=by
 have e:Ext w S μ (w.alloc (.cells c T)) S (cK μ nk ⟨w.heap.size,cap,o.sz⟩) :=
  ⟨by simp,fun _ h=>h,fun b hb=>gJ (g.S1 b hb),fun k pl h=>by
   grind [cK]⟩
 refine ⟨e,⟨⟨g.fr.os,g.fr.tape,g.fr.output,by have:=g.fr.size;simp;omega,fun b hb hf=>(gJ (uf hb g.fr.size)).trans (g.fr.dD b hb hf)⟩,
  g.S0,fun b hb=>by have:=g.S1 b hb;simp;omega,g.S2,⟨?_,?_⟩,?_,fun k tg=>?_,hmx⟩⟩
 ·intro k x hx
  rw [bj] at hx
  by_cases Dy:nk=k
  ·rw [if_pos Dy] at hx
   cases hx
   refine ⟨⟨w.heap.size,cap,o.sz⟩,c,T,by simp [cK,Dy],rfl,fun _=>(heap_alloc_new w _).trans (by rw [gY KL]),DX,hlen,fun _ hS=>Cs _ (g.S1 _ hS),ug,?_,fun h=>absurd h KL⟩
   intro i j x v hi hx hv
   refine (HN i j x v hi hx hv).mono e.TW e.dD ?_
   cases o.pr
   ·exact e.mu
   ·exact fun _ _ h=>h
  ·rw [if_neg Dy] at hx
   obtain ⟨pl,c',T',jl,ho⟩:=g.rep.ob k x hx
   exact ⟨pl,c',T',e.mu _ _ jl,ho.ext e (fun hc=>gJ (iV (ho.dD hc))) ho.out⟩
 ·intro k k' x x' pl mf gH hx Dz hp wW zx Wt
  rw [bj] at hx Dz
  simp only [cK] at hp wW
  have lt:∀ {k x pl},nk≠k->au σ k=some x->μ k=some pl->0 < pl.cap->pl.dD < w.heap.size:=fun {k x pl} _ hx hp hc=>by
   obtain ⟨xQ,c',T',jl,ho⟩:=g.rep.ob k x hx
   rw [hp] at jl;cases jl;exact iV (ho.dD hc)
  by_cases h1:nk=k
  ·grind
  ·rw [if_neg h1] at hx
   rw [if_neg (fun h=>h1 h.symm)] at hp
   by_cases h2:nk=k'
   ·grind
   ·rw [if_neg h2] at Dz
    rw [if_neg (fun h=>h2 h.symm)] at wW
    exact g.rep.ne k k' x x' pl mf gH hx Dz hp wW zx Wt
 ·intro k x pl hx hp hc
  rw [bj] at hx
  simp only [cK] at hp
  by_cases h1:nk=k
  ·rw [if_pos h1.symm] at hp
   cases hp
   exact .inr g.fr.size
  ·rw [if_neg h1] at hx
   rw [if_neg (fun h=>h1 h.symm)] at hp
   exact g.own k x pl hx hp hc
 ·simp only [cK]
  rw [if_neg (by omega)]
  exact g.Oc k tg
theorem Good.WB {E:Env} {σ:eE} {S:Nat->Prop} {μ:Mu} {w w':World} (g:Good E σ S μ w) {nk:Nat} (hk:μ nk=none) (o:Ob) (pl:Place) (KH:0 < pl.cap->w.heap.size<=pl.dD) (hnr:∀ i,rowOf o i=none)
  (hw:∀ b,b < w.heap.size->w'.heap[b]?=w.heap[b]?) {S':Nat->Prop} (hS:∀ b,S b->S' b) (hS':∀ b,S' b->S b\/w.heap.size<=b):MX E.fp E.w0.heap.size w' S' (cK μ nk pl) (sset σ nk o):=by
 have key:∀ k i x v,kr w' (cK μ nk pl) (sset σ nk o) k i x v->k≠nk:=by
  rintro k i x v h rfl
  obtain ⟨o2,h1,h2⟩:=h.ob
  rw [bj,if_pos rfl] at h1
  cases h1
  rw [hnr] at h2;cases h2
 refine g.mx.tr id (fun k i x v h=>?_) (fun _ _ _ _ _ _ _ _ _ _ h=>h) hS (fun b hb=>hw b (g.S1 b hb)) (fun k i x v b _ h hb=>?_) (fun k o2 xQ h1 h2 h3=>?_)
 ·have gH:=key _ _ _ _ h
  obtain ⟨o3,h3,h4⟩:=h.ob
  refine h.DW g.rep (fun o2 h1=>?_) (fun xQ h2=>?_) (fun o2 xQ h1 h2 h3=>?_)
  ·rw [h3] at h1;cases h1
   rw [bj,if_neg (fun e=>gH e.symm)] at h3
   exact ⟨o3,h3,h4⟩
  ·simp_all [cK,if_neg]
  ·obtain ⟨pl3,c3,T3,hm3,YB⟩:=g.rep.ob k o2 h1
   have h2:μ k=some xQ:=h2
   rw [h2] at hm3;cases hm3
   exact hw _ (iV (YB.dD h3))
 ·obtain ⟨q1,q2,q3,_⟩:=g.mx.dD h hb
  grind
 ·by_cases Dy:nk=k
  ·simp_all [cK,if_pos]
  ·rw [bj,if_neg Dy] at h1
   unfold cK at h2;grind
theorem Good.alloc {E:Env} {σ:eE} {S:Nat->Prop} {μ:Mu} {w:World} (g:Good E σ S μ w) {nk:Nat} (hk:μ nk=none) (hm:E.m0<=nk) (c:Array Value) (T:TypeId) (o:Ob) (cap:Nat)
  (DX:cap * o.sz<=c.size) (hlen:o.len<=cap) (ug:∀ i,i < o.len->(o.get i).length=o.sz)
  (HN:∀ i j x v,i < o.len->(o.get i)[j]?=some x->c[i * o.sz+j]?=some v->ak w S (if o.pr then kF else μ) v x) (KL:o.sz≠0) (hnr:∀ i,rowOf o i=none) :
  Ext w S μ (w.alloc (.cells c T)) S (cK μ nk ⟨w.heap.size,cap,o.sz⟩)/\Good E (sset σ nk o) S (cK μ nk ⟨w.heap.size,cap,o.sz⟩) (w.alloc (.cells c T)) :=
 g.aet hk hm c T o cap DX hlen ug HN KL (g.WB hk o _ (fun _=>aN _) hnr (fun _ h=>gJ h) (fun _ h=>h) (fun _ h=>.inl h))
theorem Good.YJ {E:Env} {σ:eE} {S:Nat->Prop} {μ:Mu} {w w':World} (g:Good E σ S μ w)
  (hw:∀ b,b < w.heap.size->w'.heap[b]?=w.heap[b]?) {S':Nat->Prop} (hS:∀ b,S b->S' b) (hS':∀ b,S' b->S b\/w.heap.size<=b):MX E.fp E.w0.heap.size w' S' μ σ:=by
 refine g.mx.tr id (fun k i x v h=>?_) (fun _ _ _ _ _ _ _ _ _ _ h=>h) hS (fun b hb=>hw b (g.S1 b hb)) (fun k i x v b _ h hb=>?_) (fun k o2 xQ h1 h2 h3=>.inl ⟨k,o2,xQ,h1,h2,h3,rfl⟩)
 ·obtain ⟨o3,h3,h4⟩:=h.ob
  refine h.DW g.rep (fun o2 h1=>⟨o3,h3,h4⟩) (fun xQ h2=>h2) (fun o2 xQ h1 h2 h3=>?_)
  obtain ⟨pl3,c3,T3,hm3,YB⟩:=g.rep.ob k o2 h1
  have h2:μ k=some xQ:=h2
  rw [h2] at hm3;cases hm3
  exact hw _ (iV (YB.dD h3))
 ·obtain ⟨q1,q2,q3,_⟩:=g.mx.dD h hb
  grind
theorem Good.acI {E:Env} {σ:eE} {S:Nat->Prop} {μ:Mu} {w:World} (g:Good E σ S μ w) (o:Obj) :
  Ext w S μ (w.alloc o) (fun b=>S b\/b=w.heap.size) μ/\Good E σ (fun b=>S b\/b=w.heap.size) μ (w.alloc o):=by
 have e:Ext w S μ (w.alloc o) (fun b=>S b\/b=w.heap.size) μ :=
  ⟨by simp,fun _ h=>.inl h,fun b hb=>gJ (g.S1 b hb),fun k pl h=>h⟩
 refine ⟨e,⟨⟨g.fr.os,g.fr.tape,g.fr.output,by have:=g.fr.size;simp;omega,fun b hb hf=>(gJ (uf hb g.fr.size)).trans (g.fr.dD b hb hf)⟩,
  fun b h=>.inl (g.S0 b h),fun b hb=>?_,fun b hb=>?_,⟨?_,g.rep.ne⟩,g.own,g.Oc,g.YJ (fun _ h=>gJ h) (fun _ h=>.inl h) (fun b h=>h.elim .inl (fun h=>.inr (Nat.le_of_eq h.symm)))⟩⟩
 ·rcases hb with hb | hb
  ·have:=g.S1 b hb;simp;omega
  ·simp;omega
 ·rcases hb with hb | hb
  ·exact g.S2 b hb
  ·exact .inr (hb ▸ g.fr.size)
 ·intro k x hx
  obtain ⟨pl,c',T',jl,ho⟩:=g.rep.ob k x hx
  exact ⟨pl,c',T',jl,ho.ext e (fun hc=>gJ (iV (ho.dD hc))) (fun hc h=>h.elim (ho.out hc) (by have:=iV (ho.dD hc);omega))⟩
theorem Good.drew {E:Env} {σ:eE} {S:Nat->Prop} {μ:Mu} {w:World} (g:Good E σ S μ w):Good E σ S μ w.drew :=
 ⟨⟨g.fr.os,g.fr.tape,g.fr.output,g.fr.size,g.fr.dD⟩,g.S0,g.S1,g.S2,
  ⟨fun k o h=>let ⟨pl,c,T,hm,ho⟩:=g.rep.ob k o h
   ⟨pl,c,T,hm,ho.ext (w':=w.drew) ⟨aN _,fun _ h=>h,fun _ _=>rfl,fun _ _ h=>h⟩ (fun _=>rfl) ho.out⟩,g.rep.ne⟩,g.own,g.Oc,g.YJ (w':=w.drew) (fun _ _=>rfl) (fun _ h=>h) (fun _ h=>.inl h)⟩
theorem Ext.drew (w:World) (S:Nat->Prop) (μ:Mu):Ext w S μ w.drew S μ:=⟨aN _,fun _ h=>h,fun _ _=>rfl,fun _ _ h=>h⟩
theorem Good.del {E:Env} {σ:eE} {S:Nat->Prop} {μ:Mu} {w:World} (g:Good E σ S μ w) (k:Nat):Good E (Bm σ k) S μ w:=by
 have hs:∀ n o,au (Bm σ k) n=some o->au σ n=some o:=fun n o h=>by
  grind [im]
 exact ⟨g.fr,g.S0,g.S1,g.S2,⟨fun n o h=>g.rep.ob n o (hs n o h),fun k k' o o' pl mf gH h h'=>g.rep.ne k k' o o' pl mf gH (hs _ _ h) (hs _ _ h')⟩,
  fun k o pl h=>g.own k o pl (hs _ _ h),g.Oc,g.mx.tr id (fun k i x v ⟨o,pl,h1,h2⟩=>⟨o,pl,hs _ _ h1,h2⟩) (fun _ _ _ _ _ _ _ _ _ _ h=>h) (fun _ h=>h) (fun _ _=>rfl)
   (fun k i x v b _ h hb=>⟨rfl,(g.mx.dD h hb).2.1,fun h=>h⟩) (fun k o pl h1 h2 h3=>.inl ⟨k,o,pl,hs _ _ h1,h2,h3,rfl⟩)⟩
theorem Good.mxW {E:Env} {σ:eE} {S:Nat->Prop} {μ:Mu} {w w':World} (g:Good E σ S μ w) {k:Nat} {o:Ob} (hs:au σ k=some o) {pl:Place} (hm:μ k=some pl) (Au:0 < pl.cap) (hS:¬ S pl.dD)
  (wh:∀ b,b≠pl.dD->w'.heap[b]?=w.heap[b]?) (o':Ob) (Ct:∀ i x,rowOf o' i=some x->rowOf o i=some x/\∀ v,w'.cell? ⟨pl.dD,i * pl.sz,none⟩=some v->w.cell? ⟨pl.dD,i * pl.sz,none⟩=some v) :
  MX E.fp E.w0.heap.size w' S μ (sset σ k o'):=by
 refine g.mx.tr id (fun n i x v h=>?_) (fun _ _ _ _ _ _ _ _ _ _ h=>h) (fun _ h=>h) (fun b hb=>wh b fun e=>hS (e ▸ hb)) (fun n i x v b _ h hb=>?_) (fun n o2 xQ h1 h2 h3=>?_)
 ·by_cases Dy:k=n
  ·subst Dy
   obtain ⟨o2,xQ,h1,h2,h3,h4⟩:=h
   rw [bj,if_pos rfl] at h1;cases h1
   rw [hm] at h3;cases h3
   obtain ⟨q1,q2⟩:=Ct i x h2
   exact ⟨o,pl,hs,q1,hm,q2 v h4⟩
  ·obtain ⟨o3,h3,h4⟩:=h.ob
   rw [bj,if_neg Dy] at h3
   refine h.DW g.rep (fun o2 h1=>⟨o3,h3,h4⟩) (fun xQ h2=>h2) (fun o2 xQ h1 h2 h3=>?_)
   exact wh _ (g.rep.ne n k o2 o xQ pl (fun h=>Dy h.symm) h1 hs h2 hm h3 Au)
 ·obtain ⟨q1,q2,q3,_⟩:=g.mx.dD h hb
  exact ⟨wh b fun e=>g.mx.obj _ _ _ _ _ h hb k o pl hs hm Au e.symm,q2,fun h=>h⟩
 ·rw [bj] at h1
  grind
theorem Good.write {E:Env} {σ:eE} {S:Nat->Prop} {μ:Mu} {w:World} (g:Good E σ S μ w) {k:Nat} {o:Ob} (hs:au σ k=some o) {pl:Place} {c:Array Value} {T:TypeId}
  (hm:μ k=some pl) (Au:0 < pl.cap) (ho:jq w S μ o pl c T) (KL:o.sz≠0) (o':Ob) (c':Array Value) (xB:o'.sz=o.sz) (hc:c'.size=c.size) (hlen:o'.len<=pl.cap)
  (ug:∀ i,i < o'.len->(o'.get i).length=o'.sz)
  (HN:∀ i j x v,i < o'.len->(o'.get i)[j]?=some x->c'[i * o'.sz+j]?=some v->ak w S (if o'.pr then kF else μ) v x)
  (Ct:∀ i x,rowOf o' i=some x->rowOf o i=some x/\c'[i * o.sz]?=c[i * o.sz]?) :
  Ext w S μ (w.setRow pl.dD c') S μ/\Good E (sset σ k o') S μ (w.setRow pl.dD c'):=by
 have wh:∀ b,b≠pl.dD->(w.setRow pl.dD c').heap[b]?=w.heap[b]?:=fun b hb=>by
  simp only [World.setRow,Array.getElem?_modify]
  grind
 have e:Ext w S μ (w.setRow pl.dD c') S μ :=
  ⟨by simp,fun _ h=>h,fun b hb=>wh b fun h=>ho.out Au (h ▸ hb),fun _ _ h=>h⟩
 refine ⟨e,⟨⟨g.fr.os,g.fr.tape,g.fr.output,by have:=g.fr.size;simpa using this,fun b hb hf=>?_⟩,g.S0,fun b hb=>by simpa using g.S1 b hb,g.S2,⟨?_,?_⟩,?_,g.Oc,?_⟩⟩
 rotate_right
 ·refine g.mxW hs hm Au (ho.out Au) wh o' fun i x hx=>⟨(Ct i x hx).1,fun v hv=>?_⟩
  have h1:=ho.dD Au
  rw [gY KL] at h1
  rw [cell_of_row _ _ _ _ _ _ (setRow_heap w _ c c' T (0,0) h1),ho.sz,(Ct i x hx).2] at hv
  rw [cell_of_row _ _ _ _ _ _ h1,ho.sz]
  exact hv
 ·rw [wh b,g.fr.dD b hb hf]
  rintro rfl
  rcases g.own k o pl hs hm Au with h | h
  ·exact hf h
  ·omega
 ·intro n x hx
  rw [bj] at hx
  by_cases Dy:k=n
  ·rw [if_pos Dy] at hx
   cases hx
   refine ⟨pl,c',T,Dy ▸ hm,ho.sz.trans xB.symm,fun _=>(setRow_heap w _ c c' T (0,0) ((ho.dD Au).trans (by rw [gY KL]))).trans (by rw [gY (by rw [xB];exact KL)]),?_,hlen,ho.out,ug,?_,fun h=>absurd (xB ▸ h) KL⟩
   ·rw [xB,hc];exact ho.cap
   ·intro i j x v hi hx hv
    refine (HN i j x v hi hx hv).mono e.TW e.dD ?_
    cases o'.pr
    ·exact e.mu
    ·exact fun _ _ h=>h
  ·rw [if_neg Dy] at hx
   obtain ⟨xQ,c2,T2,OG,MK⟩:=g.rep.ob n x hx
   exact ⟨xQ,c2,T2,OG,MK.ext e (fun hc=>wh _ (g.rep.ne n k x o xQ pl (fun h=>Dy h.symm) hx hs OG hm hc Au)) MK.out⟩
 ·intro n n' x x' p p' gH hx Dz hp wW zx Wt
  rw [bj] at hx Dz
  have f:∀ {n x},(if k=n then some o' else au σ n)=some x->∃ y,au σ n=some y:=fun {n x} h=>by
   split at h
   ·rename_i hh;exact ⟨o,hh ▸ hs⟩
   ·exact ⟨_,h⟩
  obtain ⟨y,hy⟩:=f hx
  obtain ⟨y',hy'⟩:=f Dz
  exact g.rep.ne n n' y y' p p' gH hy hy' hp wW zx Wt
 ·intro n x p hx hp hc
  rw [bj] at hx
  split at hx
  ·rename_i hh;subst hh;exact g.own _ o p hs hp hc
  ·exact g.own n x p hx hp hc
theorem Good.ajq {E:Env} {σ:eE} {S:Nat->Prop} {μ:Mu} {w w':World} (g:Good E σ S μ w) {k:Nat} {o:Ob} (hs:au σ k=some o) {pl:Place} {c:Array Value} {T:TypeId}
  (hm:μ k=some pl) (Au:0 < pl.cap) (ho:jq w S μ o pl c T) (h1:w'.os=w.os) (h2:w'.tape=w.tape) (h3:w'.output=w.output) (h4:w'.heap.size=w.heap.size) (wh:∀ b,b≠pl.dD->w'.heap[b]?=w.heap[b]?)
  (o':Ob) (hnr:∀ i,rowOf o' i=none) (ajr:Ext w S μ w' S μ->∃ c' T',jq w' S μ o' pl c' T'):Ext w S μ w' S μ/\Good E (sset σ k o') S μ w':=by
 have e:Ext w S μ w' S μ:=⟨by omega,fun _ h=>h,fun b hb=>wh b fun h=>ho.out Au (h ▸ hb),fun _ _ h=>h⟩
 refine ⟨e,⟨⟨h1.trans g.fr.os,h2.trans g.fr.tape,h3.trans g.fr.output,by have:=g.fr.size;omega,fun b hb hf=>?_⟩,g.S0,fun b hb=>by rw [h4];exact g.S1 b hb,g.S2,⟨?_,?_⟩,?_,g.Oc,g.mxW hs hm Au (ho.out Au) wh o' fun i x hx=>by rw [hnr] at hx;cases hx⟩⟩
 ·rw [wh b,g.fr.dD b hb hf]
  rintro rfl
  rcases g.own k o pl hs hm Au with h | h
  ·exact hf h
  ·omega
 ·intro n x hx
  rw [bj] at hx
  by_cases Dy:k=n
  ·simp_all
  ·rw [if_neg Dy] at hx
   obtain ⟨xQ,c2,T2,OG,MK⟩:=g.rep.ob n x hx
   exact ⟨xQ,c2,T2,OG,MK.ext e (fun hc=>wh _ (g.rep.ne n k x o xQ pl (fun h=>Dy h.symm) hx hs OG hm hc Au)) MK.out⟩
 ·intro n n' x x' p p' gH hx Dz hp wW zx Wt
  rw [bj] at hx Dz
  have f:∀ {n x},(if k=n then some o' else au σ n)=some x->∃ y,au σ n=some y:=fun {n x} h=>by
   grind
  obtain ⟨y,hy⟩:=f hx
  obtain ⟨y',hy'⟩:=f Dz
  exact g.rep.ne n n' y y' p p' gH hy hy' hp wW zx Wt
 ·intro n x p hx hp hc
  rw [bj] at hx
  split at hx
  ·rename_i hh;subst hh;exact g.own _ o p hs hp hc
  ·exact g.own n x p hx hp hc
theorem Good.allocMap {E:Env} {σ:eE} {S:Nat->Prop} {μ:Mu} {w:World} (g:Good E σ S μ w) {nk:Nat} (hk:μ nk=none) (hm:E.m0<=nk) :
  Ext w S μ (w.alloc (.map #[] 0)) S (cK μ nk ⟨w.heap.size,1,0⟩)/\Good E (sset σ nk ⟨false,0,0,true,fun _=>[]⟩) S (cK μ nk ⟨w.heap.size,1,0⟩) (w.alloc (.map #[] 0)):=by
 have hold:∀ b,b < w.heap.size->(w.alloc (.map #[] 0)).heap[b]?=w.heap[b]?:=fun b h=>gJ h
 have e:Ext w S μ (w.alloc (.map #[] 0)) S (cK μ nk ⟨w.heap.size,1,0⟩) :=
  ⟨by simp,fun _ h=>h,fun b hb=>hold b (g.S1 b hb),fun k pl h=>by
   grind [cK]⟩
 have lt:∀ {k x pl},au σ k=some x->μ k=some pl->0 < pl.cap->pl.dD < w.heap.size:=fun {k x pl} hx hp hc=>by
  obtain ⟨xQ,c',T',jl,ho⟩:=g.rep.ob k x hx
  rw [hp] at jl;cases jl;exact iV (ho.dD hc)
 refine ⟨e,⟨⟨g.fr.os,g.fr.tape,g.fr.output,by have:=g.fr.size;simp;omega,fun b hb hf=>(hold b (uf hb g.fr.size)).trans (g.fr.dD b hb hf)⟩,
  g.S0,fun b hb=>by have:=g.S1 b hb;simp;omega,g.S2,⟨?_,?_⟩,?_,fun k tg=>?_,g.WB hk _ _ (fun _=>aN _) (fun i=>rfl) hold (fun _ h=>h) (fun _ h=>.inl h)⟩⟩
 ·intro k x hx
  rw [bj] at hx
  by_cases Dy:nk=k
  ·rw [if_pos Dy] at hx
   cases hx
   refine ⟨⟨w.heap.size,1,0⟩,#[],0,by simp [cK,Dy],rfl,fun _=>(heap_alloc_new w _).trans (by simp [HL,jw]),by simp,by simp,fun _ hS=>Cs _ (g.S1 _ hS),fun i hi=>absurd hi (fj _),fun i j x v hi=>absurd hi (fj _),fun _=>⟨Nat.one_pos,rfl,rfl,rfl,fun j x v hx=>by simp at hx⟩⟩
  ·rw [if_neg Dy] at hx
   obtain ⟨pl,c',T',jl,ho⟩:=g.rep.ob k x hx
   exact ⟨pl,c',T',e.mu _ _ jl,ho.ext e (fun hc=>hold _ (iV (ho.dD hc))) ho.out⟩
 ·intro k k' x x' pl mf gH hx Dz hp wW zx Wt
  rw [bj] at hx Dz
  simp only [cK] at hp wW
  by_cases h1:nk=k
  ·grind
  ·rw [if_neg h1] at hx
   rw [if_neg (fun h=>h1 h.symm)] at hp
   by_cases h2:nk=k'
   ·grind
   ·rw [if_neg h2] at Dz
    rw [if_neg (fun h=>h2 h.symm)] at wW
    exact g.rep.ne k k' x x' pl mf gH hx Dz hp wW zx Wt
 ·intro k x pl hx hp hc
  rw [bj] at hx
  simp only [cK] at hp
  by_cases h1:nk=k
  ·rw [if_pos h1.symm] at hp
   cases hp
   exact .inr g.fr.size
  ·rw [if_neg h1] at hx
   rw [if_neg (fun h=>h1 h.symm)] at hp
   exact g.own k x pl hx hp hc
 ·simp only [cK]
  rw [if_neg (by omega)]
  exact g.Oc k tg
end Go.Ab
namespace Go.Ab
def bm:List Prop->Prop
 | []=>True
 | p :: ps=>p/\bm ps
theorem bm.app {a b:List Prop} (h:bm (a ++ b)):bm a/\bm b:=by
 induction a with
 | nil=>exact ⟨trivial,h⟩
 | cons p ps ih=>exact ⟨⟨h.1,(ih h.2).1⟩,(ih h.2).2⟩
def AV.strip:AV->AV×List Prop
 | .when b x=>(x.strip.1,(b=true) :: x.strip.2)
 | x=>(x,[])
theorem ak.strip {w:World} {S:Nat->Prop} {μ:Mu} {v:Value} {x:AV} (h:ak w S μ v x):bm x.strip.2->ak w S μ v x.strip.1:=by
 induction h with
 | when h1 _ ih=>exact fun hp=>ih hp.1 hp.2
 | atom v=>exact fun _=>.atom v
 | agg h1 h2 _=>exact fun _=>.agg h1 h2
 | tup h1 h2 _=>exact fun _=>.tup h1 h2
 | sl b off sz f h1 h2 h3 h4 h5 _=>exact fun _=>.sl b off sz f h1 h2 h3 h4 h5
 | rp b o f h1 h2 h3 _=>exact fun _=>.rp b o f h1 h2 h3
 | op pl h=>exact fun _=>.op pl h
 | os pl h h1 h2 h3=>exact fun _=>.os pl h h1 h2 h3
 | fn h1 h2 h3 h4 _ _=>exact fun _=>.fn h1 h2 h3 h4
 | mp pl h=>exact fun _=>.mp pl h
 | bn b h=>exact fun _=>.bn b h
 | pt h1 h2 _=>exact fun _=>.pt h1 h2
 | ov pl h h1=>exact fun _=>.ov pl h h1
 | KG pl h h1 h2=>exact fun _=>.KG pl h h1 h2
 | nq h h1 h2 _=>exact fun _=>.nq h h1 h2
 | nil=>exact fun _=>.nil
 | rk=>exact fun _=>.rk
 | mr=>exact fun _=>.mr
def AV.one:AV->Bool
 | .atom v=>match v with
  | .agg _ | .tuple _=>false
  | _=>true
 | .sl _ _ | .rp _ _ | .op _ _ _ | .os _ _ _ | .fn _ _ _ | .mp _ | .bn _ | .pt _ _ | .nil=>true
 | .nq _ x=>x.one
 | _=>false
theorem ak.TX {w:World} {S:Nat->Prop} {μ:Mu} {v:Value} {x:AV} (h:ak w S μ v x) (hx:x.one=true):v.oneCell'=true:=by
 induction h with
 | atom v=>cases v<;>simp_all [AV.one,Value.oneCell']
 | nq _ _ _ ih=>grind [AV.one]
 | @pt μ b cs v h1 h2 _ =>
  cases b with
  | false=>rw [h2 rfl];rfl
  | true=>have:=h1 rfl;cases this;rfl
 | _=>first | rfl | (simp [AV.one] at hx;done)
def AV.su:List AV->Bool
 | []=>true
 | c :: cs=>c.one && AV.su cs
theorem OH {cs:List AV} (h:AV.su cs=true) {j:Nat} {c:AV} (hc:cs[j]?=some c):c.one=true:=by
 induction cs generalizing j with
 | nil=>simp at hc
 | cons x xs ih =>
  simp only [AV.su,a7] at h
  grind
def AV.cells:AV->Option (List AV)
 | .agg cs=>some cs
 | .atom v=>match v with
  | .agg _ | .tuple _=>none
  | v=>some [.atom v]
 | .sl n g=>some [.sl n g]
 | .rp c o=>some [.rp c o]
 | .op k i j=>some [.op k i j]
 | .os k o n=>some [.os k o n]
 | .fn f a b=>some [.fn f a b]
 | .mp k=>some [.mp k]
 | .bn n=>some [.bn n]
 | .pt b cs=>some [.pt b cs]
 | .nq st x=>match x.one with
  | true=>some [.nq st x]
  | false=>none
 | .nil=>some [.nil]
 | _=>none
theorem acJ {v:Value} (h:v.oneCell'=true):v.cells=#[v]:=by
 cases v<;>simp_all [Value.oneCell',Value.cells]
theorem ak.cells {w:World} {S:Nat->Prop} {μ:Mu} {v:Value} {x:AV} (h:ak w S μ v x) {cs:List AV} (hc:x.cells=some cs) :
  v.cells.size=cs.length/\∀ (j:Nat) (c:AV) (u:Value),cs[j]?=some c->v.cells[j]?=some u->ak w S μ u c:=by
 have one:∀ {x:AV},ak w S μ v x->x.one=true->cs=[x]->v.cells.size=cs.length/\∀ (j:Nat) (c:AV) (u:Value),cs[j]?=some c->v.cells[j]?=some u->ak w S μ u c:=by
  intro x h h1 h2
  rw [acJ (h.TX h1),h2]
  refine ⟨rfl,?_⟩
  intro j c u hj hu
  cases j with
  | zero=>simp_all
  | succ j=>simp at hj
 cases x with
 | agg l =>
  cases hc
  cases h with
  | agg h1 h2=>exact ⟨h1,fun j c u hj hu=>h2 j c u hj hu⟩
 | atom u =>
  have hu:(AV.atom u).one=true:=by cases u<;>simp_all [AV.cells,AV.one]
  exact one h hu (by cases u<;>simp_all [AV.cells])
 | sl=>exact one h rfl (by grind [AV.cells])
 | rp=>exact one h rfl (by grind [AV.cells])
 | op=>exact one h rfl (by grind [AV.cells])
 | os=>exact one h rfl (by grind [AV.cells])
 | fn=>exact one h rfl (by grind [AV.cells])
 | mp=>exact one h rfl (by grind [AV.cells])
 | bn=>exact one h rfl (by grind [AV.cells])
 | pt=>exact one h rfl (by grind [AV.cells])
 | nq st x =>
  simp only [AV.cells] at hc
  split at hc
  ·rename_i h1;exact one h (by simpa [AV.one] using h1) (Option.some.inj hc).symm
  ·cases hc
 | nil=>exact one h rfl (by grind [AV.cells])
 | _=>simp [AV.cells] at hc
def iy:Value->AV
 | .slice none 0 0=>.nil
 | .func f vs ws=>if vs.size=0/\ws.size=0 then .fn f [] [] else .atom (.func f vs ws)
 | v=>.atom v
def ofConst:Value->AV
 | .agg vs=>.agg (vs.toList.map iy)
 | .tuple vs=>.tup (vs.toList.map iy)
 | v=>iy v
theorem HO (w:World) (S:Nat->Prop) (μ:Mu) (v:Value):ak w S μ v (iy v):=by
 unfold iy
 split
 ·exact .nil
 ·split
  ·rename_i h
   exact .fn (by simpa using h.1) (by simpa using h.2) (fun j c v hc=>by simp at hc) (fun j c v hc=>by simp at hc)
  ·exact .atom _
 ·exact .atom _
theorem Sw (w:World) (S:Nat->Prop) (μ:Mu) (v:Value):ak w S μ v (ofConst v):=by
 have f:∀ (vs:Array Value) (j:Nat) (c:AV) (u:Value),(vs.toList.map iy)[j]?=some c->vs[j]?=some u->ak w S μ u c:=by
  intro vs j c u hc hu
  have hu':vs.toList[j]?=some u:=by simpa using hu
  rw [List.getElem?_map,hu'] at hc
  simp at hc
  exact hc ▸ HO w S μ u
 unfold ofConst
 split
 ·exact .agg (by simp) (f _)
 ·exact .tup (by simp) (f _)
 ·exact HO w S μ _
def zz (P:Program) (t:TypeId):Option Nat:=(P.info? t).map (·.size)
def Cu (P:Program) (t:TypeId):Option Nat:=(P.info? t).map (·.bytes)
def xC (P:Program) (t:TypeId):Option Value:=(P.info? t).bind (·.zero)
theorem gh {P:Program} {t n:Nat} (h:zz P t=some n) (w:World):(sizeOf t).run P w=.ok n w:=by
 unfold zz at h
 cases hi:P.info? t with
 | none=>simp [hi] at h
 | some i=>simp_all [sizeOf,typeInfo]
theorem Sx {P:Program} {t:Nat} {z:Value} (h:xC P t=some z) (w:World):(zeroValue t).run P w=.ok z w:=by
 unfold xC at h
 cases hi:P.info? t with
 | none=>simp [hi] at h
 | some i=>simp_all [zeroValue,typeInfo]
theorem Cv {P:Program} {t n b:Nat} {z:Value} (h:zz P t=some n) (hb:Cu P t=some b) (hz:xC P t=some z) :
  ∃ i,P.info? t=some i/\i.size=n/\i.bytes=b/\i.zero=some z:=by
 unfold zz at h;unfold Cu at hb;unfold xC at hz
 cases hi:P.info? t with
 | none=>simp [hi] at h
 | some i=>simp_all
def ak9 (op:BinOp) (k:IntKind) (a b:Int):Option (List Prop×AV) :=
 match op with
 | .add=>some ([],.atom (.int k (k.wrap (a+b))))
 | .sub=>some ([],.atom (.int k (k.wrap (a - b))))
 | .mul=>some ([],.atom (.int k (k.wrap (a * b))))
 | .quo=>some ([b≠0],.atom (.int k (k.wrap (a.tdiv b))))
 | .rem=>some ([b≠0],.atom (.int k (a.tmod b)))
 | .and=>some ([],.atom (.int k (k.wrap (BitVec.ofInt k.bits a &&& BitVec.ofInt k.bits b).toNat)))
 | .or=>some ([],.atom (.int k (k.wrap (BitVec.ofInt k.bits a ||| BitVec.ofInt k.bits b).toNat)))
 | .xor=>some ([],.atom (.int k (k.wrap (BitVec.ofInt k.bits a ^^^ BitVec.ofInt k.bits b).toNat)))
 | .andNot=>some ([],.atom (.int k (k.wrap (BitVec.ofInt k.bits a &&& ~~~BitVec.ofInt k.bits b).toNat)))
 | .eql=>some ([],.atom (.bool (a == b)))
 | .neq=>some ([],.atom (.bool (a != b)))
 | .lss=>some ([],.atom (.bool (decide (a < b))))
 | .leq=>some ([],.atom (.bool (decide (a<=b))))
 | .gtr=>some ([],.atom (.bool (decide (a > b))))
 | .geq=>some ([],.atom (.bool (decide (a>=b))))
 | _=>none
def Oe (op:BinOp) (k:IntKind) (a b:Int):Option (List Prop×AV) :=
 match op with
 | .shl=>some ([0<=b],.atom (.int k (k.wrap (a * 2 ^ (min b.toNat k.bits)))))
 | .shr=>some ([0<=b],.atom (.int k (a.fdiv (2 ^ (min b.toNat k.bits)))))
 | _=>none
def iP (a b:ByteArray):Bool:=a.toList == b.toList
def ala (op:BinOp) (a b:ByteArray):Option (List Prop×AV) :=
 match op with
 | .eql=>some ([],.atom (.bool (iP a b)))
 | .neq=>some ([],.atom (.bool (!iP a b)))
 | .lss=>some ([],.atom (.bool (Op.bytesLess a.toList b.toList)))
 | .leq=>some ([],.atom (.bool (Op.bytesLess a.toList b.toList || iP a b)))
 | .gtr=>some ([],.atom (.bool (!(Op.bytesLess a.toList b.toList || iP a b))))
 | .geq=>some ([],.atom (.bool (!Op.bytesLess a.toList b.toList)))
 | .add=>some ([((a.size+b.size:Nat):Int)<=IntKind.i64.max],.atom (.string (a ++ b)))
 | _=>none
def mg (P:Program) (t:TypeId) (cs:List AV) (off:Nat):Option AV :=
 match P.underlying t,zz P t with
 | some d,some n=>match d.isRow with
  | true=>some (.agg ((cs.drop off).take n))
  | false=>cs[off]?
 | _,_=>none
theorem mh {P:Program} {w:World} {S:Nat->Prop} {μ:Mu} {vs:Array Value} {cs:List AV} (hs:vs.size=cs.length)
  (h:∀ (j:Nat) (c:AV) (v:Value),cs[j]?=some c->vs[j]?=some v->ak w S μ v c) {t off:Nat} {x:AV} (hx:mg P t cs off=some x)
  (hle:∀ n,zz P t=some n->off+n<=cs.length) :
  ∃ v,(part t vs off).run P w=.ok v w/\ak w S μ v x:=by
 unfold mg at hx
 cases hu:P.underlying t with
 | none=>simp [hu] at hx
 | some d =>
  cases hn:zz P t with
  | none=>simp [hu,hn] at hx
  | some n =>
   have atS:=hle n hn
   cases hd:d.isRow with
   | true =>
    simp [hu,hn,hd] at hx
    have acK:(isAgg t).run P w=.ok true w:=by
     unfold isAgg
     rw [b8,run_underlying hu w]
     cases d<;>simp_all
    refine ⟨.agg (vs.extract off (off+n)),by simp [part,acK,gh hn],?_⟩
    rw [<- hx]
    refine .agg (by simp;omega) ?_
    grind
   | false =>
    simp [hu,hn,hd] at hx
    have acK:(isAgg t).run P w=.ok false w:=by
     unfold isAgg
     rw [b8,run_underlying hu w]
     cases d<;>simp_all
    have iQ:off < vs.size:=by rw [hs];exact (fe.1 hx).1
    refine ⟨vs[off],by simp [part,acK,lF iQ],?_⟩
    exact h off x _ hx (lF iQ)
mutual
def KM (P:Program):Nat->TypeId->AV->AV->Option Bool
 | 0,_,_,_=>none
 | d+1,t,x,y =>
  match P.underlying t with
  | some .bool=>match x,y with
   | .atom (.bool a),.atom (.bool b)=>some (a == b)
   | _,_=>none
  | some (.int _)=>match x,y with
   | .atom (.int k a),.atom (.int k' b)=>match decide (k=k') with
    | true=>some (a == b)
    | false=>none
   | _,_=>none
  | some .string=>match x,y with
   | .atom (.string a),.atom (.string b)=>some (iP a b)
   | _,_=>none
  | some (.struct fs)=>match x,y with
   | .agg xs,.agg ys=>match P.stoodInHeld t with
    | false=>OI P d xs ys fs.toList
    | true=>none
   | _,_=>none
  | some (.array n e)=>match x,y,zz P e with
   | .agg xs,.agg ys,some m=>Hq P d e m xs ys 0 n
   | _,_,_=>none
  | _=>none
def OI (P:Program):Nat->List AV->List AV->List Field->Option Bool
 | _,_,_,[]=>some true
 | 0,_,_,_=>none
 | d+1,xs,ys,f :: fs =>
  match decide (f.name = "_"),zz P f.type with
  | false,some n=>match Nat.ble (f.offset+n) xs.length && Nat.ble (f.offset+n) ys.length,mg P f.type xs f.offset,mg P f.type ys f.offset with
   | true,some a,some b=>match KM P d f.type a b,OI P d xs ys fs with
    | some p,some q=>some (p && q)
    | _,_=>none
   | _,_,_=>none
  | _,_=>none
def Hq (P:Program):Nat->TypeId->Nat->List AV->List AV->Nat->Nat->Option Bool
 | _,_,_,_,_,_,0=>some true
 | 0,_,_,_,_,_,_=>none
 | d+1,e,m,xs,ys,i,n+1 =>
  match Nat.ble (i * m+m) xs.length && Nat.ble (i * m+m) ys.length,mg P e xs (i * m),mg P e ys (i * m) with
  | true,some a,some b=>match KM P d e a b,Hq P d e m xs ys (i+1) n with
   | some p,some q=>some (p && q)
   | _,_=>none
  | _,_,_=>none
end
end Go.Ab
namespace Go.Ab
theorem dR {w:World} {S:Nat->Prop} {μ:Mu} {v u:Value} (h:ak w S μ v (.atom u)):v=u:=by cases h;rfl
theorem rr {w:World} {S:Nat->Prop} {μ:Mu} {v:Value} {cs:List AV} (h:ak w S μ v (.agg cs)) :
  ∃ vs:Array Value,v=.agg vs/\vs.size=cs.length/\∀ (j:Nat) (c:AV) (u:Value),cs[j]?=some c->vs[j]?=some u->ak w S μ u c:=by
 cases h with
 | agg h1 h2=>grind
section
variable {P:Program} {w:World} {S:Nat->Prop} {μ:Mu}
theorem WC {t:TypeId} {fs:Array Field} (h:P.underlying t=some (.struct fs)):P.fieldsOf t=fs:=by
 simp [Program.fieldsOf,h]
theorem WD:∀ d:Nat,
  (∀ D t x y v u b,d<=D->ak w S μ v x->ak w S μ u y->KM P d t x y=some b->(Op.equalIn D t v u).run P w=.ok b w) /\
  (∀ D (vs us:Array Value) xs ys fs b,d<=D->vs.size=xs.length->(∀ (j:Nat) c z,xs[j]?=some c->vs[j]?=some z->ak w S μ z c)->us.size=ys.length ->
   (∀ (j:Nat) c z,ys[j]?=some c->us[j]?=some z->ak w S μ z c)->OI P d xs ys fs=some b->(Op.eqFields D vs us fs).run P w=.ok b w) /\
  (∀ D (vs us:Array Value) e m xs ys i n b,d<=D->zz P e=some m->vs.size=xs.length->(∀ (j:Nat) c z,xs[j]?=some c->vs[j]?=some z->ak w S μ z c)->us.size=ys.length ->
   (∀ (j:Nat) c z,ys[j]?=some c->us[j]?=some z->ak w S μ z c)->Hq P d e m xs ys i n=some b ->
   (forIn (m:=Sem) (List.range' i n) ((none,()):Option Bool×Unit) fun i _=>do
      let p <- part e vs (i * m)
      let q <- part e us (i * m)
      let r <- Op.equalIn D e p q
      if (!r)=true then pure (ForInStep.done (some false,())) else pure (ForInStep.yield (none,()))).run P w=.ok (if b then none else some false,()) w):=by
 intro d
 induction d with
 | zero =>
  refine ⟨fun D t x y v u b _ _ _ h=>by simp [KM] at h,?_,?_⟩
  ·intro D vs us xs ys fs b _ _ _ _ _ h
   cases fs with
   | nil=>simp_all [OI,Op.eqFields]
   | cons f fs=>simp [OI] at h
  ·intro D vs us e m xs ys i n b _ _ _ _ _ _ h
   cases n with
   | zero=>simp_all [Hq]
   | succ n=>simp [Hq] at h
 | succ d ih =>
  obtain ⟨ih1,ih2,ih3⟩:=ih
  refine ⟨?_,?_,?_⟩
  ·intro D t x y v u b hD hx hy h
   obtain ⟨D,rfl⟩:∃ D',D=D'+1:=⟨D - 1,by omega⟩
   simp only [KM] at h
   split at h
   ·rename_i hu
    split at h
    ·cases hx;cases hy
     simp at h;subst h
     simp [Op.equalIn,run_underlying hu]
    ·cases h
   ·rename_i hu
    split at h
    ·rename_i k a k' b'
     cases hx;cases hy
     by_cases hk:k=k'
     ·simp [hk] at h;subst h
      simp [Op.equalIn,run_underlying hu,hk]
     ·simp [hk] at h
    ·cases h
   ·rename_i hu
    split at h
    ·cases hx;cases hy
     simp at h;subst h
     rw [run_equalIn_string w D t _ _ hu];rfl
    ·cases h
   ·rename_i fs hu
    split at h
    ·split at h
     ·rename_i Jm
      obtain ⟨vs,rfl,RV,Ng⟩:=rr hx
      obtain ⟨us,rfl,hu1,WE⟩:=rr hy
      have hf:=WC hu
      rw [run_equalIn_struct w D t vs us (hf ▸ hu) Jm,hf]
      exact ih2 D vs us _ _ _ b (by omega) RV Ng hu1 WE h
     ·cases h
    ·cases h
   ·rename_i n e hu
    split at h
    ·rename_i m hm
     obtain ⟨vs,rfl,RV,Ng⟩:=rr hx
     obtain ⟨us,rfl,hu1,WE⟩:=rr hy
     simp only [Op.equalIn,b8,run_underlying hu,dP,gh hm]
     rw [Std.Legacy.Range.forIn_eq_forIn_range']
     simp only [Std.Legacy.Range.size,Nat.sub_zero,Nat.add_sub_cancel,Nat.div_one]
     rw [ih3 D vs us e m _ _ 0 n b (by omega) hm RV Ng hu1 WE h]
     cases b<;>simp
    ·cases h
   ·cases h
  ·intro D vs us xs ys fs b hD RV Ng hu1 WE h
   cases fs with
   | nil=>simp [OI] at h;subst h;simp [Op.eqFields]
   | cons f fs =>
    simp only [OI] at h
    split at h
    ·rename_i n aoK hn
     split at h
     ·rename_i a c hle ha hc
      split at h
      ·rename_i p q hp hq
       simp only [a7,Nat.ble_eq] at hle
       have ama:∀ n',zz P f.type=some n'->f.offset+n'<=xs.length:=fun n' h'=>by rw [hn] at h';cases h';exact hle.1
       have YK:∀ n',zz P f.type=some n'->f.offset+n'<=ys.length:=fun n' h'=>by rw [hn] at h';cases h';exact hle.2
       obtain ⟨v1,r1,x1⟩:=mh RV Ng ha ama
       obtain ⟨v2,r2,x2⟩:=mh hu1 WE hc YK
       have e1:=ih1 D f.type a c v1 v2 p (by omega) x1 x2 hp
       have e2:=ih2 D vs us xs ys fs q (by omega) RV Ng hu1 WE hq
       have gH:f.name≠ "_":=xN aoK
       simp at h;subst h
       simp only [Op.eqFields,if_pos gH,b8,r1,r2,e1,dP]
       cases p
       ·simp
       ·simp [e2]
      ·cases h
     ·cases h
    ·cases h
  ·intro D vs us e m xs ys i n b hD hm RV Ng hu1 WE h
   cases n with
   | zero=>simp [Hq] at h;subst h;simp
   | succ n =>
    simp only [Hq] at h
    split at h
    ·rename_i a c hle ha hc
     split at h
     ·rename_i p q hp hq
      simp only [a7,Nat.ble_eq] at hle
      have ama:∀ n',zz P e=some n'->i * m+n'<=xs.length:=fun n' h'=>by rw [hm] at h';cases h';exact hle.1
      have YK:∀ n',zz P e=some n'->i * m+n'<=ys.length:=fun n' h'=>by rw [hm] at h';cases h';exact hle.2
      obtain ⟨v1,r1,x1⟩:=mh RV Ng ha ama
      obtain ⟨v2,r2,x2⟩:=mh hu1 WE hc YK
      have e1:=ih1 D e a c v1 v2 p (by omega) x1 x2 hp
      have e2:=ih3 D vs us e m xs ys (i+1) n q (by omega) hm RV Ng hu1 WE hq
      simp at h;subst h
      rw [List.range'_succ,List.forIn_cons]
      simp only [b8,r1,r2,e1,dP]
      cases p
      ·simp
      ·simpa using e2
     ·cases h
    ·cases h
def OJ (o:BinOp) (q:Bool):Option AV :=
 match o with
 | .eql=>some (.atom (.bool q))
 | .neq=>some (.atom (.bool (!q)))
 | _=>none
def aev:AV->Bool
 | .atom v=>match v with
  | .pointer none=>true
  | _=>false
 | _=>false
def aew (P:Program) (o:BinOp) (t:TypeId) (x y:AV):Option AV :=
 match P.underlying t,y with
 | some (.slice _),.nil=>match x with
  | .nil=>OJ o true
  | .sl n _ | .os _ _ n=>match o with
   | .eql=>some (.bn n)
   | _=>none
  | _=>none
 | some (.pointer _),y=>match aev y with
  | true=>match x with
   | .atom v=>match v with
    | .pointer none=>OJ o true
    | _=>none
   | .rp _ _ | .op _ _ _=>OJ o false
   | .pt b _=>OJ o (!b)
   | _=>none
  | false=>none
 | _,_=>none
theorem sw (op:BinOp) (t:TypeId) (x y:Operand) (a b:Value) (h1:a≠.nilIface) (h2:∀ c,a≠.agg c):(eqGuard op t x y a b).run P w=.ok () w:=by
 simp_all [eqGuard]
theorem aaU {o:BinOp} {t:TypeId} {a b:Option Addr} {l c l' c':Nat} {q:Bool} (h:(Op.equal t (.slice a l c) (.slice b l' c')).run P w=.ok q w) {r:AV} (hr:OJ o q=some r):∃ z,(binOp o t (.slice a l c) (.slice b l' c')).run P w=.ok z w/\ak w S μ z r:=by
 cases o<;>simp only [OJ,aL,reduceCtorEq] at hr<;>subst hr
 ·exact ⟨.bool q,by simp_all [binOp,b8],.atom _⟩
 ·exact ⟨.bool (!q),by simp_all [binOp,b8],.atom _⟩
theorem Jn {o:BinOp} {t:TypeId} {a:Option Addr} {q:Bool} (h:(Op.equal t (.pointer a) (.pointer none)).run P w=.ok q w) {r:AV} (hr:OJ o q=some r):∃ z,(binOp o t (.pointer a) (.pointer none)).run P w=.ok z w/\ak w S μ z r:=by
 cases o<;>simp only [OJ,aL,reduceCtorEq] at hr<;>subst hr
 ·exact ⟨.bool q,by simp_all [binOp,b8],.atom _⟩
 ·exact ⟨.bool (!q),by simp_all [binOp,b8],.atom _⟩
theorem amb {op:BinOp} {t:TypeId} {x y:AV} {xo yo:Operand} {v u:Value} (hx:ak w S μ v x) (hy:ak w S μ u y) {r:AV} (h:aew P op t x y=some r) :
  ∃ z,(do eqGuard op t xo yo v u;binOp op t v u:Sem Value).run P w=.ok z w/\ak w S μ z r:=by
 have gd:∀ (v u:Value),v≠.nilIface->(∀ c,v≠.agg c)->(∃ z,(binOp op t v u).run P w=.ok z w/\ak w S μ z r)->∃ z,(do eqGuard op t xo yo v u;binOp op t v u:Sem Value).run P w=.ok z w/\ak w S μ z r:=by
  intro v u h1 h2 h3
  have hg:=sw (P:=P) (w:=w) op t xo yo v u h1 h2
  simpa only [b8,hg,dP] using h3
 unfold aew at h
 split at h
 ·rename_i e ht
  cases hy
  have sl:∀ (a:Option Addr) (l c:Nat),(Op.equal t (.slice a l c) (.slice none 0 0)).run P w=.ok a.isNone w:=by
   intro a l c
   unfold Op.equal Op.maxDepth Op.equalIn
   rw [b8,run_underlying ht]
   cases a<;>rfl
  split at h
  ·cases hx
   exact gd _ _ (by simp) (by simp) (aaU (sl none 0 0) h)
  ·split at h
   ·cases h
    cases hx with
    | sl b off sz f h1 h2 h3 h4 h5 =>
     rename_i a cap
     refine gd _ _ (by simp) (by simp) ⟨.bool a.isNone,?_,.bn _ fun hn=>?_⟩
     ·simp only [binOp,b8,sl];rfl
     ·refine Nat.eq_zero_of_not_pos fun h0=>?_
      rw [(h1 h0).1] at hn;cases hn
   ·cases h
  ·split at h
   ·cases h
    cases hx with
    | os pl hm h1 h2 h3 =>
     rename_i cap a
     refine gd _ _ (by simp) (by simp) ⟨.bool a.isNone,?_,.bn _ fun hn=>?_⟩
     ·simp only [binOp,b8,sl];rfl
     ·refine Nat.eq_zero_of_not_pos fun h0=>?_
      rw [h1 (by omega)] at hn;cases hn
   ·cases h
  ·cases h
 ·rename_i e ht
  split at h
  ·rename_i hy0
   have hu:u=.pointer none:=by
    unfold aev at hy0
    split at hy0
    ·split at hy0
     ·exact dR hy
     ·cases hy0
    ·cases hy0
   subst hu
   have pt:∀ (a:Option Addr),(Op.equal t (.pointer a) (.pointer none)).run P w=.ok a.isNone w:=by
    intro a
    unfold Op.equal Op.maxDepth Op.equalIn
    rw [b8,run_underlying ht]
    cases a<;>rfl
   split at h
   ·split at h
    ·have:=dR hx;subst this
     exact gd _ _ (by simp) (by simp) (Jn (pt none) h)
    ·cases h
   ·cases hx
    exact gd _ _ (by simp) (by simp) (Jn (pt (some _)) h)
   ·cases hx
    exact gd _ _ (by simp) (by simp) (Jn (pt (some _)) h)
   ·rename_i b cs
    cases hx with
    | pt h1 h2 =>
     cases b with
     | true =>
      have:=h1 rfl
      cases this
      exact gd _ _ (by simp) (by simp) (Jn (pt (some _)) h)
     | false =>
      rw [h2 rfl]
      exact gd _ _ (by simp) (by simp) (Jn (pt none) h)
   ·cases h
  ·cases h
 ·cases h
def nqB:Option Bool->Bool
 | some b=>b
 | none=>false
theorem alb {op:BinOp} {t e:TypeId} {st:Option Bool} {x:AV} {xo yo:Operand} {v u:Value} (ht:P.underlying t=some (.slice e)) (hx:ak w S μ v (.nq st x)) (hy:ak w S μ u .nil) {n:Nat}
  (hs:∃ a c,v=.slice a n c/\(0 < n->a.isNone=false)) (hn:st=none->0 < n) {r:AV} (h:OJ op (nqB st)=some r) :
  ∃ z,(do eqGuard op t xo yo v u;binOp op t v u:Sem Value).run P w=.ok z w/\ak w S μ z r:=by
 obtain ⟨a,c,rfl,ha⟩:=hs
 cases hy
 have hq:a.isNone=nqB st:=by
  cases hx with
  | nq _ h1 h2 =>
   cases st with
   | none=>exact ha (hn rfl)
   | some b=>cases b with
    | true=>have:=h1 rfl;injection this with e1;subst e1;rfl
    | false=>have:=h2 rfl;cases a with
     | none=>cases this
     | some a=>rfl
 have hg:=sw (P:=P) (w:=w) op t xo yo (.slice a n c) (.slice none 0 0) (by simp) (by simp)
 have he:(Op.equal t (.slice a n c) (.slice none 0 0)).run P w=.ok (nqB st) w:=by
  rw [<- hq]
  unfold Op.equal Op.maxDepth Op.equalIn
  rw [b8,run_underlying ht]
  cases a<;>rfl
 obtain ⟨z,h1,h2⟩:=aaU (S:=S) (μ:=μ) he h
 exact ⟨z,by simpa only [b8,hg,dP] using h1,h2⟩
def aex (P:Program) (op:BinOp) (t:TypeId) (x y:AV):Option (List Prop×AV) :=
 match x,y with
 | .atom (.int k a),.atom (.int k' b)=>match op with
  | .shl=>Oe .shl k a b
  | .shr=>Oe .shr k a b
  | op=>match decide (k=k') with
   | true=>ak9 op k a b
   | false=>none
 | .atom (.string a),.atom (.string b)=>ala op a b
 | .atom (.bool _),.atom (.bool _)=>match op with
  | .eql=>(KM P 1 t x y).map fun b=>([],.atom (.bool b))
  | .neq=>(KM P 1 t x y).map fun b=>([],.atom (.bool (!b)))
  | _=>none
 | .agg _,.agg _=>match P.eqGuardType P.depth t with
  | false=>match op with
   | .eql=>(KM P 60 t x y).map fun b=>([],.atom (.bool b))
   | .neq=>(KM P 60 t x y).map fun b=>([],.atom (.bool (!b)))
   | _=>none
  | true=>none
 | .nq st x,.nil=>match P.underlying t,x with
  | some (.slice _),.sl n _=>(OJ op (nqB st)).map fun v=>([st=none->0 < n],v)
  | some (.slice _),.os _ _ n=>(OJ op (nqB st)).map fun v=>([st=none->0 < n],v)
  | _,_=>none
 | x,y=>(aew P op t x y).map fun v=>([],v)
theorem amc {op:BinOp} {t:TypeId} {x y:AV} {xo yo:Operand} {v u:Value} (hx:ak w S μ v x) (hy:ak w S μ u y) {ps:List Prop} {r:AV} (h:aex P op t x y=some (ps,r)) (hp:bm ps) :
  ∃ z,(do eqGuard op t xo yo v u;binOp op t v u:Sem Value).run P w=.ok z w/\ak w S μ z r:=by
 unfold aex at h
 split at h
 ·rename_i k a k' b
  have:=dR hx;subst this
  have:=dR hy;subst this
  have hg:=sw (P:=P) (w:=w) op t xo yo (.int k a) (.int k' b) (by simp) (by simp)
  simp only [b8,hg,dP]
  have sh:∀ o,(o=.shl\/o=.shr)->Oe o k a b=some (ps,r)->∃ z,(binOp o t (.int k a) (.int k' b)).run P w=.ok z w/\ak w S μ z r:=by
   intro o ho h
   rcases ho with rfl | rfl<;>simp only [Oe,aL,aG] at h<;>obtain ⟨rfl,rfl⟩:=h <;>
    (have h0:¬ b < 0:=by have:=hp.1;omega)<;>exact ⟨_,by simp [binOp,Op.shift,h0],.atom _⟩
  split at h
  ·exact sh .shl (.inl rfl) h
  ·exact sh .shr (.inr rfl) h
  ·rename_i n1 n2
   split at h
   ·rename_i hk
    have hk:=xM hk
    subst hk
    cases op<;>simp only [ak9,aL,aG,reduceCtorEq] at h <;>
     first
      | exact absurd rfl n1
      | exact absurd rfl n2
      | (obtain ⟨rfl,rfl⟩:=h
         exact ⟨_,by
         first
          | (simp [binOp,Op.intArith];done)
          | (have hb:¬ b=0:=hp.1
             simp [binOp,Op.intDiv,hb];done)
          | (simp [binOp,Op.intBits];done)
          | (simp [binOp,Op.intCmp];done),.atom _⟩)
   ·cases h
 ·rename_i a b
  have:=dR hx;subst this
  have:=dR hy;subst this
  have hg:=sw (P:=P) (w:=w) op t xo yo (.string a) (.string b) (by simp) (by simp)
  simp only [b8,hg,dP]
  cases op<;>simp only [ala,aL,aG,reduceCtorEq] at h<;>obtain ⟨rfl,rfl⟩:=h
  ·have h0:¬ ((a.size+b.size:Nat):Int) > IntKind.i64.max:=by have:=hp.1;omega
   exact ⟨_,by simp only [binOp,Op.stringOp,if_neg h0];rfl,.atom _⟩
  all_goals exact ⟨_,by simp only [binOp,Op.stringOp];rfl,.atom _⟩
 ·rename_i a b
  have:=dR hx;subst this
  have:=dR hy;subst this
  have hg:=sw (P:=P) (w:=w) op t xo yo (.bool a) (.bool b) (by simp) (by simp)
  simp only [b8,hg,dP]
  split at h
  ·simp only [aW,aG] at h
   obtain ⟨q,hq,rfl,rfl⟩:=h
   have:=(WD (w:=w) (S:=S) (μ:=μ) 1).1 10000 t _ _ _ _ q (by omega) hx hy hq
   exact ⟨_,by simp only [binOp,Op.equal,Op.maxDepth,b8,this];rfl,.atom _⟩
  ·simp only [aW,aG] at h
   obtain ⟨q,hq,rfl,rfl⟩:=h
   have:=(WD (w:=w) (S:=S) (μ:=μ) 1).1 10000 t _ _ _ _ q (by omega) hx hy hq
   exact ⟨_,by simp only [binOp,Op.equal,Op.maxDepth,b8,this];rfl,.atom _⟩
  ·cases h
 ·split at h
  ·rename_i hgt
   obtain ⟨vs,rfl,RV,Ng⟩:=rr hx
   obtain ⟨us,rfl,hu1,WE⟩:=rr hy
   have hg:=run_eqGuard_agg (P:=P) w op t xo yo vs us hgt
   simp only [b8,hg,dP]
   split at h
   ·simp only [aW,aG] at h
    obtain ⟨q,hq,rfl,rfl⟩:=h
    have:=(WD (w:=w) (S:=S) (μ:=μ) 60).1 10000 t _ _ _ _ q (by omega) hx hy hq
    exact ⟨_,by rw [run_eql_struct,this];rfl,.atom _⟩
   ·simp only [aW,aG] at h
    obtain ⟨q,hq,rfl,rfl⟩:=h
    have:=(WD (w:=w) (S:=S) (μ:=μ) 60).1 10000 t _ _ _ _ q (by omega) hx hy hq
    exact ⟨_,by rw [run_neq_struct,this];rfl,.atom _⟩
   ·cases h
  ·cases h
 ·split at h
  ·rename_i e n g ht
   simp only [aW,aG] at h
   obtain ⟨q,hq,rfl,rfl⟩:=h
   refine alb ht hx hy (n:=n) ?_ hp.1 hq
   cases hx with
   | nq h0 _ _=>cases h0 with
    | sl b off sz f h1 h2 h3 h4 h5=>exact ⟨_,_,rfl,fun hn=>by rw [(h1 hn).1];rfl⟩
  ·rename_i e k o n ht
   simp only [aW,aG] at h
   obtain ⟨q,hq,rfl,rfl⟩:=h
   refine alb ht hx hy (n:=n) ?_ hp.1 hq
   cases hx with
   | nq h0 _ _=>cases h0 with
    | os pl hm h1 h2 h3=>exact ⟨_,_,rfl,fun hn=>by rw [h1 (by omega)];rfl⟩
  ·cases h
 ·simp only [aW,aG] at h
  obtain ⟨q,hq,rfl,rfl⟩:=h
  exact amb hx hy hq
def ame (op:UnOp) (x:AV):Option AV :=
 match op,x with
 | .neg,.atom (.int k n)=>some (.atom (.int k (k.wrap (0 - n))))
 | .not,.atom (.bool b)=>some (.atom (.bool (!b)))
 | _,_=>none
theorem aoM {op:UnOp} {x:AV} {v:Value} (hx:ak w S μ v x) {r:AV} (h:ame op x=some r):∃ z,(Op.unary op v).run P w=.ok z w/\ak w S μ z r:=by
 unfold ame at h
 split at h<;>cases h<;>(have:=dR hx;subst this)
 ·exact ⟨_,by rfl,.atom _⟩
 ·exact ⟨_,by simp [Op.unary],.atom _⟩
def YL (P:Program) (src dst:TypeId) (x:AV):Option AV :=
 match P.underlying src,P.underlying dst,x with
 | some _,some (.int k),.atom (.int _ n)=>some (.atom (.int k (k.wrap n)))
 | some _,some .string,.atom (.string s)=>some (.atom (.string s))
 | _,_,_=>none
theorem ajs {src dst:TypeId} {x:AV} {v:Value} (hx:ak w S μ v x) {r:AV} (h:YL P src dst x=some r):∃ z,(convert src dst v).run P w=.ok z w/\ak w S μ z r:=by
 unfold YL at h
 split at h
 ·rename_i h1 h2
  cases h;have:=dR hx;subst this
  exact ⟨_,by simp_all [convert,run_underlying,Conv.intToInt],.atom _⟩
 ·rename_i h1 h2
  cases h;have:=dR hx;simp_all [convert,run_underlying]
 ·cases h
end
end Go.Ab
namespace Go.Ab
abbrev xD:=List (Nat×Option Ob)
def Step (P:Program) (E:Env) (nk:Nat) (σ:eE) (S:Nat->Prop) (μ:Mu) (w:World) (s:Sem Value) (val:AV) (pU:xD):Prop :=
 ∃ v w' S' eB,s.run P w=.ok v w'/\Ext w S μ w' S' eB/\Good E (gS σ pU) S' eB w'/\(∀ k,k≠nk->μ k=none->eB k=none)/\ak w' S' eB v val
def RL (w:World) (S:Nat->Prop) (μ:Mu) (vs:Array Value) (cs:List AV):Prop :=
 vs.size=cs.length/\∀ (j:Nat) (c:AV) (v:Value),cs[j]?=some c->vs[j]?=some v->ak w S μ v c
section
variable {P:Program} {E:Env} {nk:Nat} {σ:eE} {S:Nat->Prop} {μ:Mu} {w:World}
theorem Step.pure (g:Good E σ S μ w) {s:Sem Value} {v:Value} {val:AV} (h:s.run P w=.ok v w) (hr:ak w S μ v val):Step P E nk σ S μ w s val [] :=
 ⟨v,w,S,μ,h,Ext.refl w S μ,g,fun _ _ h=>h,hr⟩
theorem RL.mk' {vs:Array Value} {cs:List AV} (h:RL w S μ vs cs):ak w S μ (.agg vs) (.agg cs):=.agg h.1 h.2
theorem RL.pr {vs:Array Value} {cs:List AV} (h:RL w S μ vs cs) {j:Nat} {c:AV} {v:Value} (hc:cs[j]?=some c) (hv:vs[j]?=some v) :
  ak w S (if AV.oY cs then kF else μ) v c:=by
 split
 ·rename_i hp
  exact (h.2 j c v hc hv).pure (yi hp hc) kF
 ·exact h.2 j c v hc hv
theorem qG {k n:Nat} (pl:Place) (h:n≠k):cK μ k pl n=μ n:=by simp [cK,h]
theorem Step.alc (g:Good E σ S μ w) (hk:μ nk=none) (hm:E.m0<=nk) {s:Sem Value} {vs:Array Value} {T:TypeId} {cs:List AV}
  (h:s.run P w=.ok (.pointer (some ⟨w.heap.size,0,none⟩)) (w.alloc (.cells vs T))) (hl:RL w S μ vs cs) (hz:1<=cs.length) :
  Step P E nk σ S μ w s (.op nk 0 0) [(nk,some ⟨true,cs.length,1,AV.oY cs,fun _=>cs⟩)]:=by
 have ga:=g.alloc hk hm vs T ⟨true,cs.length,1,AV.oY cs,fun _=>cs⟩ 1 (by simp [hl.1]) (aN _) (fun _ _=>rfl) (fun i j x v hi hx hv=>by
  have:i=0:=by simp at hi;exact hi
  subst this
  exact hl.pr hx (by simpa using hv)) (by grind) (fun i=>El rfl i)
 refine ⟨_,_,_,_,h,ga.1,ga.2,fun k tg hn=>by grind [qG],?_⟩
 have:=ak.op (w:=w.alloc (.cells vs T)) (S:=S) (k:=nk) (i:=0) (j:=0) (μ:=cK μ nk ⟨w.heap.size,1,cs.length⟩) ⟨w.heap.size,1,cs.length⟩ (by simp [cK])
 simpa using this
def TY (P:Program) (nk:Nat) (T:TypeId):Option (AV×xD) :=
 match xC P T with
 | some z=>match Nat.ble 1 (z.cells.toList.map iy).length with
  | true=>some (.op nk 0 0,[(nk,some ⟨true,(z.cells.toList.map iy).length,1,AV.oY (z.cells.toList.map iy),fun _=>z.cells.toList.map iy⟩)])
  | false=>none
 | none=>none
theorem Em (vs:Array Value):RL w S μ vs (vs.toList.map iy) :=
 ⟨by simp,fun j c v hc hv=>by
  have hu':vs.toList[j]?=some v:=by simpa using hv
  rw [List.getElem?_map,hu'] at hc
  simp at hc
  exact hc ▸ HO w S μ v⟩
theorem aey (g:Good E σ S μ w) (hk:μ nk=none) (hm:E.m0<=nk) {T:TypeId} {val:AV} {pU:xD} (h:TY P nk T=some (val,pU)) :
  Step P E nk σ S μ w (Instr.alloc T true (.tuple #[])) val pU:=by
 unfold TY at h
 split at h
 ·rename_i z hz
  split at h
  ·rename_i hb
   cases h
   exact Step.alc g hk hm (vs:=z.cells) (T:=T) (by simp [Instr.alloc,Sx hz,newVar,newRow]) (Em _) (Nat.le_of_ble_eq_true hb)
  ·cases h
 ·cases h
def aez (nk:Nat) (x:AV):Option (AV×xD) :=
 match x.cells with
 | some cs=>match Nat.ble 1 cs.length with
  | true=>some (.op nk 0 0,[(nk,some ⟨true,cs.length,1,AV.oY cs,fun _=>cs⟩)])
  | false=>none
 | none=>none
theorem amf (g:Good E σ S μ w) (hk:μ nk=none) (hm:E.m0<=nk) {T:TypeId} {x:AV} {v:Value} (hx:ak w S μ v x) {val:AV} {pU:xD} (h:aez nk x=some (val,pU)) :
  Step P E nk σ S μ w (Instr.box T v) val pU:=by
 unfold aez at h
 split at h
 ·rename_i cs hc
  split at h
  ·rename_i hb
   cases h
   exact Step.alc g hk hm (vs:=v.cells) (T:=T) (by rfl) (hx.cells hc) (Nat.le_of_ble_eq_true hb)
  ·cases h
 ·cases h
def th (cs:List AV) (off:Nat) (ns:List AV):List AV:=cs.take off ++ (ns ++ cs.drop (off+ns.length))
theorem yC (cs:List AV) (off:Nat) (ns:List AV) (h:off+ns.length<=cs.length) (m:Nat) :
  (th cs off ns)[m]?=if off<=m/\m < off+ns.length then ns[m - off]? else cs[m]?:=by
 have h1:(cs.take off).length=off:=by simp;omega
 unfold th
 grind
theorem sx (cs:List AV) (off:Nat) (ns:List AV) (h:off+ns.length<=cs.length):(th cs off ns).length=cs.length:=by
 simp [th];omega
theorem foldl_set (off:Nat):∀ (us:List Value) (s:Nat) (vs:Array Value),
  ((us.zipIdx s).foldl (fun cs x=>cs.setIfInBounds (off+x.2) x.1) vs).size=vs.size /\
  ∀ m,((us.zipIdx s).foldl (fun cs x=>cs.setIfInBounds (off+x.2) x.1) vs)[m]?=if off+s<=m/\m < off+s+us.length/\m < vs.size then us[m - (off+s)]? else vs[m]?
 | [],s,vs=>⟨rfl,fun m=>by simp;intro h1 h2;omega⟩
 | u :: us,s,vs=>by
  obtain ⟨h1,h2⟩:=foldl_set off us (s+1) (vs.setIfInBounds (off+s) u)
  simp only [List.zipIdx_cons,List.foldl_cons]
  grind
theorem RL.th {vs us:Array Value} {cs ns:List AV} (h:RL w S μ vs cs) (hu:RL w S μ us ns) {off:Nat} (hle:off+ns.length<=cs.length) :
  RL w S μ (us.zipIdx.foldl (fun cs (c,j)=>cs.setIfInBounds (off+j) c) vs) (th cs off ns):=by
 have f:=foldl_set off us.toList 0 vs
 have e:us.zipIdx.foldl (fun cs (c,j)=>cs.setIfInBounds (off+j) c) vs=(us.toList.zipIdx 0).foldl (fun cs x=>cs.setIfInBounds (off+x.2) x.1) vs:=by
  rw [<- Array.foldl_toList]
  simp
 rw [e]
 refine ⟨by rw [f.1,h.1,sx _ _ _ hle],?_⟩
 intro j c v hc hv
 rw [f.2 j] at hv
 rw [yC _ _ _ hle] at hc
 have hl:=hu.1
 have hs:=h.1
 by_cases hj:off<=j/\j < off+ns.length
 ·rw [if_pos hj] at hc
  rw [if_pos (by simp;omega)] at hv
  exact hu.2 (j - off) c v hc (by simpa using hv)
 ·rw [if_neg hj] at hc
  rw [if_neg (by simp;omega)] at hv
  exact h.2 j c v hc hv
def Hr (place:Nat->Option (Nat×Nat)) (cells:List AV):List (Nat×AV)->Option (List AV)
 | []=>some cells
 | (i,x) :: rest =>
  match place i,x.cells with
  | some (off,size),some ns=>match Nat.beq ns.length size && Nat.ble (off+ns.length) cells.length with
   | true=>Hr place (th cells off ns) rest
   | false=>none
  | _,_=>none
theorem Jo (place:Nat->Option (Nat×Nat)):∀ (parts:List (Nat×AV)) (mj:List (Nat×Value)) (vs:Array Value) (cs out:List AV),
  mj.map (·.1)=parts.map (·.1)->(∀ (j:Nat) x y,parts[j]?=some x->mj[j]?=some y->ak w S μ y.2 x.2)->RL w S μ vs cs->Hr place cs parts=some out ->
  ∃ us,Instr.fill place vs mj=some us/\RL w S μ us out
 | [],mj,vs,cs,out,hi,_,h,hf=>by
  simp at hi;subst hi
  simp [Hr] at hf;subst hf
  exact ⟨vs,rfl,h⟩
 | (i,x) :: rest,mj,vs,cs,out,hi,hr,h,hf=>by
  obtain ⟨⟨i',v⟩,aoN,rfl⟩:∃ a b,mj=a :: b:=by
   cases mj with
   | nil=>simp at hi
   | cons a b=>exact ⟨a,b,rfl⟩
  simp at hi
  obtain ⟨rfl,hi⟩:=hi
  have hv:ak w S μ v x:=hr 0 (i',x) (i',v) rfl rfl
  simp only [Hr] at hf
  split at hf
  ·rename_i off size ns hp hc
   split at hf
   ·rename_i hb
    simp only [a7,Nat.ble_eq] at hb
    have wV:=cw hb.1
    have hcl:=hv.cells hc
    obtain ⟨us,h1,h2⟩:=Jo place rest aoN _ _ out hi (fun j x y hx hy=>hr (j+1) x y (by simpa using hx) (by simpa using hy)) (h.th ⟨hcl.1,hcl.2⟩ hb.2) hf
    refine ⟨us,?_,h2⟩
    have c1:¬ v.cells.size≠size:=by rw [hcl.1];omega
    have c2:¬ off+v.cells.size > vs.size:=by rw [hcl.1,h.1];omega
    simp_all [Instr.fill,if_neg,Bool.or_eq_true,decide_eq_true_eq,not_or]
   ·cases hf
  ·cases hf
def TZ (P:Program) (t:TypeId) (parts:List (Nat×AV)):Option AV :=
 match xC P t,P.underlying t with
 | some z,some (.struct fs)=>match fs.toList.mapM fun f=>(zz P f.type).map fun n=>(f.offset,n) with
  | some aeA=>(Hr (aeA[·]?) (z.cells.toList.map iy) parts).map .agg
  | none=>none
 | some z,some (.array _ e)=>match zz P e with
  | some n=>(Hr (fun i=>some (i * n,n)) (z.cells.toList.map iy) parts).map .agg
  | none=>none
 | _,_=>none
theorem aeB {t:TypeId} {parts:List (Nat×AV)} {mj:Array (Nat×Value)} (hi:mj.toList.map (·.1)=parts.map (·.1))
  (hr:∀ (j:Nat) x y,parts[j]?=some x->mj.toList[j]?=some y->ak w S μ y.2 x.2) {r:AV} (h:TZ P t parts=some r) :
  ∃ v,(Instr.build t mj).run P w=.ok v w/\ak w S μ v r:=by
 unfold TZ at h
 split at h
 ·rename_i z fs hz hu
  split at h
  ·rename_i aeA hp
   simp only [aW] at h
   obtain ⟨out,ho,rfl⟩:=h
   obtain ⟨us,h1,h2⟩:=Jo (w:=w) (S:=S) (μ:=μ) _ parts mj.toList z.cells _ out hi hr (Em _) ho
   refine ⟨.agg us,run_build w t mj us ?_,h2.mk'⟩
   have hz':=hz
   unfold xC at hz'
   cases hi:P.info? t with
   | none=>simp [hi] at hz'
   | some i =>
    simp_all [Program.built,zz,Function.comp_def]
  ·cases h
 ·rename_i z n e hz hu
  split at h
  ·rename_i n' hn
   simp only [aW] at h
   obtain ⟨out,ho,rfl⟩:=h
   obtain ⟨us,h1,h2⟩:=Jo (w:=w) (S:=S) (μ:=μ) _ parts mj.toList z.cells _ out hi hr (Em _) ho
   refine ⟨.agg us,run_build w t mj us ?_,h2.mk'⟩
   have hz':=hz
   unfold xC at hz'
   unfold zz at hn
   cases hi:P.info? t with
   | none=>simp [hi] at hz'
   | some i =>
    simp [hi] at hz'
    cases he:P.info? e with
    | none=>simp [he] at hn
    | some ie =>
     simp_all [Program.built]
  ·cases h
 ·cases h
end
end Go.Ab
namespace Go.Ab
section
variable {P:Program} {E:Env} {nk:Nat} {σ:eE} {S:Nat->Prop} {μ:Mu} {w:World}
theorem Step.aeC (g:Good E σ S μ w) (hk:μ nk=none) (hm:E.m0<=nk) {s:Sem Value} {vs:Array Value} {T:TypeId} {len cap sz:Nat} {pr:Bool} {get:Nat->List AV}
  (h:s.run P w=.ok (.slice (some ⟨w.heap.size,0,none⟩) len cap) (w.alloc (.cells vs T))) (DX:cap * sz<=vs.size) (hlen:len<=cap)
  (ug:∀ i,i < len->(get i).length=sz)
  (HN:∀ i j x v,i < len->(get i)[j]?=some x->vs[i * sz+j]?=some v->ak w S (if pr then kF else μ) v x) (KL:sz≠0) (hnr:∀ i,rowOf ⟨false,sz,len,pr,get⟩ i=none) :
  Step P E nk σ S μ w s (.os nk 0 len) [(nk,some ⟨false,sz,len,pr,get⟩)]:=by
 have ga:=g.alloc hk hm vs T ⟨false,sz,len,pr,get⟩ cap DX hlen ug HN KL hnr
 refine ⟨_,_,_,_,h,ga.1,ga.2,fun k tg hn=>by grind [qG],?_⟩
 simp_all [ak.os,cK]
def AV.ajt:AV->Bool
 | .mr _ _ _=>true
 | _=>false
def oZ:List AV->Bool
 | []=>true
 | c :: cs=>!c.ajt && oZ cs
theorem Sy:∀ {cs:List AV},oZ cs=true->∀ c∈cs,c.ajt=false
 | [],_,c,h=>by simp at h
 | a :: cs,h,c,hc=>by
  simp only [oZ,a7,Bool.not_eq_true'] at h
  rcases lG.1 hc with rfl | hc
  ·exact h.1
  ·exact Sy h.2 c hc
theorem YM (v:Value):(iy v).ajt=false:=by
 unfold iy
 split
 ·rfl
 ·split<;>rfl
 ·rfl
theorem En {o:Ob} {l:List AV} (h:∀ i,i < o.len->∀ c∈o.get i,c∈l) (hl:∀ c∈l,c.ajt=false) (i:Nat):rowOf o i=none:=by
 cases hr:rowOf o i with
 | none=>rfl
 | some x =>
  obtain ⟨_,h1,h2⟩:=dW hr
  have:=hl _ (h i h1 (.mr x.1 x.2.1 x.2.2) (by simp_all))
  cases this
theorem uh {o:Ob} (h:∀ i,i < o.len->AV.su (o.get i)=true) (i:Nat):rowOf o i=none:=by
 cases hr:rowOf o i with
 | none=>rfl
 | some x =>
  obtain ⟨_,h1,h2⟩:=dW hr
  have:=h i h1
  rw [h2] at this
  cases this
def qg (P:Program) (t:TypeId):Option TypeId :=
 match P.underlying t with
 | some (.slice e)=>some e
 | _=>none
theorem ni {t e:TypeId} (h:qg P t=some e):P.underlying t=some (.slice e):=by
 grind [qg]
def rows (n:Nat):Nat->List AV->List (List AV)
 | 0,_=>[]
 | k+1,cs=>cs.take n :: rows n k (cs.drop n)
theorem WG (n:Nat):∀ (k:Nat) (cs:List AV) (i:Nat),i < k->(rows n k cs)[i]?=some ((cs.drop (i * n)).take n)
 | 0,_,i,h=>by omega
 | k+1,cs,0,_=>by simp [rows]
 | k+1,cs,i+1,h=>by
  simp only [rows,Oa]
  rw [WG n k (cs.drop n) i (by omega),List.drop_drop]
  grind
theorem KN (n k:Nat) (cs:List AV) (i:Nat) (h:i < k):(rows n k cs).getD i []=(cs.drop (i * n)).take n:=by
 rw [ep,WG n k cs i h];rfl
def ML (z:List AV):Nat->List AV
 | 0=>[]
 | k+1=>z ++ ML z k
theorem Cw (z:List AV):∀ k,(ML z k).length=k * z.length
 | 0=>by simp [ML]
 | k+1=>by simp [ML,Cw z k,dn];omega
theorem Sz (z:List AV) (hz:z.length≠0):∀ (k j:Nat),j < k * z.length->(ML z k)[j]?=z[j % z.length]?
 | 0,j,h=>by simp at h
 | k+1,j,h=>by
  simp only [ML]
  by_cases hj:j < z.length
  ·rw [jj hj,Nat.mod_eq_of_lt hj]
  ·rw [kU (by omega),Sz z hz k (j - z.length) (by grind)]
   congr 1
   conv=>rhs;rw [show j=(j - z.length)+z.length by omega]
   simp
theorem aeD {z:Value} {n:Nat} (hz:z.cells.size=n) (hn:n≠0) (k:Nat) (c:Array Value) (hc:c=(Array.range (k * n)).map (z.cells[· % z.cells.size]!)) :
  RL w S μ c (ML (z.cells.toList.map iy) k):=by
 subst hc
 have hl:(z.cells.toList.map iy).length=n:=by simp [hz]
 refine ⟨by simp [Cw,hz],?_⟩
 intro j x v hx hv
 have hj:j < k * n:=by
  have:=(Array.getElem?_eq_some_iff.1 hv).1
  simpa using this
 rw [Sz _ (by omega) k j (by rw [hl];exact hj),hl] at hx
 have iQ:j % n < z.cells.size:=by rw [hz];exact Nat.mod_lt _ (by omega)
 have yB:v=z.cells[j % n]:=by
  simp only [Array.getElem?_map] at hv
  rw [Array.getElem?_range,if_pos hj] at hv
  simp at hv
  rw [<- hv,hz]
  simp [getElem!_pos,iQ]
 refine (Em (w:=w) (S:=S) (μ:=μ) z.cells).2 (j % n) x v hx ?_
 simp_all
def Cx (P:Program) (nk:Nat) (t:TypeId) (len:Nat) (parts:List (Nat×AV)):Option (AV×xD) :=
 match qg P t with
 | some e=>match zz P e,Cu P e,xC P e with
  | some n,some _,some z=>match Nat.ble 1 (len * n) && Nat.ble (len * n) 16777216 && Nat.beq z.cells.size n with
   | true=>match Hr (fun i=>some (i * n,n)) (ML (z.cells.toList.map iy) len) parts with
    | some cs=>match oZ cs with
     | true=>some (.os nk 0 len,[(nk,some ⟨false,n,len,AV.oY cs,fun i=>(rows n len cs).getD i []⟩)])
     | false=>none
    | none=>none
   | false=>match Nat.beq len 0 && Nat.ble 1 n with
    | true=>some (.os nk 0 0,[(nk,some ⟨false,n,0,true,fun _=>[]⟩)])
    | false=>none
  | _,_,_=>none
 | none=>none
theorem Nh {t e:TypeId} {n:Nat} (he:P.underlying t=some (.slice e)) (hn:zz P e=some n) (w:World) :
  (Instr.buildSlice t 0 #[]).run P w=.ok (.slice (some ⟨w.heap.size,0,none⟩) 0 0) (w.alloc (.cells #[] e)):=by
 simp [Instr.buildSlice,run_underlying he,gh hn,Instr.fill,newRow,Array.range_zero']
theorem RX (g:Good E σ S μ w) (hk:μ nk=none) (hm:E.m0<=nk) {t:TypeId} {len:Nat} {parts:List (Nat×AV)} {mj:Array (Nat×Value)} (hi:mj.toList.map (·.1)=parts.map (·.1))
  (hr:∀ (j:Nat) x y,parts[j]?=some x->mj.toList[j]?=some y->ak w S μ y.2 x.2) {val:AV} {pU:xD} (h:Cx P nk t len parts=some (val,pU)) (hp0:len=0->parts=[]) :
  Step P E nk σ S μ w (Instr.buildSlice t len mj) val pU:=by
 unfold Cx at h
 split at h
 ·rename_i e he
  have he:=ni he
  split at h
  ·rename_i n b z hn hb hz
   split at h
   ·rename_i KO
    simp only [a7,Nat.ble_eq] at KO
    have hzs:=cw KO.2
    split at h
    ·rename_i cs hcs
     split at h
     case h_2=>cases h
     rename_i hmr
     cases h
     have hn0:n≠0:=by rintro rfl;simp at KO
     have WH:=aeD (w:=w) (S:=S) (μ:=μ) hzs hn0 len _ rfl
     obtain ⟨us,h1,h2⟩:=Jo (w:=w) (S:=S) (μ:=μ) _ parts mj.toList _ _ cs hi hr WH hcs
     obtain ⟨ie,Of,xB,hby,hze⟩:=Cv hn hb hz
     subst xB
     have oD:=run_buildSlice w t e len mj us ie z he Of hze (by omega) (by omega) h1
     have hlen:us.size=len * ie.size:=by
      have:=h2.1
      have hf:∀ (parts:List (Nat×AV)) (cs out:List AV),Hr (fun i=>some (i * ie.size,ie.size)) cs parts=some out->out.length=cs.length:=by
       intro parts
       induction parts with
       | nil=>intro cs out h;simp [Hr] at h;rw [h]
       | cons p ps ih =>
        intro cs out h
        simp only [Hr] at h
        split at h
        ·split at h
         ·rename_i ho
          simp only [a7,Nat.ble_eq] at ho
          rw [ih _ _ h,sx _ _ _ ho.2]
         ·cases h
        ·cases h
      rw [this,hf _ _ _ hcs,Cw];simp [hzs]
     refine Step.aeC g hk hm oD (by rw [hlen];exact aN _) (aN _) ?_ ?_ hn0 (En (l:=cs) (fun i hi c hc=>by
      have hc:c∈(rows ie.size len cs).getD i []:=hc
      rw [KN _ _ _ _ hi] at hc
      exact List.mem_of_mem_drop (List.mem_of_mem_take hc)) (Sy hmr))
     ·intro i hi
      rw [KN _ _ _ _ hi]
      have:=h2.1
      have:(i+1) * ie.size<=len * ie.size:=dN _ hi
      rw [dn] at this
      simp;omega
     ·intro i j x v hi hx hv
      rw [KN _ _ _ _ hi,sR] at hx
      split at hx
      ·rw [rm] at hx
       exact h2.pr hx hv
      ·cases hx
    ·cases h
   ·split at h
    ·rename_i WH
     cases h
     simp only [a7,Nat.ble_eq] at WH
     obtain ⟨WH,hn1⟩:=WH
     have:=cw WH
     subst this
     have hp0:=hp0 rfl
     subst hp0
     have:mj=#[]:=by
      have:mj.toList=[]:=by simpa using hi
      exact Array.toList_eq_nil_iff.1 this
     subst this
     exact Step.aeC g hk hm (Nh he hn w) (by simp) (aN _) (fun i hi=>absurd hi (fj _)) (fun i j x v hi=>absurd hi (fj _)) (by omega) (fun i=>rfl)
    ·cases h
  ·cases h
 ·cases h
def YN (P:Program) (nk:Nat) (t:TypeId) (l c:AV):Option (List Prop×AV×xD) :=
 match qg P t,l,c with
 | some e,.atom (.int _ l),.atom (.int _ c)=>match zz P e,Cu P e,xC P e with
  | some n,some b,some z=>match Nat.ble 1 n && Nat.beq z.cells.size n with
   | true=>some ([0<=l,l<=c,(b:Int) * c<=281474976710656,c<=9223372036854775807],.os nk 0 l.toNat,
     [(nk,some ⟨false,n,l.toNat,AV.oY (z.cells.toList.map iy),fun _=>z.cells.toList.map iy⟩)])
   | false=>none
  | _,_,_=>none
 | _,_,_=>none
theorem ajv (g:Good E σ S μ w) (hk:μ nk=none) (hm:E.m0<=nk) {t:TypeId} {l c:AV} {vl vc:Value} (hl:ak w S μ vl l) (hc:ak w S μ vc c)
  {ps:List Prop} {val:AV} {pU:xD} (h:YN P nk t l c=some (ps,val,pU)) (hp:bm ps) :
  Step P E nk σ S μ w (Instr.makeSlice t vl vc) val pU:=by
 unfold YN at h
 split at h
 ·rename_i e k l k' c he
  have he:=ni he
  have:=dR hl;subst this
  have:=dR hc;subst this
  split at h
  ·rename_i n b z hn hb hz
   split at h
   ·rename_i KO
    cases h
    simp only [a7,Nat.ble_eq] at KO
    have hzs:=cw KO.2
    obtain ⟨h1,h2,h3,h4,_⟩:=hp
    obtain ⟨ie,Of,xB,hby,hze⟩:=Cv hn hb hz
    subst xB hby
    have oD:=run_make (P:=P) w t e ie z he Of hze k k' l c h1 h2 h3 h4
    refine Step.aeC g hk hm oD (by rw [size_madeCells];exact aN _) (by omega) (fun _ _=>by simp [hzs]) ?_ (by omega) (En (l:=z.cells.toList.map iy) (fun _ _ c hc=>hc) (fun c hc=>by
     obtain ⟨v,_,rfl⟩:=List.mem_map.1 hc
     exact YM v))
    intro i j x v hi hx hv
    have hj:j < ie.size:=by
     have:=(fe.1 hx).1
     simpa [hzs] using this
    have yB:z.cells[j]?=some v:=by
     unfold madeCells at hv
     simp only [Array.getElem?_map] at hv
     have iQ:i * ie.size+j < c.toNat * ie.size:=by
      have:(i+1) * ie.size<=c.toNat * ie.size:=dN _ (by omega)
      rw [dn] at this
      omega
     rw [Array.getElem?_range,if_pos iQ] at hv
     simp only [Option.map_some,aL] at hv
     rw [hzs,py i,Nat.mul_add_mod,Nat.mod_eq_of_lt hj] at hv
     have hjz:j < z.cells.size:=by omega
     rw [lF hjz]
     rw [getElem!_pos z.cells j hjz] at hv
     exact congrArg some hv
    exact (Em (w:=w) (S:=S) (μ:=μ) z.cells).pr hx yB
   ·cases h
  ·cases h
 ·cases h
def ldv (agg:Bool) (n:Nat) (cs:List AV) (j:Nat):Option AV :=
 match Nat.ble (j+n) cs.length with
 | true=>match agg with
  | true=>some (.agg ((cs.drop j).take n))
  | false=>cs[j]?
 | false=>none
theorem Og {T:TypeId} {d:TypeDesc} {n:Nat} (hu:P.underlying T=some d) (hn:zz P T=some n) {cs:List AV} {j:Nat} {x:AV} (h:ldv d.isRow n cs j=some x) (b o:Nat)
  (f:Nat->Value) (hc:∀ i,i < cs.length->w.cell? ⟨b,o+i,none⟩=some (f i)) (hr:∀ (i:Nat) c,cs[i]?=some c->ak w S μ (f i) c) :
  ∃ v,(Instr.loadAt T (.pointer (some ⟨b,o+j,none⟩))).run P w=.ok v w/\ak w S μ v x:=by
 unfold ldv at h
 split at h
 ·rename_i hle
  simp only [Nat.ble_eq] at hle
  cases hd:d.isRow with
  | true =>
   simp [hd] at h
   have hl:((List.range n).map fun i=>f (j+i)).length=n:=by simp
   refine ⟨.agg ((List.range n).map fun i=>f (j+i)).toArray,run_loadAt_mid w b (o+j) T _ d ?_ hu hd (by simpa [zz] using hn),?_⟩
   ·intro i v hv
    grind
   ·rw [<- h]
    refine .agg (by simp;omega) ?_
    grind
  | false =>
   simp [hd] at h
   have hj:j < cs.length:=(fe.1 h).1
   have acK:(isAgg T).run P w=.ok false w:=by
    unfold isAgg
    rw [b8,run_underlying hu w]
    cases d<;>simp_all
   simp_all [Instr.loadAt,Instr.sureAddr,loadVar]
 ·cases h
def ajx (kd:IntKind):AV->Option Int
 | .atom v=>match v with
  | .int k n=>match decide (k=kd) with
   | true=>some n
   | false=>none
  | _=>none
 | _=>none
def Hs (kd:IntKind):Nat->List AV->Option (List Int)
 | 0,_=>some []
 | m+1,c :: cs=>match ajx kd c,Hs kd m cs with
  | some a,some r=>some (a :: r)
  | _,_=>none
 | _+1,[]=>none
def om (l:List Int) (n:Nat):Int:=l.getD n 0
def jP (q t:Nat) (v a:Int):Int:=if q=t then v else a
theorem aaW {kd:IntKind} {c:AV} {a:Int} (h:ajx kd c=some a):c=.atom (.int kd a):=by
 unfold ajx at h
 grind
theorem KP {kd:IntKind}:∀ {m:Nat} {cs:List AV} {l:List Int},Hs kd m cs=some l->∀ n,n < m->cs[n]?=some (.atom (.int kd (om l n)))
 | 0,_,_,_,n,hn=>absurd hn (fj n)
 | m+1,[],_,h,_,_=>by simp [Hs] at h
 | m+1,c :: cs,l,h,n,hn=>by
  simp only [Hs] at h
  split at h
  ·rename_i a r h1 h2
   cases h
   cases n with
   | zero=>simp [om,aaW h1]
   | succ n =>
    have:=KP h2 n (by omega)
    simpa [om] using this
  ·cases h
def aaX:AV->Option Bool
 | .atom v=>match v with
  | .bool b=>some b
  | _=>none
 | _=>none
def Av:Nat->List AV->Option (List Bool)
 | 0,_=>some []
 | m+1,c :: cs=>match aaX c,Av m cs with
  | some a,some r=>some (a :: r)
  | _,_=>none
 | _+1,[]=>none
def Jp (l:List Bool) (n:Nat):Bool:=l.getD n false
def Cy (q t:Nat) (v a:Bool):Bool:=if q=t then v else a
theorem WJ {c:AV} {a:Bool} (h:aaX c=some a):c=.atom (.bool a):=by
 unfold aaX at h
 grind
theorem HP:∀ {m:Nat} {cs:List AV} {l:List Bool},Av m cs=some l->∀ n,n < m->cs[n]?=some (.atom (.bool (Jp l n)))
 | 0,_,_,_,n,hn=>absurd hn (fj n)
 | m+1,[],_,h,_,_=>by simp [Av] at h
 | m+1,c :: cs,l,h,n,hn=>by
  simp only [Av] at h
  split at h
  ·rename_i a r h1 h2
   cases h
   cases n with
   | zero=>simp [Jp,WJ h1]
   | succ n =>
    have:=HP h2 n (by omega)
    simpa [Jp] using this
  ·cases h
def Eo (P:Program) (σ:eE) (T:TypeId) (a:AV):Option (List Prop×AV×List Nat) :=
 match P.underlying T,zz P T with
 | some d,some n=>match a with
  | .op k i j=>match au σ k with
   | some o=>(ldv d.isRow n (o.get i) j).map fun x=>([i < o.len],x,[k])
   | none=>none
  | .rp cs j=>(ldv d.isRow n cs j).map fun x=>([],x,[])
  | .ov k i j m q=>match au σ k,d with
   | some o,.int kd=>match Hs kd m ((o.get i).drop j) with
    | some l=>match Nat.beq n 1 with
     | true=>some ([i < o.len],.atom (.int kd (om l q)),[k])
     | false=>none
    | none=>none
   | some o,.bool=>match Av m ((o.get i).drop j) with
    | some l=>match Nat.beq n 1 with
     | true=>some ([i < o.len],.atom (.bool (Jp l q)),[k])
     | false=>none
    | none=>none
   | _,_=>none
  | _=>none
 | _,_=>none
theorem dL {o:Ob} {pl:Place} {c:Array Value} {T:TypeId} (h:jq w S μ o pl c T) {i j:Nat} (hi:i < o.len) (hj:j < o.sz) :
  ∃ v,c[i * o.sz+j]?=some v/\w.cell? ⟨pl.dD,i * o.sz+j,none⟩=some v:=by
 have iQ:i * o.sz+j < c.size:=by
  have h1:(i+1) * o.sz<=pl.cap * o.sz:=dN _ (by have:=h.len;omega)
  have:=h.cap
  rw [dn] at h1
  omega
 exact ⟨c[i * o.sz+j],lF iQ,by rw [cell_of_row w _ _ _ _ _ ((h.dD (by have:=h.len;omega)).trans (by rw [gY (by omega)]))];simp⟩
theorem j6 {v:Value} {x:AV} {pr:Bool} (h:ak w S (if pr then kF else μ) v x):ak w S μ v x:=by
 refine h.mono (fun _ h=>h) (fun _ _=>rfl) ?_
 cases pr
 ·exact fun _ _ h=>h
 ·exact fun _ _ h=>by cases h
theorem T0 (g:Good E σ S μ w) {T:TypeId} {a:AV} {va:Value} (ha:ak w S μ va a) {ps:List Prop} {x:AV} {rd:List Nat} (h:Eo P σ T a=some (ps,x,rd)) (hp:bm ps) :
  ∃ v,(Instr.loadAt T va).run P w=.ok v w/\ak w S μ v x:=by
 unfold Eo at h
 split at h
 ·rename_i d n hu hn
  split at h
  ·rename_i k i j
   split at h
   ·rename_i o ho
    simp only [aW,aG] at h
    obtain ⟨y,hy,rfl,rfl,rfl⟩:=h
    obtain ⟨pl,c,T',hm,dS⟩:=g.rep.ob k o ho
    have hi:=hp.1
    cases ha with
    | op mf jl =>
     rw [hm] at jl;cases jl
     rw [dS.sz]
     have hlen:=dS.zw i hi
     refine Og hu hn hy pl.dD (i * o.sz) (fun j=>(c[i * o.sz+j]?).getD undef) ?_ ?_
     ·grind [dL]
     ·intro j cc hcc
      obtain ⟨v,h1,h2⟩:=dL dS hi (hlen ▸ (fe.1 hcc).1)
      rw [h1]
      exact j6 (dS.rep i j cc v hi hcc h1)
   ·cases h
  ·rename_i cs j
   simp only [aW,aG] at h
   obtain ⟨y,hy,rfl,rfl,rfl⟩:=h
   cases ha with
   | rp b o f h1 h2 h3 =>
    exact Og hu hn hy b o f h2 (fun i c hc=>(h3 i c hc).mono (fun _ h=>h) (fun _ _=>rfl) (fun _ _ h=>by cases h))
  ·rename_i k i j m q
   split at h
   ·rename_i o kd ho
    split at h
    ·rename_i l hl
     split at h
     ·rename_i hn1
      have hn1:=cw hn1
      simp only [aL,aG] at h
      obtain ⟨rfl,rfl,rfl⟩:=h
      obtain ⟨pl,c,T',hm,dS⟩:=g.rep.ob k o ho
      have hi:=hp.1
      cases ha with
      | ov mf jl hq =>
       rw [hm] at jl;cases jl
       rw [dS.sz]
       have hlen:=dS.zw i hi
       have hy:=KP hl q hq
       rw [rm] at hy
       have hjl:=(fe.1 hy).1
       have hy':ldv (TypeDesc.int kd).isRow n (o.get i) (j+q)=some (.atom (.int kd (om l q))):=by
        unfold ldv
        have:Nat.ble (j+q+n) (o.get i).length=true:=by rw [Nat.ble_eq];omega
        rw [this]
        exact hy
       refine Og hu hn hy' pl.dD (i * o.sz) (fun j=>(c[i * o.sz+j]?).getD undef) ?_ ?_
       ·grind [dL]
       ·intro j cc hcc
        obtain ⟨v,h1,h2⟩:=dL dS hi (hlen ▸ (fe.1 hcc).1)
        rw [h1]
        exact j6 (dS.rep i j cc v hi hcc h1)
     ·cases h
    ·cases h
   ·rename_i o ho
    split at h
    ·rename_i l hl
     split at h
     ·rename_i hn1
      have hn1:=cw hn1
      simp only [aL,aG] at h
      obtain ⟨rfl,rfl,rfl⟩:=h
      obtain ⟨pl,c,T',hm,dS⟩:=g.rep.ob k o ho
      have hi:=hp.1
      cases ha with
      | ov mf jl hq =>
       rw [hm] at jl;cases jl
       rw [dS.sz]
       have hlen:=dS.zw i hi
       have hy:=HP hl q hq
       rw [rm] at hy
       have hjl:=(fe.1 hy).1
       have hy':ldv (TypeDesc.bool).isRow n (o.get i) (j+q)=some (.atom (.bool (Jp l q))):=by
        unfold ldv
        have:Nat.ble (j+q+n) (o.get i).length=true:=by rw [Nat.ble_eq];omega
        rw [this]
        exact hy
       refine Og hu hn hy' pl.dD (i * o.sz) (fun j=>(c[i * o.sz+j]?).getD undef) ?_ ?_
       ·grind [dL]
       ·intro j cc hcc
        obtain ⟨v,h1,h2⟩:=dL dS hi (hlen ▸ (fe.1 hcc).1)
        rw [h1]
        exact j6 (dS.rep i j cc v hi hcc h1)
     ·cases h
    ·cases h
   ·cases h
  ·cases h
 ·cases h
end
end Go.Ab
namespace Go.Ab
def bB:Nat->Nat->Nat
 | 0,n=>n
 | m+1,n=>m+1+n
theorem dc (m n:Nat):bB m n=m+n:=by cases m<;>simp [bB]
section
variable {P:Program} {E:Env} {nk:Nat} {σ:eE} {S:Nat->Prop} {μ:Mu} {w:World}
def Ob.put (o:Ob) (i:Nat) (cs:List AV) (pr:Bool):Ob :=
 match o.var with
 | true=>{ o with pr:=o.pr && pr,get:=fun _=>cs }
 | false=>{ o with pr:=o.pr && pr,get:=fun m=>if m=i then cs else o.get m }
def spl (sz:Nat) (cs:List AV) (off:Nat) (ns:List AV):List AV :=
 match Nat.beq ns.length sz with
 | true=>ns
 | false=>th cs off ns
theorem YO {sz:Nat} {cs:List AV} {off:Nat} {ns:List AV} (h:off+ns.length<=sz) (hl:cs.length=sz):spl sz cs off ns=th cs off ns:=by
 unfold spl
 split
 ·rename_i hb
  have hb:=cw hb
  have h0:off=0:=by omega
  subst h0
  unfold th
  rw [List.drop_eq_nil_of_le (by omega)]
  simp
 ·rfl
def sy (P:Program) (σ:eE) (T:TypeId) (a x:AV):Option (List Prop×xD×List Nat) :=
 match a,x.cells,zz P T with
 | .op k i j,some ns,some n=>match au σ k with
  | some o=>match Nat.beq ns.length n && AV.su ns && Nat.ble (j+n) o.sz && (!o.var || Nat.beq o.len 1) && Nat.ble 1 o.sz with
   | true=>some ([i < o.len],[(k,some (o.put i (spl o.sz (o.get i) j ns) (AV.oY ns)))],[k])
   | false=>none
  | none=>none
 | _,_,_=>none
theorem KQ (g:Good E σ S μ w) {T:TypeId} {a x:AV} {va vx:Value} (ha:ak w S μ va a) (hx:ak w S μ vx x) {ps:List Prop} {pU:xD} {rd:List Nat}
  (h:sy P σ T a x=some (ps,pU,rd)) (hp:bm ps) :
  ∃ w',(Instr.storeAt T va vx).run P w=.ok () w'/\Ext w S μ w' S μ/\Good E (gS σ pU) S μ w':=by
 unfold sy at h
 split at h
 ·rename_i k i j ns n hns hn
  split at h
  ·rename_i o ho
   split at h
   ·rename_i hb
    simp only [aL,aG] at h
    obtain ⟨rfl,rfl,rfl⟩:=h
    simp only [a7,Nat.ble_eq] at hb
    obtain ⟨⟨⟨⟨wV,ss⟩,hb3⟩,hb4⟩,hb5⟩:=hb
    have wV:=cw wV
    have hi:i < o.len:=hp.1
    obtain ⟨pl,c,T',hm,dS⟩:=g.rep.ob k o ho
    cases ha with
    | op mf jl =>
     rw [hm] at jl;cases jl
     have DX:0 < pl.cap:=by have:=dS.len;omega
     have Ct:i * o.sz+o.sz<=c.size:=by
      have h1:(i+1) * o.sz<=pl.cap * o.sz:=dN _ (by have:=dS.len;omega)
      have:=dS.cap
      rw [dn] at h1
      omega
     obtain ⟨hcs,hcr⟩:=hx.cells hns
     have RY:∀ v∈vx.cells.toList,v.oneCell'=true:=by
      intro v hv
      obtain ⟨q,hq⟩:=List.getElem?_of_mem hv
      have iQ:q < ns.length:=by
       have:=(fe.1 hq).1
       simp at this;omega
      exact (hcr q _ v (ud iQ) (by simpa using hq)).TX (OH ss (ud iQ))
     have Jm:=run_storeCells_at P pl.dD (i * pl.sz+j) T' vx.cells.toList 0 c w ((dS.dD DX).trans (by grind [gY])) (by rw [dS.sz];simp;omega) RY
     simp only [Nat.add_zero] at Jm
     generalize sS:(c.toList.take (i * pl.sz+j) ++ vx.cells.toList ++ c.toList.drop (i * pl.sz+j+vx.cells.toList.length)).toArray=c' at Jm
     have Ep:(c.toList.take (i * pl.sz+j)).length=i * o.sz+j:=by rw [dS.sz];simp;omega
     have hvl:vx.cells.toList.length=n:=by simp;omega
     have T4:c'.size=c.size:=by
      rw [<- sS]
      simp only [List.size_toArray,gI,xP,hvl,dS.sz]
      simp;omega
     have ui:∀ m,c'[m]?=if i * o.sz+j<=m/\m < i * o.sz+j+n then vx.cells[m - (i * o.sz+j)]? else c[m]?:=by
      intro m
      rw [<- sS]
      simp only [List.getElem?_toArray,qA]
      by_cases h1:m < i * o.sz+j
      ·grind
      ·rw [kU (by omega),Ep]
       by_cases h2:m < i * o.sz+j+n
       ·rw [jj (by omega),if_pos (by omega)]
        simp
       ·rw [kU (by omega),if_neg (by omega),rm,hvl,dS.sz]
        simp only [Array.getElem?_toList]
        congr 1;omega
     have hgl:=dS.zw i hi
     have hsp:∀ (o':Ob),o'.sz=o.sz->o'.len=o.len->o'.var=o.var->o'.pr=(o.pr && AV.oY ns)->(o'.get i=th (o.get i) j ns)->(∀ m,m < o.len->m≠i->o'.get m=o.get m) ->
       Ext w S μ (w.setRow pl.dD c') S μ/\Good E (sset σ k o') S μ (w.setRow pl.dD c'):=by
      intro o' e1 e2 ev e3 e4 e5
      have gH:∀ m q,m≠i->q < o.sz->¬ (i * o.sz+j<=m * o.sz+q/\m * o.sz+q < i * o.sz+j+n):=by
       rintro m q Jq hq ⟨h1,h2⟩
       rcases Nat.lt_or_gt_of_ne Jq with h3 | h3
       ·have:(m+1) * o.sz<=i * o.sz:=dN _ h3
        rw [dn] at this;omega
       ·have:(i+1) * o.sz<=m * o.sz:=dN _ h3
        rw [dn] at this;omega
      refine g.write ho hm DX dS (by omega) o' c' e1 T4 (by rw [e2];exact dS.len) ?_ ?_ ?_
      rotate_left 2
      ·intro m x hx
       obtain ⟨q1,q2,q3⟩:=dW hx
       rw [e2] at q2
       rw [ev] at q1
       rw [ui]
       by_cases Jq:m=i
       ·subst Jq
        rw [e4] at q3
        cases n with
        | zero =>
         have:ns=[]:=List.eq_nil_of_length_eq_zero wV
         rw [this] at q3
         refine ⟨nh q1 q2 (by rw [<- q3];unfold th;simp),if_neg (by omega)⟩
        | succ n =>
         have h1:=sx (o.get m) j ns (by omega)
         rw [q3] at h1
         have hj0:j=0:=by simp at h1;omega
         have h2:=yC (o.get m) j ns (by omega) 0
         rw [q3,if_pos (by omega)] at h2
         have h3:=OH ss (j:=0 - j) (c:=.mr x.1 x.2.1 x.2.2) (by rw [<- h2];rfl)
         cases h3
       ·rw [e5 m q2 Jq] at q3
        exact ⟨nh q1 q2 q3,if_neg (gH m 0 Jq (by omega))⟩
      ·intro m hm
       rw [e2] at hm
       by_cases Jq:m=i
       ·subst Jq
        rw [e4,sx _ _ _ (by omega),hgl,e1]
       ·rw [e5 m hm Jq,dS.zw m hm,e1]
      ·intro m q y v hm hy hv
       rw [e2] at hm
       rw [e1,ui] at hv
       rw [e3]
       have hq:q < o.sz:=by
        have:=(fe.1 hy).1
        by_cases Jq:m=i
        ·subst Jq;rw [e4,sx _ _ _ (by omega),hgl] at this;exact this
        ·rw [e5 m hm Jq,dS.zw m hm] at this;exact this
       have hold:(o.get m)[q]?=some y->c[m * o.sz+q]?=some v->ak w S (if (o.pr && AV.oY ns)=true then kF else μ) v y:=by
        intro hy hv
        have:=dS.rep m q y v hm hy hv
        cases YD:o.pr
        ·simpa [YD] using this
        ·rw [YD] at this
         split
         ·exact this
         ·exact j6 this
       by_cases Jq:m=i
       ·subst Jq
        rw [e4,yC _ _ _ (by omega)] at hy
        by_cases hjq:j<=q/\q < j+n
        ·rw [if_pos (by omega)] at hy hv
         have yB:vx.cells[q - j]?=some v:=by rw [<- hv];congr 1;omega
         have:=hcr (q - j) y v hy yB
         split
         ·rename_i hpp
          simp only [a7] at hpp
          exact this.pure (yi hpp.2 hy) kF
         ·exact this
        ·rw [if_neg (by omega)] at hy hv
         exact hold hy hv
       ·rw [e5 m hm Jq] at hy
        rw [if_neg (gH m q Jq hq)] at hv
        exact hold hy hv
     refine ⟨w.setRow pl.dD c',?_,?_⟩
     ·simp only [Instr.storeAt,Instr.sureAddr,b8,Sem.run_pure,dP,storeVar,gh hn]
      rw [Sem.run_ite,if_neg (by omega)]
      exact Jm
     ·show Ext _ _ _ _ _ _/\Good E (sset σ k _) S μ _
      refine hsp _ ?_ ?_ ?_ ?_ ?_ ?_
      ·unfold Ob.put;split<;>rfl
      ·unfold Ob.put;split<;>rfl
      ·unfold Ob.put;split<;>rfl
      ·unfold Ob.put;split<;>rfl
      ·rw [<- YO (by omega) hgl];unfold Ob.put;split<;>simp
      ·intro m hm Jq
       unfold Ob.put
       split
       ·rename_i Jr
        simp only [Jr,Bool.not_true,Bool.false_or] at hb4
        have:=cw hb4
        omega
       ·simp [Jq]
   ·cases h
  ·cases h
 ·cases h
def acN (kd:IntKind) (q:Nat) (v:Int):Nat->Nat->List AV->List AV
 | t,m+1,c :: cs=>(match ajx kd c with
  | some a=>.atom (.int kd (jP q t v a))
  | none=>c) :: acN kd q v (t+1) m cs
 | _,_,cs=>cs
theorem WK {kd:IntKind} {q:Nat} {v:Int}:∀ {m:Nat} {cs:List AV} {l:List Int} (t:Nat),Hs kd m cs=some l->∀ r,(acN kd q v t m cs)[r]?=if q=t+r/\r < m then some (.atom (.int kd v)) else cs[r]?
 | 0,cs,_,t,_,r=>by cases cs<;>simp [acN]
 | m+1,[],_,_,h,_=>by simp [Hs] at h
 | m+1,c :: cs,l,t,h,r=>by
  simp only [Hs] at h
  split at h
  ·rename_i a r' h1 h2
   cases h
   simp only [acN,h1]
   cases r with
   | zero =>
    simp only [List.getElem?_cons_zero,Nat.add_zero]
    by_cases hq:q=t
    ·simp_all [if_pos,jP]
    ·rw [if_neg (fun h=>hq h.1),jP,if_neg hq,<- aaW h1]
   | succ r =>
    simp only [Oa]
    rw [WK (t+1) h2 r]
    grind
  ·cases h
def acO (q:Nat) (v:Bool):Nat->Nat->List AV->List AV
 | t,m+1,c :: cs=>(match aaX c with
  | some a=>.atom (.bool (Cy q t v a))
  | none=>c) :: acO q v (t+1) m cs
 | _,_,cs=>cs
theorem WL {q:Nat} {v:Bool}:∀ {m:Nat} {cs:List AV} {l:List Bool} (t:Nat),Av m cs=some l->∀ r,(acO q v t m cs)[r]?=if q=t+r/\r < m then some (.atom (.bool v)) else cs[r]?
 | 0,cs,_,t,_,r=>by cases cs<;>simp [acO]
 | m+1,[],_,_,h,_=>by simp [Av] at h
 | m+1,c :: cs,l,t,h,r=>by
  simp only [Av] at h
  split at h
  ·rename_i a r' h1 h2
   cases h
   simp only [acO,h1]
   cases r with
   | zero =>
    simp only [List.getElem?_cons_zero,Nat.add_zero]
    by_cases hq:q=t
    ·simp_all [if_pos,Cy]
    ·rw [if_neg (fun h=>hq h.1),Cy,if_neg hq,<- WJ h1]
   | succ r =>
    simp only [Oa]
    rw [WL (t+1) h2 r]
    grind
  ·cases h
def Gf (P:Program) (σ:eE) (T:TypeId) (a x:AV):Option (List Prop×xD×List Nat) :=
 match a with
 | .ov k i j m q=>match au σ k,x,zz P T with
  | some o,.atom (.int kd v),some n=>match Hs kd m ((o.get i).drop j) with
   | some _=>match Nat.beq n 1 && Nat.ble (j+m) o.sz && Nat.ble (j+m) (o.get i).length && (!o.var || Nat.beq o.len 1) && Nat.ble 1 o.sz with
    | true=>some ([i < o.len],[(k,some (o.put i ((o.get i).take j ++ acN kd q v 0 m ((o.get i).drop j)) true))],[k])
    | false=>none
   | none=>none
  | some o,.atom (.bool v),some n=>match Av m ((o.get i).drop j) with
   | some _=>match Nat.beq n 1 && Nat.ble (j+m) o.sz && Nat.ble (j+m) (o.get i).length && (!o.var || Nat.beq o.len 1) && Nat.ble 1 o.sz with
    | true=>some ([i < o.len],[(k,some (o.put i ((o.get i).take j ++ acO q v 0 m ((o.get i).drop j)) true))],[k])
    | false=>none
   | none=>none
  | _,_,_=>none
 | a=>sy P σ T a x
theorem aeF (g:Good E σ S μ w) {T:TypeId} {a x:AV} {va vx:Value} (ha:ak w S μ va a) (hx:ak w S μ vx x) {ps:List Prop} {pU:xD} {rd:List Nat}
  (h:Gf P σ T a x=some (ps,pU,rd)) (hp:bm ps) :
  ∃ w',(Instr.storeAt T va vx).run P w=.ok () w'/\Ext w S μ w' S μ/\Good E (gS σ pU) S μ w':=by
 unfold Gf at h
 split at h
 ·rename_i k i j m q
  split at h
  ·rename_i o kd v n ho hn
   split at h
   ·rename_i l hl
    split at h
    ·rename_i hb
     simp only [aL,aG] at h
     obtain ⟨rfl,rfl,rfl⟩:=h
     simp only [a7,Nat.ble_eq] at hb
     obtain ⟨⟨⟨⟨wV,ss⟩,hb3⟩,hb4⟩,hb5⟩:=hb
     cases ha with
     | ov pl hm hq =>
      have hc:(o.get i).take j ++ acN kd q v 0 m ((o.get i).drop j)=th (o.get i) (j+q) [.atom (.int kd v)]:=by
       have hl1:((o.get i).take j).length=j:=by simp;omega
       apply List.ext_getElem?
       intro r
       rw [yC _ _ _ (by simp;omega)]
       simp only [List.length_singleton]
       by_cases hr:r < j
       ·rw [jj (by omega),sR,if_pos hr,if_neg (by omega)]
       ·rw [kU (by omega),hl1,WK 0 hl]
        by_cases hqr:r=j+q
        ·rw [if_pos (by omega),if_pos (by omega)]
         have:r - (j+q)=0:=by omega
         rw [this];rfl
        ·rw [if_neg (by omega),if_neg (by omega),rm]
         congr 1;omega
      have hgl:(o.get i).length=o.sz:=by obtain ⟨_,_,_,_,dS⟩:=g.rep.ob k o ho;exact dS.zw i hp.1
      rw [<- YO (sz:=o.sz) (by simp;omega) hgl] at hc
      have h0:sy P σ T (.op k i (j+q)) (.atom (.int kd v))=some ([i < o.len],[(k,some (o.put i (spl o.sz (o.get i) (j+q) [.atom (.int kd v)]) true))],[k]):=by
       have amh:=cw wV
       subst amh
       have e1:Nat.ble (j+q+1) o.sz=true:=by rw [Nat.ble_eq];omega
       have e2:Nat.ble 1 o.sz=true:=by rw [Nat.ble_eq];exact hb5
       unfold sy
       simp only [AV.cells,hn,ho,List.length_singleton,AV.su,AV.one,AV.oY,AV.pure,e1,e2,hb4,Bool.and_true,Bool.and_self]
      rw [hc]
      exact KQ g (ak.op pl hm) hx h0 hp
    ·cases h
   ·cases h
  ·rename_i o v n ho hn
   split at h
   ·rename_i l hl
    split at h
    ·rename_i hb
     simp only [aL,aG] at h
     obtain ⟨rfl,rfl,rfl⟩:=h
     simp only [a7,Nat.ble_eq] at hb
     obtain ⟨⟨⟨⟨wV,ss⟩,hb3⟩,hb4⟩,hb5⟩:=hb
     cases ha with
     | ov pl hm hq =>
      have hc:(o.get i).take j ++ acO q v 0 m ((o.get i).drop j)=th (o.get i) (j+q) [.atom (.bool v)]:=by
       have hl1:((o.get i).take j).length=j:=by simp;omega
       apply List.ext_getElem?
       intro r
       rw [yC _ _ _ (by simp;omega)]
       simp only [List.length_singleton]
       by_cases hr:r < j
       ·rw [jj (by omega),sR,if_pos hr,if_neg (by omega)]
       ·rw [kU (by omega),hl1,WL 0 hl]
        by_cases hqr:r=j+q
        ·rw [if_pos (by omega),if_pos (by omega)]
         have:r - (j+q)=0:=by omega
         rw [this];rfl
        ·rw [if_neg (by omega),if_neg (by omega),rm]
         congr 1;omega
      have hgl:(o.get i).length=o.sz:=by obtain ⟨_,_,_,_,dS⟩:=g.rep.ob k o ho;exact dS.zw i hp.1
      rw [<- YO (sz:=o.sz) (by simp;omega) hgl] at hc
      have h0:sy P σ T (.op k i (j+q)) (.atom (.bool v))=some ([i < o.len],[(k,some (o.put i (spl o.sz (o.get i) (j+q) [.atom (.bool v)]) true))],[k]):=by
       have amh:=cw wV
       subst amh
       have e1:Nat.ble (j+q+1) o.sz=true:=by rw [Nat.ble_eq];omega
       have e2:Nat.ble 1 o.sz=true:=by rw [Nat.ble_eq];exact hb5
       unfold sy
       simp only [AV.cells,hn,ho,List.length_singleton,AV.su,AV.one,AV.oY,AV.pure,e1,e2,hb4,Bool.and_true,Bool.and_self]
      rw [hc]
      exact KQ g (ak.op pl hm) hx h0 hp
    ·cases h
   ·cases h
  ·cases h
 ·exact KQ g ha hx h hp
def Er (P:Program) (T:TypeId) (x:AV) (f:Nat):Option AV :=
 match P.underlying T with
 | some (.struct fs)=>match fs[f]? with
  | some fl=>match zz P fl.type with
   | some (_+1)=>match x with
    | .op k i j=>some (.op k i (j+fl.offset))
    | .rp cs j=>some (.rp cs (j+fl.offset))
    | _=>none
   | _=>none
  | none=>none
 | _=>none
theorem T5 {T:TypeId} {x:AV} {f:Nat} {v:Value} (hx:ak w S μ v x) {r:AV} (h:Er P T x f=some r) :
  ∃ u,(Instr.fieldAt T v f).run P w=.ok u w/\ak w S μ u r:=by
 unfold Er at h
 split at h
 ·rename_i fs hu
  split at h
  ·rename_i fl hf
   split at h
   ·rename_i n hn
    split at h
    ·cases h
     cases hx with
     | op pl hm =>
      rename_i k i j
      refine ⟨.pointer (some ⟨pl.dD,i * pl.sz+(j+fl.offset),none⟩),?_,.op pl hm⟩
      simp_all [Instr.fieldAt,run_underlying,Instr.sureAddr,fieldPlace,gh,Addr.add_mid,Nat.add_assoc]
    ·cases h
     cases hx with
     | rp b o f' h1 h2 h3 =>
      rename_i cs j
      refine ⟨.pointer (some ⟨b,o+(j+fl.offset),none⟩),?_,.rp b o f' h1 h2 h3⟩
      simp_all [Instr.fieldAt,run_underlying,Instr.sureAddr,fieldPlace,gh,Addr.add_mid,Nat.add_assoc]
    ·cases h
   ·cases h
  ·cases h
 ·cases h
def T6 (P:Program) (T:TypeId) (x:AV) (f:Nat):Option AV :=
 match P.underlying T,x with
 | some (.struct fs),.agg cs=>match fs[f]? with
  | some fl=>match zz P fl.type with
   | some n=>match Nat.ble (fl.offset+n) cs.length with
    | true=>mg P fl.type cs fl.offset
    | false=>none
   | none=>none
  | none=>none
 | _,_=>none
theorem aeG {T:TypeId} {x:AV} {f:Nat} {v:Value} (hx:ak w S μ v x) {r:AV} (h:T6 P T x f=some r) :
  ∃ u,(Instr.field T v f).run P w=.ok u w/\ak w S μ u r:=by
 unfold T6 at h
 split at h
 ·rename_i fs cs hu
  split at h
  ·rename_i fl hf
   split at h
   ·rename_i n hn
    split at h
    ·rename_i hle
     simp only [Nat.ble_eq] at hle
     obtain ⟨vs,rfl,RV,Ng⟩:=rr hx
     obtain ⟨u,r1,r2⟩:=mh RV Ng h (fun n' h'=>by simp_all)
     simp_all [Instr.field,run_underlying,asAgg]
    ·cases h
   ·cases h
  ·cases h
 ·cases h
def tI (P:Program) (σ:eE) (T:TypeId) (x ix:AV):Option (List Prop×AV×List Nat) :=
 match P.underlying T,ix with
 | some (.slice e),.atom (.int _ n)=>match zz P e with
  | some sz=>match x with
   | .os k off len=>match au σ k with
    | some o=>match Nat.beq o.sz sz with
     | true=>some ([0<=n/\n < len],.op k (bB off n.toNat) 0,[k])
     | false=>none
    | none=>none
   | .sl len get=>match Nat.beq (get n.toNat).length sz with
    | true=>some ([0<=n/\n < len],.rp (get n.toNat) 0,[])
    | false=>none
   | _=>none
  | none=>none
 | some (.array len e),.atom (.int _ n)=>match zz P e with
  | some sz=>match x with
   | .op k i j=>match P.underlying e with
    | some (.int _)=>match Nat.beq sz 1 with
     | true=>some ([0<=n/\n < len],.ov k i j len n.toNat,[])
     | false=>none
    | some .bool=>match Nat.beq sz 1 with
     | true=>some ([0<=n/\n < len],.ov k i j len n.toNat,[])
     | false=>none
    | _=>some ([0<=n/\n < len],.op k i (j+n.toNat * sz),[])
   | .rp cs j=>some ([0<=n/\n < len],.rp cs (j+n.toNat * sz),[])
   | _=>none
  | none=>none
 | _,_=>none
theorem T7 (g:Good E σ S μ w) {T:TypeId} {x ix:AV} {v vi:Value} (hx:ak w S μ v x) (hi:ak w S μ vi ix) {ps:List Prop} {r:AV} {rd:List Nat}
  (h:tI P σ T x ix=some (ps,r,rd)) (hp:bm ps) :
  ∃ u,(Instr.indexAt T v vi).run P w=.ok u w/\ak w S μ u r:=by
 unfold tI at h
 split at h
 ·rename_i e kk n hu
  have:=dR hi;subst this
  split at h
  ·rename_i sz xB
   split at h
   ·rename_i k off len
    split at h
    ·rename_i o ho
     split at h
     ·rename_i hb
      have hb:=cw hb
      simp only [aL,aG] at h
      obtain ⟨rfl,rfl,rfl⟩:=h
      obtain ⟨pl,c,T',hm,dS⟩:=g.rep.ob k o ho
      have hn:=hp.1
      cases hx with
      | os mf jl h1 h2 h3 =>
       rename_i cap a
       rw [hm] at jl;cases jl
       have ha:=h1 (by omega)
       subst ha
       refine ⟨.pointer (some ⟨pl.dD,bB off n.toNat * pl.sz+0,none⟩),?_,.op pl hm⟩
       simp only [Instr.indexAt,asIntOf,run_underlying hu,b8,Sem.run_pure,dP]
       rw [Sem.run_ite,if_pos hn]
       simp only [b8,gh xB,dP,Sem.run_pure,Addr.add_mid]
       rw [dc,dS.sz,hb,dn]
       rfl
     ·cases h
    ·cases h
   ·rename_i len get
    split at h
    ·rename_i hb
     have hb:=cw hb
     simp only [aL,aG] at h
     obtain ⟨rfl,rfl,rfl⟩:=h
     have hn:=hp.1
     cases hx with
     | sl b off sz' f h1 h2 h3 h4 _ =>
      rename_i cap a
      have sB:n.toNat < len:=by omega
      obtain ⟨ha,hS⟩:=h1 (by omega)
      subst ha
      have hss:sz'=sz:=by rw [<- h2 n.toNat sB,hb]
      subst hss
      refine ⟨.pointer (some ⟨b,(off+n.toNat * sz')+0,none⟩),?_,.rp b (off+n.toNat * sz') (f n.toNat) hS ?_ ?_⟩
      ·simp only [Instr.indexAt,asIntOf,run_underlying hu,b8,Sem.run_pure,dP]
       simp_all [Sem.run_ite,if_pos,b8,gh,dP,Sem.run_pure,Addr.add_mid]
      ·simp_all
      simp_all
    ·cases h
   ·cases h
  ·cases h
 ·rename_i len e kk n hu
  have:=dR hi;subst this
  split at h
  ·rename_i sz xB
   split at h
   ·rename_i k i j
    have oD:0<=n/\n < len->∀ pl:Place,(Instr.indexAt T (.pointer (some ⟨pl.dD,i * pl.sz+j,none⟩)) (.int kk n)).run P w=.ok (.pointer (some ⟨pl.dD,i * pl.sz+(j+n.toNat * sz),none⟩)) w:=by
     intro hn pl
     simp only [Instr.indexAt,Instr.sureAddr,asIntOf,run_underlying hu,b8,Sem.run_pure,dP]
     rw [Sem.run_ite,if_pos hn]
     simp only [b8,gh xB,dP,Sem.run_pure,Addr.add_mid,Nat.add_assoc]
    split at h
    ·split at h
     ·rename_i YE
      have YE:=cw YE
      simp only [aL,aG] at h
      obtain ⟨rfl,rfl,rfl⟩:=h
      have hn:=hp.1
      cases hx with
      | op pl hm =>
       refine ⟨_,oD hn pl,?_⟩
       rw [YE,Nat.mul_one]
       exact .ov pl hm (by omega)
     ·cases h
    ·split at h
     ·rename_i YE
      have YE:=cw YE
      simp only [aL,aG] at h
      obtain ⟨rfl,rfl,rfl⟩:=h
      have hn:=hp.1
      cases hx with
      | op pl hm =>
       refine ⟨_,oD hn pl,?_⟩
       rw [YE,Nat.mul_one]
       exact .ov pl hm (by omega)
     ·cases h
    ·simp only [aL,aG] at h
     obtain ⟨rfl,rfl,rfl⟩:=h
     have hn:=hp.1
     cases hx with
     | op pl hm=>exact ⟨_,oD hn pl,.op pl hm⟩
   ·rename_i cs j
    simp only [aL,aG] at h
    obtain ⟨rfl,rfl,rfl⟩:=h
    have hn:=hp.1
    cases hx with
    | rp b o f h1 h2 h3 =>
     refine ⟨.pointer (some ⟨b,o+(j+n.toNat * sz),none⟩),?_,.rp b o f h1 h2 h3⟩
     simp only [Instr.indexAt,Instr.sureAddr,asIntOf,run_underlying hu,b8,Sem.run_pure,dP]
     simp_all [Sem.run_ite,if_pos,b8,gh,dP,Sem.run_pure,Addr.add_mid,Nat.add_assoc]
   ·cases h
  ·cases h
 ·cases h
def kG (s:ByteArray) (i:Nat):Int:=((s[i]?).getD 0).toNat
def T8 (P:Program) (T:TypeId) (x ix:AV):Option (List Prop×AV) :=
 match P.underlying T,x,ix with
 | some .string,.atom (.string s),.atom (.int _ n)=>some ([0<=n/\n < s.size],.atom (.int .u8 (kG s n.toNat)))
 | some (.array len e),.agg cs,.atom (.int _ n)=>match P.underlying e,zz P e with
  | some (.int kd),some sz=>match Hs kd len cs with
   | some l=>match Nat.beq sz 1 && Nat.beq cs.length len with
    | true=>some ([0<=n/\n < len],.atom (.int kd (om l n.toNat)))
    | false=>none
   | none=>none
  | some .bool,some sz=>match Av len cs with
   | some l=>match Nat.beq sz 1 && Nat.beq cs.length len with
    | true=>some ([0<=n/\n < len],.atom (.bool (Jp l n.toNat)))
    | false=>none
   | none=>none
  | some _,some sz=>match Nat.ble (n.toNat * sz+sz) cs.length with
   | true=>(mg P e cs (n.toNat * sz)).map fun r=>([0<=n/\n < len],r)
   | false=>none
  | _,_=>none
 | _,_,_=>none
theorem aeH {T:TypeId} {x ix:AV} {v vi:Value} (hx:ak w S μ v x) (hi:ak w S μ vi ix) {ps:List Prop} {r:AV} (h:T8 P T x ix=some (ps,r)) (hp:bm ps) :
  ∃ u,(Instr.index T v vi).run P w=.ok u w/\ak w S μ u r:=by
 unfold T8 at h
 split at h
 ·rename_i s kk n hu
  simp only [aL,aG] at h
  obtain ⟨rfl,rfl⟩:=h
  have:=dR hi;subst this
  have:=dR hx;subst this
  have hn:=hp.1
  have iQ:n.toNat < s.size:=by omega
  refine ⟨_,?_,.atom _⟩
  simp_all [Instr.index,asIntOf,run_underlying,b8,Sem.run_pure,dP,if_pos,kG]
 ·rename_i len e cs kk n hu
  have fin:∀ {sz:Nat} {r':AV},zz P e=some sz->n.toNat * sz+sz<=cs.length->mg P e cs (n.toNat * sz)=some r'->0<=n/\n < len ->
    ∃ u,(Instr.index T v vi).run P w=.ok u w/\ak w S μ u r':=by
   intro sz r' xB hle hr hn
   have:=dR hi;subst this
   obtain ⟨vs,rfl,RV,Ng⟩:=rr hx
   obtain ⟨u,r1,r2⟩:=mh RV Ng hr (fun n' h'=>by simp_all)
   refine ⟨u,?_,r2⟩
   simp only [Instr.index,asIntOf,run_underlying hu,b8,Sem.run_pure,dP]
   rw [Sem.run_ite,if_pos hn]
   simp only [b8,gh xB,dP,r1]
  split at h
  ·rename_i kd sz he xB
   split at h
   ·rename_i l hl
    split at h
    ·rename_i hb
     simp only [a7] at hb
     have wV:=cw hb.1
     have ss:=cw hb.2
     simp only [aL,aG] at h
     obtain ⟨rfl,rfl⟩:=h
     have hn:=hp.1
     refine fin xB (by rw [wV];omega) ?_ hn
     have hg:=KP hl n.toNat (by omega)
     simp_all [mg,Nat.mul_one]
    ·cases h
   ·cases h
  ·rename_i sz he xB
   split at h
   ·rename_i l hl
    split at h
    ·rename_i hb
     simp only [a7] at hb
     have wV:=cw hb.1
     have ss:=cw hb.2
     simp only [aL,aG] at h
     obtain ⟨rfl,rfl⟩:=h
     have hn:=hp.1
     refine fin xB (by rw [wV];omega) ?_ hn
     have hg:=HP hl n.toNat (by omega)
     simp_all [mg,Nat.mul_one]
    ·cases h
   ·cases h
  ·rename_i d sz he xB
   split at h
   ·rename_i hle
    simp only [Nat.ble_eq] at hle
    simp only [aW,aG] at h
    obtain ⟨r',hr,rfl,rfl⟩:=h
    exact fin xB hle hr hp.1
   ·cases h
  ·cases h
 ·cases h
def bound (len:Nat):Option AV->Option Nat
 | none=>some len
 | some (.atom (.int _ n))=>some n.toNat
 | _=>none
def Aw:Option AV->List Prop
 | some (.atom (.int _ n))=>[0<=n]
 | _=>[]
def Gg (P:Program) (σ:eE) (T:TypeId) (x:AV) (lo hi:Option AV):Option (List Prop×AV×List Nat) :=
 match P.underlying T,x with
 | some .string,.atom (.string s)=>match bound 0 lo,bound s.size hi with
  | some l,some h=>some ((l<=h/\h<=s.size) :: (Aw lo ++ Aw hi),.atom (.string (s.extract l h)),[])
  | _,_=>none
 | some (.slice e),x=>match zz P e with
  | some sz=>match x with
   | .os k off len=>match bound 0 lo,bound len hi,au σ k with
    | some l,some h,some o=>match Nat.beq o.sz sz with
     | true=>some ((l<=h/\h<=len) :: (Aw lo ++ Aw hi),.os k (bB off l) (h - l),[k])
     | false=>none
    | _,_,_=>none
   | .sl len get=>match bound 0 lo,bound len hi with
    | some l,some h=>match Nat.beq (get l).length sz with
     | true=>some ((l<=h/\h<=len) :: (Aw lo ++ Aw hi),.sl (h - l) fun i=>get (bB l i),[])
     | false=>none
    | _,_=>none
   | _=>none
  | none=>none
 | _,_=>none
theorem HQ {lo:Option AV} {vlo:Option Value} (hv:(vlo=none↔lo=none)/\∀ a b,lo=some a->vlo=some b->ak w S μ b a) {len l:Nat} (h:bound len lo=some l) :
  (lo=none/\vlo=none/\l=len)\/∃ k n,vlo=some (.int k n)/\lo=some (.atom (.int k n))/\l=n.toNat:=by
 unfold bound at h
 split at h
 ·simp_all
 ·rename_i k n
  right
  cases vlo with
  | none=>simp_all
  | some b =>
   have:=dR (hv.2 _ b rfl rfl)
   grind
 ·cases h
theorem Cz (isSlice:Bool) {len cap l h:Nat} {lo hi:Option AV} {vlo vhi:Option Value} (hlo:(vlo=none↔lo=none)/\∀ a b,lo=some a->vlo=some b->ak w S μ b a)
  (hhi:(vhi=none↔hi=none)/\∀ a b,hi=some a->vhi=some b->ak w S μ b a) (hl:bound 0 lo=some l) (hh:bound len hi=some h) (hle:l<=h) (DX:h<=cap) (hp:bm (Aw lo ++ Aw hi)) :
  (Instr.sliceBounds isSlice len cap vlo vhi none).run P w=.ok (l,h,cap) w:=by
 obtain ⟨p1,p2⟩:=bm.app hp
 rcases HQ hlo hl with ⟨e1,e2,e3⟩ | ⟨k1,n1,e1,e2,e3⟩
 ·subst e1 e2 e3
  rcases HQ hhi hh with ⟨f1,f2,f3⟩ | ⟨k2,n2,f1,f2,f3⟩
  ·simp_all [Instr.sliceBounds]
  ·subst f1 f2 f3
   have:=p2.1
   simp_all [Instr.sliceBounds,Instr.sliceBound,asIntOf]
 ·subst e1 e2 e3
  have:=p1.1
  rcases HQ hhi hh with ⟨f1,f2,f3⟩ | ⟨k2,n2,f1,f2,f3⟩
  ·simp_all [Instr.sliceBounds,Instr.sliceBound,asIntOf]
  ·subst f1 f2 f3
   have:=p2.1
   have h2:0<=n2/\n2<=cap:=by omega
   have h3:0<=n1/\n1<=(n2.toNat:Int):=by omega
   simp_all [Instr.sliceBounds,Instr.sliceBound,asIntOf,b8,Sem.run_pure,dP,Sem.run_ite,if_pos]
theorem aeI (g:Good E σ S μ w) {T:TypeId} {x:AV} {v:Value} (hx:ak w S μ v x) {lo hi:Option AV} {vlo vhi:Option Value}
  (hlo:(vlo=none↔lo=none)/\∀ a b,lo=some a->vlo=some b->ak w S μ b a)
  (hhi:(vhi=none↔hi=none)/\∀ a b,hi=some a->vhi=some b->ak w S μ b a) {ps:List Prop} {r:AV} {rd:List Nat} (h:Gg P σ T x lo hi=some (ps,r,rd)) (hp:bm ps) :
  ∃ u,(Instr.sliceAt T v vlo vhi none).run P w=.ok u w/\ak w S μ u r:=by
 unfold Gg at h
 split at h
 ·rename_i s hu
  have:=dR hx;subst this
  split at h
  ·rename_i l hh hl hh'
   simp only [aL,aG] at h
   obtain ⟨rfl,rfl,rfl⟩:=h
   obtain ⟨⟨p1,p2⟩,p3⟩:=hp
   have hb:=Cz (P:=P) (w:=w) false (cap:=s.size) hlo hhi hl hh' p1 p2 p3
   refine ⟨_,?_,.atom _⟩
   simp [Instr.sliceAt,Instr.slice,run_underlying hu,hb]
  ·cases h
 ·rename_i e hu
  split at h
  ·rename_i sz xB
   split at h
   ·rename_i k off len
    split at h
    ·rename_i l hh o hl hh' ho
     split at h
     ·rename_i hb
      have hb:=cw hb
      simp only [aL,aG] at h
      obtain ⟨rfl,rfl,rfl⟩:=h
      obtain ⟨⟨p1,p2⟩,p3⟩:=hp
      obtain ⟨pl,c,T',hm,dS⟩:=g.rep.ob k o ho
      cases hx with
      | os mf jl h1 h2 h3 =>
       rename_i cap a
       rw [hm] at jl;cases jl
       have hbd:=Cz (P:=P) (w:=w) true (cap:=cap) hlo hhi hl hh' p1 (by omega) p3
       refine ⟨.slice (if cap=l then a else a.map (·.add (l * sz))) (hh - l) (cap - l),?_,?_⟩
       ·simp [Instr.sliceAt,Instr.slice,run_underlying hu,hbd,gh xB]
       ·refine .os pl hm ?_ (by omega) (by rw [dc];omega)
        intro hc
        have:=h1 (by omega)
        subst this
        rw [if_neg (by omega)]
        simp only [Option.map_some,Addr.add_mid]
        rw [dc,dS.sz,hb,dn]
     ·cases h
    ·cases h
   ·rename_i len get
    split at h
    ·rename_i l hh hl hh'
     split at h
     ·rename_i hb
      have hb:=cw hb
      simp only [aL,aG] at h
      obtain ⟨rfl,rfl,rfl⟩:=h
      obtain ⟨⟨p1,p2⟩,p3⟩:=hp
      cases hx with
      | sl b off sz' f h1 h2 h3 h4 h5 =>
       rename_i a cap
       have hbd:=Cz (P:=P) (w:=w) true (cap:=cap) hlo hhi hl hh' p1 (by omega) p3
       have hss:l < hh->sz'=sz:=fun iQ=>by grind
       refine ⟨.slice (if cap=l then a else a.map (·.add (l * sz))) (hh - l) (cap - l),?_,?_⟩
       ·simp [Instr.sliceAt,Instr.slice,run_underlying hu,hbd,gh xB]
       ·refine .sl b (off+l * sz) sz' (fun i j=>f (bB l i) j) ?_ (fun i hi=>h2 _ (by rw [dc];omega)) ?_ (fun i j c hi hc=>h4 _ _ _ (by rw [dc];omega) hc) (by omega)
        ·intro hc
         obtain ⟨ha,hS⟩:=h1 (by omega)
         subst ha
         rw [if_neg (by omega)]
         simp_all [Option.map_some,Addr.add_mid,trivial]
        ·intro i j hi hj
         have:=h3 (bB l i) j (by rw [dc];omega) hj
         rw [dc] at this ⊢
         rw [<- this,<- hss (by omega),dn]
         congr 2;omega
     ·cases h
    ·cases h
   ·cases h
  ·cases h
 ·cases h
end
end Go.Ab
namespace Go.Ab
section
variable {P:Program} {E:Env} {nk:Nat} {σ:eE} {S:Nat->Prop} {μ:Mu} {w:World}
def aeJ (P:Program) (T:TypeId) (x:AV):Option AV :=
 match P.underlying T with
 | some .string=>match x with
  | .atom (.string s)=>some (.atom (.int .i64 s.size))
  | _=>none
 | some (.array n _)=>some (.atom (.int .i64 n))
 | some (.slice _)=>match x with
  | .os _ _ n=>some (.atom (.int .i64 n))
  | .sl n _=>some (.atom (.int .i64 n))
  | .nil=>some (.atom (.int .i64 0))
  | _=>none
 | _=>none
theorem aml {T:TypeId} {x:AV} {v:Value} (hx:ak w S μ v x) {r:AV} (h:aeJ P T x=some r) (ty:TypeId) :
  ∃ u,(Builtin.len_ #[T] ty #[v]).run P w=.ok u w/\ak w S μ u r:=by
 unfold aeJ at h
 split at h
 ·rename_i hu
  split at h
  ·cases h
   have:=dR hx;subst this
   exact ⟨_,by simp [Builtin.len_,run_underlying hu,goInt],.atom _⟩
  ·cases h
 ·rename_i n e hu
  cases h
  exact ⟨_,by simp [Builtin.len_,run_underlying hu,goInt],.atom _⟩
 ·rename_i e hu
  split at h
  ·cases h
   cases hx with
   | os pl hm h1 h2 h3=>exact ⟨_,by simp [Builtin.len_,run_underlying hu,goInt],.atom _⟩
  ·cases h
   cases hx with
   | sl b off sz f h1 h2 h3 h4 h5=>exact ⟨_,by simp [Builtin.len_,run_underlying hu,goInt],.atom _⟩
  ·cases h
   cases hx
   exact ⟨_,by simp [Builtin.len_,run_underlying hu,goInt],.atom _⟩
  ·cases h
 ·cases h
def Bn (σ:eE) (sz:Nat) (x:AV):Option (Nat×(Nat->List AV)×Bool×List Prop×List Nat) :=
 match x with
 | .nil=>some (0,fun _=>[],true,[],[])
 | .sl n g=>match Nat.beq (g 0).length sz with
  | true=>some (n,g,true,[∀ i,i < n->AV.su (g i)=true],[])
  | false=>none
 | .os k off n=>match au σ k with
  | some o=>match Nat.beq o.sz sz with
   | true=>some (n,(fun i=>o.get (bB off i)),o.pr,[off+n<=o.len,∀ i,i < n->AV.su (o.get (bB off i))=true],[k])
   | false=>none
  | none=>none
 | _=>none
structure Src (P:Program) (w:World) (S:Nat->Prop) (μ:Mu) (sz:Nat) (v:Value) (n:Nat) (g:Nat->List AV) (pr:Bool) (news:List Value):Prop where
 len:∀ w':World,(Builtin.lenOf v).run P w'=.ok n w'
 cells:∀ w':World,w'.heap=w.heap->(Builtin.firstCells sz n v).run P w'=.ok news.toArray w'
 size:news.length=n * sz
 one:∀ u∈news,u.oneCell'=true
 zw:∀ i,i < n->(g i).length=sz
 rep:∀ i j x u,i < n->(g i)[j]?=some x->news[i * sz+j]?=some u->ak w S (if pr then kF else μ) u x
 ajz:∀ i,i < n->AV.su (g i)=true
theorem SA {n sz q:Nat} (h:q < n * sz):q / sz < n/\q % sz < sz/\q=q / sz * sz+q % sz:=by
 have h0:0 < sz:=by
  rcases Nat.eq_zero_or_pos sz with h1 | h1
  ·subst h1;simp at h
  ·exact h1
 simp_all [Nat.div_lt_of_lt_mul,py,Nat.mod_lt,Nat.div_add_mod]
theorem Src.mk' {sz n:Nat} {g:Nat->List AV} {pr:Bool} {b o len cap:Nat} (f:Nat->Nat->Value) (hl:n=len)
  (hc:∀ i j,i < n->j < sz->w.cell? ⟨b,o+i * sz+j,none⟩=some (f i j)) (h1:∀ i,i < n->AV.su (g i)=true) (ug:∀ i,i < n->(g i).length=sz)
  (hr:∀ i j x,i < n->(g i)[j]?=some x->ak w S (if pr then kF else μ) (f i j) x) :
  ∃ news,Src P w S μ sz (.slice (some ⟨b,o,none⟩) len cap) n g pr news:=by
 subst hl
 refine ⟨(List.range (n * sz)).map fun q=>f (q / sz) (q % sz),?_⟩
 have ui:∀ q u,((List.range (n * sz)).map fun q=>f (q / sz) (q % sz))[q]?=some u->q < n * sz/\u=f (q / sz) (q % sz):=by
  intro q u hq
  have iQ:q < n * sz:=by
   have:=(fe.1 hq).1
   simpa using this
  simp [List.getElem?_range iQ] at hq
  exact ⟨iQ,hq.symm⟩
 refine ⟨fun w'=>by simp [Builtin.lenOf],fun w' hw=>?_,by simp,?_,ug,?_,h1⟩
 ·have MM:∀ a,w'.cell? a=w.cell? a:=fun a=>by simp [World.cell?,hw]
  refine run_firstCells_some w' sz n ⟨b,o,none⟩ n cap _ (by simp) ?_
  intro q u hq
  obtain ⟨iQ,rfl⟩:=ui q u hq
  obtain ⟨h2,h3,h4⟩:=SA iQ
  rw [MM,Addr.add_mid]
  have:=hc _ _ h2 h3
  rw [Nat.add_assoc,<- h4] at this
  exact this
 ·intro u hu
  obtain ⟨q,hq⟩:=List.getElem?_of_mem hu
  obtain ⟨iQ,rfl⟩:=ui q u hq
  obtain ⟨h2,h3,h4⟩:=SA iQ
  have hx:(g (q / sz))[q % sz]?=some ((g (q / sz))[q % sz]'(by rw [ug _ h2];exact h3)):=ud _
  exact (hr _ _ _ h2 hx).TX (OH (h1 _ h2) hx)
 ·intro i j x u hi hx hu
  obtain ⟨iQ,rfl⟩:=ui _ u hu
  have hj:j < sz:=by
   have:=(fe.1 hx).1
   rwa [ug i hi] at this
  have e1:(i * sz+j) / sz=i:=by
   rw [py,Nat.mul_add_div (by omega),Nat.div_eq_of_lt hj];omega
  have e2:(i * sz+j) % sz=j:=by
   rw [py,Nat.mul_add_mod,Nat.mod_eq_of_lt hj]
  rw [e1,e2]
  exact hr i j x hi hx
theorem Src.empty {sz:Nat} {g:Nat->List AV} {pr:Bool} {a:Option Addr} {cap:Nat}:Src P w S μ sz (.slice a 0 cap) 0 g pr []:=by
 refine ⟨fun w'=>by simp [Builtin.lenOf],fun w' _=>?_,by simp,by simp,fun i h=>absurd h (by omega),fun i j x u h=>absurd h (by omega),fun i h=>absurd h (by omega)⟩
 cases a with
 | none=>simp [Builtin.firstCells]
 | some a=>simp [Builtin.firstCells,loadCells,loadCellsFrom]
theorem Es (g:Good E σ S μ w) {sz:Nat} {x:AV} {v:Value} (hx:ak w S μ v x) {n:Nat} {gt:Nat->List AV} {pr:Bool} {ps:List Prop} {rd:List Nat}
  (h:Bn σ sz x=some (n,gt,pr,ps,rd)) (hp:bm ps):∃ news,Src P w S μ sz v n gt pr news:=by
 unfold Bn at h
 split at h
 ·simp only [aL,aG] at h
  obtain ⟨rfl,rfl,rfl,rfl,rfl⟩:=h
  cases hx
  exact ⟨[],Src.empty⟩
 ·rename_i n' g'
  split at h
  ·rename_i hb
   have hb:=cw hb
   simp only [aL,aG] at h
   obtain ⟨rfl,rfl,rfl,rfl,rfl⟩:=h
   cases hx with
   | sl b off sz' f h1 h2 h3 h4 h5 =>
    rcases Nat.eq_zero_or_pos n' with h0 | h0
    ·subst h0;exact ⟨[],Src.empty⟩
    ·obtain ⟨ha,_⟩:=h1 h0
     subst ha
     have hs:sz'=sz:=by rw [<- h2 0 h0,hb]
     subst hs
     exact Src.mk' f rfl h3 hp.1 h2 (fun i j x hi hx=>h4 i j x hi hx)
  ·cases h
 ·rename_i k off n'
  split at h
  ·rename_i o ho
   split at h
   ·rename_i hb
    have hb:=cw hb
    simp only [aL,aG] at h
    obtain ⟨rfl,hg,rfl,rfl,rfl⟩:=h
    have hgt:gt=fun i=>o.get (off+i):=by
     rw [<- hg];funext i;rw [dc]
    subst hgt
    obtain ⟨hle,RY,_⟩:=hp
    simp only [dc] at RY
    obtain ⟨pl,c,T',hm,dS⟩:=g.rep.ob k o ho
    subst hb
    cases hx with
    | os mf jl h1 h2 h3 =>
     rename_i cap a
     rw [hm] at jl;cases jl
     rcases Nat.eq_zero_or_pos n' with h0 | h0
     ·subst h0;exact ⟨[],Src.empty⟩
     ·have ha:=h1 (by omega)
      subst ha
      refine Src.mk' (fun i j=>(c[(off+i) * o.sz+j]?).getD undef) rfl ?_ RY (fun i hi=>dS.zw _ (by omega)) ?_
      ·intro i j hi hj
       obtain ⟨v,q1,q2⟩:=dL dS (i:=off+i) (by omega) hj
       rw [q1,dS.sz,<- dn,q2];rfl
      ·intro i j x hi hx
       obtain ⟨v,q1,q2⟩:=dL dS (i:=off+i) (by omega) (by have:=(fe.1 hx).1;rwa [dS.zw _ (by omega)] at this)
       rw [q1]
       exact dS.rep _ j x v (by omega) hx q1
   ·cases h
  ·cases h
 ·cases h
def wi (P:Program) (nk:Nat) (σ:eE) (t:TypeId) (s x:AV):Option (List Prop×AV×List Nat×xD) :=
 match qg P t with
 | some e=>match zz P e,Cu P e,xC P e with
  | some sz,some b,some z=>match Nat.ble 1 sz && Nat.ble 1 b && Nat.beq z.cells.size sz,Bn σ sz x with
   | true,some (n,g,pr,ps,rd)=>match s with
    | .nil=>some ((n * b<=140737488355328) :: ps,.os nk 0 n,rd,[(nk,some ⟨false,sz,n,pr,g⟩)])
    | .os k 0 len=>match au σ k with
     | some o=>match Nat.beq o.sz sz && !o.var with
      | true=>some ((len=o.len) :: ((len+n) * b<=140737488355328) :: ps,.os nk 0 (len+n),k :: rd,
        [(k,none),(nk,some ⟨false,sz,len+n,o.pr && pr,fun m=>if m < len then o.get m else g (m - len)⟩)])
      | false=>none
     | none=>none
    | _=>none
   | _,_=>none
  | _,_,_=>none
 | none=>none
theorem MN {t ty e:TypeId} {i:TypeInfo} (ht:P.underlying t=some (.slice e)) (hi:P.info? e=some i) {sLen sCap n:Nat} {vx:Value} {news:List Value}
  (hl:∀ w':World,(Builtin.lenOf vx).run P w'=.ok n w') (hc:∀ w':World,w'.heap=w.heap->(Builtin.firstCells i.size n vx).run P w'=.ok news.toArray w') (hle:sLen+n<=sCap) :
  (Builtin.append_ #[t,t] ty #[.slice none sLen sCap,vx]).run P w=.ok (.slice none (sLen+n) sCap) w:=by
 simp [Builtin.append_,run_underlying ht,sizeOf,typeInfo,hi,hl,hle,hc w rfl]
theorem OK {t ty e:TypeId} {i:TypeInfo} (ht:P.underlying t=some (.slice e)) (hi:P.info? e=some i) {g sLen sCap n:Nat} {cur:Array Value} {T:TypeId} (hg:w.heap[g]?=some (.cells cur T (0,0))) {vx:Value} {news:List Value}
  (hl:∀ w':World,(Builtin.lenOf vx).run P w'=.ok n w') (hc:∀ w':World,w'.heap=w.heap->(Builtin.firstCells i.size n vx).run P w'=.ok news.toArray w') (h1:∀ u∈news,u.oneCell'=true)
  (hle:sLen+n<=sCap) (DY:sLen * i.size+news.length<=cur.size) :
  (Builtin.append_ #[t,t] ty #[.slice (some ⟨g,0,none⟩) sLen sCap,vx]).run P w =
   .ok (.slice (some ⟨g,0,none⟩) (sLen+n) sCap) (w.setRow g (cur.toList.take (sLen * i.size) ++ news ++ cur.toList.drop (sLen * i.size+news.length)).toArray):=by
 have Jm:=run_storeCells_at P g (sLen * i.size) T news 0 cur w hg (by simpa using DY) h1
 simp only [Nat.add_zero] at Jm
 simp [Builtin.append_,run_underlying ht,sizeOf,typeInfo,hi,hl,hle,hc w rfl,Addr.add_lit,Jm]
theorem YP {t ty e:TypeId} {i:TypeInfo} (ht:P.underlying t=some (.slice e)) (hi:P.info? e=some i) {g b sLen sCap n:Nat} {cur:Array Value} {T:TypeId} (hg:w.heap[g]?=some (.cells cur T (0,0))) {vx:Value} {news:List Value}
  (hl:∀ w':World,(Builtin.lenOf vx).run P w'=.ok n w') (hc:∀ w':World,w'.heap=w.heap->(Builtin.firstCells i.size n vx).run P w'=.ok news.toArray w') (h1:∀ u∈news,u.oneCell'=true)
  (hle:sLen+n<=sCap) (DY:b+sLen * i.size+news.length<=cur.size) :
  (Builtin.append_ #[t,t] ty #[.slice (some ⟨g,b,none⟩) sLen sCap,vx]).run P w =
   .ok (.slice (some ⟨g,b,none⟩) (sLen+n) sCap) (w.setRow g (cur.toList.take (b+sLen * i.size) ++ news ++ cur.toList.drop (b+sLen * i.size+news.length)).toArray):=by
 have Jm:=run_storeCells_at P g (b+sLen * i.size) T news 0 cur w hg (by simpa using DY) h1
 simp only [Nat.add_zero] at Jm
 simp [Builtin.append_,run_underlying ht,sizeOf,typeInfo,hi,hl,hle,hc w rfl,Addr.add_lit,Jm]
theorem CA {t ty e:TypeId} {i:TypeInfo} {z:Value} (ht:P.underlying t=some (.slice e)) (hi:P.info? e=some i) (hz:i.zero=some z) {base:Option Addr} {sLen sCap n:Nat} {vx:Value} {olds news:List Value}
  (ho:∀ w':World,w'.heap=w.heap->(Builtin.firstCells i.size sLen (.slice base sLen sCap)).run P w'=.ok olds.toArray w')
  (hl:∀ w':World,(Builtin.lenOf vx).run P w'=.ok n w') (hc:∀ w':World,w'.heap=w.heap->(Builtin.firstCells i.size n vx).run P w'=.ok news.toArray w')
  (hg:sCap < sLen+n) (hb:1<=i.bytes) (DY:(sLen+n) * i.bytes<=140737488355328) :
  (Builtin.append_ #[t,t] ty #[.slice base sLen sCap,vx]).run P w =
   .ok (.slice (some ⟨w.heap.size,0,none⟩) (sLen+n) (grownCap w (sLen+n) sCap e))
    (w.drew.alloc (.cells (olds.toArray ++ news.toArray ++ Builtin.zeroCells z.cells (grownCap w (sLen+n) sCap e - (sLen+n))) e)):=by
 have hn:¬ (sLen+n<=sCap):=by omega
 have KO:(sLen+n) * 1<=(sLen+n) * i.bytes:=Nat.mul_le_mul_left _ hb
 have aqR:¬ (9223372036854775807 < ((sLen:Int)+(n:Int))):=by omega
 have h48:=growslice_fits hg DY
 have aqS:¬ (281474976710656 < Builtin.nextslicecap (sLen+n) sCap * i.bytes):=by omega
 have e1:=hc w.drew rfl
 have e2:=ho w.drew rfl
 simp [Builtin.append_,run_underlying ht,sizeOf,typeInfo,zeroValue,hi,hz,hl,hn,aqR,aqS,Question.forced,e1,e2,newRow,grownCap]
 grind
theorem OL (w:World) (aoQ DW:Nat) (e:TypeId):aoQ<=grownCap w aoQ DW e:=by simp [grownCap,Question.cut]
theorem Good.grow (g:Good E σ S μ w) (hk:μ nk=none) (hm:E.m0<=nk) {sz n len cap:Nat} {e:TypeId} {olds news:List Value} {rest:Array Value} {pr:Bool} {get:Nat->List AV}
  (ho:olds.length=len * sz) (hn:news.length=n * sz) (hr:rest.size=(cap - (len+n)) * sz) (hle:len+n<=cap)
  (ug:∀ i,i < len+n->(get i).length=sz)
  (HN:∀ i j x u,i < len+n->(get i)[j]?=some x->(olds ++ news)[i * sz+j]?=some u->ak w S (if pr then kF else μ) u x) (KL:sz≠0)
  (hmx:MX E.fp E.w0.heap.size (w.drew.alloc (.cells (olds.toArray ++ news.toArray ++ rest) e)) S (cK μ nk ⟨w.heap.size,cap,sz⟩) (sset σ nk ⟨false,sz,len+n,pr,get⟩)) :
  Ext w S μ (w.drew.alloc (.cells (olds.toArray ++ news.toArray ++ rest) e)) S (cK μ nk ⟨w.heap.size,cap,sz⟩) /\
  Good E (sset σ nk ⟨false,sz,len+n,pr,get⟩) S (cK μ nk ⟨w.heap.size,cap,sz⟩) (w.drew.alloc (.cells (olds.toArray ++ news.toArray ++ rest) e)):=by
 have xB:(olds.toArray ++ news.toArray ++ rest).size=cap * sz:=by
  simp only [Array.size_append,List.size_toArray,ho,hn,hr]
  rw [<- dn,<- dn];congr 1;omega
 have ga:=g.drew.aet (nk:=nk) hk hm (olds.toArray ++ news.toArray ++ rest) e ⟨false,sz,len+n,pr,get⟩ cap (by rw [xB];exact aN _) hle ug ?_ KL hmx
 ·exact ⟨(Ext.drew w S μ).trans ga.1,ga.2⟩
 ·intro i j x v hi hx hv
  have hj:j < sz:=by
   have:=(fe.1 hx).1
   have e:(get i).length=sz:=ug i hi
   exact e ▸ this
  have iQ:i * sz+j < (olds ++ news).length:=by
   have h1:(i+1) * sz<=(len+n) * sz:=dN _ (show i+1<=len+n from hi)
   rw [dn,dn] at h1
   simp only [gI,ho,hn]
   omega
  have yB:(olds ++ news)[i * sz+j]?=some v:=by
   rw [show olds.toArray ++ news.toArray ++ rest=(olds ++ news).toArray ++ rest by simp] at hv
   rw [Array.getElem?_append_left (by simpa using iQ)] at hv
   simpa using hv
  have:=HN i j x v hi hx yB
  exact ak.mono (w:=w) (w':=w.drew) (S':=S) (fun _ h=>h) (fun _ _=>rfl) this (fun _ _ h=>h)
theorem Good.move (g:Good E σ S μ w) (hk:μ nk=none) (hm:E.m0<=nk) {k:Nat} {o:Ob} {pl:Place} (ho:au σ k=some o) (Ax:μ k=some pl) (o':Ob) {c:Array Value} {T:TypeId} (dS:jq w S μ o' pl c T)
  (Ct:∀ i x,rowOf o' i=some x->rowOf o i=some x) :
  Ext w S μ w S (cK μ nk pl)/\Good E (sset (Bm σ k) nk o') S (cK μ nk pl) w:=by
 have gd:=g.del k
 have hmu:∀ n mf,μ n=some mf->cK μ nk pl n=some mf:=fun n mf h=>by
  grind [cK]
 have ex:Ext w S μ w S (cK μ nk pl):=⟨aN _,fun _ h=>h,fun _ _=>rfl,hmu⟩
 refine ⟨ex,⟨g.fr,g.S0,g.S1,g.S2,⟨?_,?_⟩,?_,?_,?_⟩⟩
 rotate_right
 ·have hnk:k≠nk:=fun h=>by simp_all
  have key:∀ q i x v,kr w (cK μ nk pl) (sset (Bm σ k) nk o') q i x v->(q=nk/\kr w μ σ k i x v)\/(q≠nk/\q≠k/\kr w μ σ q i x v):=by
   rintro q i x v ⟨o2,xQ,h1,h2,h3,h4⟩
   rw [bj] at h1
   unfold cK at h3
   by_cases hq:nk=q
   ·rw [if_pos hq] at h1;cases h1
    rw [if_pos hq.symm] at h3;cases h3
    exact .inl ⟨hq.symm,o,pl,ho,Ct i x h2,Ax,h4⟩
   ·rw [if_neg hq] at h1
    rw [if_neg (fun h=>hq h.symm)] at h3
    rw [im] at h1
    split at h1
    ·cases h1
    ·rename_i hkq
     exact .inr ⟨fun h=>hq h.symm,fun h=>hkq h.symm,o2,xQ,h1,h2,h3,h4⟩
  refine g.mx.tr (fun q=>if q=nk then k else q) (fun q i x v h=>?_) (fun q i x v q' i' x' v' h h' e=>?_) (fun _ h=>h) (fun _ _=>rfl) (fun q i x v b _ h hb=>⟨rfl,(g.mx.dD h hb).2.1,fun h=>h⟩) (fun q o2 xQ h1 h2 h3=>?_)
  ·grind
  ·grind
  ·rw [bj] at h1
   unfold cK at h2
   by_cases hq:nk=q
   ·grind
   ·rw [if_neg hq,im] at h1
    grind
 ·intro q oq hq
  rw [bj] at hq
  by_cases hqn:nk=q
  ·rw [if_pos hqn] at hq;cases hq
   exact ⟨pl,c,T,by simp [cK,hqn],dS.ext ex (fun _=>rfl) dS.out⟩
  ·rw [if_neg hqn] at hq
   obtain ⟨xQ,c2,T2,OG,aeK⟩:=gd.rep.ob q oq hq
   exact ⟨xQ,c2,T2,hmu _ _ OG,aeK.ext ex (fun _=>rfl) aeK.out⟩
 ·intro q q' oq oq' Ji xQ gH hq hq' KH OM c1 c2
  rw [bj] at hq hq'
  simp only [cK] at KH OM
  by_cases e1:nk=q
  ·rw [if_pos e1.symm] at KH;cases KH
   have e2:¬ nk=q':=fun h=>gH (e1.symm.trans h)
   rw [if_neg e2] at hq';rw [if_neg (fun h=>e2 h.symm)] at OM
   rw [im] at hq'
   split at hq'
   ·cases hq'
   ·rename_i e3
    exact g.rep.ne k q' o oq' pl xQ e3 ho hq' Ax OM c1 c2
  ·rw [if_neg e1] at hq;rw [if_neg (fun h=>e1 h.symm)] at KH
   rw [im] at hq
   split at hq
   ·cases hq
   ·rename_i e3
    by_cases e2:nk=q'
    ·rw [if_pos e2.symm] at OM;cases OM
     exact g.rep.ne q k oq o Ji pl (fun h=>e3 h.symm) hq ho KH Ax c1 c2
    ·rw [if_neg e2] at hq';rw [if_neg (fun h=>e2 h.symm)] at OM
     rw [im] at hq'
     split at hq'
     ·cases hq'
     ·exact g.rep.ne q q' oq oq' Ji xQ gH hq hq' KH OM c1 c2
 ·intro q oq plq hq KH c1
  rw [bj] at hq
  simp only [cK] at KH
  by_cases e1:nk=q
  ·rw [if_pos e1.symm] at KH;cases KH;exact g.own k o _ ho Ax c1
  ·rw [if_neg e1] at hq;rw [if_neg (fun h=>e1 h.symm)] at KH
   exact gd.own q oq plq hq KH c1
 ·intro q hq;rw [qG _ (by omega)];exact g.Oc q hq
theorem Good.congr {gj:eE} (g:Good E σ S μ w) (h:∀ n,au gj n=au σ n):Good E gj S μ w :=
 ⟨g.fr,g.S0,g.S1,g.S2,⟨fun k o hk=>g.rep.ob k o (h k ▸ hk),fun k k' o o' pl mf gH hk tg=>g.rep.ne k k' o o' pl mf gH (h k ▸ hk) (h k' ▸ tg)⟩,
  fun k o pl hk=>g.own k o pl (h k ▸ hk),g.Oc,g.mx.tr id (fun k i x v ⟨o,pl,h1,h2⟩=>⟨o,pl,h k ▸ h1,h2⟩) (fun _ _ _ _ _ _ _ _ _ _ h=>h) (fun _ h=>h) (fun _ _=>rfl)
   (fun k i x v b _ h hb=>⟨rfl,(g.mx.dD h hb).2.1,fun h=>h⟩) (fun k o pl h1 h2 h3=>.inl ⟨k,o,pl,h k ▸ h1,h2,h3,rfl⟩)⟩
theorem SB (g:Good E σ S μ w) (hk:μ nk=none) (hm:E.m0<=nk) {t ty:TypeId} {s x:AV} {vs vx:Value} (hs:ak w S μ vs s) (hx:ak w S μ vx x) {ps:List Prop} {val:AV} {rd:List Nat} {pU:xD}
  (h:wi P nk σ t s x=some (ps,val,rd,pU)) (hp:bm ps):Step P E nk σ S μ w (Builtin.append_ #[t,t] ty #[vs,vx]) val pU:=by
 unfold wi at h
 split at h
 ·rename_i e he
  have he:=ni he
  split at h
  ·rename_i sz b z xB hb hz
   obtain ⟨ie,Of,rfl,rfl,hze⟩:=Cv xB hb hz
   split at h
   ·rename_i n gt pr ps' rd' KO Bo
    simp only [a7,Nat.ble_eq] at KO
    obtain ⟨⟨b1,b2⟩,b3⟩:=KO
    have b3:=cw b3
    split at h
    ·simp only [aL,aG] at h
     obtain ⟨rfl,rfl,rfl,rfl⟩:=h
     obtain ⟨p1,p2⟩:=hp
     obtain ⟨news,sr⟩:=Es (P:=P) g hx Bo p2
     cases hs
     rcases Nat.eq_zero_or_pos n with h0 | h0
     ·subst h0
      have oD:=MN (P:=P) (w:=w) (ty:=ty) (sLen:=0) (sCap:=0) he Of sr.len sr.cells (by omega)
      have ga:Good E (sset σ nk ⟨false,ie.size,0,pr,gt⟩) S (cK μ nk ⟨0,0,ie.size⟩) w:=by
       have hmu:∀ k pl,μ k=some pl->cK μ nk ⟨0,0,ie.size⟩ k=some pl:=fun k pl h=>by
        grind [cK]
       have ex:Ext w S μ w S (cK μ nk ⟨0,0,ie.size⟩):=⟨aN _,fun _ h=>h,fun _ _=>rfl,hmu⟩
       have hnr:∀ i,rowOf ⟨false,ie.size,0,pr,gt⟩ i=none:=uh fun i hi=>absurd hi (fj _)
       refine ⟨g.fr,g.S0,g.S1,g.S2,⟨?_,?_⟩,?_,?_,g.WB hk _ _ (fun h=>absurd h (by simp)) hnr (fun _ _=>rfl) (fun _ h=>h) (fun _ h=>.inl h)⟩
       ·intro k o ho
        rw [bj] at ho
        by_cases Dy:nk=k
        ·rw [if_pos Dy] at ho;cases ho
         exact ⟨⟨0,0,ie.size⟩,#[],0,by simp [cK,Dy],rfl,fun h=>absurd h (by simp),by simp,by simp,fun h=>absurd h (by simp),fun i h=>absurd h (by simp),fun i j x v h=>absurd h (by simp),fun h=>absurd (show ie.size=0 from h) (by omega)⟩
        ·rw [if_neg Dy] at ho
         obtain ⟨pl,c,T,jl,dS⟩:=g.rep.ob k o ho
         exact ⟨pl,c,T,hmu _ _ jl,dS.ext ex (fun _=>rfl) dS.out⟩
       ·intro k k' o o' pl mf gH ho Cq KH OM c1 c2
        rw [bj] at ho Cq
        simp only [cK] at KH OM
        by_cases h1:nk=k
        ·grind
        ·by_cases h2:nk=k'
         ·grind
         ·rw [if_neg h1] at ho;rw [if_neg h2] at Cq
          rw [if_neg (fun h=>h1 h.symm)] at KH;rw [if_neg (fun h=>h2 h.symm)] at OM
          exact g.rep.ne k k' o o' pl mf gH ho Cq KH OM c1 c2
       ·intro k o pl ho KH c1
        rw [bj] at ho
        simp only [cK] at KH
        by_cases h1:nk=k
        ·grind
        ·rw [if_neg h1] at ho;rw [if_neg (fun h=>h1 h.symm)] at KH
         exact g.own k o pl ho KH c1
       ·intro k tg
        rw [qG _ (by omega)];exact g.Oc k tg
      refine ⟨_,w,S,_,oD,⟨aN _,fun _ h=>h,fun _ _=>rfl,?_⟩,ga,fun k tg hn=>by grind [qG],?_⟩
      ·grind [cK]
      simp_all [ak.os,cK,absurd]
     ·have oD:=CA (P:=P) (w:=w) (ty:=ty) (base:=none) (sLen:=0) (sCap:=0) (olds:=[]) he Of hze (fun w' _=>by simp [Builtin.firstCells]) sr.len sr.cells (by omega) b2 (by simpa using p1)
      simp only [Nat.zero_add] at oD
      have DX:=OL w n 0 e
      have gg:=g.grow (e:=e) hk hm (sz:=ie.size) (n:=n) (len:=0) (cap:=grownCap w n 0 e) (olds:=[]) (news:=news) (rest:=Builtin.zeroCells z.cells (grownCap w n 0 e - n)) (pr:=pr) (get:=gt)
       (by simp) sr.size (by rw [size_zeroCells,b3,Nat.zero_add]) (by omega) (fun i hi=>sr.zw i (by omega)) (fun i j x u hi hx hu=>sr.rep i j x u (by omega) hx (by simpa using hu)) (by omega)
       (g.WB hk _ _ (fun _=>aN _) (uh fun i hi=>sr.ajz i (by simp_all)) (fun b h=>gJ (w:=w.drew) h) (fun _ h=>h) (fun _ h=>.inl h))
      simp only [Nat.zero_add] at gg
      refine ⟨_,_,S,_,oD,gg.1,gg.2,fun k tg hn=>by grind [qG],?_⟩
      simp_all [ak.os,grownCap,cK]
    ·rename_i k len
     split at h
     ·rename_i o ho
      split at h
      ·rename_i Wu
       simp only [a7,Bool.not_eq_true'] at Wu
       obtain ⟨Wu,Jr⟩:=Wu
       have Wu:=cw Wu
       simp only [aL,aG] at h
       obtain ⟨rfl,rfl,rfl,rfl⟩:=h
       obtain ⟨p0,p1,p2⟩:=hp
       subst p0
       obtain ⟨news,sr⟩:=Es (P:=P) g hx Bo p2
       obtain ⟨pl,c,T',Ax,dS⟩:=g.rep.ob k o ho
       have Dy:k≠nk:=fun h=>by simp_all
       show Step P E nk σ S μ w _ _ [(k,none),(nk,some ⟨false,ie.size,o.len+n,o.pr && pr,fun m=>if m < o.len then o.get m else gt (m - o.len)⟩)]
       have ug:∀ i,i < o.len+n->((fun m=>if m < o.len then o.get m else gt (m - o.len)) i).length=ie.size:=by
        intro i hi
        show (if i < o.len then o.get i else gt (i - o.len)).length=_
        split
        ·rw [dS.zw i (by assumption),Wu]
        ·exact sr.zw _ (by omega)
       have prw:∀ {u:Value} {x:AV},ak w S (if o.pr then kF else μ) u x->pr=true\/pr=false->ak w S (if (o.pr && pr)=true then kF else μ) u x:=by
        intro u x hh hp
        rcases hp with hp | hp
        ·simp_all
        ·rw [hp,Bool.and_false];exact j6 hh
       have ajA:∀ {u:Value} {x:AV},ak w S (if pr then kF else μ) u x->ak w S (if (o.pr && pr)=true then kF else μ) u x:=by
        intro u x hh
        cases hp:o.pr
        ·rw [Bool.false_and];exact j6 hh
        ·rw [Bool.true_and];exact hh
       have prb:pr=true\/pr=false:=by cases pr<;>simp
       have Ct:∀ i x,rowOf ⟨false,ie.size,o.len+n,o.pr && pr,fun m=>if m < o.len then o.get m else gt (m - o.len)⟩ i=some x->rowOf o i=some x:=by
        intro i x hx
        obtain ⟨_,q2,q3⟩:=dW hx
        have q2:i < o.len+n:=q2
        have q3:(if i < o.len then o.get i else gt (i - o.len))=[.mr x.1 x.2.1 x.2.2]:=q3
        split at q3
        ·rename_i h1;exact nh Jr h1 q3
        ·have:=sr.ajz (i - o.len) (by omega)
         rw [q3] at this;cases this
       cases hs with
       | os mf jl h1 h2 h3 =>
        rename_i cap a
        rw [Ax] at jl;cases jl
        by_cases WM:o.len+n<=cap
        ·rcases Nat.eq_zero_or_pos cap with Et | Et
         ·have hn0:n=0:=by omega
          have WH:o.len=0:=by omega
          subst hn0
          have alf:news=[]:=List.length_eq_zero_iff.1 (by rw [sr.size];simp)
          have oD:(Builtin.append_ #[t,t] ty #[.slice a o.len cap,vx]).run P w=.ok (.slice a (o.len+0) cap) w:=by
           subst Et
           cases a with
           | none=>exact MN (P:=P) (w:=w) (ty:=ty) he Of sr.len sr.cells (by omega)
           | some a =>
            have e1:=sr.cells w rfl
            rw [alf] at e1
            simp [Builtin.append_,run_underlying he,sizeOf,typeInfo,Of,sr.len,WH,e1,storeCells]
          have gm:=g.move hk hm ho Ax ⟨false,ie.size,o.len+0,o.pr && pr,fun m=>if m < o.len then o.get m else gt (m - o.len)⟩ (c:=c) (T:=T')
           ⟨dS.sz.trans Wu,Wu ▸ dS.dD,Wu ▸ dS.cap,dS.len,dS.out,ug,fun i j x v hi=>absurd hi (by show ¬ i < o.len+0;omega),fun h=>absurd (show ie.size=0 from h) (by omega)⟩ Ct
          exact ⟨_,w,S,cK μ nk pl,oD,gm.1,gm.2,fun k tg hn=>by rw [qG _ tg];exact hn,ak.os pl (by simp [cK]) h1 (by omega) h3⟩
         ·have ha:=h1 Et
          simp only [Nat.zero_mul] at ha
          subst ha
          have Au:0 < pl.cap:=by omega
          have DY:o.len * ie.size+news.length<=c.size:=by
           have e1:(o.len+n) * ie.size<=pl.cap * ie.size:=dN _ (by omega)
           have e2:=dS.cap
           rw [Wu] at e2
           rw [sr.size,<- dn];omega
          have oD:=OK (P:=P) (w:=w) (ty:=ty) he Of ((dS.dD Au).trans (by rw [gY (by omega)])) sr.len sr.cells sr.one WM DY
          generalize sS:(c.toList.take (o.len * ie.size) ++ news ++ c.toList.drop (o.len * ie.size+news.length)).toArray=c' at oD
          have Ep:(c.toList.take (o.len * ie.size)).length=o.len * ie.size:=by simp;omega
          have T4:c'.size=c.size:=by
           rw [<- sS]
           simp;omega
          have ui:∀ m,m < o.len * ie.size+news.length->c'[m]?=if m < o.len * ie.size then c[m]? else news[m - o.len * ie.size]?:=by
           intro m hm
           rw [<- sS]
           simp only [List.getElem?_toArray]
           rw [jj (by simp;omega)]
           by_cases h1:m < o.len * ie.size
           ·rw [jj (by omega),sR,if_pos h1,if_pos h1]
            simp
           ·rw [kU (by omega),Ep,if_neg h1]
          have gw:=g.write ho Ax Au dS (by omega) ⟨false,ie.size,o.len+n,o.pr && pr,fun m=>if m < o.len then o.get m else gt (m - o.len)⟩ c' Wu.symm T4 (by show o.len+n<=_;omega) ug (by
           intro i j x v hi hx hv
           have hi:i < o.len+n:=hi
           have hx:(if i < o.len then o.get i else gt (i - o.len))[j]?=some x:=hx
           have hj:j < ie.size:=by
            have e1:=(fe.1 hx).1
            have e2:(if i < o.len then o.get i else gt (i - o.len)).length=ie.size:=ug i hi
            omega
           have hv:c'[i * ie.size+j]?=some v:=hv
           have wV:(i+1) * ie.size<=(o.len+n) * ie.size:=dN _ hi
           rw [dn,dn] at wV
           rw [ui _ (by rw [sr.size];omega)] at hv
           by_cases RM:i < o.len
           ·have ss:(i+1) * ie.size<=o.len * ie.size:=dN _ RM
            rw [dn] at ss
            rw [if_pos (by omega)] at hv
            rw [if_pos RM] at hx
            exact prw (dS.rep i j x v RM hx (by rw [Wu];exact hv)) prb
           ·have ss:o.len * ie.size<=i * ie.size:=dN _ (by omega)
            rw [if_neg (by omega)] at hv
            rw [if_neg RM] at hx
            refine ajA (sr.rep (i - o.len) j x v (by omega) hx ?_)
            rw [<- hv,Nat.sub_mul];congr 1;omega) (fun i x hx=>⟨Ct i x hx,by
           obtain ⟨_,q2,_⟩:=dW (Ct i x hx)
           have ss:(i+1) * ie.size<=o.len * ie.size:=dN _ q2
           rw [dn] at ss
           rw [Wu,ui _ (by omega),if_pos (by omega)]⟩)
          obtain ⟨gw1,gw2⟩:=gw
          have hsk:au (sset σ k ⟨false,ie.size,o.len+n,o.pr && pr,fun m=>if m < o.len then o.get m else gt (m - o.len)⟩) k=some ⟨false,ie.size,o.len+n,o.pr && pr,fun m=>if m < o.len then o.get m else gt (m - o.len)⟩:=by
           rw [bj,if_pos rfl]
          obtain ⟨pl3,c3,T3,hm3,aqV⟩:=gw2.rep.ob k _ hsk
          rw [Ax] at hm3;cases hm3
          have gm:=gw2.move hk hm hsk Ax _ aqV (fun _ _ h=>h)
          refine ⟨_,_,S,cK μ nk pl,oD,gw1.trans gm.1,gm.2.congr ?_,fun k tg hn=>by rw [qG _ tg];exact hn,ak.os pl (by simp [cK]) (by simp) WM h3⟩
          intro n
          show au (sset (Bm σ k) nk _) n=_
          rw [bj,bj,im,im,bj]
          split
          ·rfl
          ·split
           ·rfl
           ·rfl
        ·have hg:cap < o.len+n:=by omega
         have holds:∃ olds:List Value,olds.length=o.len * ie.size/\(∀ w':World,w'.heap=w.heap->(Builtin.firstCells ie.size o.len (.slice a o.len cap)).run P w'=.ok olds.toArray w') /\
           (∀ (q:Nat) (u:Value),olds[q]?=some u->c[q]?=some u):=by
          rcases Nat.eq_zero_or_pos o.len with WH | WH
          ·refine ⟨[],by simp [WH],fun w' _=>?_,by simp⟩
           rw [WH]
           cases a with
           | none=>simp [Builtin.firstCells]
           | some a=>simp [Builtin.firstCells,loadCells,loadCellsFrom]
          ·have Au:0 < pl.cap:=by have:=dS.len;omega
           have ha:=h1 (by omega)
           simp only [Nat.zero_mul] at ha
           subst ha
           have hle:o.len * ie.size<=c.size:=by
            have e1:o.len * ie.size<=pl.cap * ie.size:=dN _ dS.len
            have e2:=dS.cap
            rw [Wu] at e2;omega
           refine ⟨c.toList.take (o.len * ie.size),by simp;omega,fun w' hw'=>?_,?_⟩
           ·refine run_firstCells_some w' ie.size o.len _ o.len cap _ (by simp;omega) ?_
            intro q u hq
            rw [Addr.add_lit,Nat.zero_add,cell_of_row w' _ _ _ _ _ (by rw [hw'];exact (dS.dD Au).trans (by rw [gY (by omega)]))]
            rw [sR] at hq
            split at hq
            ·simpa using hq
            ·cases hq
           ·intro q u hq
            rw [sR] at hq
            split at hq
            ·simpa using hq
            ·cases hq
         obtain ⟨olds,hol,hoc,hoo⟩:=holds
         have oD:=CA (P:=P) (w:=w) (ty:=ty) he Of hze hoc sr.len sr.cells hg b2 p1
         have DX:=OL w (o.len+n) cap e
         have gd:=g.del k
         have gg:=gd.grow (e:=e) hk hm (sz:=ie.size) (n:=n) (len:=o.len) (cap:=grownCap w (o.len+n) cap e) (olds:=olds) (news:=news)
          (rest:=Builtin.zeroCells z.cells (grownCap w (o.len+n) cap e - (o.len+n))) (pr:=o.pr && pr) (get:=fun m=>if m < o.len then o.get m else gt (m - o.len))
          hol sr.size (by rw [size_zeroCells,b3]) DX ug (by
           intro i j x u hi hx hu
           have hx:(if i < o.len then o.get i else gt (i - o.len))[j]?=some x:=hx
           have hj:j < ie.size:=by
            have e1:=(fe.1 hx).1
            have e2:(if i < o.len then o.get i else gt (i - o.len)).length=ie.size:=ug i hi
            omega
           by_cases RM:i < o.len
           ·have ss:(i+1) * ie.size<=o.len * ie.size:=dN _ RM
            rw [dn] at ss
            rw [if_pos RM] at hx
            rw [jj (by omega)] at hu
            exact prw (dS.rep i j x u RM hx (by rw [Wu];exact hoo _ _ hu)) prb
           ·have ss:o.len * ie.size<=i * ie.size:=dN _ (by omega)
            rw [if_neg RM] at hx
            rw [kU (by omega),hol] at hu
            refine ajA (sr.rep (i - o.len) j x u (by omega) hx ?_)
            rw [<- hu,Nat.sub_mul];congr 1;omega) (by omega) (by
          have aeM:∀ b,b < w.heap.size->(w.drew.alloc (.cells (olds.toArray ++ news.toArray ++ Builtin.zeroCells z.cells (grownCap w (o.len+n) cap e - (o.len+n))) e)).heap[b]?=w.heap[b]?:=fun b h=>gJ (w:=w.drew) h
          have m5:∀ {q:Nat} {o2:Ob} {xQ:Place},au σ q=some o2->μ q=some xQ->0 < xQ.cap->xQ.dD < w.heap.size:=fun {q o2 xQ} h1 h2 h3=>by
           obtain ⟨pl3,c3,T3,hm3,YB⟩:=g.rep.ob q o2 h1
           rw [h2] at hm3;cases hm3
           exact iV (YB.dD h3)
          refine g.mx.tr (fun q=>if q=nk then k else q) (fun q i x v h=>?_) (fun q i x v q' i' x' v' h h' he=>?_) (fun _ h=>h) (fun b hb=>aeM b (g.S1 b hb)) (fun q i x v b _ h hb=>?_) (fun q o2 xQ h1 h2 h3=>?_)
          ·obtain ⟨o2,xQ,h1,h2,h3,h4⟩:=h
           rw [bj] at h1
           unfold cK at h3
           by_cases hq:nk=q
           ·rw [if_pos hq] at h1;cases h1
            rw [if_pos hq.symm] at h3;cases h3
            show kr w μ σ (if q=nk then k else q) i x v
            rw [if_pos hq.symm]
            have hr:=Ct i x h2
            obtain ⟨_,q2,_⟩:=dW hr
            refine ⟨o,pl,ho,hr,Ax,?_⟩
            have Au:0 < pl.cap:=by have:=dS.len;omega
            have ss:(i+1) * ie.size<=o.len * ie.size:=dN _ q2
            rw [dn] at ss
            have h4:(w.drew.alloc (.cells (olds.toArray ++ news.toArray ++ Builtin.zeroCells z.cells (grownCap w (o.len+n) cap e - (o.len+n))) e)).cell? ⟨w.drew.heap.size,i * ie.size,none⟩=some v:=h4
            rw [cell_of_row _ _ _ _ _ _ (heap_alloc_new w.drew _)] at h4
            rw [Array.getElem?_append_left (by simp;omega),Array.getElem?_append_left (by simp;omega)] at h4
            rw [cell_of_row w _ _ _ _ _ ((dS.dD Au).trans (by rw [gY (by omega)])),dS.sz,Wu]
            exact hoo _ _ (by simpa using h4)
           ·rw [if_neg hq,im] at h1
            rw [if_neg (fun h=>hq h.symm)] at h3
            split at h1
            ·cases h1
            ·show kr w μ σ (if q=nk then k else q) i x v
             rw [if_neg (fun h=>hq h.symm)]
             refine ⟨o2,xQ,h1,h2,h3,?_⟩
             obtain ⟨pl3,c3,T3,hm3,YB⟩:=g.rep.ob q o2 h1
             rw [h3] at hm3;cases hm3
             rw [<- h4]
             exact (wg (aeM _ (iV (YB.dD (by have:=(dW h2).2.1;have:=YB.len;omega)))) _).symm
          ·have he:(if q=nk then k else q)=(if q'=nk then k else q'):=he
           have Ei:∀ {q i x v},kr (w.drew.alloc (.cells (olds.toArray ++ news.toArray ++ Builtin.zeroCells z.cells (grownCap w (o.len+n) cap e - (o.len+n))) e)) (cK μ nk ⟨w.heap.size,grownCap w (o.len+n) cap e,ie.size⟩) (sset (Bm σ k) nk ⟨false,ie.size,o.len+n,o.pr && pr,fun m=>if m < o.len then o.get m else gt (m - o.len)⟩) q i x v->q≠nk->q≠k:=by
            rintro q i x v ⟨o2,_,h1,_⟩ hq rfl
            rw [bj,if_neg (fun h=>hq h.symm),im,if_pos rfl] at h1
            cases h1
           by_cases h1:q=nk<;>by_cases h3:q'=nk
           ·exact h1.trans h3.symm
           ·rw [if_pos h1,if_neg h3] at he;exact absurd he.symm (Ei h' h3)
           ·rw [if_neg h1,if_pos h3] at he;exact absurd he (Ei h h1)
           ·rw [if_neg h1,if_neg h3] at he;exact he
          ·obtain ⟨q1,q2,q3,_⟩:=g.mx.dD h hb
           exact ⟨aeM b q1,q2,fun h=>h⟩
          ·rw [bj] at h1
           unfold cK at h2
           by_cases hq:nk=q
           ·rw [if_pos hq.symm] at h2;cases h2
            exact .inr (aN _)
           ·rw [if_neg hq,im] at h1
            rw [if_neg (fun h=>hq h.symm)] at h2
            split at h1
            ·cases h1
            ·exact .inl ⟨q,o2,xQ,h1,h2,h3,rfl⟩)
         refine ⟨_,_,S,_,oD,gg.1,gg.2,fun k tg hn=>by rw [qG _ tg];exact hn,?_⟩
         exact ak.os ⟨w.heap.size,grownCap w (o.len+n) cap e,ie.size⟩ (by simp [cK]) (by simp) DX (by simp)
      ·cases h
     ·cases h
    ·cases h
   ·cases h
  ·cases h
 ·cases h
end
end Go.Ab
