/- Abstract values over the heap of the machine, and functions read off its code (part 1). No conditions. -/
import Derived.Orders
import Derived.Laws.Cells
import Derived.Laws.World
import Derived.Laws.Rows
import Derived.Laws.Sem
import Derived.KernelRfl
import Derived.Laws.CopyRow
import Derived.Laws.AppendOwn
import Derived.Laws.MakeOwn
import Derived.Laws.StructEq
import Derived.Great.BuildSlice
import Derived.Deep.MidRow
set_option linter.unusedVariables false
set_option linter.unusedSimpArgs false
namespace Go
abbrev aL:=@Option.map_eq_some_iff
abbrev aD:=@Option.some.injEq
abbrev bp:=@Nat.eq_of_beq_eq_true
abbrev aA:=@Prod.mk.injEq
abbrev a9:=@Bool.and_eq_true
abbrev dd:=@List.getElem?_eq_some_iff
abbrev eh:=@List.getD_eq_getElem?_getD
abbrev bV:=@Option.bind_some
abbrev dn:=@List.length_replicate
abbrev fj:=@Array.getD_eq_getD_getElem?
abbrev dM:=@Array.getElem?_eq_getElem
abbrev eH:=@List.getElem?_append_left
abbrev gF:=@List.getElem?_append_right
abbrev dB:=@Nat.mul_le_mul_right
abbrev j9:=@Int.mul_le_mul_of_nonneg_right
abbrev bJ:=@Sem.run_bind
abbrev iY:=@List.take_of_length_le
abbrev kb:=@List.getElem?_eq_getElem
abbrev cO:=@Result.andThen_ok
abbrev aR:=@Nat.le_refl
abbrev lU:=@Bool.and_eq_true_iff
abbrev oI:=@List.getElem?_eq_none
abbrev dN:=@Nat.not_lt_zero
abbrev mJ:=@Classical.byContradiction
abbrev oJ:=@of_decide_eq_true
abbrev lz:=@of_decide_eq_false
abbrev lV:=@Nat.lt_of_lt_of_le
abbrev dj:=@Nat.le_trans
abbrev mK:=@List.length_append
abbrev qI:=@List.length_cons
abbrev Bd:=@List.getElem?_cons_succ
abbrev y7:=@List.append_assoc
abbrev sG:=@Int.mul_le_mul_of_nonneg_left
abbrev sH:=@Nat.lt_irrefl
abbrev oK:=@List.length_take
abbrev kc:=@List.getElem?_drop
abbrev ke:=@List.getElem?_take
abbrev nI:=@List.mem_range
abbrev jq:=@List.mem_cons
abbrev cb:=@Nat.add_mul
abbrev oL:=@Nat.mul_comm
abbrev gX:=@Int.mul_add
abbrev eI:=@Int.add_mul
abbrev gp:=@Int.mul_comm
abbrev kF:=@Int.mul_assoc
end Go
namespace Go.Ab
inductive AV where
 | atom (v:Value)
 | agg (cs:List AV)
 | tup (cs:List AV)
 | sl (len:Nat) (get:Nat→List AV)
 | rp (cs:List AV) (off:Nat)
 | op (k i j:Nat)
 | os (k off len:Nat)
 | fn (f:Fn) (first cap:List AV)
 | when (b:Bool) (v:AV)
 | mp (k:Nat)
 | bn (n:Nat)
 | pt (b:Bool) (cs:List AV)
 | ov (k i j m n:Nat)
 | Cd (k off len:Nat)
 | nq (st:Option Bool) (x:AV)
 | nil
 | mU
 | mr (sz len:Nat) (get:Nat→List AV)
 deriving Inhabited
structure Place where
 b7:Nat
 cap:Nat
 sz:Nat
abbrev Mu:=Nat→Option Place
def fZ:Mu:=fun _=>none
def Qj:Value→Bool
 | .slice none _ _=>true
 | _=>false
inductive ar (w:World) (S:Nat→Prop):Mu→Value→AV→Prop where
 | atom {μ:Mu} (v:Value):ar w S μ v (.atom v)
 | agg {μ:Mu} {vs:Array Value} {cs:List AV}:vs.size=cs.length →
   (∀ (j:Nat) (c:AV) (v:Value),cs[j]?=some c→vs[j]?=some v→ar w S μ v c)→ar w S μ (.agg vs) (.agg cs)
 | tup {μ:Mu} {vs:Array Value} {cs:List AV}:vs.size=cs.length →
   (∀ (j:Nat) (c:AV) (v:Value),cs[j]?=some c→vs[j]?=some v→ar w S μ v c)→ar w S μ (.tuple vs) (.tup cs)
 | sl {μ:Mu} {a:Option Addr} {len cap:Nat} {get:Nat→List AV} (b off sz:Nat) (f:Nat→Nat→Value) :
   (0 < len→a=some ⟨b,off,none⟩∧S b)→(∀ i,i < len→(get i).length=sz) →
   (∀ i j,i < len→j < sz→w.cell? ⟨b,off+i * sz+j,none⟩=some (f i j)) →
   (∀ i j c,i < len→(get i)[j]?=some c→ar w S fZ (f i j) c)→len≤cap→ar w S μ (.slice a len cap) (.sl len get)
 | rp {μ:Mu} {cs:List AV} {off:Nat} (b o:Nat) (f:Nat→Value):S b →
   (∀ j,j < cs.length→w.cell? ⟨b,o+j,none⟩=some (f j)) →
   (∀ j c,cs[j]?=some c→ar w S fZ (f j) c)→ar w S μ (.pointer (some ⟨b,o+off,none⟩)) (.rp cs off)
 | op {μ:Mu} {k i j:Nat} (pl:Place):μ k=some pl→ar w S μ (.pointer (some ⟨pl.b7,i * pl.sz+j,none⟩)) (.op k i j)
 | os {μ:Mu} {k off len cap:Nat} {a:Option Addr} (pl:Place):μ k=some pl →
   (0 < cap→a=some ⟨pl.b7,off * pl.sz,none⟩)→len≤cap→off+cap=pl.cap→ar w S μ (.slice a len cap) (.os k off len)
 | fn {μ:Mu} {f:Fn} {vs ws:Array Value} {first cap:List AV}:vs.size=first.length→ws.size=cap.length →
   (∀ (j:Nat) (c:AV) (v:Value),first[j]?=some c→vs[j]?=some v→ar w S μ v c) →
   (∀ (j:Nat) (c:AV) (v:Value),cap[j]?=some c→ws[j]?=some v→ar w S μ v c)→ar w S μ (.func f vs ws) (.fn f first cap)
 | when {μ:Mu} {b:Bool} {v:Value} {x:AV}:(b=true→ar w S μ v x)→(b=false→v=undef)→ar w S μ v (.when b x)
 | mp {μ:Mu} {k:Nat} (pl:Place):μ k=some pl→ar w S μ (.map (some pl.b7)) (.mp k)
 | bn {μ:Mu} {n:Nat} (b:Bool):(b=true→n=0)→ar w S μ (.bool b) (.bn n)
 | pt {μ:Mu} {b:Bool} {cs:List AV} {v:Value}:(b=true→ar w S μ v (.rp cs 0))→(b=false→v=.pointer none)→ar w S μ v (.pt b cs)
 | ov {μ:Mu} {k i j m n:Nat} (pl:Place):μ k=some pl→n < m→ar w S μ (.pointer (some ⟨pl.b7,i * pl.sz+(j+n),none⟩)) (.ov k i j m n)
 | Cd {μ:Mu} {k off len:Nat} {a:Option Addr} (pl:Place):μ k=some pl→(0 < len→a=some ⟨pl.b7,off * pl.sz,none⟩)→off+len=pl.cap→ar w S μ (.slice a len len) (.Cd k off len)
 | nq {μ:Mu} {st:Option Bool} {v:Value} {x:AV}:ar w S μ v x→(st=some true→v=.slice none 0 0)→(st=some false→Qj v=false)→ar w S μ v (.nq st x)
 | nil {μ:Mu}:ar w S μ (.slice none 0 0) .nil
 | mU {μ:Mu} {v:Value}:ar w S μ v .mU
 | mr {μ:Mu} {v:Value} {sz len:Nat} {get:Nat→List AV}:ar w S μ v (.mr sz len get)
structure Ext (w:World) (S:Nat→Prop) (μ:Mu) (w':World) (S':Nat→Prop) (cC:Mu):Prop where
 size:w.heap.size≤w'.heap.size
 EV:∀ b,S b→S' b
 b7:∀ b,S b→w'.heap[b]?=w.heap[b]?
 mu:∀ k pl,μ k=some pl→cC k=some pl
theorem Ext.refl (w:World) (S:Nat→Prop) (μ:Mu):Ext w S μ w S μ:=⟨aR _,fun _ h=>h,fun _ _=>rfl,fun _ _ h=>h⟩
theorem Ext.trans {w w' Nt:World} {S S' A7:Nat→Prop} {μ cC EW:Mu} (h:Ext w S μ w' S' cC) (k:Ext w' S' cC Nt A7 EW):Ext w S μ Nt A7 EW :=
 ⟨dj h.size k.size,fun b hb=>k.EV b (h.EV b hb),fun b hb=>(k.b7 b (h.EV b hb)).trans (h.b7 b hb),fun i pl hi=>k.mu i pl (h.mu i pl hi)⟩
theorem qS {w w':World} {b:Nat} (h:w'.heap[b]?=w.heap[b]?) (o:Nat):w'.cell? ⟨b,o,none⟩=w.cell? ⟨b,o,none⟩:=by
 simp [World.cell?,h]
theorem ar.mono {w w':World} {S S':Nat→Prop} (hS:∀ b,S b→S' b) (hb:∀ b,S b→w'.heap[b]?=w.heap[b]?) {μ:Mu} {v:Value} {x:AV} (h:ar w S μ v x) :
  ∀ {cC:Mu},(∀ k pl,μ k=some pl→cC k=some pl)→ar w' S' cC v x:=by
 induction h with
 | atom v=>exact fun _=>.atom v
 | agg h1 _ ih=>exact fun hm=>.agg h1 fun j c v hc hv=>ih j c v hc hv hm
 | tup h1 _ ih=>exact fun hm=>.tup h1 fun j c v hc hv=>ih j c v hc hv hm
 | @sl μ a len cap get b off sz f h1 h2 h3 _ h5 ih =>
  intro cC _
  refine .sl b off sz f (fun hl=>⟨(h1 hl).1,hS _ (h1 hl).2⟩) h2 ?_ (fun i j c hi hc=>ih i j c hi hc fun _ _ h=>h) h5
  intro i j hi hj
  rw [qS (hb b (h1 (by omega)).2)]
  exact h3 i j hi hj
 | @rp μ cs off b o f h1 h2 _ ih =>
  intro cC _
  refine .rp b o f (hS _ h1) ?_ (fun j c hc=>ih j c hc fun _ _ h=>h)
  intro j hj
  rw [qS (hb b h1)]
  exact h2 j hj
 | op pl h=>exact fun hm=>.op pl (hm _ _ h)
 | os pl h h1 h2 h3=>exact fun hm=>.os pl (hm _ _ h) h1 h2 h3
 | fn h1 h2 _ _ JZ J0=>exact fun hm=>.fn h1 h2 (fun j c v hc hv=>JZ j c v hc hv hm) (fun j c v hc hv=>J0 j c v hc hv hm)
 | when _ hu ih=>exact fun hm=>.when (fun hb=>ih hb hm) hu
 | mp pl h=>exact fun hm=>.mp pl (hm _ _ h)
 | bn b h=>exact fun _=>.bn b h
 | pt _ h2 ih=>exact fun hm=>.pt (fun hb=>ih hb hm) h2
 | ov pl h h1=>exact fun hm=>.ov pl (hm _ _ h) h1
 | Cd pl h h1 h2=>exact fun hm=>.Cd pl (hm _ _ h) h1 h2
 | nq _ h1 h2 ih=>exact fun hm=>.nq (ih hm) h1 h2
 | nil=>exact fun _=>.nil
 | mU=>exact fun _=>.mU
 | mr=>exact fun _=>.mr
theorem ar.ext {w w':World} {S S':Nat→Prop} {μ cC:Mu} {v:Value} {x:AV} (h:ar w S μ v x) (e:Ext w S μ w' S' cC):ar w' S' cC v x :=
 h.mono e.EV e.b7 e.mu
mutual
def AV.pure:AV→Bool
 | .atom _ | .sl _ _ | .rp _ _ | .bn _ | .pt _ _ | .nil | .mU=>true
 | .agg cs | .tup cs=>AV.lD cs
 | .fn _ a b=>AV.lD a && AV.lD b
 | .when _ v=>v.pure
 | .nq _ v=>v.pure
 | .op _ _ _ | .os _ _ _ | .mp _ | .ov _ _ _ _ _ | .Cd _ _ _ | .mr _ _ _=>false
def AV.lD:List AV→Bool
 | []=>true
 | c :: cs=>c.pure && AV.lD cs
end
mutual
def AV.flat:AV→Bool
 | .atom _ | .bn _ | .nil=>true
 | .agg cs | .tup cs=>AV.xQ cs
 | .fn _ a b=>AV.xQ a && AV.xQ b
 | _=>false
def AV.xQ:List AV→Bool
 | []=>true
 | c :: cs=>c.flat && AV.xQ cs
end
theorem po {cs:List AV} (h:AV.lD cs=true) {j:Nat} {c:AV} (hc:cs[j]?=some c):c.pure=true:=by
 induction cs generalizing j with
 | nil=>simp at hc
 | cons x xs ih =>
  simp only [AV.lD,a9] at h
  cases j with
  | zero=>simp at hc;exact hc ▸ h.1
  | succ j=>exact ih h.2 (by simpa using hc)
theorem sZ {cs:List AV} (h:AV.xQ cs=true) {j:Nat} {c:AV} (hc:cs[j]?=some c):c.flat=true:=by
 induction cs generalizing j with
 | nil=>simp at hc
 | cons x xs ih =>
  simp only [AV.xQ,a9] at h
  cases j with
  | zero=>simp at hc;exact hc ▸ h.1
  | succ j=>exact ih h.2 (by simpa using hc)
theorem ar.pure {w:World} {S:Nat→Prop} {μ:Mu} {v:Value} {x:AV} (h:ar w S μ v x):x.pure=true→∀ cC,ar w S cC v x:=by
 induction h with
 | atom v=>exact fun _ _=>.atom v
 | agg h1 _ ih=>exact fun hp cC=>.agg h1 fun j c v hc hv=>ih j c v hc hv (po (by simpa [AV.pure] using hp) hc) cC
 | tup h1 _ ih=>exact fun hp cC=>.tup h1 fun j c v hc hv=>ih j c v hc hv (po (by simpa [AV.pure] using hp) hc) cC
 | sl b off sz f h1 h2 h3 h4 h5 _=>exact fun _ _=>.sl b off sz f h1 h2 h3 h4 h5
 | rp b o f h1 h2 h3 _=>exact fun _ _=>.rp b o f h1 h2 h3
 | op pl h=>exact fun hp=>by simp [AV.pure] at hp
 | os pl h h1 h2 h3=>exact fun hp=>by simp [AV.pure] at hp
 | fn h1 h2 _ _ JZ J0 =>
  intro hp cC
  simp only [AV.pure,a9] at hp
  exact .fn h1 h2 (fun j c v hc hv=>JZ j c v hc hv (po hp.1 hc) cC) (fun j c v hc hv=>J0 j c v hc hv (po hp.2 hc) cC)
 | when _ hu ih=>exact fun hp cC=>.when (fun hb=>ih hb (by simpa [AV.pure] using hp) cC) hu
 | mp pl h=>exact fun hp=>by simp [AV.pure] at hp
 | bn b h=>exact fun _ _=>.bn b h
 | pt _ h2 ih=>exact fun _ cC=>.pt (fun hb=>ih hb rfl cC) h2
 | ov=>exact fun hp=>by simp [AV.pure] at hp
 | Cd=>exact fun hp=>by simp [AV.pure] at hp
 | nq _ h1 h2 ih=>exact fun hp cC=>.nq (ih (by simpa [AV.pure] using hp) cC) h1 h2
 | nil=>exact fun _ _=>.nil
 | mU=>exact fun _ _=>.mU
 | mr=>exact fun hp=>by simp [AV.pure] at hp
theorem ar.flat {w:World} {S:Nat→Prop} {μ:Mu} {v:Value} {x:AV} (h:ar w S μ v x):x.flat=true→∀ w' S' cC,ar w' S' cC v x:=by
 induction h with
 | atom v=>exact fun _ _ _ _=>.atom v
 | agg h1 _ ih=>exact fun hp w' S' cC=>.agg h1 fun j c v hc hv=>ih j c v hc hv (sZ (by simpa [AV.flat] using hp) hc) w' S' cC
 | tup h1 _ ih=>exact fun hp w' S' cC=>.tup h1 fun j c v hc hv=>ih j c v hc hv (sZ (by simpa [AV.flat] using hp) hc) w' S' cC
 | sl=>exact fun hp=>by simp [AV.flat] at hp
 | rp=>exact fun hp=>by simp [AV.flat] at hp
 | op=>exact fun hp=>by simp [AV.flat] at hp
 | os=>exact fun hp=>by simp [AV.flat] at hp
 | fn h1 h2 _ _ JZ J0 =>
  intro hp w' S' cC
  simp only [AV.flat,a9] at hp
  exact .fn h1 h2 (fun j c v hc hv=>JZ j c v hc hv (sZ hp.1 hc) w' S' cC) (fun j c v hc hv=>J0 j c v hc hv (sZ hp.2 hc) w' S' cC)
 | when=>exact fun hp=>by simp [AV.flat] at hp
 | mp=>exact fun hp=>by simp [AV.flat] at hp
 | bn b h=>exact fun _ _ _ _=>.bn b h
 | pt=>exact fun hp=>by simp [AV.flat] at hp
 | ov=>exact fun hp=>by simp [AV.flat] at hp
 | Cd=>exact fun hp=>by simp [AV.flat] at hp
 | nq=>exact fun hp=>by simp [AV.flat] at hp
 | nil=>exact fun _ _ _ _=>.nil
 | mU=>exact fun hp=>by simp [AV.flat] at hp
 | mr=>exact fun hp=>by simp [AV.flat] at hp
structure Ob where
 var:Bool
 sz:Nat
 len:Nat
 pr:Bool
 get:Nat→List AV
abbrev dp:=List (Nat×Ob)
def av:dp→Nat→Option Ob
 | [],_=>none
 | (k,o) :: r,n=>match Nat.beq k n with
  | true=>some o
  | false=>av r n
def sset:dp→Nat→Ob→dp
 | [],k,o=>[(k,o)]
 | (a,x) :: r,k,o=>match Nat.beq a k with
  | true=>(a,o) :: r
  | false=>(a,x) :: sset r k o
def qt:dp→Nat→dp
 | [],_=>[]
 | (a,x) :: r,k=>match Nat.beq a k with
  | true=>qt r k
  | false=>(a,x) :: qt r k
theorem ki {a b:Nat} (h:a=b):Nat.beq a b=true:=by subst h;exact Nat.beq_refl a
theorem lO {a b:Nat} (h:¬ a=b):Nat.beq a b=false:=Bool.eq_false_iff.2 fun e=>h (bp e)
theorem bd (σ:dp) (k n:Nat) (o:Ob):av (sset σ k o) n=if k=n then some o else av σ n:=by
 induction σ with
 | nil =>
  simp only [sset,av]
  by_cases h:k=n
  ·rw [ki h,if_pos h]
  ·rw [lO h,if_neg h]
 | cons x r ih =>
  obtain ⟨a,x⟩:=x
  simp only [sset]
  by_cases ha:a=k
  ·rw [ki ha]
   simp only [av]
   subst ha
   by_cases h:a=n
   ·rw [ki h,if_pos h]
   ·rw [lO h,if_neg h]
  ·rw [lO ha]
   simp only [av,ih]
   by_cases hn:a=n
   ·simp only [ki hn,if_neg (fun e:k=n=>ha (hn.trans e.symm))]
   ·rw [lO hn]
theorem eK (σ:dp) (k n:Nat):av (qt σ k) n=if k=n then none else av σ n:=by
 induction σ with
 | nil=>simp [qt,av]
 | cons x r ih =>
  obtain ⟨a,x⟩:=x
  simp only [qt]
  by_cases ha:a=k
  ·rw [ki ha]
   simp only [av,ih]
   by_cases h:k=n
   ·rw [if_pos h,if_pos h]
   ·rw [lO (by omega:¬ a=n)]
  ·rw [lO ha]
   simp only [av,ih]
   by_cases hn:a=n
   ·simp only [ki hn,if_neg (fun e:k=n=>ha (hn.trans e.symm))]
   ·rw [lO hn]
def eV:dp→List (Nat×Option Ob)→dp
 | σ,[]=>σ
 | σ,(k,some o) :: r=>eV (sset σ k o) r
 | σ,(k,none) :: r=>eV (qt σ k) r
def ej (c:Array Value):Array MapEntry:=(Array.range (c.size / 2)).map fun i=>⟨c[2 * i]?.getD undef,c[2 * i+1]?.getD undef,i⟩
def Ar (sz:Nat) (c:Array Value) (T:TypeId):Obj :=
 match sz with
 | 0=>.map (ej c) (c.size / 2)
 | _+1=>.cells c T (0,0)
theorem ft {sz:Nat} (h:sz≠0) (c:Array Value) (T:TypeId):Ar sz c T=.cells c T (0,0):=by
 cases sz with
 | zero=>exact absurd rfl h
 | succ n=>rfl
theorem wu {sz:Nat} (h:sz=0) (c:Array Value) (T:TypeId):Ar sz c T=.map (ej c) (c.size / 2):=by subst h;rfl
structure gr (w:World) (S:Nat→Prop) (μ:Mu) (o:Ob) (pl:Place) (c:Array Value) (T:TypeId):Prop where
 sz:pl.sz=o.sz
 b7:0 < pl.cap→w.heap[pl.b7]?=some (Ar o.sz c T)
 cap:pl.cap * o.sz≤c.size
 len:o.len≤pl.cap
 out:0 < pl.cap→¬ S pl.b7
 tj:∀ i,i < o.len→(o.get i).length=o.sz
 rep:∀ i j x v,i < o.len→(o.get i)[j]?=some x→c[i * o.sz+j]?=some v→ar w S (if o.pr then fZ else μ) v x
 mp:o.sz=0→0 < pl.cap∧c.size % 2=0∧c.size=(o.get 0).length∧o.pr=true∧∀ (j:Nat) x v,(o.get 0)[j]?=some x→c[j]?=some v→ar w S fZ v x
structure YI (w:World) (S:Nat→Prop) (μ:Mu) (σ:dp):Prop where
 ob:∀ k o,av σ k=some o→∃ pl c T,μ k=some pl∧gr w S μ o pl c T
 ne:∀ k k' o o' pl iB,k≠k'→av σ k=some o→av σ k'=some o'→μ k=some pl→μ k'=some iB→0 < pl.cap→0 < iB.cap→pl.b7≠iB.b7
theorem gr.ext {w w':World} {S S':Nat→Prop} {μ cC:Mu} {o:Ob} {pl:Place} {c:Array Value} {T:TypeId} (h:gr w S μ o pl c T) (e:Ext w S μ w' S' cC)
  (hb:0 < pl.cap→w'.heap[pl.b7]?=w.heap[pl.b7]?) (ho:0 < pl.cap→¬ S' pl.b7):gr w' S' cC o pl c T :=
 { h with
  b7:=fun hc=>(hb hc).trans (h.b7 hc)
  out:=ho
  rep:=fun i j x v hi hx hv=>(h.rep i j x v hi hx hv).mono e.EV e.b7 (by
   cases o.pr
   ·exact e.mu
   ·exact fun _ _ h=>h)
  mp:=fun hz=>let ⟨h0,h1,h2,h3,h4⟩:=h.mp hz
   ⟨h0,h1,h2,h3,fun j x v hx hv=>(h4 j x v hx hv).mono e.EV e.b7 (fun _ _ h=>h)⟩ }
def rowOf (o:Ob) (i:Nat):Option (Nat×Nat×(Nat→List AV)) :=
 match o.var,o.get i with
 | false,[.mr sz len g]=>if i < o.len then some (sz,len,g) else none
 | _,_=>none
def Kd (fp:Nat→Prop) (n0:Nat) (w:World) (S:Nat→Prop) (v:Value) (x:Nat×Nat×(Nat→List AV)):Prop :=
 ∃ a cap,v=.slice a x.2.1 cap∧x.2.1≤cap∧(1≤x.1∧∀ j,rowOf ⟨false,x.1,x.2.1,true,x.2.2⟩ j=none)∧(0 < cap→∃ b c T,a=some ⟨b,0,none⟩∧gr w S fZ ⟨false,x.1,x.2.1,true,x.2.2⟩ ⟨b,cap,x.1⟩ c T∧(fp b∨n0≤b))
def ptrTo (v:Value) (b:Nat):Prop:=∃ len cap,v=.slice (some ⟨b,0,none⟩) len cap∧0 < cap
def gR (w:World) (μ:Mu) (σ:dp) (k i:Nat) (x:Nat×Nat×(Nat→List AV)) (v:Value):Prop :=
 ∃ o pl,av σ k=some o∧rowOf o i=some x∧μ k=some pl∧w.cell? ⟨pl.b7,i * pl.sz,none⟩=some v
structure MX (fp:Nat→Prop) (n0:Nat) (w:World) (S:Nat→Prop) (μ:Mu) (σ:dp):Prop where
 row:∀ k i x v,gR w μ σ k i x v→Kd fp n0 w S v x
 obj:∀ k i x v b,gR w μ σ k i x v→ptrTo v b→∀ k' o' iB,av σ k'=some o'→μ k'=some iB→0 < iB.cap→iB.b7≠b
 two:∀ k i x v b k' i' x' v',gR w μ σ k i x v→gR w μ σ k' i' x' v'→ptrTo v b→ptrTo v' b→k=k'∧i=i'
theorem mX {o:Ob} (h:o.var=true) (i:Nat):rowOf o i=none:=by unfold rowOf;rw [h]
theorem di {o:Ob} {i:Nat} {x:Nat×Nat×(Nat→List AV)} (h:rowOf o i=some x):o.var=false∧i < o.len∧o.get i=[.mr x.1 x.2.1 x.2.2]:=by
 unfold rowOf at h
 split at h
 ·rename_i sz len g h2 h3
  split at h
  ·rename_i hi
   cases h
   exact ⟨h2,hi,h3⟩
  ·cases h
 ·cases h
theorem kG {o:Ob} {i:Nat} {x:Nat×Nat×(Nat→List AV)} (h2:o.var=false) (h3:i < o.len) (h4:o.get i=[.mr x.1 x.2.1 x.2.2]):rowOf o i=some x:=by
 unfold rowOf;rw [h2,h4];simp [h3]
theorem MX.b7 {fp:Nat→Prop} {n0:Nat} {w:World} {S:Nat→Prop} {μ:Mu} {σ:dp} (h:MX fp n0 w S μ σ) {k i:Nat} {x:Nat×Nat×(Nat→List AV)} {v:Value} {b:Nat} (hr:gR w μ σ k i x v) (hb:ptrTo v b) :
  b < w.heap.size∧¬ S b∧(fp b∨n0≤b)∧∃ c T,w.heap[b]?=some (.cells c T (0,0)):=by
 obtain ⟨len,cap,rfl,hc⟩:=hb
 obtain ⟨a,ae3,e,h1,h2,h3⟩:=h.row _ _ _ _ hr
 injection e with e1 e2 e3
 subst e1 e2 e3
 obtain ⟨b',c,T,e4,h4,h5⟩:=h3 hc
 injection e4 with e4
 injection e4 with e4
 subst e4
 have VM:=h4.b7 hc
 have ua:Ar x.1 c T=.cells c T (0,0):=ft (by have:=h2.1;omega) c T
 have YJ:w.heap[b]?=some (.cells c T (0,0)):=by rw [VM];exact congrArg some ua
 exact ⟨(Array.getElem?_eq_some_iff.1 YJ).1,h4.out hc,h5,c,T,YJ⟩
theorem Kd.ext {fp VN:Nat→Prop} {n0 VO:Nat} {w w':World} {S S':Nat→Prop} {v:Value} {x:Nat×Nat×(Nat→List AV)} (h:Kd fp n0 w S v x) (hS:∀ b,S b→S' b) (hb:∀ b,S b→w'.heap[b]?=w.heap[b]?)
  (hp:∀ b,ptrTo v b→w'.heap[b]?=w.heap[b]?∧¬ S' b∧((fp b∨n0≤b)→(VN b∨VO≤b))):Kd VN VO w' S' v x:=by
 obtain ⟨a,cap,rfl,h1,h2,h3⟩:=h
 refine ⟨a,cap,rfl,h1,h2,fun hc=>?_⟩
 obtain ⟨b,c,T,rfl,h4,h5⟩:=h3 hc
 obtain ⟨p1,p2,p3⟩:=hp b ⟨_,_,rfl,hc⟩
 refine ⟨b,c,T,rfl,⟨h4.sz,fun h=>p1.trans (h4.b7 h),h4.cap,h4.len,fun _=>p2,h4.tj,fun i j x v hi hx hv=>(h4.rep i j x v hi hx hv).mono hS hb (fun _ _ h=>h),fun hz=>?_⟩,p3 h5⟩
 exact absurd hz (by have:=h2.1;show x.1≠0;omega)
theorem MX.tr {fp VN:Nat→Prop} {n0 VO:Nat} {w w':World} {S S':Nat→Prop} {μ cC:Mu} {σ dr:dp} (h:MX fp n0 w S μ σ) (φ:Nat→Nat)
  (hr:∀ k i x v,gR w' cC dr k i x v→gR w μ σ (φ k) i x v)
  (hi:∀ k i x v k' i' x' v',gR w' cC dr k i x v→gR w' cC dr k' i' x' v'→φ k=φ k'→k=k')
  (hS:∀ b,S b→S' b) (hb:∀ b,S b→w'.heap[b]?=w.heap[b]?)
  (hp:∀ k i x v b,gR w' cC dr k i x v→gR w μ σ (φ k) i x v→ptrTo v b→w'.heap[b]?=w.heap[b]?∧¬ S' b∧((fp b∨n0≤b)→(VN b∨VO≤b)))
  (ho:∀ k o pl,av dr k=some o→cC k=some pl→0 < pl.cap→(∃ k1 o1 A8,av σ k1=some o1∧μ k1=some A8∧0 < A8.cap∧A8.b7=pl.b7)∨w.heap.size≤pl.b7):MX VN VO w' S' cC dr:=by
 refine ⟨fun k i x v hv=>(h.row _ _ _ _ (hr _ _ _ _ hv)).ext hS hb fun b qT=>hp _ _ _ _ _ hv (hr _ _ _ _ hv) qT,fun k i x v b hv qT k' o' iB h1 h2 h3 he=>?_,fun k i x v b k' i' x' v' hv oM nJ lN=>?_⟩
 ·have hv0:=hr _ _ _ _ hv
  rcases ho k' o' iB h1 h2 h3 with ⟨k1,o1,A8,q1,q2,q3,q4⟩ | q
  ·exact h.obj _ _ _ _ b hv0 qT k1 o1 A8 q1 q2 q3 (q4.trans he)
  ·have:=(h.b7 hv0 qT).1;omega
 ·obtain ⟨e1,e2⟩:=h.two _ _ _ _ _ _ _ _ _ (hr _ _ _ _ hv) (hr _ _ _ _ oM) nJ lN
  exact ⟨hi _ _ _ _ _ _ _ _ hv oM e1,e2⟩
theorem MX.nil {fp:Nat→Prop} {n0:Nat} {w:World} {S:Nat→Prop} {μ:Mu} {σ:dp} (h:∀ k o i,av σ k=some o→rowOf o i=none):MX fp n0 w S μ σ:=by
 have no:∀ {k i x v},gR w μ σ k i x v→False:=by
  rintro k i x v ⟨o,pl,h1,h2,_⟩
  rw [h k o i h1] at h2;cases h2
 exact ⟨fun _ _ _ _ h=>(no h).elim,fun _ _ _ _ _ h=>(no h).elim,fun _ _ _ _ _ _ _ _ _ h=>(no h).elim⟩
end Go.Ab
namespace Go.Ab
structure Env where
 w0:World
 S0:Nat→Prop
 fp:Nat→Prop
 Yf:Mu
 m0:Nat
structure Fr (w0:World) (fp:Nat→Prop) (w:World):Prop where
 os:w.os=w0.os
 tape:w.tape=w0.tape
 output:w.output=w0.output
 size:w0.heap.size≤w.heap.size
 b7:∀ b,b < w0.heap.size→¬ fp b→w.heap[b]?=w0.heap[b]?
theorem Fr.refl (w:World) (fp:Nat→Prop):Fr w fp w:=⟨rfl,rfl,rfl,aR _,fun _ _ _=>rfl⟩
structure Good (E:Env) (σ:dp) (S:Nat→Prop) (μ:Mu) (w:World):Prop where
 fr:Fr E.w0 E.fp w
 S0:∀ b,E.S0 b→S b
 S1:∀ b,S b→b < w.heap.size
 S2:∀ b,S b→E.S0 b∨E.w0.heap.size≤b
 rep:YI w S μ σ
 own:∀ k o pl,av σ k=some o→μ k=some pl→0 < pl.cap→E.fp pl.b7∨E.w0.heap.size≤pl.b7
 A9:∀ k,k < E.m0→μ k=E.Yf k
 mx:MX E.fp E.w0.heap.size w S μ σ
theorem cm {w:World} {b:Nat} {o:Obj} (h:w.heap[b]?=some o):b < w.heap.size:=(Array.getElem?_eq_some_iff.1 h).1
def cl (μ:Mu) (k:Nat) (pl:Place):Mu:=fun n=>if n=k then some pl else μ n
theorem ek {w:World} {o:Obj} {b:Nat} (h:b < w.heap.size):(w.alloc o).heap[b]?=w.heap[b]?:=heap_alloc_old w o b h
theorem gR.vf {w w':World} {S:Nat→Prop} {μ cC:Mu} {σ dr:dp} (g:YI w S μ σ) {k k1 i:Nat} {x:Nat×Nat×(Nat→List AV)} {v:Value} (h:gR w' cC dr k i x v)
  (ho:∀ o,av dr k=some o→∃ o1,av σ k1=some o1∧rowOf o1 i=some x) (hm:∀ pl,cC k=some pl→μ k1=some pl)
  (hb:∀ o pl,av σ k1=some o→μ k1=some pl→0 < pl.cap→w'.heap[pl.b7]?=w.heap[pl.b7]?):gR w μ σ k1 i x v:=by
 obtain ⟨o,pl,h1,h2,h3,h4⟩:=h
 obtain ⟨o1,h5,h6⟩:=ho o h1
 have h7:=hm pl h3
 refine ⟨o1,pl,h5,h6,h7,?_⟩
 obtain ⟨qu,c,T,h8,h9⟩:=g.ob k1 o1 h5
 rw [h7] at h8;cases h8
 have hc:0 < pl.cap:=by have:=(di h6).2.1;have:=h9.len;omega
 rw [← h4]
 exact (qS (hb o1 pl h5 h7 hc) _).symm
theorem gR.ob {w:World} {μ:Mu} {σ:dp} {k i:Nat} {x:Nat×Nat×(Nat→List AV)} {v:Value} (h:gR w μ σ k i x v):∃ o,av σ k=some o∧rowOf o i=some x:=by
 obtain ⟨o,_,h1,h2,_⟩:=h;exact ⟨o,h1,h2⟩
theorem Good.Qk {E:Env} {σ:dp} {S:Nat→Prop} {μ:Mu} {w:World} (g:Good E σ S μ w) {nk:Nat} (hk:μ nk=none) (hm:E.m0≤nk) (c:Array Value) (T:TypeId) (o:Ob) (cap:Nat)
  (rT:cap * o.sz≤c.size) (hlen:o.len≤cap) (pT:∀ i,i < o.len→(o.get i).length=o.sz)
  (xE:∀ i j x v,i < o.len→(o.get i)[j]?=some x→c[i * o.sz+j]?=some v→ar w S (if o.pr then fZ else μ) v x) (Cj:o.sz≠0)
  (Tm:MX E.fp E.w0.heap.size (w.alloc (.cells c T)) S (cl μ nk ⟨w.heap.size,cap,o.sz⟩) (sset σ nk o)) :
  Ext w S μ (w.alloc (.cells c T)) S (cl μ nk ⟨w.heap.size,cap,o.sz⟩)∧Good E (sset σ nk o) S (cl μ nk ⟨w.heap.size,cap,o.sz⟩) (w.alloc (.cells c T)):=by
 have e:Ext w S μ (w.alloc (.cells c T)) S (cl μ nk ⟨w.heap.size,cap,o.sz⟩) :=
  ⟨by simp,fun _ h=>h,fun b hb=>ek (g.S1 b hb),fun k pl h=>by
   unfold cl
   split
   ·rename_i rO;rw [rO,hk] at h;cases h
   ·exact h⟩
 refine ⟨e,⟨⟨g.fr.os,g.fr.tape,g.fr.output,by have:=g.fr.size;simp;omega,fun b hb hf=>(ek (lV hb g.fr.size)).trans (g.fr.b7 b hb hf)⟩,
  g.S0,fun b hb=>by have:=g.S1 b hb;simp;omega,g.S2,⟨?_,?_⟩,?_,fun k ld=>?_,Tm⟩⟩
 ·intro k x hx
  rw [bd] at hx
  by_cases rO:nk=k
  ·rw [if_pos rO] at hx
   cases hx
   refine ⟨⟨w.heap.size,cap,o.sz⟩,c,T,by simp [cl,rO],rfl,fun _=>(heap_alloc_new w _).trans (by rw [ft Cj]),rT,hlen,fun _ hS=>sH _ (g.S1 _ hS),pT,?_,fun h=>absurd h Cj⟩
   intro i j x v hi hx hv
   refine (xE i j x v hi hx hv).mono e.EV e.b7 ?_
   cases o.pr
   ·exact e.mu
   ·exact fun _ _ h=>h
  ·rw [if_neg rO] at hx
   obtain ⟨pl,c',T',fw,ho⟩:=g.rep.ob k x hx
   exact ⟨pl,c',T',e.mu _ _ fw,ho.ext e (fun hc=>ek (cm (ho.b7 hc))) ho.out⟩
 ·intro k k' x x' pl iB eE hx ss hp n5 s5 EX
  rw [bd] at hx ss
  simp only [cl] at hp n5
  have lt:∀ {k x pl},nk≠k→av σ k=some x→μ k=some pl→0 < pl.cap→pl.b7 < w.heap.size:=fun {k x pl} _ hx hp hc=>by
   obtain ⟨qu,c',T',fw,ho⟩:=g.rep.ob k x hx
   rw [hp] at fw;cases fw;exact cm (ho.b7 hc)
  by_cases h1:nk=k
  ·have h2:¬ nk=k':=fun h=>eE (h1.symm.trans h)
   rw [if_neg h2] at ss
   rw [if_neg (fun h=>h2 h.symm)] at n5
   rw [if_pos h1.symm] at hp
   cases hp
   have:=lt h2 ss n5 EX
   show w.heap.size≠_
   omega
  ·rw [if_neg h1] at hx
   rw [if_neg (fun h=>h1 h.symm)] at hp
   by_cases h2:nk=k'
   ·rw [if_pos h2.symm] at n5
    cases n5
    have:=lt h1 hx hp s5
    show _≠w.heap.size
    omega
   ·rw [if_neg h2] at ss
    rw [if_neg (fun h=>h2 h.symm)] at n5
    exact g.rep.ne k k' x x' pl iB eE hx ss hp n5 s5 EX
 ·intro k x pl hx hp hc
  rw [bd] at hx
  simp only [cl] at hp
  by_cases h1:nk=k
  ·rw [if_pos h1.symm] at hp
   cases hp
   exact .inr g.fr.size
  ·rw [if_neg h1] at hx
   rw [if_neg (fun h=>h1 h.symm)] at hp
   exact g.own k x pl hx hp hc
 ·simp only [cl]
  rw [if_neg (by omega)]
  exact g.A9 k ld
theorem Good.Ke {E:Env} {σ:dp} {S:Nat→Prop} {μ:Mu} {w w':World} (g:Good E σ S μ w) {nk:Nat} (hk:μ nk=none) (o:Ob) (pl:Place) (Ba:0 < pl.cap→w.heap.size≤pl.b7) (O0:∀ i,rowOf o i=none)
  (hw:∀ b,b < w.heap.size→w'.heap[b]?=w.heap[b]?) {S':Nat→Prop} (hS:∀ b,S b→S' b) (Wx:∀ b,S' b→S b∨w.heap.size≤b):MX E.fp E.w0.heap.size w' S' (cl μ nk pl) (sset σ nk o):=by
 have key:∀ k i x v,gR w' (cl μ nk pl) (sset σ nk o) k i x v→k≠nk:=by
  rintro k i x v h rfl
  obtain ⟨o2,h1,h2⟩:=h.ob
  rw [bd,if_pos rfl] at h1
  cases h1
  rw [O0] at h2;cases h2
 refine g.mx.tr id (fun k i x v h=>?_) (fun _ _ _ _ _ _ _ _ _ _ h=>h) hS (fun b hb=>hw b (g.S1 b hb)) (fun k i x v b _ h hb=>?_) (fun k o2 qu h1 h2 h3=>?_)
 ·have eE:=key _ _ _ _ h
  obtain ⟨o3,h3,h4⟩:=h.ob
  refine h.vf g.rep (fun o2 h1=>?_) (fun qu h2=>?_) (fun o2 qu h1 h2 h3=>?_)
  ·rw [h3] at h1;cases h1
   rw [bd,if_neg (fun e=>eE e.symm)] at h3
   exact ⟨o3,h3,h4⟩
  ·unfold cl at h2;rw [if_neg eE] at h2;exact h2
  ·obtain ⟨pl3,c3,T3,Nu,LU⟩:=g.rep.ob k o2 h1
   have h2:μ k=some qu:=h2
   rw [h2] at Nu;cases Nu
   exact hw _ (cm (LU.b7 h3))
 ·obtain ⟨q1,q2,q3,_⟩:=g.mx.b7 h hb
  exact ⟨hw b q1,fun hs=>(Wx b hs).elim q2 (fun h=>by omega),fun h=>h⟩
 ·by_cases rO:nk=k
  ·unfold cl at h2;rw [if_pos rO.symm] at h2;cases h2
   exact .inr (Ba h3)
  ·rw [bd,if_neg rO] at h1
   unfold cl at h2;rw [if_neg (fun h=>rO h.symm)] at h2
   exact .inl ⟨k,o2,qu,h1,h2,h3,rfl⟩
theorem Good.alloc {E:Env} {σ:dp} {S:Nat→Prop} {μ:Mu} {w:World} (g:Good E σ S μ w) {nk:Nat} (hk:μ nk=none) (hm:E.m0≤nk) (c:Array Value) (T:TypeId) (o:Ob) (cap:Nat)
  (rT:cap * o.sz≤c.size) (hlen:o.len≤cap) (pT:∀ i,i < o.len→(o.get i).length=o.sz)
  (xE:∀ i j x v,i < o.len→(o.get i)[j]?=some x→c[i * o.sz+j]?=some v→ar w S (if o.pr then fZ else μ) v x) (Cj:o.sz≠0) (O0:∀ i,rowOf o i=none) :
  Ext w S μ (w.alloc (.cells c T)) S (cl μ nk ⟨w.heap.size,cap,o.sz⟩)∧Good E (sset σ nk o) S (cl μ nk ⟨w.heap.size,cap,o.sz⟩) (w.alloc (.cells c T)) :=
 g.Qk hk hm c T o cap rT hlen pT xE Cj (g.Ke hk o _ (fun _=>aR _) O0 (fun _ h=>ek h) (fun _ h=>h) (fun _ h=>.inl h))
theorem Good.L1 {E:Env} {σ:dp} {S:Nat→Prop} {μ:Mu} {w w':World} (g:Good E σ S μ w)
  (hw:∀ b,b < w.heap.size→w'.heap[b]?=w.heap[b]?) {S':Nat→Prop} (hS:∀ b,S b→S' b) (Wx:∀ b,S' b→S b∨w.heap.size≤b):MX E.fp E.w0.heap.size w' S' μ σ:=by
 refine g.mx.tr id (fun k i x v h=>?_) (fun _ _ _ _ _ _ _ _ _ _ h=>h) hS (fun b hb=>hw b (g.S1 b hb)) (fun k i x v b _ h hb=>?_) (fun k o2 qu h1 h2 h3=>.inl ⟨k,o2,qu,h1,h2,h3,rfl⟩)
 ·obtain ⟨o3,h3,h4⟩:=h.ob
  refine h.vf g.rep (fun o2 h1=>⟨o3,h3,h4⟩) (fun qu h2=>h2) (fun o2 qu h1 h2 h3=>?_)
  obtain ⟨pl3,c3,T3,Nu,LU⟩:=g.rep.ob k o2 h1
  have h2:μ k=some qu:=h2
  rw [h2] at Nu;cases Nu
  exact hw _ (cm (LU.b7 h3))
 ·obtain ⟨q1,q2,q3,_⟩:=g.mx.b7 h hb
  exact ⟨hw b q1,fun hs=>(Wx b hs).elim q2 (fun h=>by omega),fun h=>h⟩
theorem Good.O1 {E:Env} {σ:dp} {S:Nat→Prop} {μ:Mu} {w:World} (g:Good E σ S μ w) (o:Obj) :
  Ext w S μ (w.alloc o) (fun b=>S b∨b=w.heap.size) μ∧Good E σ (fun b=>S b∨b=w.heap.size) μ (w.alloc o):=by
 have e:Ext w S μ (w.alloc o) (fun b=>S b∨b=w.heap.size) μ :=
  ⟨by simp,fun _ h=>.inl h,fun b hb=>ek (g.S1 b hb),fun k pl h=>h⟩
 refine ⟨e,⟨⟨g.fr.os,g.fr.tape,g.fr.output,by have:=g.fr.size;simp;omega,fun b hb hf=>(ek (lV hb g.fr.size)).trans (g.fr.b7 b hb hf)⟩,
  fun b h=>.inl (g.S0 b h),fun b hb=>?_,fun b hb=>?_,⟨?_,g.rep.ne⟩,g.own,g.A9,g.L1 (fun _ h=>ek h) (fun _ h=>.inl h) (fun b h=>h.elim .inl (fun h=>.inr (Nat.le_of_eq h.symm)))⟩⟩
 ·rcases hb with hb | hb
  ·have:=g.S1 b hb;simp;omega
  ·simp;omega
 ·rcases hb with hb | hb
  ·exact g.S2 b hb
  ·exact .inr (hb ▸ g.fr.size)
 ·intro k x hx
  obtain ⟨pl,c',T',fw,ho⟩:=g.rep.ob k x hx
  exact ⟨pl,c',T',fw,ho.ext e (fun hc=>ek (cm (ho.b7 hc))) (fun hc h=>h.elim (ho.out hc) (by have:=cm (ho.b7 hc);omega))⟩
theorem Good.drew {E:Env} {σ:dp} {S:Nat→Prop} {μ:Mu} {w:World} (g:Good E σ S μ w):Good E σ S μ w.drew :=
 ⟨⟨g.fr.os,g.fr.tape,g.fr.output,g.fr.size,g.fr.b7⟩,g.S0,g.S1,g.S2,
  ⟨fun k o h=>let ⟨pl,c,T,hm,ho⟩:=g.rep.ob k o h
   ⟨pl,c,T,hm,ho.ext (w':=w.drew) ⟨aR _,fun _ h=>h,fun _ _=>rfl,fun _ _ h=>h⟩ (fun _=>rfl) ho.out⟩,g.rep.ne⟩,g.own,g.A9,g.L1 (w':=w.drew) (fun _ _=>rfl) (fun _ h=>h) (fun _ h=>.inl h)⟩
theorem Ext.drew (w:World) (S:Nat→Prop) (μ:Mu):Ext w S μ w.drew S μ:=⟨aR _,fun _ h=>h,fun _ _=>rfl,fun _ _ h=>h⟩
theorem Good.del {E:Env} {σ:dp} {S:Nat→Prop} {μ:Mu} {w:World} (g:Good E σ S μ w) (k:Nat):Good E (qt σ k) S μ w:=by
 have hs:∀ n o,av (qt σ k) n=some o→av σ n=some o:=fun n o h=>by
  rw [eK] at h
  split at h
  ·cases h
  ·exact h
 exact ⟨g.fr,g.S0,g.S1,g.S2,⟨fun n o h=>g.rep.ob n o (hs n o h),fun k k' o o' pl iB eE h h'=>g.rep.ne k k' o o' pl iB eE (hs _ _ h) (hs _ _ h')⟩,
  fun k o pl h=>g.own k o pl (hs _ _ h),g.A9,g.mx.tr id (fun k i x v ⟨o,pl,h1,h2⟩=>⟨o,pl,hs _ _ h1,h2⟩) (fun _ _ _ _ _ _ _ _ _ _ h=>h) (fun _ h=>h) (fun _ _=>rfl)
   (fun k i x v b _ h hb=>⟨rfl,(g.mx.b7 h hb).2.1,fun h=>h⟩) (fun k o pl h1 h2 h3=>.inl ⟨k,o,pl,hs _ _ h1,h2,h3,rfl⟩)⟩
theorem Good.mxW {E:Env} {σ:dp} {S:Nat→Prop} {μ:Mu} {w w':World} (g:Good E σ S μ w) {k:Nat} {o:Ob} (hs:av σ k=some o) {pl:Place} (hm:μ k=some pl) (wo:0 < pl.cap) (hS:¬ S pl.b7)
  (tk:∀ b,b≠pl.b7→w'.heap[b]?=w.heap[b]?) (o':Ob) (ua:∀ i x,rowOf o' i=some x→rowOf o i=some x∧∀ v,w'.cell? ⟨pl.b7,i * pl.sz,none⟩=some v→w.cell? ⟨pl.b7,i * pl.sz,none⟩=some v) :
  MX E.fp E.w0.heap.size w' S μ (sset σ k o'):=by
 refine g.mx.tr id (fun n i x v h=>?_) (fun _ _ _ _ _ _ _ _ _ _ h=>h) (fun _ h=>h) (fun b hb=>tk b fun e=>hS (e ▸ hb)) (fun n i x v b _ h hb=>?_) (fun n o2 qu h1 h2 h3=>?_)
 ·by_cases rO:k=n
  ·subst rO
   obtain ⟨o2,qu,h1,h2,h3,h4⟩:=h
   rw [bd,if_pos rfl] at h1;cases h1
   rw [hm] at h3;cases h3
   obtain ⟨q1,q2⟩:=ua i x h2
   exact ⟨o,pl,hs,q1,hm,q2 v h4⟩
  ·obtain ⟨o3,h3,h4⟩:=h.ob
   rw [bd,if_neg rO] at h3
   refine h.vf g.rep (fun o2 h1=>⟨o3,h3,h4⟩) (fun qu h2=>h2) (fun o2 qu h1 h2 h3=>?_)
   exact tk _ (g.rep.ne n k o2 o qu pl (fun h=>rO h.symm) h1 hs h2 hm h3 wo)
 ·obtain ⟨q1,q2,q3,_⟩:=g.mx.b7 h hb
  exact ⟨tk b fun e=>g.mx.obj _ _ _ _ _ h hb k o pl hs hm wo e.symm,q2,fun h=>h⟩
 ·rw [bd] at h1
  split at h1
  ·rename_i hh;subst hh;exact .inl ⟨_,o,qu,hs,h2,h3,rfl⟩
  ·exact .inl ⟨n,o2,qu,h1,h2,h3,rfl⟩
theorem Good.write {E:Env} {σ:dp} {S:Nat→Prop} {μ:Mu} {w:World} (g:Good E σ S μ w) {k:Nat} {o:Ob} (hs:av σ k=some o) {pl:Place} {c:Array Value} {T:TypeId}
  (hm:μ k=some pl) (wo:0 < pl.cap) (ho:gr w S μ o pl c T) (Cj:o.sz≠0) (o':Ob) (c':Array Value) (kj:o'.sz=o.sz) (hc:c'.size=c.size) (hlen:o'.len≤pl.cap)
  (pT:∀ i,i < o'.len→(o'.get i).length=o'.sz)
  (xE:∀ i j x v,i < o'.len→(o'.get i)[j]?=some x→c'[i * o'.sz+j]?=some v→ar w S (if o'.pr then fZ else μ) v x)
  (ua:∀ i x,rowOf o' i=some x→rowOf o i=some x∧c'[i * o.sz]?=c[i * o.sz]?) :
  Ext w S μ (w.setRow pl.b7 c') S μ∧Good E (sset σ k o') S μ (w.setRow pl.b7 c'):=by
 have tk:∀ b,b≠pl.b7→(w.setRow pl.b7 c').heap[b]?=w.heap[b]?:=fun b hb=>by
  simp only [World.setRow,Array.getElem?_modify]
  rw [if_neg (fun h=>hb h.symm)]
 have e:Ext w S μ (w.setRow pl.b7 c') S μ :=
  ⟨by simp,fun _ h=>h,fun b hb=>tk b fun h=>ho.out wo (h ▸ hb),fun _ _ h=>h⟩
 refine ⟨e,⟨⟨g.fr.os,g.fr.tape,g.fr.output,by have:=g.fr.size;simpa using this,fun b hb hf=>?_⟩,g.S0,fun b hb=>by simpa using g.S1 b hb,g.S2,⟨?_,?_⟩,?_,g.A9,?_⟩⟩
 rotate_right
 ·refine g.mxW hs hm wo (ho.out wo) tk o' fun i x hx=>⟨(ua i x hx).1,fun v hv=>?_⟩
  have h1:=ho.b7 wo
  rw [ft Cj] at h1
  rw [cell_of_row _ _ _ _ _ _ (setRow_heap w _ c c' T (0,0) h1),ho.sz,(ua i x hx).2] at hv
  rw [cell_of_row _ _ _ _ _ _ h1,ho.sz]
  exact hv
 ·rw [tk b,g.fr.b7 b hb hf]
  rintro rfl
  rcases g.own k o pl hs hm wo with h | h
  ·exact hf h
  ·omega
 ·intro n x hx
  rw [bd] at hx
  by_cases rO:k=n
  ·rw [if_pos rO] at hx
   cases hx
   refine ⟨pl,c',T,rO ▸ hm,ho.sz.trans kj.symm,fun _=>(setRow_heap w _ c c' T (0,0) ((ho.b7 wo).trans (by rw [ft Cj]))).trans (by rw [ft (by rw [kj];exact Cj)]),?_,hlen,ho.out,pT,?_,fun h=>absurd (kj ▸ h) Cj⟩
   ·rw [kj,hc];exact ho.cap
   ·intro i j x v hi hx hv
    refine (xE i j x v hi hx hv).mono e.EV e.b7 ?_
    cases o'.pr
    ·exact e.mu
    ·exact fun _ _ h=>h
  ·rw [if_neg rO] at hx
   obtain ⟨qu,c2,T2,As,Ce⟩:=g.rep.ob n x hx
   exact ⟨qu,c2,T2,As,Ce.ext e (fun hc=>tk _ (g.rep.ne n k x o qu pl (fun h=>rO h.symm) hx hs As hm hc wo)) Ce.out⟩
 ·intro n n' x x' p p' eE hx ss hp n5 s5 EX
  rw [bd] at hx ss
  have f:∀ {n x},(if k=n then some o' else av σ n)=some x→∃ y,av σ n=some y:=fun {n x} h=>by
   split at h
   ·rename_i hh;exact ⟨o,hh ▸ hs⟩
   ·exact ⟨_,h⟩
  obtain ⟨y,hy⟩:=f hx
  obtain ⟨y',TH⟩:=f ss
  exact g.rep.ne n n' y y' p p' eE hy TH hp n5 s5 EX
 ·intro n x p hx hp hc
  rw [bd] at hx
  split at hx
  ·rename_i hh;subst hh;exact g.own _ o p hs hp hc
  ·exact g.own n x p hx hp hc
theorem Good.TI {E:Env} {σ:dp} {S:Nat→Prop} {μ:Mu} {w w':World} (g:Good E σ S μ w) {k:Nat} {o:Ob} (hs:av σ k=some o) {pl:Place} {c:Array Value} {T:TypeId}
  (hm:μ k=some pl) (wo:0 < pl.cap) (ho:gr w S μ o pl c T) (h1:w'.os=w.os) (h2:w'.tape=w.tape) (h3:w'.output=w.output) (h4:w'.heap.size=w.heap.size) (tk:∀ b,b≠pl.b7→w'.heap[b]?=w.heap[b]?)
  (o':Ob) (O0:∀ i,rowOf o' i=none) (Ql:Ext w S μ w' S μ→∃ c' T',gr w' S μ o' pl c' T'):Ext w S μ w' S μ∧Good E (sset σ k o') S μ w':=by
 have e:Ext w S μ w' S μ:=⟨by omega,fun _ h=>h,fun b hb=>tk b fun h=>ho.out wo (h ▸ hb),fun _ _ h=>h⟩
 refine ⟨e,⟨⟨h1.trans g.fr.os,h2.trans g.fr.tape,h3.trans g.fr.output,by have:=g.fr.size;omega,fun b hb hf=>?_⟩,g.S0,fun b hb=>by rw [h4];exact g.S1 b hb,g.S2,⟨?_,?_⟩,?_,g.A9,g.mxW hs hm wo (ho.out wo) tk o' fun i x hx=>by rw [O0] at hx;cases hx⟩⟩
 ·rw [tk b,g.fr.b7 b hb hf]
  rintro rfl
  rcases g.own k o pl hs hm wo with h | h
  ·exact hf h
  ·omega
 ·intro n x hx
  rw [bd] at hx
  by_cases rO:k=n
  ·rw [if_pos rO] at hx
   cases hx
   obtain ⟨c',T',hn⟩:=Ql e
   exact ⟨pl,c',T',rO ▸ hm,hn⟩
  ·rw [if_neg rO] at hx
   obtain ⟨qu,c2,T2,As,Ce⟩:=g.rep.ob n x hx
   exact ⟨qu,c2,T2,As,Ce.ext e (fun hc=>tk _ (g.rep.ne n k x o qu pl (fun h=>rO h.symm) hx hs As hm hc wo)) Ce.out⟩
 ·intro n n' x x' p p' eE hx ss hp n5 s5 EX
  rw [bd] at hx ss
  have f:∀ {n x},(if k=n then some o' else av σ n)=some x→∃ y,av σ n=some y:=fun {n x} h=>by
   split at h
   ·rename_i hh;exact ⟨o,hh ▸ hs⟩
   ·exact ⟨_,h⟩
  obtain ⟨y,hy⟩:=f hx
  obtain ⟨y',TH⟩:=f ss
  exact g.rep.ne n n' y y' p p' eE hy TH hp n5 s5 EX
 ·intro n x p hx hp hc
  rw [bd] at hx
  split at hx
  ·rename_i hh;subst hh;exact g.own _ o p hs hp hc
  ·exact g.own n x p hx hp hc
theorem Good.allocMap {E:Env} {σ:dp} {S:Nat→Prop} {μ:Mu} {w:World} (g:Good E σ S μ w) {nk:Nat} (hk:μ nk=none) (hm:E.m0≤nk) :
  Ext w S μ (w.alloc (.map #[] 0)) S (cl μ nk ⟨w.heap.size,1,0⟩)∧Good E (sset σ nk ⟨false,0,0,true,fun _=>[]⟩) S (cl μ nk ⟨w.heap.size,1,0⟩) (w.alloc (.map #[] 0)):=by
 have hold:∀ b,b < w.heap.size→(w.alloc (.map #[] 0)).heap[b]?=w.heap[b]?:=fun b h=>ek h
 have e:Ext w S μ (w.alloc (.map #[] 0)) S (cl μ nk ⟨w.heap.size,1,0⟩) :=
  ⟨by simp,fun _ h=>h,fun b hb=>hold b (g.S1 b hb),fun k pl h=>by
   unfold cl
   split
   ·rename_i rO;rw [rO,hk] at h;cases h
   ·exact h⟩
 have lt:∀ {k x pl},av σ k=some x→μ k=some pl→0 < pl.cap→pl.b7 < w.heap.size:=fun {k x pl} hx hp hc=>by
  obtain ⟨qu,c',T',fw,ho⟩:=g.rep.ob k x hx
  rw [hp] at fw;cases fw;exact cm (ho.b7 hc)
 refine ⟨e,⟨⟨g.fr.os,g.fr.tape,g.fr.output,by have:=g.fr.size;simp;omega,fun b hb hf=>(hold b (lV hb g.fr.size)).trans (g.fr.b7 b hb hf)⟩,
  g.S0,fun b hb=>by have:=g.S1 b hb;simp;omega,g.S2,⟨?_,?_⟩,?_,fun k ld=>?_,g.Ke hk _ _ (fun _=>aR _) (fun i=>rfl) hold (fun _ h=>h) (fun _ h=>.inl h)⟩⟩
 ·intro k x hx
  rw [bd] at hx
  by_cases rO:nk=k
  ·rw [if_pos rO] at hx
   cases hx
   refine ⟨⟨w.heap.size,1,0⟩,#[],0,by simp [cl,rO],rfl,fun _=>(heap_alloc_new w _).trans (by simp [Ar,ej]),by simp,by simp,fun _ hS=>sH _ (g.S1 _ hS),fun i hi=>absurd hi (dN _),fun i j x v hi=>absurd hi (dN _),fun _=>⟨Nat.one_pos,rfl,rfl,rfl,fun j x v hx=>by simp at hx⟩⟩
  ·rw [if_neg rO] at hx
   obtain ⟨pl,c',T',fw,ho⟩:=g.rep.ob k x hx
   exact ⟨pl,c',T',e.mu _ _ fw,ho.ext e (fun hc=>hold _ (cm (ho.b7 hc))) ho.out⟩
 ·intro k k' x x' pl iB eE hx ss hp n5 s5 EX
  rw [bd] at hx ss
  simp only [cl] at hp n5
  by_cases h1:nk=k
  ·have h2:¬ nk=k':=fun h=>eE (h1.symm.trans h)
   rw [if_neg h2] at ss
   rw [if_neg (fun h=>h2 h.symm)] at n5
   rw [if_pos h1.symm] at hp
   cases hp
   have:=lt ss n5 EX
   show w.heap.size≠_
   omega
  ·rw [if_neg h1] at hx
   rw [if_neg (fun h=>h1 h.symm)] at hp
   by_cases h2:nk=k'
   ·rw [if_pos h2.symm] at n5
    cases n5
    have:=lt hx hp s5
    show _≠w.heap.size
    omega
   ·rw [if_neg h2] at ss
    rw [if_neg (fun h=>h2 h.symm)] at n5
    exact g.rep.ne k k' x x' pl iB eE hx ss hp n5 s5 EX
 ·intro k x pl hx hp hc
  rw [bd] at hx
  simp only [cl] at hp
  by_cases h1:nk=k
  ·rw [if_pos h1.symm] at hp
   cases hp
   exact .inr g.fr.size
  ·rw [if_neg h1] at hx
   rw [if_neg (fun h=>h1 h.symm)] at hp
   exact g.own k x pl hx hp hc
 ·simp only [cl]
  rw [if_neg (by omega)]
  exact g.A9 k ld
end Go.Ab
namespace Go.Ab
def aX:List Prop→Prop
 | []=>True
 | p :: ps=>p∧aX ps
theorem aX.app {a b:List Prop} (h:aX (a ++ b)):aX a∧aX b:=by
 induction a with
 | nil=>exact ⟨trivial,h⟩
 | cons p ps ih=>exact ⟨⟨h.1,(ih h.2).1⟩,(ih h.2).2⟩
def AV.strip:AV→AV×List Prop
 | .when b x=>(x.strip.1,(b=true) :: x.strip.2)
 | x=>(x,[])
theorem ar.strip {w:World} {S:Nat→Prop} {μ:Mu} {v:Value} {x:AV} (h:ar w S μ v x):aX x.strip.2→ar w S μ v x.strip.1:=by
 induction h with
 | when h1 _ ih=>exact fun hp=>ih hp.1 hp.2
 | atom v=>exact fun _=>.atom v
 | agg h1 h2 _=>exact fun _=>.agg h1 h2
 | tup h1 h2 _=>exact fun _=>.tup h1 h2
 | sl b off sz f h1 h2 h3 h4 h5 _=>exact fun _=>.sl b off sz f h1 h2 h3 h4 h5
 | rp b o f h1 h2 h3 _=>exact fun _=>.rp b o f h1 h2 h3
 | op pl h=>exact fun _=>.op pl h
 | os pl h h1 h2 h3=>exact fun _=>.os pl h h1 h2 h3
 | fn h1 h2 h3 h4 _ _=>exact fun _=>.fn h1 h2 h3 h4
 | mp pl h=>exact fun _=>.mp pl h
 | bn b h=>exact fun _=>.bn b h
 | pt h1 h2 _=>exact fun _=>.pt h1 h2
 | ov pl h h1=>exact fun _=>.ov pl h h1
 | Cd pl h h1 h2=>exact fun _=>.Cd pl h h1 h2
 | nq h h1 h2 _=>exact fun _=>.nq h h1 h2
 | nil=>exact fun _=>.nil
 | mU=>exact fun _=>.mU
 | mr=>exact fun _=>.mr
def AV.one:AV→Bool
 | .atom v=>match v with
  | .agg _ | .tuple _=>false
  | _=>true
 | .sl _ _ | .rp _ _ | .op _ _ _ | .os _ _ _ | .fn _ _ _ | .mp _ | .bn _ | .pt _ _ | .nil=>true
 | .nq _ x=>x.one
 | _=>false
theorem ar.IQ {w:World} {S:Nat→Prop} {μ:Mu} {v:Value} {x:AV} (h:ar w S μ v x) (hx:x.one=true):v.oneCell'=true:=by
 induction h with
 | atom v=>cases v<;>simp_all [AV.one,Value.oneCell']
 | nq _ _ _ ih=>exact ih (by simpa [AV.one] using hx)
 | @pt μ b cs v h1 h2 _ =>
  cases b with
  | false=>rw [h2 rfl];rfl
  | true=>have:=h1 rfl;cases this;rfl
 | _=>first | rfl | (simp [AV.one] at hx;done)
def AV.ko:List AV→Bool
 | []=>true
 | c :: cs=>c.one && AV.ko cs
theorem EY {cs:List AV} (h:AV.ko cs=true) {j:Nat} {c:AV} (hc:cs[j]?=some c):c.one=true:=by
 induction cs generalizing j with
 | nil=>simp at hc
 | cons x xs ih =>
  simp only [AV.ko,a9] at h
  cases j with
  | zero=>simp at hc;exact hc ▸ h.1
  | succ j=>exact ih h.2 (by simpa using hc)
def AV.cells:AV→Option (List AV)
 | .agg cs=>some cs
 | .atom v=>match v with
  | .agg _ | .tuple _=>none
  | v=>some [.atom v]
 | .sl n g=>some [.sl n g]
 | .rp c o=>some [.rp c o]
 | .op k i j=>some [.op k i j]
 | .os k o n=>some [.os k o n]
 | .fn f a b=>some [.fn f a b]
 | .mp k=>some [.mp k]
 | .bn n=>some [.bn n]
 | .pt b cs=>some [.pt b cs]
 | .nq st x=>match x.one with
  | true=>some [.nq st x]
  | false=>none
 | .nil=>some [.nil]
 | _=>none
theorem O2 {v:Value} (h:v.oneCell'=true):v.cells=#[v]:=by
 cases v<;>simp_all [Value.oneCell',Value.cells]
theorem ar.cells {w:World} {S:Nat→Prop} {μ:Mu} {v:Value} {x:AV} (h:ar w S μ v x) {cs:List AV} (hc:x.cells=some cs) :
  v.cells.size=cs.length∧∀ (j:Nat) (c:AV) (u:Value),cs[j]?=some c→v.cells[j]?=some u→ar w S μ u c:=by
 have one:∀ {x:AV},ar w S μ v x→x.one=true→cs=[x]→v.cells.size=cs.length∧∀ (j:Nat) (c:AV) (u:Value),cs[j]?=some c→v.cells[j]?=some u→ar w S μ u c:=by
  intro x h h1 h2
  rw [O2 (h.IQ h1),h2]
  refine ⟨rfl,?_⟩
  intro j c u hj hu
  cases j with
  | zero=>simp at hj hu;exact hj ▸ hu ▸ h
  | succ j=>simp at hj
 cases x with
 | agg l =>
  cases hc
  cases h with
  | agg h1 h2=>exact ⟨h1,fun j c u hj hu=>h2 j c u hj hu⟩
 | atom u =>
  have hu:(AV.atom u).one=true:=by cases u<;>simp_all [AV.cells,AV.one]
  exact one h hu (by cases u<;>simp_all [AV.cells])
 | sl=>exact one h rfl (by simpa [AV.cells] using hc.symm)
 | rp=>exact one h rfl (by simpa [AV.cells] using hc.symm)
 | op=>exact one h rfl (by simpa [AV.cells] using hc.symm)
 | os=>exact one h rfl (by simpa [AV.cells] using hc.symm)
 | fn=>exact one h rfl (by simpa [AV.cells] using hc.symm)
 | mp=>exact one h rfl (by simpa [AV.cells] using hc.symm)
 | bn=>exact one h rfl (by simpa [AV.cells] using hc.symm)
 | pt=>exact one h rfl (by simpa [AV.cells] using hc.symm)
 | nq st x =>
  simp only [AV.cells] at hc
  split at hc
  ·rename_i h1;exact one h (by simpa [AV.one] using h1) (Option.some.inj hc).symm
  ·cases hc
 | nil=>exact one h rfl (by simpa [AV.cells] using hc.symm)
 | _=>simp [AV.cells] at hc
def fF:Value→AV
 | .slice none 0 0=>.nil
 | .func f vs ws=>if vs.size=0∧ws.size=0 then .fn f [] [] else .atom (.func f vs ws)
 | v=>.atom v
def ofConst:Value→AV
 | .agg vs=>.agg (vs.toList.map fF)
 | .tuple vs=>.tup (vs.toList.map fF)
 | v=>fF v
theorem Au (w:World) (S:Nat→Prop) (μ:Mu) (v:Value):ar w S μ v (fF v):=by
 unfold fF
 split
 ·exact .nil
 ·split
  ·rename_i h
   exact .fn (by simpa using h.1) (by simpa using h.2) (fun j c v hc=>by simp at hc) (fun j c v hc=>by simp at hc)
  ·exact .atom _
 ·exact .atom _
theorem HO (w:World) (S:Nat→Prop) (μ:Mu) (v:Value):ar w S μ v (ofConst v):=by
 have f:∀ (vs:Array Value) (j:Nat) (c:AV) (u:Value),(vs.toList.map fF)[j]?=some c→vs[j]?=some u→ar w S μ u c:=by
  intro vs j c u hc hu
  have hu':vs.toList[j]?=some u:=by simpa using hu
  rw [List.getElem?_map,hu'] at hc
  simp at hc
  exact hc ▸ Au w S μ u
 unfold ofConst
 split
 ·exact .agg (by simp) (f _)
 ·exact .tup (by simp) (f _)
 ·exact Au w S μ _
def ub (P:Program) (t:TypeId):Option Nat:=(P.info? t).map (·.size)
def wv (P:Program) (t:TypeId):Option Nat:=(P.info? t).map (·.bytes)
def su (P:Program) (t:TypeId):Option Value:=(P.info? t).bind (·.zero)
theorem eM {P:Program} {t n:Nat} (h:ub P t=some n) (w:World):(sizeOf t).run P w=.ok n w:=by
 unfold ub at h
 cases hi:P.info? t with
 | none=>simp [hi] at h
 | some i=>simp [hi] at h;simp [sizeOf,typeInfo,hi,h]
theorem HP {P:Program} {t:Nat} {z:Value} (h:su P t=some z) (w:World):(zeroValue t).run P w=.ok z w:=by
 unfold su at h
 cases hi:P.info? t with
 | none=>simp [hi] at h
 | some i=>simp [hi] at h;simp [zeroValue,typeInfo,hi,h]
theorem wx {P:Program} {t n b:Nat} {z:Value} (h:ub P t=some n) (hb:wv P t=some b) (hz:su P t=some z) :
  ∃ i,P.info? t=some i∧i.size=n∧i.bytes=b∧i.zero=some z:=by
 unfold ub at h;unfold wv at hb;unfold su at hz
 cases hi:P.info? t with
 | none=>simp [hi] at h
 | some i=>simp [hi] at h hb hz;exact ⟨i,rfl,h,hb,hz⟩
def VP (op:BinOp) (k:IntKind) (a b:Int):Option (List Prop×AV) :=
 match op with
 | .add=>some ([],.atom (.int k (k.wrap (a+b))))
 | .sub=>some ([],.atom (.int k (k.wrap (a - b))))
 | .mul=>some ([],.atom (.int k (k.wrap (a * b))))
 | .quo=>some ([b≠0],.atom (.int k (k.wrap (a.tdiv b))))
 | .rem=>some ([b≠0],.atom (.int k (a.tmod b)))
 | .and=>some ([],.atom (.int k (k.wrap (BitVec.ofInt k.bits a &&& BitVec.ofInt k.bits b).toNat)))
 | .or=>some ([],.atom (.int k (k.wrap (BitVec.ofInt k.bits a ||| BitVec.ofInt k.bits b).toNat)))
 | .xor=>some ([],.atom (.int k (k.wrap (BitVec.ofInt k.bits a ^^^ BitVec.ofInt k.bits b).toNat)))
 | .andNot=>some ([],.atom (.int k (k.wrap (BitVec.ofInt k.bits a &&& ~~~BitVec.ofInt k.bits b).toNat)))
 | .eql=>some ([],.atom (.bool (a == b)))
 | .neq=>some ([],.atom (.bool (a != b)))
 | .lss=>some ([],.atom (.bool (decide (a < b))))
 | .leq=>some ([],.atom (.bool (decide (a≤b))))
 | .gtr=>some ([],.atom (.bool (decide (a > b))))
 | .geq=>some ([],.atom (.bool (decide (a≥b))))
 | _=>none
def EG (op:BinOp) (k:IntKind) (a b:Int):Option (List Prop×AV) :=
 match op with
 | .shl=>some ([0≤b],.atom (.int k (k.wrap (a * 2 ^ (min b.toNat k.bits)))))
 | .shr=>some ([0≤b],.atom (.int k (a.fdiv (2 ^ (min b.toNat k.bits)))))
 | _=>none
def Be (a b:ByteArray):Bool:=a.toList == b.toList
def VQ (op:BinOp) (a b:ByteArray):Option (List Prop×AV) :=
 match op with
 | .eql=>some ([],.atom (.bool (Be a b)))
 | .neq=>some ([],.atom (.bool (!Be a b)))
 | .lss=>some ([],.atom (.bool (Op.bytesLess a.toList b.toList)))
 | .leq=>some ([],.atom (.bool (Op.bytesLess a.toList b.toList || Be a b)))
 | .gtr=>some ([],.atom (.bool (!(Op.bytesLess a.toList b.toList || Be a b))))
 | .geq=>some ([],.atom (.bool (!Op.bytesLess a.toList b.toList)))
 | .add=>some ([((a.size+b.size:Nat):Int)≤IntKind.i64.max],.atom (.string (a ++ b)))
 | _=>none
def jQ (P:Program) (t:TypeId) (cs:List AV) (off:Nat):Option AV :=
 match P.underlying t,ub P t with
 | some d,some n=>match d.isRow with
  | true=>some (.agg ((cs.drop off).take n))
  | false=>cs[off]?
 | _,_=>none
theorem jR {P:Program} {w:World} {S:Nat→Prop} {μ:Mu} {vs:Array Value} {cs:List AV} (hs:vs.size=cs.length)
  (h:∀ (j:Nat) (c:AV) (v:Value),cs[j]?=some c→vs[j]?=some v→ar w S μ v c) {t off:Nat} {x:AV} (hx:jQ P t cs off=some x)
  (hle:∀ n,ub P t=some n→off+n≤cs.length) :
  ∃ v,(part t vs off).run P w=.ok v w∧ar w S μ v x:=by
 unfold jQ at hx
 cases hu:P.underlying t with
 | none=>simp [hu] at hx
 | some d =>
  cases hn:ub P t with
  | none=>simp [hu,hn] at hx
  | some n =>
   have ae4:=hle n hn
   cases hd:d.isRow with
   | true =>
    simp [hu,hn,hd] at hx
    have L3:(isAgg t).run P w=.ok true w:=by
     unfold isAgg
     rw [bJ,run_underlying hu w]
     cases d<;>simp_all
    refine ⟨.agg (vs.extract off (off+n)),by simp [part,L3,eM hn],?_⟩
    rw [← hx]
    refine .agg (by simp;omega) ?_
    intro j c v hc hv
    have hj:j < n:=by
     have:j < ((cs.drop off).take n).length:=(dd.1 hc).1
     simp at this;omega
    rw [ke,if_pos hj,kc] at hc
    have oM:vs[off+j]?=some v:=by
     rw [Array.getElem?_extract] at hv
     split at hv
     ·exact hv
     ·cases hv
    exact h _ _ _ hc oM
   | false =>
    simp [hu,hn,hd] at hx
    have L3:(isAgg t).run P w=.ok false w:=by
     unfold isAgg
     rw [bJ,run_underlying hu w]
     cases d<;>simp_all
    have fo:off < vs.size:=by rw [hs];exact (dd.1 hx).1
    refine ⟨vs[off],by simp [part,L3,dM fo],?_⟩
    exact h off x _ hx (dM fo)
mutual
def Ck (P:Program):Nat→TypeId→AV→AV→Option Bool
 | 0,_,_,_=>none
 | d+1,t,x,y =>
  match P.underlying t with
  | some .bool=>match x,y with
   | .atom (.bool a),.atom (.bool b)=>some (a == b)
   | _,_=>none
  | some (.int _)=>match x,y with
   | .atom (.int k a),.atom (.int k' b)=>match decide (k=k') with
    | true=>some (a == b)
    | false=>none
   | _,_=>none
  | some .string=>match x,y with
   | .atom (.string a),.atom (.string b)=>some (Be a b)
   | _,_=>none
  | some (.struct fs)=>match x,y with
   | .agg xs,.agg ys=>match P.stoodInHeld t with
    | false=>EZ P d xs ys fs.toList
    | true=>none
   | _,_=>none
  | some (.array n e)=>match x,y,ub P e with
   | .agg xs,.agg ys,some m=>z9 P d e m xs ys 0 n
   | _,_,_=>none
  | _=>none
def EZ (P:Program):Nat→List AV→List AV→List Field→Option Bool
 | _,_,_,[]=>some true
 | 0,_,_,_=>none
 | d+1,xs,ys,f :: fs =>
  match decide (f.name = "_"),ub P f.type with
  | false,some n=>match Nat.ble (f.offset+n) xs.length && Nat.ble (f.offset+n) ys.length,jQ P f.type xs f.offset,jQ P f.type ys f.offset with
   | true,some a,some b=>match Ck P d f.type a b,EZ P d xs ys fs with
    | some p,some q=>some (p && q)
    | _,_=>none
   | _,_,_=>none
  | _,_=>none
def z9 (P:Program):Nat→TypeId→Nat→List AV→List AV→Nat→Nat→Option Bool
 | _,_,_,_,_,_,0=>some true
 | 0,_,_,_,_,_,_=>none
 | d+1,e,m,xs,ys,i,n+1 =>
  match Nat.ble (i * m+m) xs.length && Nat.ble (i * m+m) ys.length,jQ P e xs (i * m),jQ P e ys (i * m) with
  | true,some a,some b=>match Ck P d e a b,z9 P d e m xs ys (i+1) n with
   | some p,some q=>some (p && q)
   | _,_=>none
  | _,_,_=>none
end
end Go.Ab
namespace Go.Ab
theorem db {w:World} {S:Nat→Prop} {μ:Mu} {v u:Value} (h:ar w S μ v (.atom u)):v=u:=by cases h;rfl
theorem nL {w:World} {S:Nat→Prop} {μ:Mu} {v:Value} {cs:List AV} (h:ar w S μ v (.agg cs)) :
  ∃ vs:Array Value,v=.agg vs∧vs.size=cs.length∧∀ (j:Nat) (c:AV) (u:Value),cs[j]?=some c→vs[j]?=some u→ar w S μ u c:=by
 cases h with
 | agg h1 h2=>exact ⟨_,rfl,h1,h2⟩
section
variable {P:Program} {w:World} {S:Nat→Prop} {μ:Mu}
theorem Kf {t:TypeId} {fs:Array Field} (h:P.underlying t=some (.struct fs)):P.fieldsOf t=fs:=by
 simp [Program.fieldsOf,h]
theorem Kg:∀ d:Nat,
  (∀ D t x y v u b,d≤D→ar w S μ v x→ar w S μ u y→Ck P d t x y=some b→(Op.equalIn D t v u).run P w=.ok b w) ∧
  (∀ D (vs us:Array Value) xs ys fs b,d≤D→vs.size=xs.length→(∀ (j:Nat) c z,xs[j]?=some c→vs[j]?=some z→ar w S μ z c)→us.size=ys.length →
   (∀ (j:Nat) c z,ys[j]?=some c→us[j]?=some z→ar w S μ z c)→EZ P d xs ys fs=some b→(Op.eqFields D vs us fs).run P w=.ok b w) ∧
  (∀ D (vs us:Array Value) e m xs ys i n b,d≤D→ub P e=some m→vs.size=xs.length→(∀ (j:Nat) c z,xs[j]?=some c→vs[j]?=some z→ar w S μ z c)→us.size=ys.length →
   (∀ (j:Nat) c z,ys[j]?=some c→us[j]?=some z→ar w S μ z c)→z9 P d e m xs ys i n=some b →
   (forIn (m:=Sem) (List.range' i n) ((none,()):Option Bool×Unit) fun i _=>do
      let p ← part e vs (i * m)
      let q ← part e us (i * m)
      let r ← Op.equalIn D e p q
      if (!r)=true then pure (ForInStep.done (some false,())) else pure (ForInStep.yield (none,()))).run P w=.ok (if b then none else some false,()) w):=by
 intro d
 induction d with
 | zero =>
  refine ⟨fun D t x y v u b _ _ _ h=>by simp [Ck] at h,?_,?_⟩
  ·intro D vs us xs ys fs b _ _ _ _ _ h
   cases fs with
   | nil=>simp [EZ] at h;subst h;simp [Op.eqFields]
   | cons f fs=>simp [EZ] at h
  ·intro D vs us e m xs ys i n b _ _ _ _ _ _ h
   cases n with
   | zero=>simp [z9] at h;subst h;simp
   | succ n=>simp [z9] at h
 | succ d ih =>
  obtain ⟨JZ,J0,ih3⟩:=ih
  refine ⟨?_,?_,?_⟩
  ·intro D t x y v u b hD hx hy h
   obtain ⟨D,rfl⟩:∃ D',D=D'+1:=⟨D - 1,by omega⟩
   simp only [Ck] at h
   split at h
   ·rename_i hu
    split at h
    ·cases hx;cases hy
     simp at h;subst h
     simp [Op.equalIn,run_underlying hu]
    ·cases h
   ·rename_i hu
    split at h
    ·rename_i k a k' b'
     cases hx;cases hy
     by_cases hk:k=k'
     ·simp [hk] at h;subst h
      simp [Op.equalIn,run_underlying hu,hk]
     ·simp [hk] at h
    ·cases h
   ·rename_i hu
    split at h
    ·cases hx;cases hy
     simp at h;subst h
     rw [run_equalIn_string w D t _ _ hu];rfl
    ·cases h
   ·rename_i fs hu
    split at h
    ·split at h
     ·rename_i y8
      obtain ⟨vs,rfl,Hf,Cl⟩:=nL hx
      obtain ⟨us,rfl,J1,G5⟩:=nL hy
      have hf:=Kf hu
      rw [run_equalIn_struct w D t vs us (hf ▸ hu) y8,hf]
      exact J0 D vs us _ _ _ b (by omega) Hf Cl J1 G5 h
     ·cases h
    ·cases h
   ·rename_i n e hu
    split at h
    ·rename_i m hm
     obtain ⟨vs,rfl,Hf,Cl⟩:=nL hx
     obtain ⟨us,rfl,J1,G5⟩:=nL hy
     simp only [Op.equalIn,bJ,run_underlying hu,cO,eM hm]
     rw [Std.Legacy.Range.forIn_eq_forIn_range']
     simp only [Std.Legacy.Range.size,Nat.sub_zero,Nat.add_sub_cancel,Nat.div_one]
     rw [ih3 D vs us e m _ _ 0 n b (by omega) hm Hf Cl J1 G5 h]
     cases b<;>simp
    ·cases h
   ·cases h
  ·intro D vs us xs ys fs b hD Hf Cl J1 G5 h
   cases fs with
   | nil=>simp [EZ] at h;subst h;simp [Op.eqFields]
   | cons f fs =>
    simp only [EZ] at h
    split at h
    ·rename_i n YK hn
     split at h
     ·rename_i a c hle ha hc
      split at h
      ·rename_i p q hp hq
       simp only [a9,Nat.ble_eq] at hle
       have Wy:∀ n',ub P f.type=some n'→f.offset+n'≤xs.length:=fun n' h'=>by rw [hn] at h';cases h';exact hle.1
       have L4:∀ n',ub P f.type=some n'→f.offset+n'≤ys.length:=fun n' h'=>by rw [hn] at h';cases h';exact hle.2
       obtain ⟨v1,r1,x1⟩:=jR Hf Cl ha Wy
       obtain ⟨v2,r2,x2⟩:=jR J1 G5 hc L4
       have e1:=JZ D f.type a c v1 v2 p (by omega) x1 x2 hp
       have e2:=J0 D vs us xs ys fs q (by omega) Hf Cl J1 G5 hq
       have eE:f.name≠ "_":=lz YK
       simp at h;subst h
       simp only [Op.eqFields,if_pos eE,bJ,r1,r2,e1,cO]
       cases p
       ·simp
       ·simp [e2]
      ·cases h
     ·cases h
    ·cases h
  ·intro D vs us e m xs ys i n b hD hm Hf Cl J1 G5 h
   cases n with
   | zero=>simp [z9] at h;subst h;simp
   | succ n =>
    simp only [z9] at h
    split at h
    ·rename_i a c hle ha hc
     split at h
     ·rename_i p q hp hq
      simp only [a9,Nat.ble_eq] at hle
      have Wy:∀ n',ub P e=some n'→i * m+n'≤xs.length:=fun n' h'=>by rw [hm] at h';cases h';exact hle.1
      have L4:∀ n',ub P e=some n'→i * m+n'≤ys.length:=fun n' h'=>by rw [hm] at h';cases h';exact hle.2
      obtain ⟨v1,r1,x1⟩:=jR Hf Cl ha Wy
      obtain ⟨v2,r2,x2⟩:=jR J1 G5 hc L4
      have e1:=JZ D e a c v1 v2 p (by omega) x1 x2 hp
      have e2:=ih3 D vs us e m xs ys (i+1) n q (by omega) hm Hf Cl J1 G5 hq
      simp at h;subst h
      rw [List.range'_succ,List.forIn_cons]
      simp only [bJ,r1,r2,e1,cO]
      cases p
      ·simp
      ·simpa using e2
     ·cases h
    ·cases h
def E2 (o:BinOp) (q:Bool):Option AV :=
 match o with
 | .eql=>some (.atom (.bool q))
 | .neq=>some (.atom (.bool (!q)))
 | _=>none
def Qm:AV→Bool
 | .atom v=>match v with
  | .pointer none=>true
  | _=>false
 | _=>false
def Qn (P:Program) (o:BinOp) (t:TypeId) (x y:AV):Option AV :=
 match P.underlying t,y with
 | some (.slice _),.nil=>match x with
  | .nil=>E2 o true
  | .sl n _ | .os _ _ n=>match o with
   | .eql=>some (.bn n)
   | _=>none
  | _=>none
 | some (.pointer _),y=>match Qm y with
  | true=>match x with
   | .atom v=>match v with
    | .pointer none=>E2 o true
    | _=>none
   | .rp _ _ | .op _ _ _=>E2 o false
   | .pt b _=>E2 o (!b)
   | _=>none
  | false=>none
 | _,_=>none
theorem oj (op:BinOp) (t:TypeId) (x y:Operand) (a b:Value) (h1:a≠.nilIface) (h2:∀ c,a≠.agg c):(eqGuard op t x y a b).run P w=.ok () w:=by
 unfold eqGuard
 cases op<;>simp<;>(cases a<;>simp_all)
theorem Nv {o:BinOp} {t:TypeId} {a b:Option Addr} {l c l' c':Nat} {q:Bool} (h:(Op.equal t (.slice a l c) (.slice b l' c')).run P w=.ok q w) {r:AV} (hr:E2 o q=some r):∃ z,(binOp o t (.slice a l c) (.slice b l' c')).run P w=.ok z w∧ar w S μ z r:=by
 cases o<;>simp only [E2,aD,reduceCtorEq] at hr<;>subst hr
 ·exact ⟨.bool q,by simp only [binOp,bJ,h];rfl,.atom _⟩
 ·exact ⟨.bool (!q),by simp only [binOp,bJ,h];rfl,.atom _⟩
theorem Bf {o:BinOp} {t:TypeId} {a:Option Addr} {q:Bool} (h:(Op.equal t (.pointer a) (.pointer none)).run P w=.ok q w) {r:AV} (hr:E2 o q=some r):∃ z,(binOp o t (.pointer a) (.pointer none)).run P w=.ok z w∧ar w S μ z r:=by
 cases o<;>simp only [E2,aD,reduceCtorEq] at hr<;>subst hr
 ·exact ⟨.bool q,by simp only [binOp,bJ,h];rfl,.atom _⟩
 ·exact ⟨.bool (!q),by simp only [binOp,bJ,h];rfl,.atom _⟩
theorem Wz {op:BinOp} {t:TypeId} {x y:AV} {xo yo:Operand} {v u:Value} (hx:ar w S μ v x) (hy:ar w S μ u y) {r:AV} (h:Qn P op t x y=some r) :
  ∃ z,(do eqGuard op t xo yo v u;binOp op t v u:Sem Value).run P w=.ok z w∧ar w S μ z r:=by
 have gd:∀ (v u:Value),v≠.nilIface→(∀ c,v≠.agg c)→(∃ z,(binOp op t v u).run P w=.ok z w∧ar w S μ z r)→∃ z,(do eqGuard op t xo yo v u;binOp op t v u:Sem Value).run P w=.ok z w∧ar w S μ z r:=by
  intro v u h1 h2 h3
  have hg:=oj (P:=P) (w:=w) op t xo yo v u h1 h2
  simpa only [bJ,hg,cO] using h3
 unfold Qn at h
 split at h
 ·rename_i e ht
  cases hy
  have sl:∀ (a:Option Addr) (l c:Nat),(Op.equal t (.slice a l c) (.slice none 0 0)).run P w=.ok a.isNone w:=by
   intro a l c
   unfold Op.equal Op.maxDepth Op.equalIn
   rw [bJ,run_underlying ht]
   cases a<;>rfl
  split at h
  ·cases hx
   exact gd _ _ (by simp) (by simp) (Nv (sl none 0 0) h)
  ·split at h
   ·cases h
    cases hx with
    | sl b off sz f h1 h2 h3 h4 h5 =>
     rename_i a cap
     refine gd _ _ (by simp) (by simp) ⟨.bool a.isNone,?_,.bn _ fun hn=>?_⟩
     ·simp only [binOp,bJ,sl];rfl
     ·refine Nat.eq_zero_of_not_pos fun h0=>?_
      rw [(h1 h0).1] at hn;cases hn
   ·cases h
  ·split at h
   ·cases h
    cases hx with
    | os pl hm h1 h2 h3 =>
     rename_i cap a
     refine gd _ _ (by simp) (by simp) ⟨.bool a.isNone,?_,.bn _ fun hn=>?_⟩
     ·simp only [binOp,bJ,sl];rfl
     ·refine Nat.eq_zero_of_not_pos fun h0=>?_
      rw [h1 (by omega)] at hn;cases hn
   ·cases h
  ·cases h
 ·rename_i e ht
  split at h
  ·rename_i Nw
   have hu:u=.pointer none:=by
    unfold Qm at Nw
    split at Nw
    ·split at Nw
     ·exact db hy
     ·cases Nw
    ·cases Nw
   subst hu
   have pt:∀ (a:Option Addr),(Op.equal t (.pointer a) (.pointer none)).run P w=.ok a.isNone w:=by
    intro a
    unfold Op.equal Op.maxDepth Op.equalIn
    rw [bJ,run_underlying ht]
    cases a<;>rfl
   split at h
   ·split at h
    ·have:=db hx;subst this
     exact gd _ _ (by simp) (by simp) (Bf (pt none) h)
    ·cases h
   ·cases hx
    exact gd _ _ (by simp) (by simp) (Bf (pt (some _)) h)
   ·cases hx
    exact gd _ _ (by simp) (by simp) (Bf (pt (some _)) h)
   ·rename_i b cs
    cases hx with
    | pt h1 h2 =>
     cases b with
     | true =>
      have:=h1 rfl
      cases this
      exact gd _ _ (by simp) (by simp) (Bf (pt (some _)) h)
     | false =>
      rw [h2 rfl]
      exact gd _ _ (by simp) (by simp) (Bf (pt none) h)
   ·cases h
  ·cases h
 ·cases h
def YL:Option Bool→Bool
 | some b=>b
 | none=>false
theorem VR {op:BinOp} {t e:TypeId} {st:Option Bool} {x:AV} {xo yo:Operand} {v u:Value} (ht:P.underlying t=some (.slice e)) (hx:ar w S μ v (.nq st x)) (hy:ar w S μ u .nil) {n:Nat}
  (hs:∃ a c,v=.slice a n c∧(0 < n→a.isNone=false)) (hn:st=none→0 < n) {r:AV} (h:E2 op (YL st)=some r) :
  ∃ z,(do eqGuard op t xo yo v u;binOp op t v u:Sem Value).run P w=.ok z w∧ar w S μ z r:=by
 obtain ⟨a,c,rfl,ha⟩:=hs
 cases hy
 have hq:a.isNone=YL st:=by
  cases hx with
  | nq _ h1 h2 =>
   cases st with
   | none=>exact ha (hn rfl)
   | some b=>cases b with
    | true=>have:=h1 rfl;injection this with e1;subst e1;rfl
    | false=>have:=h2 rfl;cases a with
     | none=>cases this
     | some a=>rfl
 have hg:=oj (P:=P) (w:=w) op t xo yo (.slice a n c) (.slice none 0 0) (by simp) (by simp)
 have he:(Op.equal t (.slice a n c) (.slice none 0 0)).run P w=.ok (YL st) w:=by
  rw [← hq]
  unfold Op.equal Op.maxDepth Op.equalIn
  rw [bJ,run_underlying ht]
  cases a<;>rfl
 obtain ⟨z,h1,h2⟩:=Nv (S:=S) (μ:=μ) he h
 exact ⟨z,by simpa only [bJ,hg,cO] using h1,h2⟩
def Qo (P:Program) (op:BinOp) (t:TypeId) (x y:AV):Option (List Prop×AV) :=
 match x,y with
 | .atom (.int k a),.atom (.int k' b)=>match op with
  | .shl=>EG .shl k a b
  | .shr=>EG .shr k a b
  | op=>match decide (k=k') with
   | true=>VP op k a b
   | false=>none
 | .atom (.string a),.atom (.string b)=>VQ op a b
 | .atom (.bool _),.atom (.bool _)=>match op with
  | .eql=>(Ck P 1 t x y).map fun b=>([],.atom (.bool b))
  | .neq=>(Ck P 1 t x y).map fun b=>([],.atom (.bool (!b)))
  | _=>none
 | .agg _,.agg _=>match P.eqGuardType P.depth t with
  | false=>match op with
   | .eql=>(Ck P 60 t x y).map fun b=>([],.atom (.bool b))
   | .neq=>(Ck P 60 t x y).map fun b=>([],.atom (.bool (!b)))
   | _=>none
  | true=>none
 | .nq st x,.nil=>match P.underlying t,x with
  | some (.slice _),.sl n _=>(E2 op (YL st)).map fun v=>([st=none→0 < n],v)
  | some (.slice _),.os _ _ n=>(E2 op (YL st)).map fun v=>([st=none→0 < n],v)
  | _,_=>none
 | x,y=>(Qn P op t x y).map fun v=>([],v)
theorem WA {op:BinOp} {t:TypeId} {x y:AV} {xo yo:Operand} {v u:Value} (hx:ar w S μ v x) (hy:ar w S μ u y) {ps:List Prop} {r:AV} (h:Qo P op t x y=some (ps,r)) (hp:aX ps) :
  ∃ z,(do eqGuard op t xo yo v u;binOp op t v u:Sem Value).run P w=.ok z w∧ar w S μ z r:=by
 unfold Qo at h
 split at h
 ·rename_i k a k' b
  have:=db hx;subst this
  have:=db hy;subst this
  have hg:=oj (P:=P) (w:=w) op t xo yo (.int k a) (.int k' b) (by simp) (by simp)
  simp only [bJ,hg,cO]
  have sh:∀ o,(o=.shl∨o=.shr)→EG o k a b=some (ps,r)→∃ z,(binOp o t (.int k a) (.int k' b)).run P w=.ok z w∧ar w S μ z r:=by
   intro o ho h
   rcases ho with rfl | rfl<;>simp only [EG,aD,aA] at h<;>obtain ⟨rfl,rfl⟩:=h <;>
    (have h0:¬ b < 0:=by have:=hp.1;omega)<;>exact ⟨_,by simp [binOp,Op.shift,h0],.atom _⟩
  split at h
  ·exact sh .shl (.inl rfl) h
  ·exact sh .shr (.inr rfl) h
  ·rename_i n1 n2
   split at h
   ·rename_i hk
    have hk:=oJ hk
    subst hk
    cases op<;>simp only [VP,aD,aA,reduceCtorEq] at h <;>
     first
      | exact absurd rfl n1
      | exact absurd rfl n2
      | (obtain ⟨rfl,rfl⟩:=h
         exact ⟨_,by
         first
          | (simp [binOp,Op.intArith];done)
          | (have hb:¬ b=0:=hp.1
             simp [binOp,Op.intDiv,hb];done)
          | (simp [binOp,Op.intBits];done)
          | (simp [binOp,Op.intCmp];done),.atom _⟩)
   ·cases h
 ·rename_i a b
  have:=db hx;subst this
  have:=db hy;subst this
  have hg:=oj (P:=P) (w:=w) op t xo yo (.string a) (.string b) (by simp) (by simp)
  simp only [bJ,hg,cO]
  cases op<;>simp only [VQ,aD,aA,reduceCtorEq] at h<;>obtain ⟨rfl,rfl⟩:=h
  ·have h0:¬ ((a.size+b.size:Nat):Int) > IntKind.i64.max:=by have:=hp.1;omega
   exact ⟨_,by simp only [binOp,Op.stringOp,if_neg h0];rfl,.atom _⟩
  all_goals exact ⟨_,by simp only [binOp,Op.stringOp];rfl,.atom _⟩
 ·rename_i a b
  have:=db hx;subst this
  have:=db hy;subst this
  have hg:=oj (P:=P) (w:=w) op t xo yo (.bool a) (.bool b) (by simp) (by simp)
  simp only [bJ,hg,cO]
  split at h
  ·simp only [aL,aA] at h
   obtain ⟨q,hq,rfl,rfl⟩:=h
   have:=(Kg (w:=w) (S:=S) (μ:=μ) 1).1 10000 t _ _ _ _ q (by omega) hx hy hq
   exact ⟨_,by simp only [binOp,Op.equal,Op.maxDepth,bJ,this];rfl,.atom _⟩
  ·simp only [aL,aA] at h
   obtain ⟨q,hq,rfl,rfl⟩:=h
   have:=(Kg (w:=w) (S:=S) (μ:=μ) 1).1 10000 t _ _ _ _ q (by omega) hx hy hq
   exact ⟨_,by simp only [binOp,Op.equal,Op.maxDepth,bJ,this];rfl,.atom _⟩
  ·cases h
 ·split at h
  ·rename_i TJ
   obtain ⟨vs,rfl,Hf,Cl⟩:=nL hx
   obtain ⟨us,rfl,J1,G5⟩:=nL hy
   have hg:=run_eqGuard_agg (P:=P) w op t xo yo vs us TJ
   simp only [bJ,hg,cO]
   split at h
   ·simp only [aL,aA] at h
    obtain ⟨q,hq,rfl,rfl⟩:=h
    have:=(Kg (w:=w) (S:=S) (μ:=μ) 60).1 10000 t _ _ _ _ q (by omega) hx hy hq
    exact ⟨_,by rw [run_eql_struct,this];rfl,.atom _⟩
   ·simp only [aL,aA] at h
    obtain ⟨q,hq,rfl,rfl⟩:=h
    have:=(Kg (w:=w) (S:=S) (μ:=μ) 60).1 10000 t _ _ _ _ q (by omega) hx hy hq
    exact ⟨_,by rw [run_neq_struct,this];rfl,.atom _⟩
   ·cases h
  ·cases h
 ·split at h
  ·rename_i e n g ht
   simp only [aL,aA] at h
   obtain ⟨q,hq,rfl,rfl⟩:=h
   refine VR ht hx hy (n:=n) ?_ hp.1 hq
   cases hx with
   | nq h0 _ _=>cases h0 with
    | sl b off sz f h1 h2 h3 h4 h5=>exact ⟨_,_,rfl,fun hn=>by rw [(h1 hn).1];rfl⟩
  ·rename_i e k o n ht
   simp only [aL,aA] at h
   obtain ⟨q,hq,rfl,rfl⟩:=h
   refine VR ht hx hy (n:=n) ?_ hp.1 hq
   cases hx with
   | nq h0 _ _=>cases h0 with
    | os pl hm h1 h2 h3=>exact ⟨_,_,rfl,fun hn=>by rw [h1 (by omega)];rfl⟩
  ·cases h
 ·simp only [aL,aA] at h
  obtain ⟨q,hq,rfl,rfl⟩:=h
  exact Wz hx hy hq
def WB (op:UnOp) (x:AV):Option AV :=
 match op,x with
 | .neg,.atom (.int k n)=>some (.atom (.int k (k.wrap (0 - n))))
 | .not,.atom (.bool b)=>some (.atom (.bool (!b)))
 | _,_=>none
theorem YM {op:UnOp} {x:AV} {v:Value} (hx:ar w S μ v x) {r:AV} (h:WB op x=some r):∃ z,(Op.unary op v).run P w=.ok z w∧ar w S μ z r:=by
 unfold WB at h
 split at h<;>cases h<;>(have:=db hx;subst this)
 ·exact ⟨_,by simp [Op.unary,Op.intArith],.atom _⟩
 ·exact ⟨_,by simp [Op.unary],.atom _⟩
def L5 (P:Program) (src dst:TypeId) (x:AV):Option AV :=
 match P.underlying src,P.underlying dst,x with
 | some _,some (.int k),.atom (.int _ n)=>some (.atom (.int k (k.wrap n)))
 | some _,some .string,.atom (.string s)=>some (.atom (.string s))
 | _,_,_=>none
theorem TK {src dst:TypeId} {x:AV} {v:Value} (hx:ar w S μ v x) {r:AV} (h:L5 P src dst x=some r):∃ z,(convert src dst v).run P w=.ok z w∧ar w S μ z r:=by
 unfold L5 at h
 split at h
 ·rename_i h1 h2
  cases h;have:=db hx;subst this
  exact ⟨_,by simp [convert,run_underlying h1,run_underlying h2,Conv.intToInt],.atom _⟩
 ·rename_i h1 h2
  cases h;have:=db hx;subst this
  exact ⟨_,by simp [convert,run_underlying h1,run_underlying h2],.atom _⟩
 ·cases h
end
end Go.Ab
namespace Go.Ab
abbrev rU:=List (Nat×Option Ob)
def Step (P:Program) (E:Env) (nk:Nat) (σ:dp) (S:Nat→Prop) (μ:Mu) (w:World) (s:Sem Value) (val:AV) (upd:rU):Prop :=
 ∃ v w' S' cC,s.run P w=.ok v w'∧Ext w S μ w' S' cC∧Good E (eV σ upd) S' cC w'∧(∀ k,k≠nk→μ k=none→cC k=none)∧ar w' S' cC v val
def RL (w:World) (S:Nat→Prop) (μ:Mu) (vs:Array Value) (cs:List AV):Prop :=
 vs.size=cs.length∧∀ (j:Nat) (c:AV) (v:Value),cs[j]?=some c→vs[j]?=some v→ar w S μ v c
section
variable {P:Program} {E:Env} {nk:Nat} {σ:dp} {S:Nat→Prop} {μ:Mu} {w:World}
theorem Step.pure (g:Good E σ S μ w) {s:Sem Value} {v:Value} {val:AV} (h:s.run P w=.ok v w) (hr:ar w S μ v val):Step P E nk σ S μ w s val [] :=
 ⟨v,w,S,μ,h,Ext.refl w S μ,g,fun _ _ h=>h,hr⟩
theorem RL.mk' {vs:Array Value} {cs:List AV} (h:RL w S μ vs cs):ar w S μ (.agg vs) (.agg cs):=.agg h.1 h.2
theorem RL.pr {vs:Array Value} {cs:List AV} (h:RL w S μ vs cs) {j:Nat} {c:AV} {v:Value} (hc:cs[j]?=some c) (hv:vs[j]?=some v) :
  ar w S (if AV.lD cs then fZ else μ) v c:=by
 split
 ·rename_i hp
  exact (h.2 j c v hc hv).pure (po hp hc) fZ
 ·exact h.2 j c v hc hv
theorem mY {k n:Nat} (pl:Place) (h:n≠k):cl μ k pl n=μ n:=by simp [cl,h]
theorem Step.VS (g:Good E σ S μ w) (hk:μ nk=none) (hm:E.m0≤nk) {s:Sem Value} {vs:Array Value} {T:TypeId} {cs:List AV}
  (h:s.run P w=.ok (.pointer (some ⟨w.heap.size,0,none⟩)) (w.alloc (.cells vs T))) (hl:RL w S μ vs cs) (hz:1≤cs.length) :
  Step P E nk σ S μ w s (.op nk 0 0) [(nk,some ⟨true,cs.length,1,AV.lD cs,fun _=>cs⟩)]:=by
 have ga:=g.alloc hk hm vs T ⟨true,cs.length,1,AV.lD cs,fun _=>cs⟩ 1 (by simp [hl.1]) (aR _) (fun _ _=>rfl) (fun i j x v hi hx hv=>by
  have:i=0:=by simp at hi;exact hi
  subst this
  exact hl.pr hx (by simpa using hv)) (by show cs.length≠0;omega) (fun i=>mX rfl i)
 refine ⟨_,_,_,_,h,ga.1,ga.2,fun k ld hn=>by rw [mY _ ld];exact hn,?_⟩
 have:=ar.op (w:=w.alloc (.cells vs T)) (S:=S) (k:=nk) (i:=0) (j:=0) (μ:=cl μ nk ⟨w.heap.size,1,cs.length⟩) ⟨w.heap.size,1,cs.length⟩ (by simp [cl])
 simpa using this
def IS (P:Program) (nk:Nat) (T:TypeId):Option (AV×rU) :=
 match su P T with
 | some z=>match Nat.ble 1 (z.cells.toList.map fF).length with
  | true=>some (.op nk 0 0,[(nk,some ⟨true,(z.cells.toList.map fF).length,1,AV.lD (z.cells.toList.map fF),fun _=>z.cells.toList.map fF⟩)])
  | false=>none
 | none=>none
theorem xR (vs:Array Value):RL w S μ vs (vs.toList.map fF) :=
 ⟨by simp,fun j c v hc hv=>by
  have hu':vs.toList[j]?=some v:=by simpa using hv
  rw [List.getElem?_map,hu'] at hc
  simp at hc
  exact hc ▸ Au w S μ v⟩
theorem Qp (g:Good E σ S μ w) (hk:μ nk=none) (hm:E.m0≤nk) {T:TypeId} {val:AV} {upd:rU} (h:IS P nk T=some (val,upd)) :
  Step P E nk σ S μ w (Instr.alloc T true (.tuple #[])) val upd:=by
 unfold IS at h
 split at h
 ·rename_i z hz
  split at h
  ·rename_i hb
   cases h
   exact Step.VS g hk hm (vs:=z.cells) (T:=T) (by simp [Instr.alloc,HP hz,newVar,newRow]) (xR _) (Nat.le_of_ble_eq_true hb)
  ·cases h
 ·cases h
def Qq (nk:Nat) (x:AV):Option (AV×rU) :=
 match x.cells with
 | some cs=>match Nat.ble 1 cs.length with
  | true=>some (.op nk 0 0,[(nk,some ⟨true,cs.length,1,AV.lD cs,fun _=>cs⟩)])
  | false=>none
 | none=>none
theorem WC (g:Good E σ S μ w) (hk:μ nk=none) (hm:E.m0≤nk) {T:TypeId} {x:AV} {v:Value} (hx:ar w S μ v x) {val:AV} {upd:rU} (h:Qq nk x=some (val,upd)) :
  Step P E nk σ S μ w (Instr.box T v) val upd:=by
 unfold Qq at h
 split at h
 ·rename_i cs hc
  split at h
  ·rename_i hb
   cases h
   exact Step.VS g hk hm (vs:=v.cells) (T:=T) (by simp [Instr.box,newVar,newRow]) (hx.cells hc) (Nat.le_of_ble_eq_true hb)
  ·cases h
 ·cases h
def o7 (cs:List AV) (off:Nat) (ns:List AV):List AV:=cs.take off ++ (ns ++ cs.drop (off+ns.length))
theorem tl (cs:List AV) (off:Nat) (ns:List AV) (h:off+ns.length≤cs.length) (m:Nat) :
  (o7 cs off ns)[m]?=if off≤m∧m < off+ns.length then ns[m - off]? else cs[m]?:=by
 have h1:(cs.take off).length=off:=by simp;omega
 unfold o7
 by_cases hm:m < off
 ·rw [eH (by omega),ke,if_pos hm,if_neg (by omega)]
 ·rw [gF (by omega),h1]
  by_cases As:m < off+ns.length
  ·rw [eH (by omega),if_pos (by omega)]
  ·rw [gF (by omega),kc,if_neg (by omega)]
   congr 1;omega
theorem om (cs:List AV) (off:Nat) (ns:List AV) (h:off+ns.length≤cs.length):(o7 cs off ns).length=cs.length:=by
 simp [o7];omega
theorem foldl_set (off:Nat):∀ (us:List Value) (s:Nat) (vs:Array Value),
  ((us.zipIdx s).foldl (fun cs x=>cs.setIfInBounds (off+x.2) x.1) vs).size=vs.size ∧
  ∀ m,((us.zipIdx s).foldl (fun cs x=>cs.setIfInBounds (off+x.2) x.1) vs)[m]?=if off+s≤m∧m < off+s+us.length∧m < vs.size then us[m - (off+s)]? else vs[m]?
 | [],s,vs=>⟨rfl,fun m=>by simp;intro h1 h2;omega⟩
 | u :: us,s,vs=>by
  obtain ⟨h1,h2⟩:=foldl_set off us (s+1) (vs.setIfInBounds (off+s) u)
  simp only [List.zipIdx_cons,List.foldl_cons]
  refine ⟨by rw [h1];simp,fun m=>?_⟩
  rw [h2 m]
  simp only [Array.size_setIfInBounds,qI]
  by_cases hm:m < vs.size
  ·by_cases h3:off+s=m
   ·subst h3
    rw [if_neg (by omega),if_pos (by omega)]
    simp [Array.getElem?_setIfInBounds_self_of_lt hm]
   ·by_cases h4:off+(s+1)≤m∧m < off+(s+1)+us.length
    ·rw [if_pos ⟨h4.1,h4.2,hm⟩,if_pos (by omega)]
     rw [show m - (off+s)=(m - (off+(s+1)))+1 by omega]
     simp
    ·rw [if_neg (by omega),if_neg (by omega),Array.getElem?_setIfInBounds_ne (by omega)]
  ·rw [if_neg (by omega),if_neg (by omega)]
   simp [Array.getElem?_eq_none (Nat.le_of_not_lt hm),Array.getElem?_setIfInBounds]
   intro _;omega
theorem RL.o7 {vs us:Array Value} {cs ns:List AV} (h:RL w S μ vs cs) (hu:RL w S μ us ns) {off:Nat} (hle:off+ns.length≤cs.length) :
  RL w S μ (us.zipIdx.foldl (fun cs (c,j)=>cs.setIfInBounds (off+j) c) vs) (o7 cs off ns):=by
 have f:=foldl_set off us.toList 0 vs
 have e:us.zipIdx.foldl (fun cs (c,j)=>cs.setIfInBounds (off+j) c) vs=(us.toList.zipIdx 0).foldl (fun cs x=>cs.setIfInBounds (off+x.2) x.1) vs:=by
  rw [← Array.foldl_toList]
  simp
 rw [e]
 refine ⟨by rw [f.1,h.1,om _ _ _ hle],?_⟩
 intro j c v hc hv
 rw [f.2 j] at hv
 rw [tl _ _ _ hle] at hc
 have hl:=hu.1
 have hs:=h.1
 by_cases hj:off≤j∧j < off+ns.length
 ·rw [if_pos hj] at hc
  rw [if_pos (by simp;omega)] at hv
  exact hu.2 (j - off) c v hc (by simpa using hv)
 ·rw [if_neg hj] at hc
  rw [if_neg (by simp;omega)] at hv
  exact h.2 j c v hc hv
def Aa (place:Nat→Option (Nat×Nat)) (cells:List AV):List (Nat×AV)→Option (List AV)
 | []=>some cells
 | (i,x) :: rest =>
  match place i,x.cells with
  | some (off,size),some ns=>match Nat.beq ns.length size && Nat.ble (off+ns.length) cells.length with
   | true=>Aa place (o7 cells off ns) rest
   | false=>none
  | _,_=>none
theorem Bg (place:Nat→Option (Nat×Nat)):∀ (parts:List (Nat×AV)) (jS:List (Nat×Value)) (vs:Array Value) (cs out:List AV),
  jS.map (·.1)=parts.map (·.1)→(∀ (j:Nat) x y,parts[j]?=some x→jS[j]?=some y→ar w S μ y.2 x.2)→RL w S μ vs cs→Aa place cs parts=some out →
  ∃ us,Instr.fill place vs jS=some us∧RL w S μ us out
 | [],jS,vs,cs,out,hi,_,h,hf=>by
  simp at hi;subst hi
  simp [Aa] at hf;subst hf
  exact ⟨vs,rfl,h⟩
 | (i,x) :: rest,jS,vs,cs,out,hi,hr,h,hf=>by
  obtain ⟨⟨i',v⟩,YN,rfl⟩:∃ a b,jS=a :: b:=by
   cases jS with
   | nil=>simp at hi
   | cons a b=>exact ⟨a,b,rfl⟩
  simp at hi
  obtain ⟨rfl,hi⟩:=hi
  have hv:ar w S μ v x:=hr 0 (i',x) (i',v) rfl rfl
  simp only [Aa] at hf
  split at hf
  ·rename_i off size ns hp hc
   split at hf
   ·rename_i hb
    simp only [a9,Nat.ble_eq] at hb
    have nJ:=bp hb.1
    have Tn:=hv.cells hc
    obtain ⟨us,h1,h2⟩:=Bg place rest YN _ _ out hi (fun j x y hx hy=>hr (j+1) x y (by simpa using hx) (by simpa using hy)) (h.o7 ⟨Tn.1,Tn.2⟩ hb.2) hf
    refine ⟨us,?_,h2⟩
    have c1:¬ v.cells.size≠size:=by rw [Tn.1];omega
    have c2:¬ off+v.cells.size > vs.size:=by rw [Tn.1,h.1];omega
    simp only [Instr.fill,hp]
    rw [if_neg (by simp only [Bool.or_eq_true,decide_eq_true_eq,not_or];exact ⟨c1,c2⟩)]
    exact h1
   ·cases hf
  ·cases hf
def IT (P:Program) (t:TypeId) (parts:List (Nat×AV)):Option AV :=
 match su P t,P.underlying t with
 | some z,some (.struct fs)=>match fs.toList.mapM fun f=>(ub P f.type).map fun n=>(f.offset,n) with
  | some L6=>(Aa (L6[·]?) (z.cells.toList.map fF) parts).map .agg
  | none=>none
 | some z,some (.array _ e)=>match ub P e with
  | some n=>(Aa (fun i=>some (i * n,n)) (z.cells.toList.map fF) parts).map .agg
  | none=>none
 | _,_=>none
theorem Qr {t:TypeId} {parts:List (Nat×AV)} {jS:Array (Nat×Value)} (hi:jS.toList.map (·.1)=parts.map (·.1))
  (hr:∀ (j:Nat) x y,parts[j]?=some x→jS.toList[j]?=some y→ar w S μ y.2 x.2) {r:AV} (h:IT P t parts=some r) :
  ∃ v,(Instr.build t jS).run P w=.ok v w∧ar w S μ v r:=by
 unfold IT at h
 split at h
 ·rename_i z fs hz hu
  split at h
  ·rename_i L6 hp
   simp only [aL] at h
   obtain ⟨out,ho,rfl⟩:=h
   obtain ⟨us,h1,h2⟩:=Bg (w:=w) (S:=S) (μ:=μ) _ parts jS.toList z.cells _ out hi hr (xR _) ho
   refine ⟨.agg us,run_build w t jS us ?_,h2.mk'⟩
   have L7:=hz
   unfold su at L7
   cases hi:P.info? t with
   | none=>simp [hi] at L7
   | some i =>
    simp [hi] at L7
    unfold Program.built
    have n5:fs.toList.mapM (fun f=>(P.info? f.type).map fun i=>(f.offset,i.size))=some L6:=by
     rw [← hp];congr 1;funext f;simp [ub,Function.comp_def]
    simp [hi,hu,L7,n5,h1]
  ·cases h
 ·rename_i z n e hz hu
  split at h
  ·rename_i n' hn
   simp only [aL] at h
   obtain ⟨out,ho,rfl⟩:=h
   obtain ⟨us,h1,h2⟩:=Bg (w:=w) (S:=S) (μ:=μ) _ parts jS.toList z.cells _ out hi hr (xR _) ho
   refine ⟨.agg us,run_build w t jS us ?_,h2.mk'⟩
   have L7:=hz
   unfold su at L7
   unfold ub at hn
   cases hi:P.info? t with
   | none=>simp [hi] at L7
   | some i =>
    simp [hi] at L7
    cases he:P.info? e with
    | none=>simp [he] at hn
    | some ie =>
     simp [he] at hn
     subst hn
     unfold Program.built
     simp [hi,hu,L7,he,h1]
  ·cases h
 ·cases h
end
end Go.Ab
namespace Go.Ab
section
variable {P:Program} {E:Env} {nk:Nat} {σ:dp} {S:Nat→Prop} {μ:Mu} {w:World}
theorem Step.Qs (g:Good E σ S μ w) (hk:μ nk=none) (hm:E.m0≤nk) {s:Sem Value} {vs:Array Value} {T:TypeId} {len cap sz:Nat} {pr:Bool} {get:Nat→List AV}
  (h:s.run P w=.ok (.slice (some ⟨w.heap.size,0,none⟩) len cap) (w.alloc (.cells vs T))) (rT:cap * sz≤vs.size) (hlen:len≤cap)
  (pT:∀ i,i < len→(get i).length=sz)
  (xE:∀ i j x v,i < len→(get i)[j]?=some x→vs[i * sz+j]?=some v→ar w S (if pr then fZ else μ) v x) (Cj:sz≠0) (O0:∀ i,rowOf ⟨false,sz,len,pr,get⟩ i=none) :
  Step P E nk σ S μ w s (.os nk 0 len) [(nk,some ⟨false,sz,len,pr,get⟩)]:=by
 have ga:=g.alloc hk hm vs T ⟨false,sz,len,pr,get⟩ cap rT hlen pT xE Cj O0
 refine ⟨_,_,_,_,h,ga.1,ga.2,fun k ld hn=>by rw [mY _ ld];exact hn,?_⟩
 exact ar.os ⟨w.heap.size,cap,sz⟩ (by simp [cl]) (by simp) hlen (by simp)
def AV.TL:AV→Bool
 | .mr _ _ _=>true
 | _=>false
def mL:List AV→Bool
 | []=>true
 | c :: cs=>!c.TL && mL cs
theorem HQ:∀ {cs:List AV},mL cs=true→∀ c∈cs,c.TL=false
 | [],_,c,h=>by simp at h
 | a :: cs,h,c,hc=>by
  simp only [mL,a9,Bool.not_eq_true'] at h
  rcases jq.1 hc with rfl | hc
  ·exact h.1
  ·exact HQ h.2 c hc
theorem L8 (v:Value):(fF v).TL=false:=by
 unfold fF
 split
 ·rfl
 ·split<;>rfl
 ·rfl
theorem xS {o:Ob} {l:List AV} (h:∀ i,i < o.len→∀ c∈o.get i,c∈l) (hl:∀ c∈l,c.TL=false) (i:Nat):rowOf o i=none:=by
 cases hr:rowOf o i with
 | none=>rfl
 | some x =>
  obtain ⟨_,h1,h2⟩:=di hr
  have:=hl _ (h i h1 (.mr x.1 x.2.1 x.2.2) (by rw [h2];exact List.mem_cons_self))
  cases this
theorem pU {o:Ob} (h:∀ i,i < o.len→AV.ko (o.get i)=true) (i:Nat):rowOf o i=none:=by
 cases hr:rowOf o i with
 | none=>rfl
 | some x =>
  obtain ⟨_,h1,h2⟩:=di hr
  have:=h i h1
  rw [h2] at this
  cases this
def mj (P:Program) (t:TypeId):Option TypeId :=
 match P.underlying t with
 | some (.slice e)=>some e
 | _=>none
theorem kH {t e:TypeId} (h:mj P t=some e):P.underlying t=some (.slice e):=by
 unfold mj at h
 split at h
 ·cases h;assumption
 ·cases h
def rows (n:Nat):Nat→List AV→List (List AV)
 | 0,_=>[]
 | k+1,cs=>cs.take n :: rows n k (cs.drop n)
theorem Kh (n:Nat):∀ (k:Nat) (cs:List AV) (i:Nat),i < k→(rows n k cs)[i]?=some ((cs.drop (i * n)).take n)
 | 0,_,i,h=>by omega
 | k+1,cs,0,_=>by simp [rows]
 | k+1,cs,i+1,h=>by
  simp only [rows,Bd]
  rw [Kh n k (cs.drop n) i (by omega),List.drop_drop]
  congr 3
  rw [cb];omega
theorem Cm (n k:Nat) (cs:List AV) (i:Nat) (h:i < k):(rows n k cs).getD i []=(cs.drop (i * n)).take n:=by
 rw [eh,Kh n k cs i h];rfl
def DC (z:List AV):Nat→List AV
 | 0=>[]
 | k+1=>z ++ DC z k
theorem wy (z:List AV):∀ k,(DC z k).length=k * z.length
 | 0=>by simp [DC]
 | k+1=>by simp [DC,wy z k,cb];omega
theorem HR (z:List AV) (hz:z.length≠0):∀ (k j:Nat),j < k * z.length→(DC z k)[j]?=z[j % z.length]?
 | 0,j,h=>by simp at h
 | k+1,j,h=>by
  simp only [DC]
  by_cases hj:j < z.length
  ·rw [eH hj,Nat.mod_eq_of_lt hj]
  ·rw [gF (by omega),HR z hz k (j - z.length) (by rw [cb] at h;omega)]
   congr 1
   conv=>rhs;rw [show j=(j - z.length)+z.length by omega]
   simp
theorem Qt {z:Value} {n:Nat} (hz:z.cells.size=n) (hn:n≠0) (k:Nat) (c:Array Value) (hc:c=(Array.range (k * n)).map (z.cells[· % z.cells.size]!)) :
  RL w S μ c (DC (z.cells.toList.map fF) k):=by
 subst hc
 have hl:(z.cells.toList.map fF).length=n:=by simp [hz]
 refine ⟨by simp [wy,hz],?_⟩
 intro j x v hx hv
 have hj:j < k * n:=by
  have:=(Array.getElem?_eq_some_iff.1 hv).1
  simpa using this
 rw [HR _ (by omega) k j (by rw [hl];exact hj),hl] at hx
 have fo:j % n < z.cells.size:=by rw [hz];exact Nat.mod_lt _ (by omega)
 have oM:v=z.cells[j % n]:=by
  simp only [Array.getElem?_map] at hv
  rw [Array.getElem?_range,if_pos hj] at hv
  simp at hv
  rw [← hv,hz]
  simp [getElem!_pos,fo]
 refine (xR (w:=w) (S:=S) (μ:=μ) z.cells).2 (j % n) x v hx ?_
 rw [oM]
 exact dM fo
def wz (P:Program) (nk:Nat) (t:TypeId) (len:Nat) (parts:List (Nat×AV)):Option (AV×rU) :=
 match mj P t with
 | some e=>match ub P e,wv P e,su P e with
  | some n,some _,some z=>match Nat.ble 1 (len * n) && Nat.ble (len * n) 16777216 && Nat.beq z.cells.size n with
   | true=>match Aa (fun i=>some (i * n,n)) (DC (z.cells.toList.map fF) len) parts with
    | some cs=>match mL cs with
     | true=>some (.os nk 0 len,[(nk,some ⟨false,n,len,AV.lD cs,fun i=>(rows n len cs).getD i []⟩)])
     | false=>none
    | none=>none
   | false=>match Nat.beq len 0 && Nat.ble 1 n with
    | true=>some (.os nk 0 0,[(nk,some ⟨false,n,0,true,fun _=>[]⟩)])
    | false=>none
  | _,_,_=>none
 | none=>none
theorem DW {t e:TypeId} {n:Nat} (he:P.underlying t=some (.slice e)) (hn:ub P e=some n) (w:World) :
  (Instr.buildSlice t 0 #[]).run P w=.ok (.slice (some ⟨w.heap.size,0,none⟩) 0 0) (w.alloc (.cells #[] e)):=by
 simp [Instr.buildSlice,run_underlying he,eM hn,Instr.fill,newRow,Array.range_zero']
theorem Hg (g:Good E σ S μ w) (hk:μ nk=none) (hm:E.m0≤nk) {t:TypeId} {len:Nat} {parts:List (Nat×AV)} {jS:Array (Nat×Value)} (hi:jS.toList.map (·.1)=parts.map (·.1))
  (hr:∀ (j:Nat) x y,parts[j]?=some x→jS.toList[j]?=some y→ar w S μ y.2 x.2) {val:AV} {upd:rU} (h:wz P nk t len parts=some (val,upd)) (YO:len=0→parts=[]) :
  Step P E nk σ S μ w (Instr.buildSlice t len jS) val upd:=by
 unfold wz at h
 split at h
 ·rename_i e he
  have he:=kH he
  split at h
  ·rename_i n b z hn hb hz
   split at h
   ·rename_i xT
    simp only [a9,Nat.ble_eq] at xT
    have Yg:=bp xT.2
    split at h
    ·rename_i cs WD
     split at h
     case h_2=>cases h
     rename_i hmr
     cases h
     have L9:n≠0:=by rintro rfl;simp at xT
     have Ki:=Qt (w:=w) (S:=S) (μ:=μ) Yg L9 len _ rfl
     obtain ⟨us,h1,h2⟩:=Bg (w:=w) (S:=S) (μ:=μ) _ parts jS.toList _ _ cs hi hr Ki WD
     obtain ⟨ie,Cn,kj,hby,P3⟩:=wx hn hb hz
     subst kj
     have iX:=run_buildSlice w t e len jS us ie z he Cn P3 (by omega) (by omega) h1
     have hlen:us.size=len * ie.size:=by
      have:=h2.1
      have hf:∀ (parts:List (Nat×AV)) (cs out:List AV),Aa (fun i=>some (i * ie.size,ie.size)) cs parts=some out→out.length=cs.length:=by
       intro parts
       induction parts with
       | nil=>intro cs out h;simp [Aa] at h;rw [h]
       | cons p ps ih =>
        intro cs out h
        simp only [Aa] at h
        split at h
        ·split at h
         ·rename_i ho
          simp only [a9,Nat.ble_eq] at ho
          rw [ih _ _ h,om _ _ _ ho.2]
         ·cases h
        ·cases h
      rw [this,hf _ _ _ WD,wy];simp [Yg]
     refine Step.Qs g hk hm iX (by rw [hlen];exact aR _) (aR _) ?_ ?_ L9 (xS (l:=cs) (fun i hi c hc=>by
      have hc:c∈(rows ie.size len cs).getD i []:=hc
      rw [Cm _ _ _ _ hi] at hc
      exact List.mem_of_mem_drop (List.mem_of_mem_take hc)) (HQ hmr))
     ·intro i hi
      rw [Cm _ _ _ _ hi]
      have:=h2.1
      have:(i+1) * ie.size≤len * ie.size:=dB _ hi
      rw [cb] at this
      simp;omega
     ·intro i j x v hi hx hv
      rw [Cm _ _ _ _ hi,ke] at hx
      split at hx
      ·rw [kc] at hx
       exact h2.pr hx hv
      ·cases hx
    ·cases h
   ·split at h
    ·rename_i Ki
     cases h
     simp only [a9,Nat.ble_eq] at Ki
     obtain ⟨Ki,G6⟩:=Ki
     have:=bp Ki
     subst this
     have YO:=YO rfl
     subst YO
     have:jS=#[]:=by
      have:jS.toList=[]:=by simpa using hi
      exact Array.toList_eq_nil_iff.1 this
     subst this
     exact Step.Qs g hk hm (DW he hn w) (by simp) (aR _) (fun i hi=>absurd hi (dN _)) (fun i j x v hi=>absurd hi (dN _)) (by omega) (fun i=>rfl)
    ·cases h
  ·cases h
 ·cases h
def Ma (P:Program) (nk:Nat) (t:TypeId) (l c:AV):Option (List Prop×AV×rU) :=
 match mj P t,l,c with
 | some e,.atom (.int _ l),.atom (.int _ c)=>match ub P e,wv P e,su P e with
  | some n,some b,some z=>match Nat.ble 1 n && Nat.beq z.cells.size n with
   | true=>some ([0≤l,l≤c,(b:Int) * c≤281474976710656,c≤9223372036854775807],.os nk 0 l.toNat,
     [(nk,some ⟨false,n,l.toNat,AV.lD (z.cells.toList.map fF),fun _=>z.cells.toList.map fF⟩)])
   | false=>none
  | _,_,_=>none
 | _,_,_=>none
theorem TM (g:Good E σ S μ w) (hk:μ nk=none) (hm:E.m0≤nk) {t:TypeId} {l c:AV} {vl vc:Value} (hl:ar w S μ vl l) (hc:ar w S μ vc c)
  {ps:List Prop} {val:AV} {upd:rU} (h:Ma P nk t l c=some (ps,val,upd)) (hp:aX ps) :
  Step P E nk σ S μ w (Instr.makeSlice t vl vc) val upd:=by
 unfold Ma at h
 split at h
 ·rename_i e k l k' c he
  have he:=kH he
  have:=db hl;subst this
  have:=db hc;subst this
  split at h
  ·rename_i n b z hn hb hz
   split at h
   ·rename_i xT
    cases h
    simp only [a9,Nat.ble_eq] at xT
    have Yg:=bp xT.2
    obtain ⟨h1,h2,h3,h4,_⟩:=hp
    obtain ⟨ie,Cn,kj,hby,P3⟩:=wx hn hb hz
    subst kj hby
    have iX:=run_make (P:=P) w t e ie z he Cn P3 k k' l c h1 h2 h3 h4
    refine Step.Qs g hk hm iX (by rw [size_madeCells];exact aR _) (by omega) (fun _ _=>by simp [Yg]) ?_ (by omega) (xS (l:=z.cells.toList.map fF) (fun _ _ c hc=>hc) (fun c hc=>by
     obtain ⟨v,_,rfl⟩:=List.mem_map.1 hc
     exact L8 v))
    intro i j x v hi hx hv
    have hj:j < ie.size:=by
     have:=(dd.1 hx).1
     simpa [Yg] using this
    have oM:z.cells[j]?=some v:=by
     unfold madeCells at hv
     simp only [Array.getElem?_map] at hv
     have fo:i * ie.size+j < c.toNat * ie.size:=by
      have:(i+1) * ie.size≤c.toNat * ie.size:=dB _ (by omega)
      rw [cb] at this
      omega
     rw [Array.getElem?_range,if_pos fo] at hv
     simp only [Option.map_some,aD] at hv
     rw [Yg,oL i,Nat.mul_add_mod,Nat.mod_eq_of_lt hj] at hv
     have hjz:j < z.cells.size:=by omega
     rw [dM hjz]
     rw [getElem!_pos z.cells j hjz] at hv
     exact congrArg some hv
    exact (xR (w:=w) (S:=S) (μ:=μ) z.cells).pr hx oM
   ·cases h
  ·cases h
 ·cases h
def TN (agg:Bool) (n:Nat) (cs:List AV) (j:Nat):Option AV :=
 match Nat.ble (j+n) cs.length with
 | true=>match agg with
  | true=>some (.agg ((cs.drop j).take n))
  | false=>cs[j]?
 | false=>none
theorem EH {T:TypeId} {d:TypeDesc} {n:Nat} (hu:P.underlying T=some d) (hn:ub P T=some n) {cs:List AV} {j:Nat} {x:AV} (h:TN d.isRow n cs j=some x) (b o:Nat)
  (f:Nat→Value) (hc:∀ i,i < cs.length→w.cell? ⟨b,o+i,none⟩=some (f i)) (hr:∀ (i:Nat) c,cs[i]?=some c→ar w S μ (f i) c) :
  ∃ v,(Instr.loadAt T (.pointer (some ⟨b,o+j,none⟩))).run P w=.ok v w∧ar w S μ v x:=by
 unfold TN at h
 split at h
 ·rename_i hle
  simp only [Nat.ble_eq] at hle
  cases hd:d.isRow with
  | true =>
   simp [hd] at h
   have hl:((List.range n).map fun i=>f (j+i)).length=n:=by simp
   refine ⟨.agg ((List.range n).map fun i=>f (j+i)).toArray,run_loadAt_mid w b (o+j) T _ d ?_ hu hd (by simpa [ub] using hn),?_⟩
   ·intro i v hv
    have hi:i < n:=by
     have:=(dd.1 hv).1
     simpa using this
    rw [List.getElem?_map,List.getElem?_range hi] at hv
    simp at hv
    rw [Nat.add_assoc,hc (j+i) (by omega),hv]
   ·rw [← h]
    refine .agg (by simp;omega) ?_
    intro i c v jk hv
    rw [ke] at jk
    split at jk
    ·rename_i hi
     rw [kc] at jk
     simp [List.getElem?_range hi] at hv
     rw [← hv]
     exact hr _ c jk
    ·cases jk
  | false =>
   simp [hd] at h
   have hj:j < cs.length:=(dd.1 h).1
   have L3:(isAgg T).run P w=.ok false w:=by
    unfold isAgg
    rw [bJ,run_underlying hu w]
    cases d<;>simp_all
   refine ⟨f j,?_,hr j x h⟩
   simp [Instr.loadAt,Instr.sureAddr,loadVar,L3,hc j hj]
 ·cases h
def TO (kd:IntKind):AV→Option Int
 | .atom v=>match v with
  | .int k n=>match decide (k=kd) with
   | true=>some n
   | false=>none
  | _=>none
 | _=>none
def Ad (kd:IntKind):Nat→List AV→Option (List Int)
 | 0,_=>some []
 | m+1,c :: cs=>match TO kd c,Ad kd m cs with
  | some a,some r=>some (a :: r)
  | _,_=>none
 | _+1,[]=>none
def HS (l:List Int) (n:Nat):Int:=l.getD n 0
def WE (q t:Nat) (v a:Int):Int:=if q=t then v else a
theorem Nx {kd:IntKind} {c:AV} {a:Int} (h:TO kd c=some a):c=.atom (.int kd a):=by
 unfold TO at h
 split at h
 ·split at h
  ·split at h
   ·rename_i hk
    have:=oJ hk
    cases h;rw [this]
   ·cases h
  ·cases h
 ·cases h
theorem Co {kd:IntKind}:∀ {m:Nat} {cs:List AV} {l:List Int},Ad kd m cs=some l→∀ n,n < m→cs[n]?=some (.atom (.int kd (HS l n)))
 | 0,_,_,_,n,hn=>absurd hn (dN n)
 | m+1,[],_,h,_,_=>by simp [Ad] at h
 | m+1,c :: cs,l,h,n,hn=>by
  simp only [Ad] at h
  split at h
  ·rename_i a r h1 h2
   cases h
   cases n with
   | zero=>simp [HS,Nx h1]
   | succ n =>
    have:=Co h2 n (by omega)
    simpa [HS] using this
  ·cases h
def Ny:AV→Option Bool
 | .atom v=>match v with
  | .bool b=>some b
  | _=>none
 | _=>none
def uJ:Nat→List AV→Option (List Bool)
 | 0,_=>some []
 | m+1,c :: cs=>match Ny c,uJ m cs with
  | some a,some r=>some (a :: r)
  | _,_=>none
 | _+1,[]=>none
def HT (l:List Bool) (n:Nat):Bool:=l.getD n false
def WG (q t:Nat) (v a:Bool):Bool:=if q=t then v else a
theorem Kj {c:AV} {a:Bool} (h:Ny c=some a):c=.atom (.bool a):=by
 unfold Ny at h
 split at h
 ·split at h
  ·cases h;rfl
  ·cases h
 ·cases h
theorem Av:∀ {m:Nat} {cs:List AV} {l:List Bool},uJ m cs=some l→∀ n,n < m→cs[n]?=some (.atom (.bool (HT l n)))
 | 0,_,_,_,n,hn=>absurd hn (dN n)
 | m+1,[],_,h,_,_=>by simp [uJ] at h
 | m+1,c :: cs,l,h,n,hn=>by
  simp only [uJ] at h
  split at h
  ·rename_i a r h1 h2
   cases h
   cases n with
   | zero=>simp [HT,Kj h1]
   | succ n =>
    have:=Av h2 n (by omega)
    simpa [HT] using this
  ·cases h
def xU (P:Program) (σ:dp) (T:TypeId) (a:AV):Option (List Prop×AV×List Nat) :=
 match P.underlying T,ub P T with
 | some d,some n=>match a with
  | .op k i j=>match av σ k with
   | some o=>(TN d.isRow n (o.get i) j).map fun x=>([i < o.len],x,[k])
   | none=>none
  | .rp cs j=>(TN d.isRow n cs j).map fun x=>([],x,[])
  | .ov k i j m q=>match av σ k,d with
   | some o,.int kd=>match Ad kd m ((o.get i).drop j) with
    | some l=>match Nat.beq n 1 with
     | true=>some ([i < o.len],.atom (.int kd (HS l q)),[k])
     | false=>none
    | none=>none
   | some o,.bool=>match uJ m ((o.get i).drop j) with
    | some l=>match Nat.beq n 1 with
     | true=>some ([i < o.len],.atom (.bool (HT l q)),[k])
     | false=>none
    | none=>none
   | _,_=>none
  | _=>none
 | _,_=>none
theorem dh {o:Ob} {pl:Place} {c:Array Value} {T:TypeId} (h:gr w S μ o pl c T) {i j:Nat} (hi:i < o.len) (hj:j < o.sz) :
  ∃ v,c[i * o.sz+j]?=some v∧w.cell? ⟨pl.b7,i * o.sz+j,none⟩=some v:=by
 have fo:i * o.sz+j < c.size:=by
  have h1:(i+1) * o.sz≤pl.cap * o.sz:=dB _ (by have:=h.len;omega)
  have:=h.cap
  rw [cb] at h1
  omega
 exact ⟨c[i * o.sz+j],dM fo,by rw [cell_of_row w _ _ _ _ _ ((h.b7 (by have:=h.len;omega)).trans (by rw [ft (by omega)]))];exact dM fo⟩
theorem hH {v:Value} {x:AV} {pr:Bool} (h:ar w S (if pr then fZ else μ) v x):ar w S μ v x:=by
 refine h.mono (fun _ h=>h) (fun _ _=>rfl) ?_
 cases pr
 ·exact fun _ _ h=>h
 ·exact fun _ _ h=>by cases h
theorem IU (g:Good E σ S μ w) {T:TypeId} {a:AV} {va:Value} (ha:ar w S μ va a) {ps:List Prop} {x:AV} {rd:List Nat} (h:xU P σ T a=some (ps,x,rd)) (hp:aX ps) :
  ∃ v,(Instr.loadAt T va).run P w=.ok v w∧ar w S μ v x:=by
 unfold xU at h
 split at h
 ·rename_i d n hu hn
  split at h
  ·rename_i k i j
   split at h
   ·rename_i o ho
    simp only [aL,aA] at h
    obtain ⟨y,hy,rfl,rfl,rfl⟩:=h
    obtain ⟨pl,c,T',hm,cD⟩:=g.rep.ob k o ho
    have hi:=hp.1
    cases ha with
    | op iB fw =>
     rw [hm] at fw;cases fw
     rw [cD.sz]
     have hlen:=cD.tj i hi
     refine EH hu hn hy pl.b7 (i * o.sz) (fun j=>(c[i * o.sz+j]?).getD undef) ?_ ?_
     ·intro j hj
      obtain ⟨v,h1,h2⟩:=dh cD hi (hlen ▸ hj)
      rw [h2,h1];rfl
     ·intro j cc VT
      obtain ⟨v,h1,h2⟩:=dh cD hi (hlen ▸ (dd.1 VT).1)
      rw [h1]
      exact hH (cD.rep i j cc v hi VT h1)
   ·cases h
  ·rename_i cs j
   simp only [aL,aA] at h
   obtain ⟨y,hy,rfl,rfl,rfl⟩:=h
   cases ha with
   | rp b o f h1 h2 h3 =>
    exact EH hu hn hy b o f h2 (fun i c hc=>(h3 i c hc).mono (fun _ h=>h) (fun _ _=>rfl) (fun _ _ h=>by cases h))
  ·rename_i k i j m q
   split at h
   ·rename_i o kd ho
    split at h
    ·rename_i l hl
     split at h
     ·rename_i G6
      have G6:=bp G6
      simp only [aD,aA] at h
      obtain ⟨rfl,rfl,rfl⟩:=h
      obtain ⟨pl,c,T',hm,cD⟩:=g.rep.ob k o ho
      have hi:=hp.1
      cases ha with
      | ov iB fw hq =>
       rw [hm] at fw;cases fw
       rw [cD.sz]
       have hlen:=cD.tj i hi
       have hy:=Co hl q hq
       rw [kc] at hy
       have To:=(dd.1 hy).1
       have TH:TN (TypeDesc.int kd).isRow n (o.get i) (j+q)=some (.atom (.int kd (HS l q))):=by
        unfold TN
        have:Nat.ble (j+q+n) (o.get i).length=true:=by rw [Nat.ble_eq];omega
        rw [this]
        exact hy
       refine EH hu hn TH pl.b7 (i * o.sz) (fun j=>(c[i * o.sz+j]?).getD undef) ?_ ?_
       ·intro j hj
        obtain ⟨v,h1,h2⟩:=dh cD hi (hlen ▸ hj)
        rw [h2,h1];rfl
       ·intro j cc VT
        obtain ⟨v,h1,h2⟩:=dh cD hi (hlen ▸ (dd.1 VT).1)
        rw [h1]
        exact hH (cD.rep i j cc v hi VT h1)
     ·cases h
    ·cases h
   ·rename_i o ho
    split at h
    ·rename_i l hl
     split at h
     ·rename_i G6
      have G6:=bp G6
      simp only [aD,aA] at h
      obtain ⟨rfl,rfl,rfl⟩:=h
      obtain ⟨pl,c,T',hm,cD⟩:=g.rep.ob k o ho
      have hi:=hp.1
      cases ha with
      | ov iB fw hq =>
       rw [hm] at fw;cases fw
       rw [cD.sz]
       have hlen:=cD.tj i hi
       have hy:=Av hl q hq
       rw [kc] at hy
       have To:=(dd.1 hy).1
       have TH:TN (TypeDesc.bool).isRow n (o.get i) (j+q)=some (.atom (.bool (HT l q))):=by
        unfold TN
        have:Nat.ble (j+q+n) (o.get i).length=true:=by rw [Nat.ble_eq];omega
        rw [this]
        exact hy
       refine EH hu hn TH pl.b7 (i * o.sz) (fun j=>(c[i * o.sz+j]?).getD undef) ?_ ?_
       ·intro j hj
        obtain ⟨v,h1,h2⟩:=dh cD hi (hlen ▸ hj)
        rw [h2,h1];rfl
       ·intro j cc VT
        obtain ⟨v,h1,h2⟩:=dh cD hi (hlen ▸ (dd.1 VT).1)
        rw [h1]
        exact hH (cD.rep i j cc v hi VT h1)
     ·cases h
    ·cases h
   ·cases h
  ·cases h
 ·cases h
end
end Go.Ab
namespace Go.Ab
def bT:Nat→Nat→Nat
 | 0,n=>n
 | m+1,n=>m+1+n
theorem dk (m n:Nat):bT m n=m+n:=by cases m<;>simp [bT]
section
variable {P:Program} {E:Env} {nk:Nat} {σ:dp} {S:Nat→Prop} {μ:Mu} {w:World}
def Ob.put (o:Ob) (i:Nat) (cs:List AV) (pr:Bool):Ob :=
 match o.var with
 | true=>{ o with pr:=o.pr && pr,get:=fun _=>cs }
 | false=>{ o with pr:=o.pr && pr,get:=fun m=>if m=i then cs else o.get m }
def YP (sz:Nat) (cs:List AV) (off:Nat) (ns:List AV):List AV :=
 match Nat.beq ns.length sz with
 | true=>ns
 | false=>o7 cs off ns
theorem Mb {sz:Nat} {cs:List AV} {off:Nat} {ns:List AV} (h:off+ns.length≤sz) (hl:cs.length=sz):YP sz cs off ns=o7 cs off ns:=by
 unfold YP
 split
 ·rename_i hb
  have hb:=bp hb
  have h0:off=0:=by omega
  subst h0
  unfold o7
  rw [List.drop_eq_nil_of_le (by omega)]
  simp
 ·rfl
def ot (P:Program) (σ:dp) (T:TypeId) (a x:AV):Option (List Prop×rU×List Nat) :=
 match a,x.cells,ub P T with
 | .op k i j,some ns,some n=>match av σ k with
  | some o=>match Nat.beq ns.length n && AV.ko ns && Nat.ble (j+n) o.sz && (!o.var || Nat.beq o.len 1) && Nat.ble 1 o.sz with
   | true=>some ([i < o.len],[(k,some (o.put i (YP o.sz (o.get i) j ns) (AV.lD ns)))],[k])
   | false=>none
  | none=>none
 | _,_,_=>none
theorem Cp (g:Good E σ S μ w) {T:TypeId} {a x:AV} {va vx:Value} (ha:ar w S μ va a) (hx:ar w S μ vx x) {ps:List Prop} {upd:rU} {rd:List Nat}
  (h:ot P σ T a x=some (ps,upd,rd)) (hp:aX ps) :
  ∃ w',(Instr.storeAt T va vx).run P w=.ok () w'∧Ext w S μ w' S μ∧Good E (eV σ upd) S μ w':=by
 unfold ot at h
 split at h
 ·rename_i k i j ns n hns hn
  split at h
  ·rename_i o ho
   split at h
   ·rename_i hb
    simp only [aD,aA] at h
    obtain ⟨rfl,rfl,rfl⟩:=h
    simp only [a9,Nat.ble_eq] at hb
    obtain ⟨⟨⟨⟨nJ,lN⟩,P4⟩,TP⟩,hb5⟩:=hb
    have nJ:=bp nJ
    have hi:i < o.len:=hp.1
    obtain ⟨pl,c,T',hm,cD⟩:=g.rep.ob k o ho
    cases ha with
    | op iB fw =>
     rw [hm] at fw;cases fw
     have rT:0 < pl.cap:=by have:=cD.len;omega
     have ua:i * o.sz+o.sz≤c.size:=by
      have h1:(i+1) * o.sz≤pl.cap * o.sz:=dB _ (by have:=cD.len;omega)
      have:=cD.cap
      rw [cb] at h1
      omega
     obtain ⟨WD,hcr⟩:=hx.cells hns
     have Hh:∀ v∈vx.cells.toList,v.oneCell'=true:=by
      intro v hv
      obtain ⟨q,hq⟩:=List.getElem?_of_mem hv
      have fo:q < ns.length:=by
       have:=(dd.1 hq).1
       simp at this;omega
      exact (hcr q _ v (kb fo) (by simpa using hq)).IQ (EY lN (kb fo))
     have y8:=run_storeCells_at P pl.b7 (i * pl.sz+j) T' vx.cells.toList 0 c w ((cD.b7 rT).trans (by rw [ft (by omega)])) (by rw [cD.sz];simp;omega) Hh
     simp only [Nat.add_zero] at y8
     generalize jk:(c.toList.take (i * pl.sz+j) ++ vx.cells.toList ++ c.toList.drop (i * pl.sz+j+vx.cells.toList.length)).toArray=c' at y8
     have xV:(c.toList.take (i * pl.sz+j)).length=i * o.sz+j:=by rw [cD.sz];simp;omega
     have Nz:vx.cells.toList.length=n:=by simp;omega
     have E3:c'.size=c.size:=by
      rw [← jk]
      simp only [List.size_toArray,mK,List.length_drop,Nz,cD.sz]
      simp;omega
     have oa:∀ m,c'[m]?=if i * o.sz+j≤m∧m < i * o.sz+j+n then vx.cells[m - (i * o.sz+j)]? else c[m]?:=by
      intro m
      rw [← jk]
      simp only [List.getElem?_toArray,y7]
      by_cases h1:m < i * o.sz+j
      ·rw [eH (by omega),ke,if_pos (by rw [cD.sz];omega),if_neg (by omega)]
       simp
      ·rw [gF (by omega),xV]
       by_cases h2:m < i * o.sz+j+n
       ·rw [eH (by omega),if_pos (by omega)]
        simp
       ·rw [gF (by omega),if_neg (by omega),kc,Nz,cD.sz]
        simp only [Array.getElem?_toList]
        congr 1;omega
     have VU:=cD.tj i hi
     have P5:∀ (o':Ob),o'.sz=o.sz→o'.len=o.len→o'.var=o.var→o'.pr=(o.pr && AV.lD ns)→(o'.get i=o7 (o.get i) j ns)→(∀ m,m < o.len→m≠i→o'.get m=o.get m) →
       Ext w S μ (w.setRow pl.b7 c') S μ∧Good E (sset σ k o') S μ (w.setRow pl.b7 c'):=by
      intro o' e1 e2 ev e3 e4 e5
      have eE:∀ m q,m≠i→q < o.sz→¬ (i * o.sz+j≤m * o.sz+q∧m * o.sz+q < i * o.sz+j+n):=by
       rintro m q xj hq ⟨h1,h2⟩
       rcases Nat.lt_or_gt_of_ne xj with h3 | h3
       ·have:(m+1) * o.sz≤i * o.sz:=dB _ h3
        rw [cb] at this;omega
       ·have:(i+1) * o.sz≤m * o.sz:=dB _ h3
        rw [cb] at this;omega
      refine g.write ho hm rT cD (by omega) o' c' e1 E3 (by rw [e2];exact cD.len) ?_ ?_ ?_
      rotate_left 2
      ·intro m x hx
       obtain ⟨q1,q2,q3⟩:=di hx
       rw [e2] at q2
       rw [ev] at q1
       rw [oa]
       by_cases xj:m=i
       ·subst xj
        rw [e4] at q3
        cases n with
        | zero =>
         have:ns=[]:=List.eq_nil_of_length_eq_zero nJ
         rw [this] at q3
         refine ⟨kG q1 q2 (by rw [← q3];unfold o7;simp),if_neg (by omega)⟩
        | succ n =>
         have h1:=om (o.get m) j ns (by omega)
         rw [q3] at h1
         have hj0:j=0:=by simp at h1;omega
         have h2:=tl (o.get m) j ns (by omega) 0
         rw [q3,if_pos (by omega)] at h2
         have h3:=EY lN (j:=0 - j) (c:=.mr x.1 x.2.1 x.2.2) (by rw [← h2];rfl)
         cases h3
       ·rw [e5 m q2 xj] at q3
        exact ⟨kG q1 q2 q3,if_neg (eE m 0 xj (by omega))⟩
      ·intro m hm
       rw [e2] at hm
       by_cases xj:m=i
       ·subst xj
        rw [e4,om _ _ _ (by omega),VU,e1]
       ·rw [e5 m hm xj,cD.tj m hm,e1]
      ·intro m q y v hm hy hv
       rw [e2] at hm
       rw [e1,oa] at hv
       rw [e3]
       have hq:q < o.sz:=by
        have:=(dd.1 hy).1
        by_cases xj:m=i
        ·subst xj;rw [e4,om _ _ _ (by omega),VU] at this;exact this
        ·rw [e5 m hm xj,cD.tj m hm] at this;exact this
       have hold:(o.get m)[q]?=some y→c[m * o.sz+q]?=some v→ar w S (if (o.pr && AV.lD ns)=true then fZ else μ) v y:=by
        intro hy hv
        have:=cD.rep m q y v hm hy hv
        cases DD:o.pr
        ·simpa [DD] using this
        ·rw [DD] at this
         split
         ·exact this
         ·exact hH this
       by_cases xj:m=i
       ·subst xj
        rw [e4,tl _ _ _ (by omega)] at hy
        by_cases hjq:j≤q∧q < j+n
        ·rw [if_pos (by omega)] at hy hv
         have oM:vx.cells[q - j]?=some v:=by rw [← hv];congr 1;omega
         have:=hcr (q - j) y v hy oM
         split
         ·rename_i hpp
          simp only [a9] at hpp
          exact this.pure (po hpp.2 hy) fZ
         ·exact this
        ·rw [if_neg (by omega)] at hy hv
         exact hold hy hv
       ·rw [e5 m hm xj] at hy
        rw [if_neg (eE m q xj hq)] at hv
        exact hold hy hv
     refine ⟨w.setRow pl.b7 c',?_,?_⟩
     ·simp only [Instr.storeAt,Instr.sureAddr,bJ,Sem.run_pure,cO,storeVar,eM hn]
      rw [Sem.run_ite,if_neg (by omega)]
      exact y8
     ·show Ext _ _ _ _ _ _∧Good E (sset σ k _) S μ _
      refine P5 _ ?_ ?_ ?_ ?_ ?_ ?_
      ·unfold Ob.put;split<;>rfl
      ·unfold Ob.put;split<;>rfl
      ·unfold Ob.put;split<;>rfl
      ·unfold Ob.put;split<;>rfl
      ·rw [← Mb (by omega) VU];unfold Ob.put;split<;>simp
      ·intro m hm xj
       unfold Ob.put
       split
       ·rename_i Bh
        simp only [Bh,Bool.not_true,Bool.false_or] at TP
        have:=bp TP
        omega
       ·simp [xj]
   ·cases h
  ·cases h
 ·cases h
def O3 (kd:IntKind) (q:Nat) (v:Int):Nat→Nat→List AV→List AV
 | t,m+1,c :: cs=>(match TO kd c with
  | some a=>.atom (.int kd (WE q t v a))
  | none=>c) :: O3 kd q v (t+1) m cs
 | _,_,cs=>cs
theorem Kk {kd:IntKind} {q:Nat} {v:Int}:∀ {m:Nat} {cs:List AV} {l:List Int} (t:Nat),Ad kd m cs=some l→∀ r,(O3 kd q v t m cs)[r]?=if q=t+r∧r < m then some (.atom (.int kd v)) else cs[r]?
 | 0,cs,_,t,_,r=>by cases cs<;>simp [O3]
 | m+1,[],_,_,h,_=>by simp [Ad] at h
 | m+1,c :: cs,l,t,h,r=>by
  simp only [Ad] at h
  split at h
  ·rename_i a r' h1 h2
   cases h
   simp only [O3,h1]
   cases r with
   | zero =>
    simp only [List.getElem?_cons_zero,Nat.add_zero]
    by_cases hq:q=t
    ·rw [if_pos ⟨hq,by omega⟩,WE,if_pos hq]
    ·rw [if_neg (fun h=>hq h.1),WE,if_neg hq,← Nx h1]
   | succ r =>
    simp only [Bd]
    rw [Kk (t+1) h2 r]
    have:(q=t+1+r∧r < m)=(q=t+(r+1)∧r+1 < m+1):=propext (by omega)
    simp only [this]
  ·cases h
def O4 (q:Nat) (v:Bool):Nat→Nat→List AV→List AV
 | t,m+1,c :: cs=>(match Ny c with
  | some a=>.atom (.bool (WG q t v a))
  | none=>c) :: O4 q v (t+1) m cs
 | _,_,cs=>cs
theorem Kl {q:Nat} {v:Bool}:∀ {m:Nat} {cs:List AV} {l:List Bool} (t:Nat),uJ m cs=some l→∀ r,(O4 q v t m cs)[r]?=if q=t+r∧r < m then some (.atom (.bool v)) else cs[r]?
 | 0,cs,_,t,_,r=>by cases cs<;>simp [O4]
 | m+1,[],_,_,h,_=>by simp [uJ] at h
 | m+1,c :: cs,l,t,h,r=>by
  simp only [uJ] at h
  split at h
  ·rename_i a r' h1 h2
   cases h
   simp only [O4,h1]
   cases r with
   | zero =>
    simp only [List.getElem?_cons_zero,Nat.add_zero]
    by_cases hq:q=t
    ·rw [if_pos ⟨hq,by omega⟩,WG,if_pos hq]
    ·rw [if_neg (fun h=>hq h.1),WG,if_neg hq,← Kj h1]
   | succ r =>
    simp only [Bd]
    rw [Kl (t+1) h2 r]
    have:(q=t+1+r∧r < m)=(q=t+(r+1)∧r+1 < m+1):=propext (by omega)
    simp only [this]
  ·cases h
def y9 (P:Program) (σ:dp) (T:TypeId) (a x:AV):Option (List Prop×rU×List Nat) :=
 match a with
 | .ov k i j m q=>match av σ k,x,ub P T with
  | some o,.atom (.int kd v),some n=>match Ad kd m ((o.get i).drop j) with
   | some _=>match Nat.beq n 1 && Nat.ble (j+m) o.sz && Nat.ble (j+m) (o.get i).length && (!o.var || Nat.beq o.len 1) && Nat.ble 1 o.sz with
    | true=>some ([i < o.len],[(k,some (o.put i ((o.get i).take j ++ O3 kd q v 0 m ((o.get i).drop j)) true))],[k])
    | false=>none
   | none=>none
  | some o,.atom (.bool v),some n=>match uJ m ((o.get i).drop j) with
   | some _=>match Nat.beq n 1 && Nat.ble (j+m) o.sz && Nat.ble (j+m) (o.get i).length && (!o.var || Nat.beq o.len 1) && Nat.ble 1 o.sz with
    | true=>some ([i < o.len],[(k,some (o.put i ((o.get i).take j ++ O4 q v 0 m ((o.get i).drop j)) true))],[k])
    | false=>none
   | none=>none
  | _,_,_=>none
 | a=>ot P σ T a x
theorem Qu (g:Good E σ S μ w) {T:TypeId} {a x:AV} {va vx:Value} (ha:ar w S μ va a) (hx:ar w S μ vx x) {ps:List Prop} {upd:rU} {rd:List Nat}
  (h:y9 P σ T a x=some (ps,upd,rd)) (hp:aX ps) :
  ∃ w',(Instr.storeAt T va vx).run P w=.ok () w'∧Ext w S μ w' S μ∧Good E (eV σ upd) S μ w':=by
 unfold y9 at h
 split at h
 ·rename_i k i j m q
  split at h
  ·rename_i o kd v n ho hn
   split at h
   ·rename_i l hl
    split at h
    ·rename_i hb
     simp only [aD,aA] at h
     obtain ⟨rfl,rfl,rfl⟩:=h
     simp only [a9,Nat.ble_eq] at hb
     obtain ⟨⟨⟨⟨nJ,lN⟩,P4⟩,TP⟩,hb5⟩:=hb
     cases ha with
     | ov pl hm hq =>
      have hc:(o.get i).take j ++ O3 kd q v 0 m ((o.get i).drop j)=o7 (o.get i) (j+q) [.atom (.int kd v)]:=by
       have WH:((o.get i).take j).length=j:=by simp;omega
       apply List.ext_getElem?
       intro r
       rw [tl _ _ _ (by simp;omega)]
       simp only [List.length_singleton]
       by_cases hr:r < j
       ·rw [eH (by omega),ke,if_pos hr,if_neg (by omega)]
       ·rw [gF (by omega),WH,Kk 0 hl]
        by_cases hqr:r=j+q
        ·rw [if_pos (by omega),if_pos (by omega)]
         have:r - (j+q)=0:=by omega
         rw [this];rfl
        ·rw [if_neg (by omega),if_neg (by omega),kc]
         congr 1;omega
      have VU:(o.get i).length=o.sz:=by obtain ⟨_,_,_,_,cD⟩:=g.rep.ob k o ho;exact cD.tj i hp.1
      rw [← Mb (sz:=o.sz) (by simp;omega) VU] at hc
      have h0:ot P σ T (.op k i (j+q)) (.atom (.int kd v))=some ([i < o.len],[(k,some (o.put i (YP o.sz (o.get i) (j+q) [.atom (.int kd v)]) true))],[k]):=by
       have WJ:=bp nJ
       subst WJ
       have e1:Nat.ble (j+q+1) o.sz=true:=by rw [Nat.ble_eq];omega
       have e2:Nat.ble 1 o.sz=true:=by rw [Nat.ble_eq];exact hb5
       unfold ot
       simp only [AV.cells,hn,ho,List.length_singleton,AV.ko,AV.one,AV.lD,AV.pure,e1,e2,TP,Bool.and_true,Bool.and_self]
      rw [hc]
      exact Cp g (ar.op pl hm) hx h0 hp
    ·cases h
   ·cases h
  ·rename_i o v n ho hn
   split at h
   ·rename_i l hl
    split at h
    ·rename_i hb
     simp only [aD,aA] at h
     obtain ⟨rfl,rfl,rfl⟩:=h
     simp only [a9,Nat.ble_eq] at hb
     obtain ⟨⟨⟨⟨nJ,lN⟩,P4⟩,TP⟩,hb5⟩:=hb
     cases ha with
     | ov pl hm hq =>
      have hc:(o.get i).take j ++ O4 q v 0 m ((o.get i).drop j)=o7 (o.get i) (j+q) [.atom (.bool v)]:=by
       have WH:((o.get i).take j).length=j:=by simp;omega
       apply List.ext_getElem?
       intro r
       rw [tl _ _ _ (by simp;omega)]
       simp only [List.length_singleton]
       by_cases hr:r < j
       ·rw [eH (by omega),ke,if_pos hr,if_neg (by omega)]
       ·rw [gF (by omega),WH,Kl 0 hl]
        by_cases hqr:r=j+q
        ·rw [if_pos (by omega),if_pos (by omega)]
         have:r - (j+q)=0:=by omega
         rw [this];rfl
        ·rw [if_neg (by omega),if_neg (by omega),kc]
         congr 1;omega
      have VU:(o.get i).length=o.sz:=by obtain ⟨_,_,_,_,cD⟩:=g.rep.ob k o ho;exact cD.tj i hp.1
      rw [← Mb (sz:=o.sz) (by simp;omega) VU] at hc
      have h0:ot P σ T (.op k i (j+q)) (.atom (.bool v))=some ([i < o.len],[(k,some (o.put i (YP o.sz (o.get i) (j+q) [.atom (.bool v)]) true))],[k]):=by
       have WJ:=bp nJ
       subst WJ
       have e1:Nat.ble (j+q+1) o.sz=true:=by rw [Nat.ble_eq];omega
       have e2:Nat.ble 1 o.sz=true:=by rw [Nat.ble_eq];exact hb5
       unfold ot
       simp only [AV.cells,hn,ho,List.length_singleton,AV.ko,AV.one,AV.lD,AV.pure,e1,e2,TP,Bool.and_true,Bool.and_self]
      rw [hc]
      exact Cp g (ar.op pl hm) hx h0 hp
    ·cases h
   ·cases h
  ·cases h
 ·exact Cp g ha hx h hp
def xW (P:Program) (T:TypeId) (x:AV) (f:Nat):Option AV :=
 match P.underlying T with
 | some (.struct fs)=>match fs[f]? with
  | some fl=>match ub P fl.type with
   | some (_+1)=>match x with
    | .op k i j=>some (.op k i (j+fl.offset))
    | .rp cs j=>some (.rp cs (j+fl.offset))
    | _=>none
   | _=>none
  | none=>none
 | _=>none
theorem IV {T:TypeId} {x:AV} {f:Nat} {v:Value} (hx:ar w S μ v x) {r:AV} (h:xW P T x f=some r) :
  ∃ u,(Instr.fieldAt T v f).run P w=.ok u w∧ar w S μ u r:=by
 unfold xW at h
 split at h
 ·rename_i fs hu
  split at h
  ·rename_i fl hf
   split at h
   ·rename_i n hn
    split at h
    ·cases h
     cases hx with
     | op pl hm =>
      rename_i k i j
      refine ⟨.pointer (some ⟨pl.b7,i * pl.sz+(j+fl.offset),none⟩),?_,.op pl hm⟩
      simp [Instr.fieldAt,run_underlying hu,hf,Instr.sureAddr,fieldPlace,eM hn,Addr.add_mid,Nat.add_assoc]
    ·cases h
     cases hx with
     | rp b o f' h1 h2 h3 =>
      rename_i cs j
      refine ⟨.pointer (some ⟨b,o+(j+fl.offset),none⟩),?_,.rp b o f' h1 h2 h3⟩
      simp [Instr.fieldAt,run_underlying hu,hf,Instr.sureAddr,fieldPlace,eM hn,Addr.add_mid,Nat.add_assoc]
    ·cases h
   ·cases h
  ·cases h
 ·cases h
def IW (P:Program) (T:TypeId) (x:AV) (f:Nat):Option AV :=
 match P.underlying T,x with
 | some (.struct fs),.agg cs=>match fs[f]? with
  | some fl=>match ub P fl.type with
   | some n=>match Nat.ble (fl.offset+n) cs.length with
    | true=>jQ P fl.type cs fl.offset
    | false=>none
   | none=>none
  | none=>none
 | _,_=>none
theorem Qv {T:TypeId} {x:AV} {f:Nat} {v:Value} (hx:ar w S μ v x) {r:AV} (h:IW P T x f=some r) :
  ∃ u,(Instr.field T v f).run P w=.ok u w∧ar w S μ u r:=by
 unfold IW at h
 split at h
 ·rename_i fs cs hu
  split at h
  ·rename_i fl hf
   split at h
   ·rename_i n hn
    split at h
    ·rename_i hle
     simp only [Nat.ble_eq] at hle
     obtain ⟨vs,rfl,Hf,Cl⟩:=nL hx
     obtain ⟨u,r1,r2⟩:=jR Hf Cl h (fun n' h'=>by rw [hn] at h';cases h';exact hle)
     exact ⟨u,by simp [Instr.field,run_underlying hu,hf,asAgg,r1],r2⟩
    ·cases h
   ·cases h
  ·cases h
 ·cases h
def px (P:Program) (σ:dp) (T:TypeId) (x ix:AV):Option (List Prop×AV×List Nat) :=
 match P.underlying T,ix with
 | some (.slice e),.atom (.int _ n)=>match ub P e with
  | some sz=>match x with
   | .os k off len=>match av σ k with
    | some o=>match Nat.beq o.sz sz with
     | true=>some ([0≤n∧n < len],.op k (bT off n.toNat) 0,[k])
     | false=>none
    | none=>none
   | .sl len get=>match Nat.beq (get n.toNat).length sz with
    | true=>some ([0≤n∧n < len],.rp (get n.toNat) 0,[])
    | false=>none
   | _=>none
  | none=>none
 | some (.array len e),.atom (.int _ n)=>match ub P e with
  | some sz=>match x with
   | .op k i j=>match P.underlying e with
    | some (.int _)=>match Nat.beq sz 1 with
     | true=>some ([0≤n∧n < len],.ov k i j len n.toNat,[])
     | false=>none
    | some .bool=>match Nat.beq sz 1 with
     | true=>some ([0≤n∧n < len],.ov k i j len n.toNat,[])
     | false=>none
    | _=>some ([0≤n∧n < len],.op k i (j+n.toNat * sz),[])
   | .rp cs j=>some ([0≤n∧n < len],.rp cs (j+n.toNat * sz),[])
   | _=>none
  | none=>none
 | _,_=>none
theorem IX (g:Good E σ S μ w) {T:TypeId} {x ix:AV} {v vi:Value} (hx:ar w S μ v x) (hi:ar w S μ vi ix) {ps:List Prop} {r:AV} {rd:List Nat}
  (h:px P σ T x ix=some (ps,r,rd)) (hp:aX ps) :
  ∃ u,(Instr.indexAt T v vi).run P w=.ok u w∧ar w S μ u r:=by
 unfold px at h
 split at h
 ·rename_i e kk n hu
  have:=db hi;subst this
  split at h
  ·rename_i sz kj
   split at h
   ·rename_i k off len
    split at h
    ·rename_i o ho
     split at h
     ·rename_i hb
      have hb:=bp hb
      simp only [aD,aA] at h
      obtain ⟨rfl,rfl,rfl⟩:=h
      obtain ⟨pl,c,T',hm,cD⟩:=g.rep.ob k o ho
      have hn:=hp.1
      cases hx with
      | os iB fw h1 h2 h3 =>
       rename_i cap a
       rw [hm] at fw;cases fw
       have ha:=h1 (by omega)
       subst ha
       refine ⟨.pointer (some ⟨pl.b7,bT off n.toNat * pl.sz+0,none⟩),?_,.op pl hm⟩
       simp only [Instr.indexAt,asIntOf,run_underlying hu,bJ,Sem.run_pure,cO]
       rw [Sem.run_ite,if_pos hn]
       simp only [bJ,eM kj,cO,Sem.run_pure,Addr.add_mid]
       rw [dk,cD.sz,hb,cb]
       rfl
     ·cases h
    ·cases h
   ·rename_i len get
    split at h
    ·rename_i hb
     have hb:=bp hb
     simp only [aD,aA] at h
     obtain ⟨rfl,rfl,rfl⟩:=h
     have hn:=hp.1
     cases hx with
     | sl b off VV f h1 h2 h3 h4 _ =>
      rename_i cap a
      have o8:n.toNat < len:=by omega
      obtain ⟨ha,hS⟩:=h1 (by omega)
      subst ha
      have hss:VV=sz:=by rw [← h2 n.toNat o8,hb]
      subst hss
      refine ⟨.pointer (some ⟨b,(off+n.toNat * VV)+0,none⟩),?_,.rp b (off+n.toNat * VV) (f n.toNat) hS ?_ ?_⟩
      ·simp only [Instr.indexAt,asIntOf,run_underlying hu,bJ,Sem.run_pure,cO]
       rw [Sem.run_ite,if_pos hn]
       simp only [bJ,eM kj,cO,Sem.run_pure,Addr.add_mid]
       rfl
      ·intro j hj;exact h3 n.toNat j o8 (by omega)
      ·intro j c hc;exact h4 n.toNat j c o8 hc
    ·cases h
   ·cases h
  ·cases h
 ·rename_i len e kk n hu
  have:=db hi;subst this
  split at h
  ·rename_i sz kj
   split at h
   ·rename_i k i j
    have iX:0≤n∧n < len→∀ pl:Place,(Instr.indexAt T (.pointer (some ⟨pl.b7,i * pl.sz+j,none⟩)) (.int kk n)).run P w=.ok (.pointer (some ⟨pl.b7,i * pl.sz+(j+n.toNat * sz),none⟩)) w:=by
     intro hn pl
     simp only [Instr.indexAt,Instr.sureAddr,asIntOf,run_underlying hu,bJ,Sem.run_pure,cO]
     rw [Sem.run_ite,if_pos hn]
     simp only [bJ,eM kj,cO,Sem.run_pure,Addr.add_mid,Nat.add_assoc]
    split at h
    ·split at h
     ·rename_i Hi
      have Hi:=bp Hi
      simp only [aD,aA] at h
      obtain ⟨rfl,rfl,rfl⟩:=h
      have hn:=hp.1
      cases hx with
      | op pl hm =>
       refine ⟨_,iX hn pl,?_⟩
       rw [Hi,Nat.mul_one]
       exact .ov pl hm (by omega)
     ·cases h
    ·split at h
     ·rename_i Hi
      have Hi:=bp Hi
      simp only [aD,aA] at h
      obtain ⟨rfl,rfl,rfl⟩:=h
      have hn:=hp.1
      cases hx with
      | op pl hm =>
       refine ⟨_,iX hn pl,?_⟩
       rw [Hi,Nat.mul_one]
       exact .ov pl hm (by omega)
     ·cases h
    ·simp only [aD,aA] at h
     obtain ⟨rfl,rfl,rfl⟩:=h
     have hn:=hp.1
     cases hx with
     | op pl hm=>exact ⟨_,iX hn pl,.op pl hm⟩
   ·rename_i cs j
    simp only [aD,aA] at h
    obtain ⟨rfl,rfl,rfl⟩:=h
    have hn:=hp.1
    cases hx with
    | rp b o f h1 h2 h3 =>
     refine ⟨.pointer (some ⟨b,o+(j+n.toNat * sz),none⟩),?_,.rp b o f h1 h2 h3⟩
     simp only [Instr.indexAt,Instr.sureAddr,asIntOf,run_underlying hu,bJ,Sem.run_pure,cO]
     rw [Sem.run_ite,if_pos hn]
     simp only [bJ,eM kj,cO,Sem.run_pure,Addr.add_mid,Nat.add_assoc]
   ·cases h
  ·cases h
 ·cases h
def Aw (s:ByteArray) (i:Nat):Int:=((s[i]?).getD 0).toNat
def IY (P:Program) (T:TypeId) (x ix:AV):Option (List Prop×AV) :=
 match P.underlying T,x,ix with
 | some .string,.atom (.string s),.atom (.int _ n)=>some ([0≤n∧n < s.size],.atom (.int .u8 (Aw s n.toNat)))
 | some (.array len e),.agg cs,.atom (.int _ n)=>match P.underlying e,ub P e with
  | some (.int kd),some sz=>match Ad kd len cs with
   | some l=>match Nat.beq sz 1 && Nat.beq cs.length len with
    | true=>some ([0≤n∧n < len],.atom (.int kd (HS l n.toNat)))
    | false=>none
   | none=>none
  | some .bool,some sz=>match uJ len cs with
   | some l=>match Nat.beq sz 1 && Nat.beq cs.length len with
    | true=>some ([0≤n∧n < len],.atom (.bool (HT l n.toNat)))
    | false=>none
   | none=>none
  | some _,some sz=>match Nat.ble (n.toNat * sz+sz) cs.length with
   | true=>(jQ P e cs (n.toNat * sz)).map fun r=>([0≤n∧n < len],r)
   | false=>none
  | _,_=>none
 | _,_,_=>none
theorem Qw {T:TypeId} {x ix:AV} {v vi:Value} (hx:ar w S μ v x) (hi:ar w S μ vi ix) {ps:List Prop} {r:AV} (h:IY P T x ix=some (ps,r)) (hp:aX ps) :
  ∃ u,(Instr.index T v vi).run P w=.ok u w∧ar w S μ u r:=by
 unfold IY at h
 split at h
 ·rename_i s kk n hu
  simp only [aD,aA] at h
  obtain ⟨rfl,rfl⟩:=h
  have:=db hi;subst this
  have:=db hx;subst this
  have hn:=hp.1
  have fo:n.toNat < s.size:=by omega
  refine ⟨_,?_,.atom _⟩
  simp only [Instr.index,asIntOf,run_underlying hu,bJ,Sem.run_pure,cO]
  rw [if_pos hn.1]
  simp [Aw,fo]
 ·rename_i len e cs kk n hu
  have fin:∀ {sz:Nat} {r':AV},ub P e=some sz→n.toNat * sz+sz≤cs.length→jQ P e cs (n.toNat * sz)=some r'→0≤n∧n < len →
    ∃ u,(Instr.index T v vi).run P w=.ok u w∧ar w S μ u r':=by
   intro sz r' kj hle hr hn
   have:=db hi;subst this
   obtain ⟨vs,rfl,Hf,Cl⟩:=nL hx
   obtain ⟨u,r1,r2⟩:=jR Hf Cl hr (fun n' h'=>by rw [kj] at h';cases h';exact hle)
   refine ⟨u,?_,r2⟩
   simp only [Instr.index,asIntOf,run_underlying hu,bJ,Sem.run_pure,cO]
   rw [Sem.run_ite,if_pos hn]
   simp only [bJ,eM kj,cO,r1]
  split at h
  ·rename_i kd sz he kj
   split at h
   ·rename_i l hl
    split at h
    ·rename_i hb
     simp only [a9] at hb
     have nJ:=bp hb.1
     have lN:=bp hb.2
     simp only [aD,aA] at h
     obtain ⟨rfl,rfl⟩:=h
     have hn:=hp.1
     refine fin kj (by rw [nJ];omega) ?_ hn
     have hg:=Co hl n.toNat (by omega)
     simp only [jQ,he,kj,nJ,Nat.mul_one]
     exact hg
    ·cases h
   ·cases h
  ·rename_i sz he kj
   split at h
   ·rename_i l hl
    split at h
    ·rename_i hb
     simp only [a9] at hb
     have nJ:=bp hb.1
     have lN:=bp hb.2
     simp only [aD,aA] at h
     obtain ⟨rfl,rfl⟩:=h
     have hn:=hp.1
     refine fin kj (by rw [nJ];omega) ?_ hn
     have hg:=Av hl n.toNat (by omega)
     simp only [jQ,he,kj,nJ,Nat.mul_one]
     exact hg
    ·cases h
   ·cases h
  ·rename_i d sz he kj
   split at h
   ·rename_i hle
    simp only [Nat.ble_eq] at hle
    simp only [aL,aA] at h
    obtain ⟨r',hr,rfl,rfl⟩:=h
    exact fin kj hle hr hp.1
   ·cases h
  ·cases h
 ·cases h
def bound (len:Nat):Option AV→Option Nat
 | none=>some len
 | some (.atom (.int _ n))=>some n.toNat
 | _=>none
def uK:Option AV→List Prop
 | some (.atom (.int _ n))=>[0≤n]
 | _=>[]
def zc (P:Program) (σ:dp) (T:TypeId) (x:AV) (lo hi:Option AV):Option (List Prop×AV×List Nat) :=
 match P.underlying T,x with
 | some .string,.atom (.string s)=>match bound 0 lo,bound s.size hi with
  | some l,some h=>some ((l≤h∧h≤s.size) :: (uK lo ++ uK hi),.atom (.string (s.extract l h)),[])
  | _,_=>none
 | some (.slice e),x=>match ub P e with
  | some sz=>match x with
   | .os k off len=>match bound 0 lo,bound len hi,av σ k with
    | some l,some h,some o=>match Nat.beq o.sz sz with
     | true=>some ((l≤h∧h≤len) :: (uK lo ++ uK hi),.os k (bT off l) (h - l),[k])
     | false=>none
    | _,_,_=>none
   | .sl len get=>match bound 0 lo,bound len hi with
    | some l,some h=>match Nat.beq (get l).length sz with
     | true=>some ((l≤h∧h≤len) :: (uK lo ++ uK hi),.sl (h - l) fun i=>get (bT l i),[])
     | false=>none
    | _,_=>none
   | _=>none
  | none=>none
 | _,_=>none
theorem Ax {lo:Option AV} {vlo:Option Value} (hv:(vlo=none↔lo=none)∧∀ a b,lo=some a→vlo=some b→ar w S μ b a) {len l:Nat} (h:bound len lo=some l) :
  (lo=none∧vlo=none∧l=len)∨∃ k n,vlo=some (.int k n)∧lo=some (.atom (.int k n))∧l=n.toNat:=by
 unfold bound at h
 split at h
 ·left;cases h;exact ⟨rfl,hv.1.2 rfl,rfl⟩
 ·rename_i k n
  right
  cases vlo with
  | none=>have:=hv.1.1 rfl;cases this
  | some b =>
   have:=db (hv.2 _ b rfl rfl)
   subst this
   cases h
   exact ⟨k,n,rfl,rfl,rfl⟩
 ·cases h
theorem wA (isSlice:Bool) {len cap l h:Nat} {lo hi:Option AV} {vlo vhi:Option Value} (VW:(vlo=none↔lo=none)∧∀ a b,lo=some a→vlo=some b→ar w S μ b a)
  (NA:(vhi=none↔hi=none)∧∀ a b,hi=some a→vhi=some b→ar w S μ b a) (hl:bound 0 lo=some l) (hh:bound len hi=some h) (hle:l≤h) (rT:h≤cap) (hp:aX (uK lo ++ uK hi)) :
  (Instr.sliceBounds isSlice len cap vlo vhi none).run P w=.ok (l,h,cap) w:=by
 obtain ⟨p1,p2⟩:=aX.app hp
 rcases Ax VW hl with ⟨e1,e2,e3⟩ | ⟨k1,n1,e1,e2,e3⟩
 ·subst e1 e2 e3
  rcases Ax NA hh with ⟨f1,f2,f3⟩ | ⟨k2,n2,f1,f2,f3⟩
  ·subst f1 f2 f3
   simp [Instr.sliceBounds]
  ·subst f1 f2 f3
   have:=p2.1
   have h2:0≤n2∧n2≤cap:=by omega
   simp [Instr.sliceBounds,Instr.sliceBound,asIntOf,h2]
 ·subst e1 e2 e3
  have:=p1.1
  rcases Ax NA hh with ⟨f1,f2,f3⟩ | ⟨k2,n2,f1,f2,f3⟩
  ·subst f1 f2 f3
   have h2:0≤n1∧n1≤h:=by omega
   simp [Instr.sliceBounds,Instr.sliceBound,asIntOf,h2]
  ·subst f1 f2 f3
   have:=p2.1
   have h2:0≤n2∧n2≤cap:=by omega
   have h3:0≤n1∧n1≤(n2.toNat:Int):=by omega
   simp only [Instr.sliceBounds,Instr.sliceBound,asIntOf,bJ,Sem.run_pure,cO,Sem.run_ite,if_pos h2,if_pos h3]
theorem Qx (g:Good E σ S μ w) {T:TypeId} {x:AV} {v:Value} (hx:ar w S μ v x) {lo hi:Option AV} {vlo vhi:Option Value}
  (VW:(vlo=none↔lo=none)∧∀ a b,lo=some a→vlo=some b→ar w S μ b a)
  (NA:(vhi=none↔hi=none)∧∀ a b,hi=some a→vhi=some b→ar w S μ b a) {ps:List Prop} {r:AV} {rd:List Nat} (h:zc P σ T x lo hi=some (ps,r,rd)) (hp:aX ps) :
  ∃ u,(Instr.sliceAt T v vlo vhi none).run P w=.ok u w∧ar w S μ u r:=by
 unfold zc at h
 split at h
 ·rename_i s hu
  have:=db hx;subst this
  split at h
  ·rename_i l hh hl TQ
   simp only [aD,aA] at h
   obtain ⟨rfl,rfl,rfl⟩:=h
   obtain ⟨⟨p1,p2⟩,p3⟩:=hp
   have hb:=wA (P:=P) (w:=w) false (cap:=s.size) VW NA hl TQ p1 p2 p3
   refine ⟨_,?_,.atom _⟩
   simp [Instr.sliceAt,Instr.slice,run_underlying hu,hb]
  ·cases h
 ·rename_i e hu
  split at h
  ·rename_i sz kj
   split at h
   ·rename_i k off len
    split at h
    ·rename_i l hh o hl TQ ho
     split at h
     ·rename_i hb
      have hb:=bp hb
      simp only [aD,aA] at h
      obtain ⟨rfl,rfl,rfl⟩:=h
      obtain ⟨⟨p1,p2⟩,p3⟩:=hp
      obtain ⟨pl,c,T',hm,cD⟩:=g.rep.ob k o ho
      cases hx with
      | os iB fw h1 h2 h3 =>
       rename_i cap a
       rw [hm] at fw;cases fw
       have O5:=wA (P:=P) (w:=w) true (cap:=cap) VW NA hl TQ p1 (by omega) p3
       refine ⟨.slice (if cap=l then a else a.map (·.add (l * sz))) (hh - l) (cap - l),?_,?_⟩
       ·simp [Instr.sliceAt,Instr.slice,run_underlying hu,O5,eM kj]
       ·refine .os pl hm ?_ (by omega) (by rw [dk];omega)
        intro hc
        have:=h1 (by omega)
        subst this
        rw [if_neg (by omega)]
        simp only [Option.map_some,Addr.add_mid]
        rw [dk,cD.sz,hb,cb]
     ·cases h
    ·cases h
   ·rename_i len get
    split at h
    ·rename_i l hh hl TQ
     split at h
     ·rename_i hb
      have hb:=bp hb
      simp only [aD,aA] at h
      obtain ⟨rfl,rfl,rfl⟩:=h
      obtain ⟨⟨p1,p2⟩,p3⟩:=hp
      cases hx with
      | sl b off VV f h1 h2 h3 h4 h5 =>
       rename_i a cap
       have O5:=wA (P:=P) (w:=w) true (cap:=cap) VW NA hl TQ p1 (by omega) p3
       have hss:l < hh→VV=sz:=fun fo=>by rw [← h2 l (by omega),hb]
       refine ⟨.slice (if cap=l then a else a.map (·.add (l * sz))) (hh - l) (cap - l),?_,?_⟩
       ·simp [Instr.sliceAt,Instr.slice,run_underlying hu,O5,eM kj]
       ·refine .sl b (off+l * sz) VV (fun i j=>f (bT l i) j) ?_ (fun i hi=>h2 _ (by rw [dk];omega)) ?_ (fun i j c hi hc=>h4 _ _ _ (by rw [dk];omega) hc) (by omega)
        ·intro hc
         obtain ⟨ha,hS⟩:=h1 (by omega)
         subst ha
         rw [if_neg (by omega)]
         simp only [Option.map_some,Addr.add_mid]
         exact ⟨trivial,hS⟩
        ·intro i j hi hj
         have:=h3 (bT l i) j (by rw [dk];omega) hj
         rw [dk] at this ⊢
         rw [← this,← hss (by omega),cb]
         congr 2;omega
     ·cases h
    ·cases h
   ·cases h
  ·cases h
 ·cases h
end
end Go.Ab
