/- Abstract values over the heap of the machine, and functions read off its code (part 1). No conditions. -/
import Derived.Orders
import Derived.Laws.Cells
import Derived.Laws.World
import Derived.Laws.Rows
import Derived.Laws.Sem
import Derived.KernelRfl
import Derived.Laws.CopyRow
import Derived.Laws.AppendOwn
import Derived.Laws.MakeOwn
import Derived.Laws.StructEq
import Derived.Great.BuildSlice
import Derived.Deep.MidRow
set_option linter.unusedVariables false
set_option linter.unusedSimpArgs false
namespace Go
abbrev aJ:=@Option.map_eq_some_iff
abbrev az:=@Option.some.injEq
abbrev bm:=@Nat.eq_of_beq_eq_true
abbrev ay:=@Prod.mk.injEq
abbrev aV:=@Bool.and_eq_true
abbrev dd:=@List.getElem?_eq_some_iff
abbrev ee:=@List.getD_eq_getElem?_getD
abbrev bO:=@Option.bind_some
abbrev de:=@List.length_replicate
abbrev fm:=@Array.getD_eq_getD_getElem?
abbrev dN:=@Array.getElem?_eq_getElem
abbrev eE:=@List.getElem?_append_left
abbrev gF:=@List.getElem?_append_right
abbrev dC:=@Nat.mul_le_mul_right
abbrev kc:=@Int.mul_le_mul_of_nonneg_right
abbrev bH:=@Sem.run_bind
abbrev je:=@List.take_of_length_le
abbrev ke:=@List.getElem?_eq_getElem
abbrev cN:=@Result.andThen_ok
abbrev aP:=@Nat.le_refl
abbrev lW:=@Bool.and_eq_true_iff
abbrev oE:=@List.getElem?_eq_none
abbrev dP:=@Nat.not_lt_zero
abbrev mM:=@Classical.byContradiction
abbrev oG:=@of_decide_eq_true
abbrev lB:=@of_decide_eq_false
abbrev lX:=@Nat.lt_of_lt_of_le
abbrev dp:=@Nat.le_trans
abbrev mN:=@List.length_append
abbrev qO:=@List.length_cons
abbrev Br:=@List.getElem?_cons_succ
abbrev wP:=@List.append_assoc
abbrev sM:=@Int.mul_le_mul_of_nonneg_left
abbrev sN:=@Nat.lt_irrefl
abbrev oH:=@List.length_take
abbrev kf:=@List.getElem?_drop
abbrev kg:=@List.getElem?_take
abbrev mO:=@List.mem_range
abbrev jw:=@List.mem_cons
abbrev ca:=@Nat.add_mul
abbrev oI:=@Nat.mul_comm
abbrev g7:=@Int.mul_add
abbrev eF:=@Int.add_mul
abbrev gr:=@Int.mul_comm
abbrev kL:=@Int.mul_assoc
end Go
namespace Go.Ab
inductive AV where
 | atom (v:Value)
 | agg (cs:List AV)
 | tup (cs:List AV)
 | sl (len:Nat) (get:Nat→List AV)
 | rp (cs:List AV) (off:Nat)
 | op (k i j:Nat)
 | os (k off len:Nat)
 | fn (f:Fn) (first cap:List AV)
 | when (b:Bool) (v:AV)
 | mp (k:Nat)
 | bn (n:Nat)
 | pt (b:Bool) (cs:List AV)
 | ov (k i j m n:Nat)
 | Cy (k off len:Nat)
 | nq (st:Option Bool) (x:AV)
 | nil
 | mV
 | mr (sz len:Nat) (get:Nat→List AV)
 deriving Inhabited
structure Place where
 b6:Nat
 cap:Nat
 sz:Nat
abbrev Mu:=Nat→Option Place
def fV:Mu:=fun _=>none
def QE:Value→Bool
 | .slice none _ _=>true
 | _=>false
inductive aq (w:World) (S:Nat→Prop):Mu→Value→AV→Prop where
 | atom {μ:Mu} (v:Value):aq w S μ v (.atom v)
 | agg {μ:Mu} {vs:Array Value} {cs:List AV}:vs.size=cs.length →
   (∀ (j:Nat) (c:AV) (v:Value),cs[j]?=some c→vs[j]?=some v→aq w S μ v c)→aq w S μ (.agg vs) (.agg cs)
 | tup {μ:Mu} {vs:Array Value} {cs:List AV}:vs.size=cs.length →
   (∀ (j:Nat) (c:AV) (v:Value),cs[j]?=some c→vs[j]?=some v→aq w S μ v c)→aq w S μ (.tuple vs) (.tup cs)
 | sl {μ:Mu} {a:Option Addr} {len cap:Nat} {get:Nat→List AV} (b off sz:Nat) (f:Nat→Nat→Value) :
   (0 < len→a=some ⟨b,off,none⟩∧S b)→(∀ i,i < len→(get i).length=sz) →
   (∀ i j,i < len→j < sz→w.cell? ⟨b,off+i * sz+j,none⟩=some (f i j)) →
   (∀ i j c,i < len→(get i)[j]?=some c→aq w S fV (f i j) c)→len≤cap→aq w S μ (.slice a len cap) (.sl len get)
 | rp {μ:Mu} {cs:List AV} {off:Nat} (b o:Nat) (f:Nat→Value):S b →
   (∀ j,j < cs.length→w.cell? ⟨b,o+j,none⟩=some (f j)) →
   (∀ j c,cs[j]?=some c→aq w S fV (f j) c)→aq w S μ (.pointer (some ⟨b,o+off,none⟩)) (.rp cs off)
 | op {μ:Mu} {k i j:Nat} (pl:Place):μ k=some pl→aq w S μ (.pointer (some ⟨pl.b6,i * pl.sz+j,none⟩)) (.op k i j)
 | os {μ:Mu} {k off len cap:Nat} {a:Option Addr} (pl:Place):μ k=some pl →
   (0 < cap→a=some ⟨pl.b6,off * pl.sz,none⟩)→len≤cap→off+cap=pl.cap→aq w S μ (.slice a len cap) (.os k off len)
 | fn {μ:Mu} {f:Fn} {vs ws:Array Value} {first cap:List AV}:vs.size=first.length→ws.size=cap.length →
   (∀ (j:Nat) (c:AV) (v:Value),first[j]?=some c→vs[j]?=some v→aq w S μ v c) →
   (∀ (j:Nat) (c:AV) (v:Value),cap[j]?=some c→ws[j]?=some v→aq w S μ v c)→aq w S μ (.func f vs ws) (.fn f first cap)
 | when {μ:Mu} {b:Bool} {v:Value} {x:AV}:(b=true→aq w S μ v x)→(b=false→v=undef)→aq w S μ v (.when b x)
 | mp {μ:Mu} {k:Nat} (pl:Place):μ k=some pl→aq w S μ (.map (some pl.b6)) (.mp k)
 | bn {μ:Mu} {n:Nat} (b:Bool):(b=true→n=0)→aq w S μ (.bool b) (.bn n)
 | pt {μ:Mu} {b:Bool} {cs:List AV} {v:Value}:(b=true→aq w S μ v (.rp cs 0))→(b=false→v=.pointer none)→aq w S μ v (.pt b cs)
 | ov {μ:Mu} {k i j m n:Nat} (pl:Place):μ k=some pl→n < m→aq w S μ (.pointer (some ⟨pl.b6,i * pl.sz+(j+n),none⟩)) (.ov k i j m n)
 | Cy {μ:Mu} {k off len:Nat} {a:Option Addr} (pl:Place):μ k=some pl→(0 < len→a=some ⟨pl.b6,off * pl.sz,none⟩)→off+len=pl.cap→aq w S μ (.slice a len len) (.Cy k off len)
 | nq {μ:Mu} {st:Option Bool} {v:Value} {x:AV}:aq w S μ v x→(st=some true→v=.slice none 0 0)→(st=some false→QE v=false)→aq w S μ v (.nq st x)
 | nil {μ:Mu}:aq w S μ (.slice none 0 0) .nil
 | mV {μ:Mu} {v:Value}:aq w S μ v .mV
 | mr {μ:Mu} {v:Value} {sz len:Nat} {get:Nat→List AV}:aq w S μ v (.mr sz len get)
structure Ext (w:World) (S:Nat→Prop) (μ:Mu) (w':World) (S':Nat→Prop) (cD:Mu):Prop where
 size:w.heap.size≤w'.heap.size
 Fk:∀ b,S b→S' b
 b6:∀ b,S b→w'.heap[b]?=w.heap[b]?
 mu:∀ k pl,μ k=some pl→cD k=some pl
theorem Ext.refl (w:World) (S:Nat→Prop) (μ:Mu):Ext w S μ w S μ:=⟨aP _,fun _ h=>h,fun _ _=>rfl,fun _ _ h=>h⟩
theorem Ext.trans {w w' NM:World} {S S' Bm:Nat→Prop} {μ cD Fl:Mu} (h:Ext w S μ w' S' cD) (k:Ext w' S' cD NM Bm Fl):Ext w S μ NM Bm Fl :=
 ⟨dp h.size k.size,fun b hb=>k.Fk b (h.Fk b hb),fun b hb=>(k.b6 b (h.Fk b hb)).trans (h.b6 b hb),fun i pl hi=>k.mu i pl (h.mu i pl hi)⟩
theorem qZ {w w':World} {b:Nat} (h:w'.heap[b]?=w.heap[b]?) (o:Nat):w'.cell? ⟨b,o,none⟩=w.cell? ⟨b,o,none⟩:=by
 simp [World.cell?,h]
theorem aq.mono {w w':World} {S S':Nat→Prop} (hS:∀ b,S b→S' b) (hb:∀ b,S b→w'.heap[b]?=w.heap[b]?) {μ:Mu} {v:Value} {x:AV} (h:aq w S μ v x) :
  ∀ {cD:Mu},(∀ k pl,μ k=some pl→cD k=some pl)→aq w' S' cD v x:=by
 induction h with
 | atom v=>exact fun _=>.atom v
 | agg h1 _ ih=>exact fun hm=>.agg h1 fun j c v hc hv=>ih j c v hc hv hm
 | tup h1 _ ih=>exact fun hm=>.tup h1 fun j c v hc hv=>ih j c v hc hv hm
 | @sl μ a len cap get b off sz f h1 h2 h3 _ h5 ih =>
  intro cD _
  refine .sl b off sz f (fun hl=>⟨(h1 hl).1,hS _ (h1 hl).2⟩) h2 ?_ (fun i j c hi hc=>ih i j c hi hc fun _ _ h=>h) h5
  intro i j hi hj
  rw [qZ (hb b (h1 (by omega)).2)]
  exact h3 i j hi hj
 | @rp μ cs off b o f h1 h2 _ ih =>
  intro cD _
  refine .rp b o f (hS _ h1) ?_ (fun j c hc=>ih j c hc fun _ _ h=>h)
  intro j hj
  rw [qZ (hb b h1)]
  exact h2 j hj
 | op pl h=>exact fun hm=>.op pl (hm _ _ h)
 | os pl h h1 h2 h3=>exact fun hm=>.os pl (hm _ _ h) h1 h2 h3
 | fn h1 h2 _ _ Kk Kl=>exact fun hm=>.fn h1 h2 (fun j c v hc hv=>Kk j c v hc hv hm) (fun j c v hc hv=>Kl j c v hc hv hm)
 | when _ hu ih=>exact fun hm=>.when (fun hb=>ih hb hm) hu
 | mp pl h=>exact fun hm=>.mp pl (hm _ _ h)
 | bn b h=>exact fun _=>.bn b h
 | pt _ h2 ih=>exact fun hm=>.pt (fun hb=>ih hb hm) h2
 | ov pl h h1=>exact fun hm=>.ov pl (hm _ _ h) h1
 | Cy pl h h1 h2=>exact fun hm=>.Cy pl (hm _ _ h) h1 h2
 | nq _ h1 h2 ih=>exact fun hm=>.nq (ih hm) h1 h2
 | nil=>exact fun _=>.nil
 | mV=>exact fun _=>.mV
 | mr=>exact fun _=>.mr
theorem aq.ext {w w':World} {S S':Nat→Prop} {μ cD:Mu} {v:Value} {x:AV} (h:aq w S μ v x) (e:Ext w S μ w' S' cD):aq w' S' cD v x :=
 h.mono e.Fk e.b6 e.mu
mutual
def AV.pure:AV→Bool
 | .atom _ | .sl _ _ | .rp _ _ | .bn _ | .pt _ _ | .nil | .mV=>true
 | .agg cs | .tup cs=>AV.lG cs
 | .fn _ a b=>AV.lG a && AV.lG b
 | .when _ v=>v.pure
 | .nq _ v=>v.pure
 | .op _ _ _ | .os _ _ _ | .mp _ | .ov _ _ _ _ _ | .Cy _ _ _ | .mr _ _ _=>false
def AV.lG:List AV→Bool
 | []=>true
 | c :: cs=>c.pure && AV.lG cs
end
mutual
def AV.flat:AV→Bool
 | .atom _ | .bn _ | .nil=>true
 | .agg cs | .tup cs=>AV.yi cs
 | .fn _ a b=>AV.yi a && AV.yi b
 | _=>false
def AV.yi:List AV→Bool
 | []=>true
 | c :: cs=>c.flat && AV.yi cs
end
theorem ph {cs:List AV} (h:AV.lG cs=true) {j:Nat} {c:AV} (hc:cs[j]?=some c):c.pure=true:=by
 induction cs generalizing j with
 | nil=>simp at hc
 | cons x xs ih =>
  simp only [AV.lG,aV] at h
  cases j with
  | zero=>simp at hc;exact hc ▸ h.1
  | succ j=>exact ih h.2 (by simpa using hc)
theorem tc {cs:List AV} (h:AV.yi cs=true) {j:Nat} {c:AV} (hc:cs[j]?=some c):c.flat=true:=by
 induction cs generalizing j with
 | nil=>simp at hc
 | cons x xs ih =>
  simp only [AV.yi,aV] at h
  cases j with
  | zero=>simp at hc;exact hc ▸ h.1
  | succ j=>exact ih h.2 (by simpa using hc)
theorem aq.pure {w:World} {S:Nat→Prop} {μ:Mu} {v:Value} {x:AV} (h:aq w S μ v x):x.pure=true→∀ cD,aq w S cD v x:=by
 induction h with
 | atom v=>exact fun _ _=>.atom v
 | agg h1 _ ih=>exact fun hp cD=>.agg h1 fun j c v hc hv=>ih j c v hc hv (ph (by simpa [AV.pure] using hp) hc) cD
 | tup h1 _ ih=>exact fun hp cD=>.tup h1 fun j c v hc hv=>ih j c v hc hv (ph (by simpa [AV.pure] using hp) hc) cD
 | sl b off sz f h1 h2 h3 h4 h5 _=>exact fun _ _=>.sl b off sz f h1 h2 h3 h4 h5
 | rp b o f h1 h2 h3 _=>exact fun _ _=>.rp b o f h1 h2 h3
 | op pl h=>exact fun hp=>by simp [AV.pure] at hp
 | os pl h h1 h2 h3=>exact fun hp=>by simp [AV.pure] at hp
 | fn h1 h2 _ _ Kk Kl =>
  intro hp cD
  simp only [AV.pure,aV] at hp
  exact .fn h1 h2 (fun j c v hc hv=>Kk j c v hc hv (ph hp.1 hc) cD) (fun j c v hc hv=>Kl j c v hc hv (ph hp.2 hc) cD)
 | when _ hu ih=>exact fun hp cD=>.when (fun hb=>ih hb (by simpa [AV.pure] using hp) cD) hu
 | mp pl h=>exact fun hp=>by simp [AV.pure] at hp
 | bn b h=>exact fun _ _=>.bn b h
 | pt _ h2 ih=>exact fun _ cD=>.pt (fun hb=>ih hb rfl cD) h2
 | ov=>exact fun hp=>by simp [AV.pure] at hp
 | Cy=>exact fun hp=>by simp [AV.pure] at hp
 | nq _ h1 h2 ih=>exact fun hp cD=>.nq (ih (by simpa [AV.pure] using hp) cD) h1 h2
 | nil=>exact fun _ _=>.nil
 | mV=>exact fun _ _=>.mV
 | mr=>exact fun hp=>by simp [AV.pure] at hp
theorem aq.flat {w:World} {S:Nat→Prop} {μ:Mu} {v:Value} {x:AV} (h:aq w S μ v x):x.flat=true→∀ w' S' cD,aq w' S' cD v x:=by
 induction h with
 | atom v=>exact fun _ _ _ _=>.atom v
 | agg h1 _ ih=>exact fun hp w' S' cD=>.agg h1 fun j c v hc hv=>ih j c v hc hv (tc (by simpa [AV.flat] using hp) hc) w' S' cD
 | tup h1 _ ih=>exact fun hp w' S' cD=>.tup h1 fun j c v hc hv=>ih j c v hc hv (tc (by simpa [AV.flat] using hp) hc) w' S' cD
 | sl=>exact fun hp=>by simp [AV.flat] at hp
 | rp=>exact fun hp=>by simp [AV.flat] at hp
 | op=>exact fun hp=>by simp [AV.flat] at hp
 | os=>exact fun hp=>by simp [AV.flat] at hp
 | fn h1 h2 _ _ Kk Kl =>
  intro hp w' S' cD
  simp only [AV.flat,aV] at hp
  exact .fn h1 h2 (fun j c v hc hv=>Kk j c v hc hv (tc hp.1 hc) w' S' cD) (fun j c v hc hv=>Kl j c v hc hv (tc hp.2 hc) w' S' cD)
 | when=>exact fun hp=>by simp [AV.flat] at hp
 | mp=>exact fun hp=>by simp [AV.flat] at hp
 | bn b h=>exact fun _ _ _ _=>.bn b h
 | pt=>exact fun hp=>by simp [AV.flat] at hp
 | ov=>exact fun hp=>by simp [AV.flat] at hp
 | Cy=>exact fun hp=>by simp [AV.flat] at hp
 | nq=>exact fun hp=>by simp [AV.flat] at hp
 | nil=>exact fun _ _ _ _=>.nil
 | mV=>exact fun hp=>by simp [AV.flat] at hp
 | mr=>exact fun hp=>by simp [AV.flat] at hp
structure Ob where
 var:Bool
 sz:Nat
 len:Nat
 pr:Bool
 get:Nat→List AV
abbrev du:=List (Nat×Ob)
def au:du→Nat→Option Ob
 | [],_=>none
 | (k,o) :: r,n=>match Nat.beq k n with
  | true=>some o
  | false=>au r n
def sset:du→Nat→Ob→du
 | [],k,o=>[(k,o)]
 | (a,x) :: r,k,o=>match Nat.beq a k with
  | true=>(a,o) :: r
  | false=>(a,x) :: sset r k o
def qz:du→Nat→du
 | [],_=>[]
 | (a,x) :: r,k=>match Nat.beq a k with
  | true=>qz r k
  | false=>(a,x) :: qz r k
theorem ko {a b:Nat} (h:a=b):Nat.beq a b=true:=by subst h;exact Nat.beq_refl a
theorem lR {a b:Nat} (h:¬ a=b):Nat.beq a b=false:=Bool.eq_false_iff.2 fun e=>h (bm e)
theorem bg (σ:du) (k n:Nat) (o:Ob):au (sset σ k o) n=if k=n then some o else au σ n:=by
 induction σ with
 | nil =>
  simp only [sset,au]
  by_cases h:k=n
  ·rw [ko h,if_pos h]
  ·rw [lR h,if_neg h]
 | cons x r ih =>
  obtain ⟨a,x⟩:=x
  simp only [sset]
  by_cases ha:a=k
  ·rw [ko ha]
   simp only [au]
   subst ha
   by_cases h:a=n
   ·rw [ko h,if_pos h]
   ·rw [lR h,if_neg h]
  ·rw [lR ha]
   simp only [au,ih]
   by_cases hn:a=n
   ·simp only [ko hn,if_neg (fun e:k=n=>ha (hn.trans e.symm))]
   ·rw [lR hn]
theorem eH (σ:du) (k n:Nat):au (qz σ k) n=if k=n then none else au σ n:=by
 induction σ with
 | nil=>simp [qz,au]
 | cons x r ih =>
  obtain ⟨a,x⟩:=x
  simp only [qz]
  by_cases ha:a=k
  ·rw [ko ha]
   simp only [au,ih]
   by_cases h:k=n
   ·rw [if_pos h,if_pos h]
   ·rw [lR (by omega:¬ a=n)]
  ·rw [lR ha]
   simp only [au,ih]
   by_cases hn:a=n
   ·simp only [ko hn,if_neg (fun e:k=n=>ha (hn.trans e.symm))]
   ·rw [lR hn]
def eX:du→List (Nat×Option Ob)→du
 | σ,[]=>σ
 | σ,(k,some o) :: r=>eX (sset σ k o) r
 | σ,(k,none) :: r=>eX (qz σ k) r
def ef (c:Array Value):Array MapEntry:=(Array.range (c.size / 2)).map fun i=>⟨c[2 * i]?.getD undef,c[2 * i+1]?.getD undef,i⟩
def AE (sz:Nat) (c:Array Value) (T:TypeId):Obj :=
 match sz with
 | 0=>.map (ef c) (c.size / 2)
 | _+1=>.cells c T (0,0)
theorem fx {sz:Nat} (h:sz≠0) (c:Array Value) (T:TypeId):AE sz c T=.cells c T (0,0):=by
 cases sz with
 | zero=>exact absurd rfl h
 | succ n=>rfl
theorem wQ {sz:Nat} (h:sz=0) (c:Array Value) (T:TypeId):AE sz c T=.map (ef c) (c.size / 2):=by subst h;rfl
structure gy (w:World) (S:Nat→Prop) (μ:Mu) (o:Ob) (pl:Place) (c:Array Value) (T:TypeId):Prop where
 sz:pl.sz=o.sz
 b6:0 < pl.cap→w.heap[pl.b6]?=some (AE o.sz c T)
 cap:pl.cap * o.sz≤c.size
 len:o.len≤pl.cap
 out:0 < pl.cap→¬ S pl.b6
 tz:∀ i,i < o.len→(o.get i).length=o.sz
 rep:∀ i j x v,i < o.len→(o.get i)[j]?=some x→c[i * o.sz+j]?=some v→aq w S (if o.pr then fV else μ) v x
 mp:o.sz=0→0 < pl.cap∧c.size % 2=0∧c.size=(o.get 0).length∧o.pr=true∧∀ (j:Nat) x v,(o.get 0)[j]?=some x→c[j]?=some v→aq w S fV v x
structure Zc (w:World) (S:Nat→Prop) (μ:Mu) (σ:du):Prop where
 ob:∀ k o,au σ k=some o→∃ pl c T,μ k=some pl∧gy w S μ o pl c T
 ne:∀ k k' o o' pl iJ,k≠k'→au σ k=some o→au σ k'=some o'→μ k=some pl→μ k'=some iJ→0 < pl.cap→0 < iJ.cap→pl.b6≠iJ.b6
theorem gy.ext {w w':World} {S S':Nat→Prop} {μ cD:Mu} {o:Ob} {pl:Place} {c:Array Value} {T:TypeId} (h:gy w S μ o pl c T) (e:Ext w S μ w' S' cD)
  (hb:0 < pl.cap→w'.heap[pl.b6]?=w.heap[pl.b6]?) (ho:0 < pl.cap→¬ S' pl.b6):gy w' S' cD o pl c T :=
 { h with
  b6:=fun hc=>(hb hc).trans (h.b6 hc)
  out:=ho
  rep:=fun i j x v hi hx hv=>(h.rep i j x v hi hx hv).mono e.Fk e.b6 (by
   cases o.pr
   ·exact e.mu
   ·exact fun _ _ h=>h)
  mp:=fun hz=>let ⟨h0,h1,h2,h3,h4⟩:=h.mp hz
   ⟨h0,h1,h2,h3,fun j x v hx hv=>(h4 j x v hx hv).mono e.Fk e.b6 (fun _ _ h=>h)⟩ }
def rowOf (o:Ob) (i:Nat):Option (Nat×Nat×(Nat→List AV)) :=
 match o.var,o.get i with
 | false,[.mr sz len g]=>if i < o.len then some (sz,len,g) else none
 | _,_=>none
def KB (fp:Nat→Prop) (n0:Nat) (w:World) (S:Nat→Prop) (v:Value) (x:Nat×Nat×(Nat→List AV)):Prop :=
 ∃ a cap,v=.slice a x.2.1 cap∧x.2.1≤cap∧(1≤x.1∧∀ j,rowOf ⟨false,x.1,x.2.1,true,x.2.2⟩ j=none)∧(0 < cap→∃ b c T,a=some ⟨b,0,none⟩∧gy w S fV ⟨false,x.1,x.2.1,true,x.2.2⟩ ⟨b,cap,x.1⟩ c T∧(fp b∨n0≤b))
def ptrTo (v:Value) (b:Nat):Prop:=∃ len cap,v=.slice (some ⟨b,0,none⟩) len cap∧0 < cap
def gR (w:World) (μ:Mu) (σ:du) (k i:Nat) (x:Nat×Nat×(Nat→List AV)) (v:Value):Prop :=
 ∃ o pl,au σ k=some o∧rowOf o i=some x∧μ k=some pl∧w.cell? ⟨pl.b6,i * pl.sz,none⟩=some v
structure MX (fp:Nat→Prop) (n0:Nat) (w:World) (S:Nat→Prop) (μ:Mu) (σ:du):Prop where
 row:∀ k i x v,gR w μ σ k i x v→KB fp n0 w S v x
 obj:∀ k i x v b,gR w μ σ k i x v→ptrTo v b→∀ k' o' iJ,au σ k'=some o'→μ k'=some iJ→0 < iJ.cap→iJ.b6≠b
 two:∀ k i x v b k' i' x' v',gR w μ σ k i x v→gR w μ σ k' i' x' v'→ptrTo v b→ptrTo v' b→k=k'∧i=i'
theorem mY {o:Ob} (h:o.var=true) (i:Nat):rowOf o i=none:=by unfold rowOf;rw [h]
theorem dk {o:Ob} {i:Nat} {x:Nat×Nat×(Nat→List AV)} (h:rowOf o i=some x):o.var=false∧i < o.len∧o.get i=[.mr x.1 x.2.1 x.2.2]:=by
 unfold rowOf at h
 split at h
 ·rename_i sz len g h2 h3
  split at h
  ·rename_i hi
   cases h
   exact ⟨h2,hi,h3⟩
  ·cases h
 ·cases h
theorem kM {o:Ob} {i:Nat} {x:Nat×Nat×(Nat→List AV)} (h2:o.var=false) (h3:i < o.len) (h4:o.get i=[.mr x.1 x.2.1 x.2.2]):rowOf o i=some x:=by
 unfold rowOf;rw [h2,h4];simp [h3]
theorem MX.b6 {fp:Nat→Prop} {n0:Nat} {w:World} {S:Nat→Prop} {μ:Mu} {σ:du} (h:MX fp n0 w S μ σ) {k i:Nat} {x:Nat×Nat×(Nat→List AV)} {v:Value} {b:Nat} (hr:gR w μ σ k i x v) (hb:ptrTo v b) :
  b < w.heap.size∧¬ S b∧(fp b∨n0≤b)∧∃ c T,w.heap[b]?=some (.cells c T (0,0)):=by
 obtain ⟨len,cap,rfl,hc⟩:=hb
 obtain ⟨a,afE,e,h1,h2,h3⟩:=h.row _ _ _ _ hr
 injection e with e1 e2 e3
 subst e1 e2 e3
 obtain ⟨b',c,T,e4,h4,h5⟩:=h3 hc
 injection e4 with e4
 injection e4 with e4
 subst e4
 have Wb:=h4.b6 hc
 have ui:AE x.1 c T=.cells c T (0,0):=fx (by have:=h2.1;omega) c T
 have Zd:w.heap[b]?=some (.cells c T (0,0)):=by rw [Wb];exact congrArg some ui
 exact ⟨(Array.getElem?_eq_some_iff.1 Zd).1,h4.out hc,h5,c,T,Zd⟩
theorem KB.ext {fp Wc:Nat→Prop} {n0 We:Nat} {w w':World} {S S':Nat→Prop} {v:Value} {x:Nat×Nat×(Nat→List AV)} (h:KB fp n0 w S v x) (hS:∀ b,S b→S' b) (hb:∀ b,S b→w'.heap[b]?=w.heap[b]?)
  (hp:∀ b,ptrTo v b→w'.heap[b]?=w.heap[b]?∧¬ S' b∧((fp b∨n0≤b)→(Wc b∨We≤b))):KB Wc We w' S' v x:=by
 obtain ⟨a,cap,rfl,h1,h2,h3⟩:=h
 refine ⟨a,cap,rfl,h1,h2,fun hc=>?_⟩
 obtain ⟨b,c,T,rfl,h4,h5⟩:=h3 hc
 obtain ⟨p1,p2,p3⟩:=hp b ⟨_,_,rfl,hc⟩
 refine ⟨b,c,T,rfl,⟨h4.sz,fun h=>p1.trans (h4.b6 h),h4.cap,h4.len,fun _=>p2,h4.tz,fun i j x v hi hx hv=>(h4.rep i j x v hi hx hv).mono hS hb (fun _ _ h=>h),fun hz=>?_⟩,p3 h5⟩
 exact absurd hz (by have:=h2.1;show x.1≠0;omega)
theorem MX.tr {fp Wc:Nat→Prop} {n0 We:Nat} {w w':World} {S S':Nat→Prop} {μ cD:Mu} {σ dx:du} (h:MX fp n0 w S μ σ) (φ:Nat→Nat)
  (hr:∀ k i x v,gR w' cD dx k i x v→gR w μ σ (φ k) i x v)
  (hi:∀ k i x v k' i' x' v',gR w' cD dx k i x v→gR w' cD dx k' i' x' v'→φ k=φ k'→k=k')
  (hS:∀ b,S b→S' b) (hb:∀ b,S b→w'.heap[b]?=w.heap[b]?)
  (hp:∀ k i x v b,gR w' cD dx k i x v→gR w μ σ (φ k) i x v→ptrTo v b→w'.heap[b]?=w.heap[b]?∧¬ S' b∧((fp b∨n0≤b)→(Wc b∨We≤b)))
  (ho:∀ k o pl,au dx k=some o→cD k=some pl→0 < pl.cap→(∃ k1 o1 Bn,au σ k1=some o1∧μ k1=some Bn∧0 < Bn.cap∧Bn.b6=pl.b6)∨w.heap.size≤pl.b6):MX Wc We w' S' cD dx:=by
 refine ⟨fun k i x v hv=>(h.row _ _ _ _ (hr _ _ _ _ hv)).ext hS hb fun b q0=>hp _ _ _ _ _ hv (hr _ _ _ _ hv) q0,fun k i x v b hv q0 k' o' iJ h1 h2 h3 he=>?_,fun k i x v b k' i' x' v' hv oJ nM lP=>?_⟩
 ·have hv0:=hr _ _ _ _ hv
  rcases ho k' o' iJ h1 h2 h3 with ⟨k1,o1,Bn,q1,q2,q3,q4⟩ | q
  ·exact h.obj _ _ _ _ b hv0 q0 k1 o1 Bn q1 q2 q3 (q4.trans he)
  ·have:=(h.b6 hv0 q0).1;omega
 ·obtain ⟨e1,e2⟩:=h.two _ _ _ _ _ _ _ _ _ (hr _ _ _ _ hv) (hr _ _ _ _ oJ) nM lP
  exact ⟨hi _ _ _ _ _ _ _ _ hv oJ e1,e2⟩
theorem MX.nil {fp:Nat→Prop} {n0:Nat} {w:World} {S:Nat→Prop} {μ:Mu} {σ:du} (h:∀ k o i,au σ k=some o→rowOf o i=none):MX fp n0 w S μ σ:=by
 have no:∀ {k i x v},gR w μ σ k i x v→False:=by
  rintro k i x v ⟨o,pl,h1,h2,_⟩
  rw [h k o i h1] at h2;cases h2
 exact ⟨fun _ _ _ _ h=>(no h).elim,fun _ _ _ _ _ h=>(no h).elim,fun _ _ _ _ _ _ _ _ _ h=>(no h).elim⟩
end Go.Ab
namespace Go.Ab
structure Env where
 w0:World
 S0:Nat→Prop
 fp:Nat→Prop
 YJ:Mu
 m0:Nat
structure Fr (w0:World) (fp:Nat→Prop) (w:World):Prop where
 os:w.os=w0.os
 tape:w.tape=w0.tape
 output:w.output=w0.output
 size:w0.heap.size≤w.heap.size
 b6:∀ b,b < w0.heap.size→¬ fp b→w.heap[b]?=w0.heap[b]?
theorem Fr.refl (w:World) (fp:Nat→Prop):Fr w fp w:=⟨rfl,rfl,rfl,aP _,fun _ _ _=>rfl⟩
structure Good (E:Env) (σ:du) (S:Nat→Prop) (μ:Mu) (w:World):Prop where
 fr:Fr E.w0 E.fp w
 S0:∀ b,E.S0 b→S b
 S1:∀ b,S b→b < w.heap.size
 S2:∀ b,S b→E.S0 b∨E.w0.heap.size≤b
 rep:Zc w S μ σ
 own:∀ k o pl,au σ k=some o→μ k=some pl→0 < pl.cap→E.fp pl.b6∨E.w0.heap.size≤pl.b6
 Bo:∀ k,k < E.m0→μ k=E.YJ k
 mx:MX E.fp E.w0.heap.size w S μ σ
theorem cr {w:World} {b:Nat} {o:Obj} (h:w.heap[b]?=some o):b < w.heap.size:=(Array.getElem?_eq_some_iff.1 h).1
def cm (μ:Mu) (k:Nat) (pl:Place):Mu:=fun n=>if n=k then some pl else μ n
theorem eh {w:World} {o:Obj} {b:Nat} (h:b < w.heap.size):(w.alloc o).heap[b]?=w.heap[b]?:=heap_alloc_old w o b h
theorem gR.vB {w w':World} {S:Nat→Prop} {μ cD:Mu} {σ dx:du} (g:Zc w S μ σ) {k k1 i:Nat} {x:Nat×Nat×(Nat→List AV)} {v:Value} (h:gR w' cD dx k i x v)
  (ho:∀ o,au dx k=some o→∃ o1,au σ k1=some o1∧rowOf o1 i=some x) (hm:∀ pl,cD k=some pl→μ k1=some pl)
  (hb:∀ o pl,au σ k1=some o→μ k1=some pl→0 < pl.cap→w'.heap[pl.b6]?=w.heap[pl.b6]?):gR w μ σ k1 i x v:=by
 obtain ⟨o,pl,h1,h2,h3,h4⟩:=h
 obtain ⟨o1,h5,h6⟩:=ho o h1
 have h7:=hm pl h3
 refine ⟨o1,pl,h5,h6,h7,?_⟩
 obtain ⟨qA,c,T,h8,h9⟩:=g.ob k1 o1 h5
 rw [h7] at h8;cases h8
 have hc:0 < pl.cap:=by have:=(dk h6).2.1;have:=h9.len;omega
 rw [← h4]
 exact (qZ (hb o1 pl h5 h7 hc) _).symm
theorem gR.ob {w:World} {μ:Mu} {σ:du} {k i:Nat} {x:Nat×Nat×(Nat→List AV)} {v:Value} (h:gR w μ σ k i x v):∃ o,au σ k=some o∧rowOf o i=some x:=by
 obtain ⟨o,_,h1,h2,_⟩:=h;exact ⟨o,h1,h2⟩
theorem Good.QF {E:Env} {σ:du} {S:Nat→Prop} {μ:Mu} {w:World} (g:Good E σ S μ w) {nk:Nat} (hk:μ nk=none) (hm:E.m0≤nk) (c:Array Value) (T:TypeId) (o:Ob) (cap:Nat)
  (rY:cap * o.sz≤c.size) (hlen:o.len≤cap) (pS:∀ i,i < o.len→(o.get i).length=o.sz)
  (xX:∀ i j x v,i < o.len→(o.get i)[j]?=some x→c[i * o.sz+j]?=some v→aq w S (if o.pr then fV else μ) v x) (CF:o.sz≠0)
  (TM:MX E.fp E.w0.heap.size (w.alloc (.cells c T)) S (cm μ nk ⟨w.heap.size,cap,o.sz⟩) (sset σ nk o)) :
  Ext w S μ (w.alloc (.cells c T)) S (cm μ nk ⟨w.heap.size,cap,o.sz⟩)∧Good E (sset σ nk o) S (cm μ nk ⟨w.heap.size,cap,o.sz⟩) (w.alloc (.cells c T)):=by
 have e:Ext w S μ (w.alloc (.cells c T)) S (cm μ nk ⟨w.heap.size,cap,o.sz⟩) :=
  ⟨by simp,fun _ h=>h,fun b hb=>eh (g.S1 b hb),fun k pl h=>by
   unfold cm
   split
   ·rename_i rT;rw [rT,hk] at h;cases h
   ·exact h⟩
 refine ⟨e,⟨⟨g.fr.os,g.fr.tape,g.fr.output,by have:=g.fr.size;simp;omega,fun b hb hf=>(eh (lX hb g.fr.size)).trans (g.fr.b6 b hb hf)⟩,
  g.S0,fun b hb=>by have:=g.S1 b hb;simp;omega,g.S2,⟨?_,?_⟩,?_,fun k lj=>?_,TM⟩⟩
 ·intro k x hx
  rw [bg] at hx
  by_cases rT:nk=k
  ·rw [if_pos rT] at hx
   cases hx
   refine ⟨⟨w.heap.size,cap,o.sz⟩,c,T,by simp [cm,rT],rfl,fun _=>(heap_alloc_new w _).trans (by rw [fx CF]),rY,hlen,fun _ hS=>sN _ (g.S1 _ hS),pS,?_,fun h=>absurd h CF⟩
   intro i j x v hi hx hv
   refine (xX i j x v hi hx hv).mono e.Fk e.b6 ?_
   cases o.pr
   ·exact e.mu
   ·exact fun _ _ h=>h
  ·rw [if_neg rT] at hx
   obtain ⟨pl,c',T',fy,ho⟩:=g.rep.ob k x hx
   exact ⟨pl,c',T',e.mu _ _ fy,ho.ext e (fun hc=>eh (cr (ho.b6 hc))) ho.out⟩
 ·intro k k' x x' pl iJ ec hx sG hp n6 td Fm
  rw [bg] at hx sG
  simp only [cm] at hp n6
  have lt:∀ {k x pl},nk≠k→au σ k=some x→μ k=some pl→0 < pl.cap→pl.b6 < w.heap.size:=fun {k x pl} _ hx hp hc=>by
   obtain ⟨qA,c',T',fy,ho⟩:=g.rep.ob k x hx
   rw [hp] at fy;cases fy;exact cr (ho.b6 hc)
  by_cases h1:nk=k
  ·have h2:¬ nk=k':=fun h=>ec (h1.symm.trans h)
   rw [if_neg h2] at sG
   rw [if_neg (fun h=>h2 h.symm)] at n6
   rw [if_pos h1.symm] at hp
   cases hp
   have:=lt h2 sG n6 Fm
   show w.heap.size≠_
   omega
  ·rw [if_neg h1] at hx
   rw [if_neg (fun h=>h1 h.symm)] at hp
   by_cases h2:nk=k'
   ·rw [if_pos h2.symm] at n6
    cases n6
    have:=lt h1 hx hp td
    show _≠w.heap.size
    omega
   ·rw [if_neg h2] at sG
    rw [if_neg (fun h=>h2 h.symm)] at n6
    exact g.rep.ne k k' x x' pl iJ ec hx sG hp n6 td Fm
 ·intro k x pl hx hp hc
  rw [bg] at hx
  simp only [cm] at hp
  by_cases h1:nk=k
  ·rw [if_pos h1.symm] at hp
   cases hp
   exact .inr g.fr.size
  ·rw [if_neg h1] at hx
   rw [if_neg (fun h=>h1 h.symm)] at hp
   exact g.own k x pl hx hp hc
 ·simp only [cm]
  rw [if_neg (by omega)]
  exact g.Bo k lj
theorem Good.KC {E:Env} {σ:du} {S:Nat→Prop} {μ:Mu} {w w':World} (g:Good E σ S μ w) {nk:Nat} (hk:μ nk=none) (o:Ob) (pl:Place) (Ao:0 < pl.cap→w.heap.size≤pl.b6) (Pk:∀ i,rowOf o i=none)
  (hw:∀ b,b < w.heap.size→w'.heap[b]?=w.heap[b]?) {S':Nat→Prop} (hS:∀ b,S b→S' b) (W6:∀ b,S' b→S b∨w.heap.size≤b):MX E.fp E.w0.heap.size w' S' (cm μ nk pl) (sset σ nk o):=by
 have key:∀ k i x v,gR w' (cm μ nk pl) (sset σ nk o) k i x v→k≠nk:=by
  rintro k i x v h rfl
  obtain ⟨o2,h1,h2⟩:=h.ob
  rw [bg,if_pos rfl] at h1
  cases h1
  rw [Pk] at h2;cases h2
 refine g.mx.tr id (fun k i x v h=>?_) (fun _ _ _ _ _ _ _ _ _ _ h=>h) hS (fun b hb=>hw b (g.S1 b hb)) (fun k i x v b _ h hb=>?_) (fun k o2 qA h1 h2 h3=>?_)
 ·have ec:=key _ _ _ _ h
  obtain ⟨o3,h3,h4⟩:=h.ob
  refine h.vB g.rep (fun o2 h1=>?_) (fun qA h2=>?_) (fun o2 qA h1 h2 h3=>?_)
  ·rw [h3] at h1;cases h1
   rw [bg,if_neg (fun e=>ec e.symm)] at h3
   exact ⟨o3,h3,h4⟩
  ·unfold cm at h2;rw [if_neg ec] at h2;exact h2
  ·obtain ⟨pl3,c3,T3,NN,Md⟩:=g.rep.ob k o2 h1
   have h2:μ k=some qA:=h2
   rw [h2] at NN;cases NN
   exact hw _ (cr (Md.b6 h3))
 ·obtain ⟨q1,q2,q3,_⟩:=g.mx.b6 h hb
  exact ⟨hw b q1,fun hs=>(W6 b hs).elim q2 (fun h=>by omega),fun h=>h⟩
 ·by_cases rT:nk=k
  ·unfold cm at h2;rw [if_pos rT.symm] at h2;cases h2
   exact .inr (Ao h3)
  ·rw [bg,if_neg rT] at h1
   unfold cm at h2;rw [if_neg (fun h=>rT h.symm)] at h2
   exact .inl ⟨k,o2,qA,h1,h2,h3,rfl⟩
theorem Good.alloc {E:Env} {σ:du} {S:Nat→Prop} {μ:Mu} {w:World} (g:Good E σ S μ w) {nk:Nat} (hk:μ nk=none) (hm:E.m0≤nk) (c:Array Value) (T:TypeId) (o:Ob) (cap:Nat)
  (rY:cap * o.sz≤c.size) (hlen:o.len≤cap) (pS:∀ i,i < o.len→(o.get i).length=o.sz)
  (xX:∀ i j x v,i < o.len→(o.get i)[j]?=some x→c[i * o.sz+j]?=some v→aq w S (if o.pr then fV else μ) v x) (CF:o.sz≠0) (Pk:∀ i,rowOf o i=none) :
  Ext w S μ (w.alloc (.cells c T)) S (cm μ nk ⟨w.heap.size,cap,o.sz⟩)∧Good E (sset σ nk o) S (cm μ nk ⟨w.heap.size,cap,o.sz⟩) (w.alloc (.cells c T)) :=
 g.QF hk hm c T o cap rY hlen pS xX CF (g.KC hk o _ (fun _=>aP _) Pk (fun _ h=>eh h) (fun _ h=>h) (fun _ h=>.inl h))
theorem Good.Ml {E:Env} {σ:du} {S:Nat→Prop} {μ:Mu} {w w':World} (g:Good E σ S μ w)
  (hw:∀ b,b < w.heap.size→w'.heap[b]?=w.heap[b]?) {S':Nat→Prop} (hS:∀ b,S b→S' b) (W6:∀ b,S' b→S b∨w.heap.size≤b):MX E.fp E.w0.heap.size w' S' μ σ:=by
 refine g.mx.tr id (fun k i x v h=>?_) (fun _ _ _ _ _ _ _ _ _ _ h=>h) hS (fun b hb=>hw b (g.S1 b hb)) (fun k i x v b _ h hb=>?_) (fun k o2 qA h1 h2 h3=>.inl ⟨k,o2,qA,h1,h2,h3,rfl⟩)
 ·obtain ⟨o3,h3,h4⟩:=h.ob
  refine h.vB g.rep (fun o2 h1=>⟨o3,h3,h4⟩) (fun qA h2=>h2) (fun o2 qA h1 h2 h3=>?_)
  obtain ⟨pl3,c3,T3,NN,Md⟩:=g.rep.ob k o2 h1
  have h2:μ k=some qA:=h2
  rw [h2] at NN;cases NN
  exact hw _ (cr (Md.b6 h3))
 ·obtain ⟨q1,q2,q3,_⟩:=g.mx.b6 h hb
  exact ⟨hw b q1,fun hs=>(W6 b hs).elim q2 (fun h=>by omega),fun h=>h⟩
theorem Good.Pm {E:Env} {σ:du} {S:Nat→Prop} {μ:Mu} {w:World} (g:Good E σ S μ w) (o:Obj) :
  Ext w S μ (w.alloc o) (fun b=>S b∨b=w.heap.size) μ∧Good E σ (fun b=>S b∨b=w.heap.size) μ (w.alloc o):=by
 have e:Ext w S μ (w.alloc o) (fun b=>S b∨b=w.heap.size) μ :=
  ⟨by simp,fun _ h=>.inl h,fun b hb=>eh (g.S1 b hb),fun k pl h=>h⟩
 refine ⟨e,⟨⟨g.fr.os,g.fr.tape,g.fr.output,by have:=g.fr.size;simp;omega,fun b hb hf=>(eh (lX hb g.fr.size)).trans (g.fr.b6 b hb hf)⟩,
  fun b h=>.inl (g.S0 b h),fun b hb=>?_,fun b hb=>?_,⟨?_,g.rep.ne⟩,g.own,g.Bo,g.Ml (fun _ h=>eh h) (fun _ h=>.inl h) (fun b h=>h.elim .inl (fun h=>.inr (Nat.le_of_eq h.symm)))⟩⟩
 ·rcases hb with hb | hb
  ·have:=g.S1 b hb;simp;omega
  ·simp;omega
 ·rcases hb with hb | hb
  ·exact g.S2 b hb
  ·exact .inr (hb ▸ g.fr.size)
 ·intro k x hx
  obtain ⟨pl,c',T',fy,ho⟩:=g.rep.ob k x hx
  exact ⟨pl,c',T',fy,ho.ext e (fun hc=>eh (cr (ho.b6 hc))) (fun hc h=>h.elim (ho.out hc) (by have:=cr (ho.b6 hc);omega))⟩
theorem Good.drew {E:Env} {σ:du} {S:Nat→Prop} {μ:Mu} {w:World} (g:Good E σ S μ w):Good E σ S μ w.drew :=
 ⟨⟨g.fr.os,g.fr.tape,g.fr.output,g.fr.size,g.fr.b6⟩,g.S0,g.S1,g.S2,
  ⟨fun k o h=>let ⟨pl,c,T,hm,ho⟩:=g.rep.ob k o h
   ⟨pl,c,T,hm,ho.ext (w':=w.drew) ⟨aP _,fun _ h=>h,fun _ _=>rfl,fun _ _ h=>h⟩ (fun _=>rfl) ho.out⟩,g.rep.ne⟩,g.own,g.Bo,g.Ml (w':=w.drew) (fun _ _=>rfl) (fun _ h=>h) (fun _ h=>.inl h)⟩
theorem Ext.drew (w:World) (S:Nat→Prop) (μ:Mu):Ext w S μ w.drew S μ:=⟨aP _,fun _ h=>h,fun _ _=>rfl,fun _ _ h=>h⟩
theorem Good.del {E:Env} {σ:du} {S:Nat→Prop} {μ:Mu} {w:World} (g:Good E σ S μ w) (k:Nat):Good E (qz σ k) S μ w:=by
 have hs:∀ n o,au (qz σ k) n=some o→au σ n=some o:=fun n o h=>by
  rw [eH] at h
  split at h
  ·cases h
  ·exact h
 exact ⟨g.fr,g.S0,g.S1,g.S2,⟨fun n o h=>g.rep.ob n o (hs n o h),fun k k' o o' pl iJ ec h h'=>g.rep.ne k k' o o' pl iJ ec (hs _ _ h) (hs _ _ h')⟩,
  fun k o pl h=>g.own k o pl (hs _ _ h),g.Bo,g.mx.tr id (fun k i x v ⟨o,pl,h1,h2⟩=>⟨o,pl,hs _ _ h1,h2⟩) (fun _ _ _ _ _ _ _ _ _ _ h=>h) (fun _ h=>h) (fun _ _=>rfl)
   (fun k i x v b _ h hb=>⟨rfl,(g.mx.b6 h hb).2.1,fun h=>h⟩) (fun k o pl h1 h2 h3=>.inl ⟨k,o,pl,hs _ _ h1,h2,h3,rfl⟩)⟩
theorem Good.mxW {E:Env} {σ:du} {S:Nat→Prop} {μ:Mu} {w w':World} (g:Good E σ S μ w) {k:Nat} {o:Ob} (hs:au σ k=some o) {pl:Place} (hm:μ k=some pl) (wN:0 < pl.cap) (hS:¬ S pl.b6)
  (tA:∀ b,b≠pl.b6→w'.heap[b]?=w.heap[b]?) (o':Ob) (ui:∀ i x,rowOf o' i=some x→rowOf o i=some x∧∀ v,w'.cell? ⟨pl.b6,i * pl.sz,none⟩=some v→w.cell? ⟨pl.b6,i * pl.sz,none⟩=some v) :
  MX E.fp E.w0.heap.size w' S μ (sset σ k o'):=by
 refine g.mx.tr id (fun n i x v h=>?_) (fun _ _ _ _ _ _ _ _ _ _ h=>h) (fun _ h=>h) (fun b hb=>tA b fun e=>hS (e ▸ hb)) (fun n i x v b _ h hb=>?_) (fun n o2 qA h1 h2 h3=>?_)
 ·by_cases rT:k=n
  ·subst rT
   obtain ⟨o2,qA,h1,h2,h3,h4⟩:=h
   rw [bg,if_pos rfl] at h1;cases h1
   rw [hm] at h3;cases h3
   obtain ⟨q1,q2⟩:=ui i x h2
   exact ⟨o,pl,hs,q1,hm,q2 v h4⟩
  ·obtain ⟨o3,h3,h4⟩:=h.ob
   rw [bg,if_neg rT] at h3
   refine h.vB g.rep (fun o2 h1=>⟨o3,h3,h4⟩) (fun qA h2=>h2) (fun o2 qA h1 h2 h3=>?_)
   exact tA _ (g.rep.ne n k o2 o qA pl (fun h=>rT h.symm) h1 hs h2 hm h3 wN)
 ·obtain ⟨q1,q2,q3,_⟩:=g.mx.b6 h hb
  exact ⟨tA b fun e=>g.mx.obj _ _ _ _ _ h hb k o pl hs hm wN e.symm,q2,fun h=>h⟩
 ·rw [bg] at h1
  split at h1
  ·rename_i hh;subst hh;exact .inl ⟨_,o,qA,hs,h2,h3,rfl⟩
  ·exact .inl ⟨n,o2,qA,h1,h2,h3,rfl⟩
theorem Good.write {E:Env} {σ:du} {S:Nat→Prop} {μ:Mu} {w:World} (g:Good E σ S μ w) {k:Nat} {o:Ob} (hs:au σ k=some o) {pl:Place} {c:Array Value} {T:TypeId}
  (hm:μ k=some pl) (wN:0 < pl.cap) (ho:gy w S μ o pl c T) (CF:o.sz≠0) (o':Ob) (c':Array Value) (kr:o'.sz=o.sz) (hc:c'.size=c.size) (hlen:o'.len≤pl.cap)
  (pS:∀ i,i < o'.len→(o'.get i).length=o'.sz)
  (xX:∀ i j x v,i < o'.len→(o'.get i)[j]?=some x→c'[i * o'.sz+j]?=some v→aq w S (if o'.pr then fV else μ) v x)
  (ui:∀ i x,rowOf o' i=some x→rowOf o i=some x∧c'[i * o.sz]?=c[i * o.sz]?) :
  Ext w S μ (w.setRow pl.b6 c') S μ∧Good E (sset σ k o') S μ (w.setRow pl.b6 c'):=by
 have tA:∀ b,b≠pl.b6→(w.setRow pl.b6 c').heap[b]?=w.heap[b]?:=fun b hb=>by
  simp only [World.setRow,Array.getElem?_modify]
  rw [if_neg (fun h=>hb h.symm)]
 have e:Ext w S μ (w.setRow pl.b6 c') S μ :=
  ⟨by simp,fun _ h=>h,fun b hb=>tA b fun h=>ho.out wN (h ▸ hb),fun _ _ h=>h⟩
 refine ⟨e,⟨⟨g.fr.os,g.fr.tape,g.fr.output,by have:=g.fr.size;simpa using this,fun b hb hf=>?_⟩,g.S0,fun b hb=>by simpa using g.S1 b hb,g.S2,⟨?_,?_⟩,?_,g.Bo,?_⟩⟩
 rotate_right
 ·refine g.mxW hs hm wN (ho.out wN) tA o' fun i x hx=>⟨(ui i x hx).1,fun v hv=>?_⟩
  have h1:=ho.b6 wN
  rw [fx CF] at h1
  rw [cell_of_row _ _ _ _ _ _ (setRow_heap w _ c c' T (0,0) h1),ho.sz,(ui i x hx).2] at hv
  rw [cell_of_row _ _ _ _ _ _ h1,ho.sz]
  exact hv
 ·rw [tA b,g.fr.b6 b hb hf]
  rintro rfl
  rcases g.own k o pl hs hm wN with h | h
  ·exact hf h
  ·omega
 ·intro n x hx
  rw [bg] at hx
  by_cases rT:k=n
  ·rw [if_pos rT] at hx
   cases hx
   refine ⟨pl,c',T,rT ▸ hm,ho.sz.trans kr.symm,fun _=>(setRow_heap w _ c c' T (0,0) ((ho.b6 wN).trans (by rw [fx CF]))).trans (by rw [fx (by rw [kr];exact CF)]),?_,hlen,ho.out,pS,?_,fun h=>absurd (kr ▸ h) CF⟩
   ·rw [kr,hc];exact ho.cap
   ·intro i j x v hi hx hv
    refine (xX i j x v hi hx hv).mono e.Fk e.b6 ?_
    cases o'.pr
    ·exact e.mu
    ·exact fun _ _ h=>h
  ·rw [if_neg rT] at hx
   obtain ⟨qA,c2,T2,AF,Cz⟩:=g.rep.ob n x hx
   exact ⟨qA,c2,T2,AF,Cz.ext e (fun hc=>tA _ (g.rep.ne n k x o qA pl (fun h=>rT h.symm) hx hs AF hm hc wN)) Cz.out⟩
 ·intro n n' x x' p p' ec hx sG hp n6 td Fm
  rw [bg] at hx sG
  have f:∀ {n x},(if k=n then some o' else au σ n)=some x→∃ y,au σ n=some y:=fun {n x} h=>by
   split at h
   ·rename_i hh;exact ⟨o,hh ▸ hs⟩
   ·exact ⟨_,h⟩
  obtain ⟨y,hy⟩:=f hx
  obtain ⟨y',Ub⟩:=f sG
  exact g.rep.ne n n' y y' p p' ec hy Ub hp n6 td Fm
 ·intro n x p hx hp hc
  rw [bg] at hx
  split at hx
  ·rename_i hh;subst hh;exact g.own _ o p hs hp hc
  ·exact g.own n x p hx hp hc
theorem Good.Uc {E:Env} {σ:du} {S:Nat→Prop} {μ:Mu} {w w':World} (g:Good E σ S μ w) {k:Nat} {o:Ob} (hs:au σ k=some o) {pl:Place} {c:Array Value} {T:TypeId}
  (hm:μ k=some pl) (wN:0 < pl.cap) (ho:gy w S μ o pl c T) (h1:w'.os=w.os) (h2:w'.tape=w.tape) (h3:w'.output=w.output) (h4:w'.heap.size=w.heap.size) (tA:∀ b,b≠pl.b6→w'.heap[b]?=w.heap[b]?)
  (o':Ob) (Pk:∀ i,rowOf o' i=none) (QG:Ext w S μ w' S μ→∃ c' T',gy w' S μ o' pl c' T'):Ext w S μ w' S μ∧Good E (sset σ k o') S μ w':=by
 have e:Ext w S μ w' S μ:=⟨by omega,fun _ h=>h,fun b hb=>tA b fun h=>ho.out wN (h ▸ hb),fun _ _ h=>h⟩
 refine ⟨e,⟨⟨h1.trans g.fr.os,h2.trans g.fr.tape,h3.trans g.fr.output,by have:=g.fr.size;omega,fun b hb hf=>?_⟩,g.S0,fun b hb=>by rw [h4];exact g.S1 b hb,g.S2,⟨?_,?_⟩,?_,g.Bo,g.mxW hs hm wN (ho.out wN) tA o' fun i x hx=>by rw [Pk] at hx;cases hx⟩⟩
 ·rw [tA b,g.fr.b6 b hb hf]
  rintro rfl
  rcases g.own k o pl hs hm wN with h | h
  ·exact hf h
  ·omega
 ·intro n x hx
  rw [bg] at hx
  by_cases rT:k=n
  ·rw [if_pos rT] at hx
   cases hx
   obtain ⟨c',T',hn⟩:=QG e
   exact ⟨pl,c',T',rT ▸ hm,hn⟩
  ·rw [if_neg rT] at hx
   obtain ⟨qA,c2,T2,AF,Cz⟩:=g.rep.ob n x hx
   exact ⟨qA,c2,T2,AF,Cz.ext e (fun hc=>tA _ (g.rep.ne n k x o qA pl (fun h=>rT h.symm) hx hs AF hm hc wN)) Cz.out⟩
 ·intro n n' x x' p p' ec hx sG hp n6 td Fm
  rw [bg] at hx sG
  have f:∀ {n x},(if k=n then some o' else au σ n)=some x→∃ y,au σ n=some y:=fun {n x} h=>by
   split at h
   ·rename_i hh;exact ⟨o,hh ▸ hs⟩
   ·exact ⟨_,h⟩
  obtain ⟨y,hy⟩:=f hx
  obtain ⟨y',Ub⟩:=f sG
  exact g.rep.ne n n' y y' p p' ec hy Ub hp n6 td Fm
 ·intro n x p hx hp hc
  rw [bg] at hx
  split at hx
  ·rename_i hh;subst hh;exact g.own _ o p hs hp hc
  ·exact g.own n x p hx hp hc
theorem Good.allocMap {E:Env} {σ:du} {S:Nat→Prop} {μ:Mu} {w:World} (g:Good E σ S μ w) {nk:Nat} (hk:μ nk=none) (hm:E.m0≤nk) :
  Ext w S μ (w.alloc (.map #[] 0)) S (cm μ nk ⟨w.heap.size,1,0⟩)∧Good E (sset σ nk ⟨false,0,0,true,fun _=>[]⟩) S (cm μ nk ⟨w.heap.size,1,0⟩) (w.alloc (.map #[] 0)):=by
 have hold:∀ b,b < w.heap.size→(w.alloc (.map #[] 0)).heap[b]?=w.heap[b]?:=fun b h=>eh h
 have e:Ext w S μ (w.alloc (.map #[] 0)) S (cm μ nk ⟨w.heap.size,1,0⟩) :=
  ⟨by simp,fun _ h=>h,fun b hb=>hold b (g.S1 b hb),fun k pl h=>by
   unfold cm
   split
   ·rename_i rT;rw [rT,hk] at h;cases h
   ·exact h⟩
 have lt:∀ {k x pl},au σ k=some x→μ k=some pl→0 < pl.cap→pl.b6 < w.heap.size:=fun {k x pl} hx hp hc=>by
  obtain ⟨qA,c',T',fy,ho⟩:=g.rep.ob k x hx
  rw [hp] at fy;cases fy;exact cr (ho.b6 hc)
 refine ⟨e,⟨⟨g.fr.os,g.fr.tape,g.fr.output,by have:=g.fr.size;simp;omega,fun b hb hf=>(hold b (lX hb g.fr.size)).trans (g.fr.b6 b hb hf)⟩,
  g.S0,fun b hb=>by have:=g.S1 b hb;simp;omega,g.S2,⟨?_,?_⟩,?_,fun k lj=>?_,g.KC hk _ _ (fun _=>aP _) (fun i=>rfl) hold (fun _ h=>h) (fun _ h=>.inl h)⟩⟩
 ·intro k x hx
  rw [bg] at hx
  by_cases rT:nk=k
  ·rw [if_pos rT] at hx
   cases hx
   refine ⟨⟨w.heap.size,1,0⟩,#[],0,by simp [cm,rT],rfl,fun _=>(heap_alloc_new w _).trans (by simp [AE,ef]),by simp,by simp,fun _ hS=>sN _ (g.S1 _ hS),fun i hi=>absurd hi (dP _),fun i j x v hi=>absurd hi (dP _),fun _=>⟨Nat.one_pos,rfl,rfl,rfl,fun j x v hx=>by simp at hx⟩⟩
  ·rw [if_neg rT] at hx
   obtain ⟨pl,c',T',fy,ho⟩:=g.rep.ob k x hx
   exact ⟨pl,c',T',e.mu _ _ fy,ho.ext e (fun hc=>hold _ (cr (ho.b6 hc))) ho.out⟩
 ·intro k k' x x' pl iJ ec hx sG hp n6 td Fm
  rw [bg] at hx sG
  simp only [cm] at hp n6
  by_cases h1:nk=k
  ·have h2:¬ nk=k':=fun h=>ec (h1.symm.trans h)
   rw [if_neg h2] at sG
   rw [if_neg (fun h=>h2 h.symm)] at n6
   rw [if_pos h1.symm] at hp
   cases hp
   have:=lt sG n6 Fm
   show w.heap.size≠_
   omega
  ·rw [if_neg h1] at hx
   rw [if_neg (fun h=>h1 h.symm)] at hp
   by_cases h2:nk=k'
   ·rw [if_pos h2.symm] at n6
    cases n6
    have:=lt hx hp td
    show _≠w.heap.size
    omega
   ·rw [if_neg h2] at sG
    rw [if_neg (fun h=>h2 h.symm)] at n6
    exact g.rep.ne k k' x x' pl iJ ec hx sG hp n6 td Fm
 ·intro k x pl hx hp hc
  rw [bg] at hx
  simp only [cm] at hp
  by_cases h1:nk=k
  ·rw [if_pos h1.symm] at hp
   cases hp
   exact .inr g.fr.size
  ·rw [if_neg h1] at hx
   rw [if_neg (fun h=>h1 h.symm)] at hp
   exact g.own k x pl hx hp hc
 ·simp only [cm]
  rw [if_neg (by omega)]
  exact g.Bo k lj
end Go.Ab
namespace Go.Ab
def aW:List Prop→Prop
 | []=>True
 | p :: ps=>p∧aW ps
theorem aW.app {a b:List Prop} (h:aW (a ++ b)):aW a∧aW b:=by
 induction a with
 | nil=>exact ⟨trivial,h⟩
 | cons p ps ih=>exact ⟨⟨h.1,(ih h.2).1⟩,(ih h.2).2⟩
def AV.strip:AV→AV×List Prop
 | .when b x=>(x.strip.1,(b=true) :: x.strip.2)
 | x=>(x,[])
theorem aq.strip {w:World} {S:Nat→Prop} {μ:Mu} {v:Value} {x:AV} (h:aq w S μ v x):aW x.strip.2→aq w S μ v x.strip.1:=by
 induction h with
 | when h1 _ ih=>exact fun hp=>ih hp.1 hp.2
 | atom v=>exact fun _=>.atom v
 | agg h1 h2 _=>exact fun _=>.agg h1 h2
 | tup h1 h2 _=>exact fun _=>.tup h1 h2
 | sl b off sz f h1 h2 h3 h4 h5 _=>exact fun _=>.sl b off sz f h1 h2 h3 h4 h5
 | rp b o f h1 h2 h3 _=>exact fun _=>.rp b o f h1 h2 h3
 | op pl h=>exact fun _=>.op pl h
 | os pl h h1 h2 h3=>exact fun _=>.os pl h h1 h2 h3
 | fn h1 h2 h3 h4 _ _=>exact fun _=>.fn h1 h2 h3 h4
 | mp pl h=>exact fun _=>.mp pl h
 | bn b h=>exact fun _=>.bn b h
 | pt h1 h2 _=>exact fun _=>.pt h1 h2
 | ov pl h h1=>exact fun _=>.ov pl h h1
 | Cy pl h h1 h2=>exact fun _=>.Cy pl h h1 h2
 | nq h h1 h2 _=>exact fun _=>.nq h h1 h2
 | nil=>exact fun _=>.nil
 | mV=>exact fun _=>.mV
 | mr=>exact fun _=>.mr
def AV.one:AV→Bool
 | .atom v=>match v with
  | .agg _ | .tuple _=>false
  | _=>true
 | .sl _ _ | .rp _ _ | .op _ _ _ | .os _ _ _ | .fn _ _ _ | .mp _ | .bn _ | .pt _ _ | .nil=>true
 | .nq _ x=>x.one
 | _=>false
theorem aq.Je {w:World} {S:Nat→Prop} {μ:Mu} {v:Value} {x:AV} (h:aq w S μ v x) (hx:x.one=true):v.oneCell'=true:=by
 induction h with
 | atom v=>cases v<;>simp_all [AV.one,Value.oneCell']
 | nq _ _ _ ih=>exact ih (by simpa [AV.one] using hx)
 | @pt μ b cs v h1 h2 _ =>
  cases b with
  | false=>rw [h2 rfl];rfl
  | true=>have:=h1 rfl;cases this;rfl
 | _=>first | rfl | (simp [AV.one] at hx;done)
def AV.kN:List AV→Bool
 | []=>true
 | c :: cs=>c.one && AV.kN cs
theorem Fo {cs:List AV} (h:AV.kN cs=true) {j:Nat} {c:AV} (hc:cs[j]?=some c):c.one=true:=by
 induction cs generalizing j with
 | nil=>simp at hc
 | cons x xs ih =>
  simp only [AV.kN,aV] at h
  cases j with
  | zero=>simp at hc;exact hc ▸ h.1
  | succ j=>exact ih h.2 (by simpa using hc)
def AV.cells:AV→Option (List AV)
 | .agg cs=>some cs
 | .atom v=>match v with
  | .agg _ | .tuple _=>none
  | v=>some [.atom v]
 | .sl n g=>some [.sl n g]
 | .rp c o=>some [.rp c o]
 | .op k i j=>some [.op k i j]
 | .os k o n=>some [.os k o n]
 | .fn f a b=>some [.fn f a b]
 | .mp k=>some [.mp k]
 | .bn n=>some [.bn n]
 | .pt b cs=>some [.pt b cs]
 | .nq st x=>match x.one with
  | true=>some [.nq st x]
  | false=>none
 | .nil=>some [.nil]
 | _=>none
theorem Pn {v:Value} (h:v.oneCell'=true):v.cells=#[v]:=by
 cases v<;>simp_all [Value.oneCell',Value.cells]
theorem aq.cells {w:World} {S:Nat→Prop} {μ:Mu} {v:Value} {x:AV} (h:aq w S μ v x) {cs:List AV} (hc:x.cells=some cs) :
  v.cells.size=cs.length∧∀ (j:Nat) (c:AV) (u:Value),cs[j]?=some c→v.cells[j]?=some u→aq w S μ u c:=by
 have one:∀ {x:AV},aq w S μ v x→x.one=true→cs=[x]→v.cells.size=cs.length∧∀ (j:Nat) (c:AV) (u:Value),cs[j]?=some c→v.cells[j]?=some u→aq w S μ u c:=by
  intro x h h1 h2
  rw [Pn (h.Je h1),h2]
  refine ⟨rfl,?_⟩
  intro j c u hj hu
  cases j with
  | zero=>simp at hj hu;exact hj ▸ hu ▸ h
  | succ j=>simp at hj
 cases x with
 | agg l =>
  cases hc
  cases h with
  | agg h1 h2=>exact ⟨h1,fun j c u hj hu=>h2 j c u hj hu⟩
 | atom u =>
  have hu:(AV.atom u).one=true:=by cases u<;>simp_all [AV.cells,AV.one]
  exact one h hu (by cases u<;>simp_all [AV.cells])
 | sl=>exact one h rfl (by simpa [AV.cells] using hc.symm)
 | rp=>exact one h rfl (by simpa [AV.cells] using hc.symm)
 | op=>exact one h rfl (by simpa [AV.cells] using hc.symm)
 | os=>exact one h rfl (by simpa [AV.cells] using hc.symm)
 | fn=>exact one h rfl (by simpa [AV.cells] using hc.symm)
 | mp=>exact one h rfl (by simpa [AV.cells] using hc.symm)
 | bn=>exact one h rfl (by simpa [AV.cells] using hc.symm)
 | pt=>exact one h rfl (by simpa [AV.cells] using hc.symm)
 | nq st x =>
  simp only [AV.cells] at hc
  split at hc
  ·rename_i h1;exact one h (by simpa [AV.one] using h1) (Option.some.inj hc).symm
  ·cases hc
 | nil=>exact one h rfl (by simpa [AV.cells] using hc.symm)
 | _=>simp [AV.cells] at hc
def fJ:Value→AV
 | .slice none 0 0=>.nil
 | .func f vs ws=>if vs.size=0∧ws.size=0 then .fn f [] [] else .atom (.func f vs ws)
 | v=>.atom v
def ofConst:Value→AV
 | .agg vs=>.agg (vs.toList.map fJ)
 | .tuple vs=>.tup (vs.toList.map fJ)
 | v=>fJ v
theorem AG (w:World) (S:Nat→Prop) (μ:Mu) (v:Value):aq w S μ v (fJ v):=by
 unfold fJ
 split
 ·exact .nil
 ·split
  ·rename_i h
   exact .fn (by simpa using h.1) (by simpa using h.2) (fun j c v hc=>by simp at hc) (fun j c v hc=>by simp at hc)
  ·exact .atom _
 ·exact .atom _
theorem Ic (w:World) (S:Nat→Prop) (μ:Mu) (v:Value):aq w S μ v (ofConst v):=by
 have f:∀ (vs:Array Value) (j:Nat) (c:AV) (u:Value),(vs.toList.map fJ)[j]?=some c→vs[j]?=some u→aq w S μ u c:=by
  intro vs j c u hc hu
  have hu':vs.toList[j]?=some u:=by simpa using hu
  rw [List.getElem?_map,hu'] at hc
  simp at hc
  exact hc ▸ AG w S μ u
 unfold ofConst
 split
 ·exact .agg (by simp) (f _)
 ·exact .tup (by simp) (f _)
 ·exact AG w S μ _
def uj (P:Program) (t:TypeId):Option Nat:=(P.info? t).map (·.size)
def wR (P:Program) (t:TypeId):Option Nat:=(P.info? t).map (·.bytes)
def sH (P:Program) (t:TypeId):Option Value:=(P.info? t).bind (·.zero)
theorem eM {P:Program} {t n:Nat} (h:uj P t=some n) (w:World):(sizeOf t).run P w=.ok n w:=by
 unfold uj at h
 cases hi:P.info? t with
 | none=>simp [hi] at h
 | some i=>simp [hi] at h;simp [sizeOf,typeInfo,hi,h]
theorem Ie {P:Program} {t:Nat} {z:Value} (h:sH P t=some z) (w:World):(zeroValue t).run P w=.ok z w:=by
 unfold sH at h
 cases hi:P.info? t with
 | none=>simp [hi] at h
 | some i=>simp [hi] at h;simp [zeroValue,typeInfo,hi,h]
theorem wS {P:Program} {t n b:Nat} {z:Value} (h:uj P t=some n) (hb:wR P t=some b) (hz:sH P t=some z) :
  ∃ i,P.info? t=some i∧i.size=n∧i.bytes=b∧i.zero=some z:=by
 unfold uj at h;unfold wR at hb;unfold sH at hz
 cases hi:P.info? t with
 | none=>simp [hi] at h
 | some i=>simp [hi] at h hb hz;exact ⟨i,rfl,h,hb,hz⟩
def Wf (op:BinOp) (k:IntKind) (a b:Int):Option (List Prop×AV) :=
 match op with
 | .add=>some ([],.atom (.int k (k.wrap (a+b))))
 | .sub=>some ([],.atom (.int k (k.wrap (a - b))))
 | .mul=>some ([],.atom (.int k (k.wrap (a * b))))
 | .quo=>some ([b≠0],.atom (.int k (k.wrap (a.tdiv b))))
 | .rem=>some ([b≠0],.atom (.int k (a.tmod b)))
 | .and=>some ([],.atom (.int k (k.wrap (BitVec.ofInt k.bits a &&& BitVec.ofInt k.bits b).toNat)))
 | .or=>some ([],.atom (.int k (k.wrap (BitVec.ofInt k.bits a ||| BitVec.ofInt k.bits b).toNat)))
 | .xor=>some ([],.atom (.int k (k.wrap (BitVec.ofInt k.bits a ^^^ BitVec.ofInt k.bits b).toNat)))
 | .andNot=>some ([],.atom (.int k (k.wrap (BitVec.ofInt k.bits a &&& ~~~BitVec.ofInt k.bits b).toNat)))
 | .eql=>some ([],.atom (.bool (a == b)))
 | .neq=>some ([],.atom (.bool (a != b)))
 | .lss=>some ([],.atom (.bool (decide (a < b))))
 | .leq=>some ([],.atom (.bool (decide (a≤b))))
 | .gtr=>some ([],.atom (.bool (decide (a > b))))
 | .geq=>some ([],.atom (.bool (decide (a≥b))))
 | _=>none
def E3 (op:BinOp) (k:IntKind) (a b:Int):Option (List Prop×AV) :=
 match op with
 | .shl=>some ([0≤b],.atom (.int k (k.wrap (a * 2 ^ (min b.toNat k.bits)))))
 | .shr=>some ([0≤b],.atom (.int k (a.fdiv (2 ^ (min b.toNat k.bits)))))
 | _=>none
def Bs (a b:ByteArray):Bool:=a.toList == b.toList
def Wg (op:BinOp) (a b:ByteArray):Option (List Prop×AV) :=
 match op with
 | .eql=>some ([],.atom (.bool (Bs a b)))
 | .neq=>some ([],.atom (.bool (!Bs a b)))
 | .lss=>some ([],.atom (.bool (Op.bytesLess a.toList b.toList)))
 | .leq=>some ([],.atom (.bool (Op.bytesLess a.toList b.toList || Bs a b)))
 | .gtr=>some ([],.atom (.bool (!(Op.bytesLess a.toList b.toList || Bs a b))))
 | .geq=>some ([],.atom (.bool (!Op.bytesLess a.toList b.toList)))
 | .add=>some ([((a.size+b.size:Nat):Int)≤IntKind.i64.max],.atom (.string (a ++ b)))
 | _=>none
def jX (P:Program) (t:TypeId) (cs:List AV) (off:Nat):Option AV :=
 match P.underlying t,uj P t with
 | some d,some n=>match d.isRow with
  | true=>some (.agg ((cs.drop off).take n))
  | false=>cs[off]?
 | _,_=>none
theorem jY {P:Program} {w:World} {S:Nat→Prop} {μ:Mu} {vs:Array Value} {cs:List AV} (hs:vs.size=cs.length)
  (h:∀ (j:Nat) (c:AV) (v:Value),cs[j]?=some c→vs[j]?=some v→aq w S μ v c) {t off:Nat} {x:AV} (hx:jX P t cs off=some x)
  (hle:∀ n,uj P t=some n→off+n≤cs.length) :
  ∃ v,(part t vs off).run P w=.ok v w∧aq w S μ v x:=by
 unfold jX at hx
 cases hu:P.underlying t with
 | none=>simp [hu] at hx
 | some d =>
  cases hn:uj P t with
  | none=>simp [hu,hn] at hx
  | some n =>
   have afF:=hle n hn
   cases hd:d.isRow with
   | true =>
    simp [hu,hn,hd] at hx
    have Mm:(isAgg t).run P w=.ok true w:=by
     unfold isAgg
     rw [bH,run_underlying hu w]
     cases d<;>simp_all
    refine ⟨.agg (vs.extract off (off+n)),by simp [part,Mm,eM hn],?_⟩
    rw [← hx]
    refine .agg (by simp;omega) ?_
    intro j c v hc hv
    have hj:j < n:=by
     have:j < ((cs.drop off).take n).length:=(dd.1 hc).1
     simp at this;omega
    rw [kg,if_pos hj,kf] at hc
    have oJ:vs[off+j]?=some v:=by
     rw [Array.getElem?_extract] at hv
     split at hv
     ·exact hv
     ·cases hv
    exact h _ _ _ hc oJ
   | false =>
    simp [hu,hn,hd] at hx
    have Mm:(isAgg t).run P w=.ok false w:=by
     unfold isAgg
     rw [bH,run_underlying hu w]
     cases d<;>simp_all
    have ft:off < vs.size:=by rw [hs];exact (dd.1 hx).1
    refine ⟨vs[off],by simp [part,Mm,dN ft],?_⟩
    exact h off x _ hx (dN ft)
mutual
def CG (P:Program):Nat→TypeId→AV→AV→Option Bool
 | 0,_,_,_=>none
 | d+1,t,x,y =>
  match P.underlying t with
  | some .bool=>match x,y with
   | .atom (.bool a),.atom (.bool b)=>some (a == b)
   | _,_=>none
  | some (.int _)=>match x,y with
   | .atom (.int k a),.atom (.int k' b)=>match decide (k=k') with
    | true=>some (a == b)
    | false=>none
   | _,_=>none
  | some .string=>match x,y with
   | .atom (.string a),.atom (.string b)=>some (Bs a b)
   | _,_=>none
  | some (.struct fs)=>match x,y with
   | .agg xs,.agg ys=>match P.stoodInHeld t with
    | false=>Fp P d xs ys fs.toList
    | true=>none
   | _,_=>none
  | some (.array n e)=>match x,y,uj P e with
   | .agg xs,.agg ys,some m=>Ap P d e m xs ys 0 n
   | _,_,_=>none
  | _=>none
def Fp (P:Program):Nat→List AV→List AV→List Field→Option Bool
 | _,_,_,[]=>some true
 | 0,_,_,_=>none
 | d+1,xs,ys,f :: fs =>
  match decide (f.name = "_"),uj P f.type with
  | false,some n=>match Nat.ble (f.offset+n) xs.length && Nat.ble (f.offset+n) ys.length,jX P f.type xs f.offset,jX P f.type ys f.offset with
   | true,some a,some b=>match CG P d f.type a b,Fp P d xs ys fs with
    | some p,some q=>some (p && q)
    | _,_=>none
   | _,_,_=>none
  | _,_=>none
def Ap (P:Program):Nat→TypeId→Nat→List AV→List AV→Nat→Nat→Option Bool
 | _,_,_,_,_,_,0=>some true
 | 0,_,_,_,_,_,_=>none
 | d+1,e,m,xs,ys,i,n+1 =>
  match Nat.ble (i * m+m) xs.length && Nat.ble (i * m+m) ys.length,jX P e xs (i * m),jX P e ys (i * m) with
  | true,some a,some b=>match CG P d e a b,Ap P d e m xs ys (i+1) n with
   | some p,some q=>some (p && q)
   | _,_=>none
  | _,_,_=>none
end
end Go.Ab
namespace Go.Ab
theorem db {w:World} {S:Nat→Prop} {μ:Mu} {v u:Value} (h:aq w S μ v (.atom u)):v=u:=by cases h;rfl
theorem nO {w:World} {S:Nat→Prop} {μ:Mu} {v:Value} {cs:List AV} (h:aq w S μ v (.agg cs)) :
  ∃ vs:Array Value,v=.agg vs∧vs.size=cs.length∧∀ (j:Nat) (c:AV) (u:Value),cs[j]?=some c→vs[j]?=some u→aq w S μ u c:=by
 cases h with
 | agg h1 h2=>exact ⟨_,rfl,h1,h2⟩
section
variable {P:Program} {w:World} {S:Nat→Prop} {μ:Mu}
theorem KD {t:TypeId} {fs:Array Field} (h:P.underlying t=some (.struct fs)):P.fieldsOf t=fs:=by
 simp [Program.fieldsOf,h]
theorem KE:∀ d:Nat,
  (∀ D t x y v u b,d≤D→aq w S μ v x→aq w S μ u y→CG P d t x y=some b→(Op.equalIn D t v u).run P w=.ok b w) ∧
  (∀ D (vs us:Array Value) xs ys fs b,d≤D→vs.size=xs.length→(∀ (j:Nat) c z,xs[j]?=some c→vs[j]?=some z→aq w S μ z c)→us.size=ys.length →
   (∀ (j:Nat) c z,ys[j]?=some c→us[j]?=some z→aq w S μ z c)→Fp P d xs ys fs=some b→(Op.eqFields D vs us fs).run P w=.ok b w) ∧
  (∀ D (vs us:Array Value) e m xs ys i n b,d≤D→uj P e=some m→vs.size=xs.length→(∀ (j:Nat) c z,xs[j]?=some c→vs[j]?=some z→aq w S μ z c)→us.size=ys.length →
   (∀ (j:Nat) c z,ys[j]?=some c→us[j]?=some z→aq w S μ z c)→Ap P d e m xs ys i n=some b →
   (forIn (m:=Sem) (List.range' i n) ((none,()):Option Bool×Unit) fun i _=>do
      let p ← part e vs (i * m)
      let q ← part e us (i * m)
      let r ← Op.equalIn D e p q
      if (!r)=true then pure (ForInStep.done (some false,())) else pure (ForInStep.yield (none,()))).run P w=.ok (if b then none else some false,()) w):=by
 intro d
 induction d with
 | zero =>
  refine ⟨fun D t x y v u b _ _ _ h=>by simp [CG] at h,?_,?_⟩
  ·intro D vs us xs ys fs b _ _ _ _ _ h
   cases fs with
   | nil=>simp [Fp] at h;subst h;simp [Op.eqFields]
   | cons f fs=>simp [Fp] at h
  ·intro D vs us e m xs ys i n b _ _ _ _ _ _ h
   cases n with
   | zero=>simp [Ap] at h;subst h;simp
   | succ n=>simp [Ap] at h
 | succ d ih =>
  obtain ⟨Kk,Kl,ih3⟩:=ih
  refine ⟨?_,?_,?_⟩
  ·intro D t x y v u b hD hx hy h
   obtain ⟨D,rfl⟩:∃ D',D=D'+1:=⟨D - 1,by omega⟩
   simp only [CG] at h
   split at h
   ·rename_i hu
    split at h
    ·cases hx;cases hy
     simp at h;subst h
     simp [Op.equalIn,run_underlying hu]
    ·cases h
   ·rename_i hu
    split at h
    ·rename_i k a k' b'
     cases hx;cases hy
     by_cases hk:k=k'
     ·simp [hk] at h;subst h
      simp [Op.equalIn,run_underlying hu,hk]
     ·simp [hk] at h
    ·cases h
   ·rename_i hu
    split at h
    ·cases hx;cases hy
     simp at h;subst h
     rw [run_equalIn_string w D t _ _ hu];rfl
    ·cases h
   ·rename_i fs hu
    split at h
    ·split at h
     ·rename_i zs
      obtain ⟨vs,rfl,HD,CH⟩:=nO hx
      obtain ⟨us,rfl,Km,Hu⟩:=nO hy
      have hf:=KD hu
      rw [run_equalIn_struct w D t vs us (hf ▸ hu) zs,hf]
      exact Kl D vs us _ _ _ b (by omega) HD CH Km Hu h
     ·cases h
    ·cases h
   ·rename_i n e hu
    split at h
    ·rename_i m hm
     obtain ⟨vs,rfl,HD,CH⟩:=nO hx
     obtain ⟨us,rfl,Km,Hu⟩:=nO hy
     simp only [Op.equalIn,bH,run_underlying hu,cN,eM hm]
     rw [Std.Legacy.Range.forIn_eq_forIn_range']
     simp only [Std.Legacy.Range.size,Nat.sub_zero,Nat.add_sub_cancel,Nat.div_one]
     rw [ih3 D vs us e m _ _ 0 n b (by omega) hm HD CH Km Hu h]
     cases b<;>simp
    ·cases h
   ·cases h
  ·intro D vs us xs ys fs b hD HD CH Km Hu h
   cases fs with
   | nil=>simp [Fp] at h;subst h;simp [Op.eqFields]
   | cons f fs =>
    simp only [Fp] at h
    split at h
    ·rename_i n Ze hn
     split at h
     ·rename_i a c hle ha hc
      split at h
      ·rename_i p q hp hq
       simp only [aV,Nat.ble_eq] at hle
       have W7:∀ n',uj P f.type=some n'→f.offset+n'≤xs.length:=fun n' h'=>by rw [hn] at h';cases h';exact hle.1
       have Mn:∀ n',uj P f.type=some n'→f.offset+n'≤ys.length:=fun n' h'=>by rw [hn] at h';cases h';exact hle.2
       obtain ⟨v1,r1,x1⟩:=jY HD CH ha W7
       obtain ⟨v2,r2,x2⟩:=jY Km Hu hc Mn
       have e1:=Kk D f.type a c v1 v2 p (by omega) x1 x2 hp
       have e2:=Kl D vs us xs ys fs q (by omega) HD CH Km Hu hq
       have ec:f.name≠ "_":=lB Ze
       simp at h;subst h
       simp only [Op.eqFields,if_pos ec,bH,r1,r2,e1,cN]
       cases p
       ·simp
       ·simp [e2]
      ·cases h
     ·cases h
    ·cases h
  ·intro D vs us e m xs ys i n b hD hm HD CH Km Hu h
   cases n with
   | zero=>simp [Ap] at h;subst h;simp
   | succ n =>
    simp only [Ap] at h
    split at h
    ·rename_i a c hle ha hc
     split at h
     ·rename_i p q hp hq
      simp only [aV,Nat.ble_eq] at hle
      have W7:∀ n',uj P e=some n'→i * m+n'≤xs.length:=fun n' h'=>by rw [hm] at h';cases h';exact hle.1
      have Mn:∀ n',uj P e=some n'→i * m+n'≤ys.length:=fun n' h'=>by rw [hm] at h';cases h';exact hle.2
      obtain ⟨v1,r1,x1⟩:=jY HD CH ha W7
      obtain ⟨v2,r2,x2⟩:=jY Km Hu hc Mn
      have e1:=Kk D e a c v1 v2 p (by omega) x1 x2 hp
      have e2:=ih3 D vs us e m xs ys (i+1) n q (by omega) hm HD CH Km Hu hq
      simp at h;subst h
      rw [List.range'_succ,List.forIn_cons]
      simp only [bH,r1,r2,e1,cN]
      cases p
      ·simp
      ·simpa using e2
     ·cases h
    ·cases h
def Fq (o:BinOp) (q:Bool):Option AV :=
 match o with
 | .eql=>some (.atom (.bool q))
 | .neq=>some (.atom (.bool (!q)))
 | _=>none
def QH:AV→Bool
 | .atom v=>match v with
  | .pointer none=>true
  | _=>false
 | _=>false
def QI (P:Program) (o:BinOp) (t:TypeId) (x y:AV):Option AV :=
 match P.underlying t,y with
 | some (.slice _),.nil=>match x with
  | .nil=>Fq o true
  | .sl n _ | .os _ _ n=>match o with
   | .eql=>some (.bn n)
   | _=>none
  | _=>none
 | some (.pointer _),y=>match QH y with
  | true=>match x with
   | .atom v=>match v with
    | .pointer none=>Fq o true
    | _=>none
   | .rp _ _ | .op _ _ _=>Fq o false
   | .pt b _=>Fq o (!b)
   | _=>none
  | false=>none
 | _,_=>none
theorem oh (op:BinOp) (t:TypeId) (x y:Operand) (a b:Value) (h1:a≠.nilIface) (h2:∀ c,a≠.agg c):(eqGuard op t x y a b).run P w=.ok () w:=by
 unfold eqGuard
 cases op<;>simp<;>(cases a<;>simp_all)
theorem NO {o:BinOp} {t:TypeId} {a b:Option Addr} {l c l' c':Nat} {q:Bool} (h:(Op.equal t (.slice a l c) (.slice b l' c')).run P w=.ok q w) {r:AV} (hr:Fq o q=some r):∃ z,(binOp o t (.slice a l c) (.slice b l' c')).run P w=.ok z w∧aq w S μ z r:=by
 cases o<;>simp only [Fq,az,reduceCtorEq] at hr<;>subst hr
 ·exact ⟨.bool q,by simp only [binOp,bH,h];rfl,.atom _⟩
 ·exact ⟨.bool (!q),by simp only [binOp,bH,h];rfl,.atom _⟩
theorem Bt {o:BinOp} {t:TypeId} {a:Option Addr} {q:Bool} (h:(Op.equal t (.pointer a) (.pointer none)).run P w=.ok q w) {r:AV} (hr:Fq o q=some r):∃ z,(binOp o t (.pointer a) (.pointer none)).run P w=.ok z w∧aq w S μ z r:=by
 cases o<;>simp only [Fq,az,reduceCtorEq] at hr<;>subst hr
 ·exact ⟨.bool q,by simp only [binOp,bH,h];rfl,.atom _⟩
 ·exact ⟨.bool (!q),by simp only [binOp,bH,h];rfl,.atom _⟩
theorem W8 {op:BinOp} {t:TypeId} {x y:AV} {xo yo:Operand} {v u:Value} (hx:aq w S μ v x) (hy:aq w S μ u y) {r:AV} (h:QI P op t x y=some r) :
  ∃ z,(do eqGuard op t xo yo v u;binOp op t v u:Sem Value).run P w=.ok z w∧aq w S μ z r:=by
 have gd:∀ (v u:Value),v≠.nilIface→(∀ c,v≠.agg c)→(∃ z,(binOp op t v u).run P w=.ok z w∧aq w S μ z r)→∃ z,(do eqGuard op t xo yo v u;binOp op t v u:Sem Value).run P w=.ok z w∧aq w S μ z r:=by
  intro v u h1 h2 h3
  have hg:=oh (P:=P) (w:=w) op t xo yo v u h1 h2
  simpa only [bH,hg,cN] using h3
 unfold QI at h
 split at h
 ·rename_i e ht
  cases hy
  have sl:∀ (a:Option Addr) (l c:Nat),(Op.equal t (.slice a l c) (.slice none 0 0)).run P w=.ok a.isNone w:=by
   intro a l c
   unfold Op.equal Op.maxDepth Op.equalIn
   rw [bH,run_underlying ht]
   cases a<;>rfl
  split at h
  ·cases hx
   exact gd _ _ (by simp) (by simp) (NO (sl none 0 0) h)
  ·split at h
   ·cases h
    cases hx with
    | sl b off sz f h1 h2 h3 h4 h5 =>
     rename_i a cap
     refine gd _ _ (by simp) (by simp) ⟨.bool a.isNone,?_,.bn _ fun hn=>?_⟩
     ·simp only [binOp,bH,sl];rfl
     ·refine Nat.eq_zero_of_not_pos fun h0=>?_
      rw [(h1 h0).1] at hn;cases hn
   ·cases h
  ·split at h
   ·cases h
    cases hx with
    | os pl hm h1 h2 h3 =>
     rename_i cap a
     refine gd _ _ (by simp) (by simp) ⟨.bool a.isNone,?_,.bn _ fun hn=>?_⟩
     ·simp only [binOp,bH,sl];rfl
     ·refine Nat.eq_zero_of_not_pos fun h0=>?_
      rw [h1 (by omega)] at hn;cases hn
   ·cases h
  ·cases h
 ·rename_i e ht
  split at h
  ·rename_i NP
   have hu:u=.pointer none:=by
    unfold QH at NP
    split at NP
    ·split at NP
     ·exact db hy
     ·cases NP
    ·cases NP
   subst hu
   have pt:∀ (a:Option Addr),(Op.equal t (.pointer a) (.pointer none)).run P w=.ok a.isNone w:=by
    intro a
    unfold Op.equal Op.maxDepth Op.equalIn
    rw [bH,run_underlying ht]
    cases a<;>rfl
   split at h
   ·split at h
    ·have:=db hx;subst this
     exact gd _ _ (by simp) (by simp) (Bt (pt none) h)
    ·cases h
   ·cases hx
    exact gd _ _ (by simp) (by simp) (Bt (pt (some _)) h)
   ·cases hx
    exact gd _ _ (by simp) (by simp) (Bt (pt (some _)) h)
   ·rename_i b cs
    cases hx with
    | pt h1 h2 =>
     cases b with
     | true =>
      have:=h1 rfl
      cases this
      exact gd _ _ (by simp) (by simp) (Bt (pt (some _)) h)
     | false =>
      rw [h2 rfl]
      exact gd _ _ (by simp) (by simp) (Bt (pt none) h)
   ·cases h
  ·cases h
 ·cases h
def Zf:Option Bool→Bool
 | some b=>b
 | none=>false
theorem Wh {op:BinOp} {t e:TypeId} {st:Option Bool} {x:AV} {xo yo:Operand} {v u:Value} (ht:P.underlying t=some (.slice e)) (hx:aq w S μ v (.nq st x)) (hy:aq w S μ u .nil) {n:Nat}
  (hs:∃ a c,v=.slice a n c∧(0 < n→a.isNone=false)) (hn:st=none→0 < n) {r:AV} (h:Fq op (Zf st)=some r) :
  ∃ z,(do eqGuard op t xo yo v u;binOp op t v u:Sem Value).run P w=.ok z w∧aq w S μ z r:=by
 obtain ⟨a,c,rfl,ha⟩:=hs
 cases hy
 have hq:a.isNone=Zf st:=by
  cases hx with
  | nq _ h1 h2 =>
   cases st with
   | none=>exact ha (hn rfl)
   | some b=>cases b with
    | true=>have:=h1 rfl;injection this with e1;subst e1;rfl
    | false=>have:=h2 rfl;cases a with
     | none=>cases this
     | some a=>rfl
 have hg:=oh (P:=P) (w:=w) op t xo yo (.slice a n c) (.slice none 0 0) (by simp) (by simp)
 have he:(Op.equal t (.slice a n c) (.slice none 0 0)).run P w=.ok (Zf st) w:=by
  rw [← hq]
  unfold Op.equal Op.maxDepth Op.equalIn
  rw [bH,run_underlying ht]
  cases a<;>rfl
 obtain ⟨z,h1,h2⟩:=NO (S:=S) (μ:=μ) he h
 exact ⟨z,by simpa only [bH,hg,cN] using h1,h2⟩
def QJ (P:Program) (op:BinOp) (t:TypeId) (x y:AV):Option (List Prop×AV) :=
 match x,y with
 | .atom (.int k a),.atom (.int k' b)=>match op with
  | .shl=>E3 .shl k a b
  | .shr=>E3 .shr k a b
  | op=>match decide (k=k') with
   | true=>Wf op k a b
   | false=>none
 | .atom (.string a),.atom (.string b)=>Wg op a b
 | .atom (.bool _),.atom (.bool _)=>match op with
  | .eql=>(CG P 1 t x y).map fun b=>([],.atom (.bool b))
  | .neq=>(CG P 1 t x y).map fun b=>([],.atom (.bool (!b)))
  | _=>none
 | .agg _,.agg _=>match P.eqGuardType P.depth t with
  | false=>match op with
   | .eql=>(CG P 60 t x y).map fun b=>([],.atom (.bool b))
   | .neq=>(CG P 60 t x y).map fun b=>([],.atom (.bool (!b)))
   | _=>none
  | true=>none
 | .nq st x,.nil=>match P.underlying t,x with
  | some (.slice _),.sl n _=>(Fq op (Zf st)).map fun v=>([st=none→0 < n],v)
  | some (.slice _),.os _ _ n=>(Fq op (Zf st)).map fun v=>([st=none→0 < n],v)
  | _,_=>none
 | x,y=>(QI P op t x y).map fun v=>([],v)
theorem W9 {op:BinOp} {t:TypeId} {x y:AV} {xo yo:Operand} {v u:Value} (hx:aq w S μ v x) (hy:aq w S μ u y) {ps:List Prop} {r:AV} (h:QJ P op t x y=some (ps,r)) (hp:aW ps) :
  ∃ z,(do eqGuard op t xo yo v u;binOp op t v u:Sem Value).run P w=.ok z w∧aq w S μ z r:=by
 unfold QJ at h
 split at h
 ·rename_i k a k' b
  have:=db hx;subst this
  have:=db hy;subst this
  have hg:=oh (P:=P) (w:=w) op t xo yo (.int k a) (.int k' b) (by simp) (by simp)
  simp only [bH,hg,cN]
  have sh:∀ o,(o=.shl∨o=.shr)→E3 o k a b=some (ps,r)→∃ z,(binOp o t (.int k a) (.int k' b)).run P w=.ok z w∧aq w S μ z r:=by
   intro o ho h
   rcases ho with rfl | rfl<;>simp only [E3,az,ay] at h<;>obtain ⟨rfl,rfl⟩:=h <;>
    (have h0:¬ b < 0:=by have:=hp.1;omega)<;>exact ⟨_,by simp [binOp,Op.shift,h0],.atom _⟩
  split at h
  ·exact sh .shl (.inl rfl) h
  ·exact sh .shr (.inr rfl) h
  ·rename_i n1 n2
   split at h
   ·rename_i hk
    have hk:=oG hk
    subst hk
    cases op<;>simp only [Wf,az,ay,reduceCtorEq] at h <;>
     first
      | exact absurd rfl n1
      | exact absurd rfl n2
      | (obtain ⟨rfl,rfl⟩:=h
         exact ⟨_,by
         first
          | (simp [binOp,Op.intArith];done)
          | (have hb:¬ b=0:=hp.1
             simp [binOp,Op.intDiv,hb];done)
          | (simp [binOp,Op.intBits];done)
          | (simp [binOp,Op.intCmp];done),.atom _⟩)
   ·cases h
 ·rename_i a b
  have:=db hx;subst this
  have:=db hy;subst this
  have hg:=oh (P:=P) (w:=w) op t xo yo (.string a) (.string b) (by simp) (by simp)
  simp only [bH,hg,cN]
  cases op<;>simp only [Wg,az,ay,reduceCtorEq] at h<;>obtain ⟨rfl,rfl⟩:=h
  ·have h0:¬ ((a.size+b.size:Nat):Int) > IntKind.i64.max:=by have:=hp.1;omega
   exact ⟨_,by simp only [binOp,Op.stringOp,if_neg h0];rfl,.atom _⟩
  all_goals exact ⟨_,by simp only [binOp,Op.stringOp];rfl,.atom _⟩
 ·rename_i a b
  have:=db hx;subst this
  have:=db hy;subst this
  have hg:=oh (P:=P) (w:=w) op t xo yo (.bool a) (.bool b) (by simp) (by simp)
  simp only [bH,hg,cN]
  split at h
  ·simp only [aJ,ay] at h
   obtain ⟨q,hq,rfl,rfl⟩:=h
   have:=(KE (w:=w) (S:=S) (μ:=μ) 1).1 10000 t _ _ _ _ q (by omega) hx hy hq
   exact ⟨_,by simp only [binOp,Op.equal,Op.maxDepth,bH,this];rfl,.atom _⟩
  ·simp only [aJ,ay] at h
   obtain ⟨q,hq,rfl,rfl⟩:=h
   have:=(KE (w:=w) (S:=S) (μ:=μ) 1).1 10000 t _ _ _ _ q (by omega) hx hy hq
   exact ⟨_,by simp only [binOp,Op.equal,Op.maxDepth,bH,this];rfl,.atom _⟩
  ·cases h
 ·split at h
  ·rename_i Ud
   obtain ⟨vs,rfl,HD,CH⟩:=nO hx
   obtain ⟨us,rfl,Km,Hu⟩:=nO hy
   have hg:=run_eqGuard_agg (P:=P) w op t xo yo vs us Ud
   simp only [bH,hg,cN]
   split at h
   ·simp only [aJ,ay] at h
    obtain ⟨q,hq,rfl,rfl⟩:=h
    have:=(KE (w:=w) (S:=S) (μ:=μ) 60).1 10000 t _ _ _ _ q (by omega) hx hy hq
    exact ⟨_,by rw [run_eql_struct,this];rfl,.atom _⟩
   ·simp only [aJ,ay] at h
    obtain ⟨q,hq,rfl,rfl⟩:=h
    have:=(KE (w:=w) (S:=S) (μ:=μ) 60).1 10000 t _ _ _ _ q (by omega) hx hy hq
    exact ⟨_,by rw [run_neq_struct,this];rfl,.atom _⟩
   ·cases h
  ·cases h
 ·split at h
  ·rename_i e n g ht
   simp only [aJ,ay] at h
   obtain ⟨q,hq,rfl,rfl⟩:=h
   refine Wh ht hx hy (n:=n) ?_ hp.1 hq
   cases hx with
   | nq h0 _ _=>cases h0 with
    | sl b off sz f h1 h2 h3 h4 h5=>exact ⟨_,_,rfl,fun hn=>by rw [(h1 hn).1];rfl⟩
  ·rename_i e k o n ht
   simp only [aJ,ay] at h
   obtain ⟨q,hq,rfl,rfl⟩:=h
   refine Wh ht hx hy (n:=n) ?_ hp.1 hq
   cases hx with
   | nq h0 _ _=>cases h0 with
    | os pl hm h1 h2 h3=>exact ⟨_,_,rfl,fun hn=>by rw [h1 (by omega)];rfl⟩
  ·cases h
 ·simp only [aJ,ay] at h
  obtain ⟨q,hq,rfl,rfl⟩:=h
  exact W8 hx hy hq
def Xa (op:UnOp) (x:AV):Option AV :=
 match op,x with
 | .neg,.atom (.int k n)=>some (.atom (.int k (k.wrap (0 - n))))
 | .not,.atom (.bool b)=>some (.atom (.bool (!b)))
 | _,_=>none
theorem Zg {op:UnOp} {x:AV} {v:Value} (hx:aq w S μ v x) {r:AV} (h:Xa op x=some r):∃ z,(Op.unary op v).run P w=.ok z w∧aq w S μ z r:=by
 unfold Xa at h
 split at h<;>cases h<;>(have:=db hx;subst this)
 ·exact ⟨_,by simp [Op.unary,Op.intArith],.atom _⟩
 ·exact ⟨_,by simp [Op.unary],.atom _⟩
def Mo (P:Program) (src dst:TypeId) (x:AV):Option AV :=
 match P.underlying src,P.underlying dst,x with
 | some _,some (.int k),.atom (.int _ n)=>some (.atom (.int k (k.wrap n)))
 | some _,some .string,.atom (.string s)=>some (.atom (.string s))
 | _,_,_=>none
theorem Ue {src dst:TypeId} {x:AV} {v:Value} (hx:aq w S μ v x) {r:AV} (h:Mo P src dst x=some r):∃ z,(convert src dst v).run P w=.ok z w∧aq w S μ z r:=by
 unfold Mo at h
 split at h
 ·rename_i h1 h2
  cases h;have:=db hx;subst this
  exact ⟨_,by simp [convert,run_underlying h1,run_underlying h2,Conv.intToInt],.atom _⟩
 ·rename_i h1 h2
  cases h;have:=db hx;subst this
  exact ⟨_,by simp [convert,run_underlying h1,run_underlying h2],.atom _⟩
 ·cases h
end
end Go.Ab
namespace Go.Ab
abbrev r7:=List (Nat×Option Ob)
def Step (P:Program) (E:Env) (nk:Nat) (σ:du) (S:Nat→Prop) (μ:Mu) (w:World) (s:Sem Value) (val:AV) (upd:r7):Prop :=
 ∃ v w' S' cD,s.run P w=.ok v w'∧Ext w S μ w' S' cD∧Good E (eX σ upd) S' cD w'∧(∀ k,k≠nk→μ k=none→cD k=none)∧aq w' S' cD v val
def RL (w:World) (S:Nat→Prop) (μ:Mu) (vs:Array Value) (cs:List AV):Prop :=
 vs.size=cs.length∧∀ (j:Nat) (c:AV) (v:Value),cs[j]?=some c→vs[j]?=some v→aq w S μ v c
section
variable {P:Program} {E:Env} {nk:Nat} {σ:du} {S:Nat→Prop} {μ:Mu} {w:World}
theorem Step.pure (g:Good E σ S μ w) {s:Sem Value} {v:Value} {val:AV} (h:s.run P w=.ok v w) (hr:aq w S μ v val):Step P E nk σ S μ w s val [] :=
 ⟨v,w,S,μ,h,Ext.refl w S μ,g,fun _ _ h=>h,hr⟩
theorem RL.mk' {vs:Array Value} {cs:List AV} (h:RL w S μ vs cs):aq w S μ (.agg vs) (.agg cs):=.agg h.1 h.2
theorem RL.pr {vs:Array Value} {cs:List AV} (h:RL w S μ vs cs) {j:Nat} {c:AV} {v:Value} (hc:cs[j]?=some c) (hv:vs[j]?=some v) :
  aq w S (if AV.lG cs then fV else μ) v c:=by
 split
 ·rename_i hp
  exact (h.2 j c v hc hv).pure (ph hp hc) fV
 ·exact h.2 j c v hc hv
theorem mZ {k n:Nat} (pl:Place) (h:n≠k):cm μ k pl n=μ n:=by simp [cm,h]
theorem Step.Wi (g:Good E σ S μ w) (hk:μ nk=none) (hm:E.m0≤nk) {s:Sem Value} {vs:Array Value} {T:TypeId} {cs:List AV}
  (h:s.run P w=.ok (.pointer (some ⟨w.heap.size,0,none⟩)) (w.alloc (.cells vs T))) (hl:RL w S μ vs cs) (hz:1≤cs.length) :
  Step P E nk σ S μ w s (.op nk 0 0) [(nk,some ⟨true,cs.length,1,AV.lG cs,fun _=>cs⟩)]:=by
 have ga:=g.alloc hk hm vs T ⟨true,cs.length,1,AV.lG cs,fun _=>cs⟩ 1 (by simp [hl.1]) (aP _) (fun _ _=>rfl) (fun i j x v hi hx hv=>by
  have:i=0:=by simp at hi;exact hi
  subst this
  exact hl.pr hx (by simpa using hv)) (by show cs.length≠0;omega) (fun i=>mY rfl i)
 refine ⟨_,_,_,_,h,ga.1,ga.2,fun k lj hn=>by rw [mZ _ lj];exact hn,?_⟩
 have:=aq.op (w:=w.alloc (.cells vs T)) (S:=S) (k:=nk) (i:=0) (j:=0) (μ:=cm μ nk ⟨w.heap.size,1,cs.length⟩) ⟨w.heap.size,1,cs.length⟩ (by simp [cm])
 simpa using this
def Jf (P:Program) (nk:Nat) (T:TypeId):Option (AV×r7) :=
 match sH P T with
 | some z=>match Nat.ble 1 (z.cells.toList.map fJ).length with
  | true=>some (.op nk 0 0,[(nk,some ⟨true,(z.cells.toList.map fJ).length,1,AV.lG (z.cells.toList.map fJ),fun _=>z.cells.toList.map fJ⟩)])
  | false=>none
 | none=>none
theorem yj (vs:Array Value):RL w S μ vs (vs.toList.map fJ) :=
 ⟨by simp,fun j c v hc hv=>by
  have hu':vs.toList[j]?=some v:=by simpa using hv
  rw [List.getElem?_map,hu'] at hc
  simp at hc
  exact hc ▸ AG w S μ v⟩
theorem QK (g:Good E σ S μ w) (hk:μ nk=none) (hm:E.m0≤nk) {T:TypeId} {val:AV} {upd:r7} (h:Jf P nk T=some (val,upd)) :
  Step P E nk σ S μ w (Instr.alloc T true (.tuple #[])) val upd:=by
 unfold Jf at h
 split at h
 ·rename_i z hz
  split at h
  ·rename_i hb
   cases h
   exact Step.Wi g hk hm (vs:=z.cells) (T:=T) (by simp [Instr.alloc,Ie hz,newVar,newRow]) (yj _) (Nat.le_of_ble_eq_true hb)
  ·cases h
 ·cases h
def QL (nk:Nat) (x:AV):Option (AV×r7) :=
 match x.cells with
 | some cs=>match Nat.ble 1 cs.length with
  | true=>some (.op nk 0 0,[(nk,some ⟨true,cs.length,1,AV.lG cs,fun _=>cs⟩)])
  | false=>none
 | none=>none
theorem Xb (g:Good E σ S μ w) (hk:μ nk=none) (hm:E.m0≤nk) {T:TypeId} {x:AV} {v:Value} (hx:aq w S μ v x) {val:AV} {upd:r7} (h:QL nk x=some (val,upd)) :
  Step P E nk σ S μ w (Instr.box T v) val upd:=by
 unfold QL at h
 split at h
 ·rename_i cs hc
  split at h
  ·rename_i hb
   cases h
   exact Step.Wi g hk hm (vs:=v.cells) (T:=T) (by simp [Instr.box,newVar,newRow]) (hx.cells hc) (Nat.le_of_ble_eq_true hb)
  ·cases h
 ·cases h
def oX (cs:List AV) (off:Nat) (ns:List AV):List AV:=cs.take off ++ (ns ++ cs.drop (off+ns.length))
theorem tB (cs:List AV) (off:Nat) (ns:List AV) (h:off+ns.length≤cs.length) (m:Nat) :
  (oX cs off ns)[m]?=if off≤m∧m < off+ns.length then ns[m - off]? else cs[m]?:=by
 have h1:(cs.take off).length=off:=by simp;omega
 unfold oX
 by_cases hm:m < off
 ·rw [eE (by omega),kg,if_pos hm,if_neg (by omega)]
 ·rw [gF (by omega),h1]
  by_cases AF:m < off+ns.length
  ·rw [eE (by omega),if_pos (by omega)]
  ·rw [gF (by omega),kf,if_neg (by omega)]
   congr 1;omega
theorem oi (cs:List AV) (off:Nat) (ns:List AV) (h:off+ns.length≤cs.length):(oX cs off ns).length=cs.length:=by
 simp [oX];omega
theorem foldl_set (off:Nat):∀ (us:List Value) (s:Nat) (vs:Array Value),
  ((us.zipIdx s).foldl (fun cs x=>cs.setIfInBounds (off+x.2) x.1) vs).size=vs.size ∧
  ∀ m,((us.zipIdx s).foldl (fun cs x=>cs.setIfInBounds (off+x.2) x.1) vs)[m]?=if off+s≤m∧m < off+s+us.length∧m < vs.size then us[m - (off+s)]? else vs[m]?
 | [],s,vs=>⟨rfl,fun m=>by simp;intro h1 h2;omega⟩
 | u :: us,s,vs=>by
  obtain ⟨h1,h2⟩:=foldl_set off us (s+1) (vs.setIfInBounds (off+s) u)
  simp only [List.zipIdx_cons,List.foldl_cons]
  refine ⟨by rw [h1];simp,fun m=>?_⟩
  rw [h2 m]
  simp only [Array.size_setIfInBounds,qO]
  by_cases hm:m < vs.size
  ·by_cases h3:off+s=m
   ·subst h3
    rw [if_neg (by omega),if_pos (by omega)]
    simp [Array.getElem?_setIfInBounds_self_of_lt hm]
   ·by_cases h4:off+(s+1)≤m∧m < off+(s+1)+us.length
    ·rw [if_pos ⟨h4.1,h4.2,hm⟩,if_pos (by omega)]
     rw [show m - (off+s)=(m - (off+(s+1)))+1 by omega]
     simp
    ·rw [if_neg (by omega),if_neg (by omega),Array.getElem?_setIfInBounds_ne (by omega)]
  ·rw [if_neg (by omega),if_neg (by omega)]
   simp [Array.getElem?_eq_none (Nat.le_of_not_lt hm),Array.getElem?_setIfInBounds]
   intro _;omega
theorem RL.oX {vs us:Array Value} {cs ns:List AV} (h:RL w S μ vs cs) (hu:RL w S μ us ns) {off:Nat} (hle:off+ns.length≤cs.length) :
  RL w S μ (us.zipIdx.foldl (fun cs (c,j)=>cs.setIfInBounds (off+j) c) vs) (oX cs off ns):=by
 have f:=foldl_set off us.toList 0 vs
 have e:us.zipIdx.foldl (fun cs (c,j)=>cs.setIfInBounds (off+j) c) vs=(us.toList.zipIdx 0).foldl (fun cs x=>cs.setIfInBounds (off+x.2) x.1) vs:=by
  rw [← Array.foldl_toList]
  simp
 rw [e]
 refine ⟨by rw [f.1,h.1,oi _ _ _ hle],?_⟩
 intro j c v hc hv
 rw [f.2 j] at hv
 rw [tB _ _ _ hle] at hc
 have hl:=hu.1
 have hs:=h.1
 by_cases hj:off≤j∧j < off+ns.length
 ·rw [if_pos hj] at hc
  rw [if_pos (by simp;omega)] at hv
  exact hu.2 (j - off) c v hc (by simpa using hv)
 ·rw [if_neg hj] at hc
  rw [if_neg (by simp;omega)] at hv
  exact h.2 j c v hc hv
def Aq (place:Nat→Option (Nat×Nat)) (cells:List AV):List (Nat×AV)→Option (List AV)
 | []=>some cells
 | (i,x) :: rest =>
  match place i,x.cells with
  | some (off,size),some ns=>match Nat.beq ns.length size && Nat.ble (off+ns.length) cells.length with
   | true=>Aq place (oX cells off ns) rest
   | false=>none
  | _,_=>none
theorem Bu (place:Nat→Option (Nat×Nat)):∀ (parts:List (Nat×AV)) (jZ:List (Nat×Value)) (vs:Array Value) (cs out:List AV),
  jZ.map (·.1)=parts.map (·.1)→(∀ (j:Nat) x y,parts[j]?=some x→jZ[j]?=some y→aq w S μ y.2 x.2)→RL w S μ vs cs→Aq place cs parts=some out →
  ∃ us,Instr.fill place vs jZ=some us∧RL w S μ us out
 | [],jZ,vs,cs,out,hi,_,h,hf=>by
  simp at hi;subst hi
  simp [Aq] at hf;subst hf
  exact ⟨vs,rfl,h⟩
 | (i,x) :: rest,jZ,vs,cs,out,hi,hr,h,hf=>by
  obtain ⟨⟨i',v⟩,Zh,rfl⟩:∃ a b,jZ=a :: b:=by
   cases jZ with
   | nil=>simp at hi
   | cons a b=>exact ⟨a,b,rfl⟩
  simp at hi
  obtain ⟨rfl,hi⟩:=hi
  have hv:aq w S μ v x:=hr 0 (i',x) (i',v) rfl rfl
  simp only [Aq] at hf
  split at hf
  ·rename_i off size ns hp hc
   split at hf
   ·rename_i hb
    simp only [aV,Nat.ble_eq] at hb
    have nM:=bm hb.1
    have TN:=hv.cells hc
    obtain ⟨us,h1,h2⟩:=Bu place rest Zh _ _ out hi (fun j x y hx hy=>hr (j+1) x y (by simpa using hx) (by simpa using hy)) (h.oX ⟨TN.1,TN.2⟩ hb.2) hf
    refine ⟨us,?_,h2⟩
    have c1:¬ v.cells.size≠size:=by rw [TN.1];omega
    have c2:¬ off+v.cells.size > vs.size:=by rw [TN.1,h.1];omega
    simp only [Instr.fill,hp]
    rw [if_neg (by simp only [Bool.or_eq_true,decide_eq_true_eq,not_or];exact ⟨c1,c2⟩)]
    exact h1
   ·cases hf
  ·cases hf
def Jg (P:Program) (t:TypeId) (parts:List (Nat×AV)):Option AV :=
 match sH P t,P.underlying t with
 | some z,some (.struct fs)=>match fs.toList.mapM fun f=>(uj P f.type).map fun n=>(f.offset,n) with
  | some Mp=>(Aq (Mp[·]?) (z.cells.toList.map fJ) parts).map .agg
  | none=>none
 | some z,some (.array _ e)=>match uj P e with
  | some n=>(Aq (fun i=>some (i * n,n)) (z.cells.toList.map fJ) parts).map .agg
  | none=>none
 | _,_=>none
theorem QM {t:TypeId} {parts:List (Nat×AV)} {jZ:Array (Nat×Value)} (hi:jZ.toList.map (·.1)=parts.map (·.1))
  (hr:∀ (j:Nat) x y,parts[j]?=some x→jZ.toList[j]?=some y→aq w S μ y.2 x.2) {r:AV} (h:Jg P t parts=some r) :
  ∃ v,(Instr.build t jZ).run P w=.ok v w∧aq w S μ v r:=by
 unfold Jg at h
 split at h
 ·rename_i z fs hz hu
  split at h
  ·rename_i Mp hp
   simp only [aJ] at h
   obtain ⟨out,ho,rfl⟩:=h
   obtain ⟨us,h1,h2⟩:=Bu (w:=w) (S:=S) (μ:=μ) _ parts jZ.toList z.cells _ out hi hr (yj _) ho
   refine ⟨.agg us,run_build w t jZ us ?_,h2.mk'⟩
   have Mq:=hz
   unfold sH at Mq
   cases hi:P.info? t with
   | none=>simp [hi] at Mq
   | some i =>
    simp [hi] at Mq
    unfold Program.built
    have n6:fs.toList.mapM (fun f=>(P.info? f.type).map fun i=>(f.offset,i.size))=some Mp:=by
     rw [← hp];congr 1;funext f;simp [uj,Function.comp_def]
    simp [hi,hu,Mq,n6,h1]
  ·cases h
 ·rename_i z n e hz hu
  split at h
  ·rename_i n' hn
   simp only [aJ] at h
   obtain ⟨out,ho,rfl⟩:=h
   obtain ⟨us,h1,h2⟩:=Bu (w:=w) (S:=S) (μ:=μ) _ parts jZ.toList z.cells _ out hi hr (yj _) ho
   refine ⟨.agg us,run_build w t jZ us ?_,h2.mk'⟩
   have Mq:=hz
   unfold sH at Mq
   unfold uj at hn
   cases hi:P.info? t with
   | none=>simp [hi] at Mq
   | some i =>
    simp [hi] at Mq
    cases he:P.info? e with
    | none=>simp [he] at hn
    | some ie =>
     simp [he] at hn
     subst hn
     unfold Program.built
     simp [hi,hu,Mq,he,h1]
  ·cases h
 ·cases h
end
end Go.Ab
namespace Go.Ab
section
variable {P:Program} {E:Env} {nk:Nat} {σ:du} {S:Nat→Prop} {μ:Mu} {w:World}
theorem Step.QN (g:Good E σ S μ w) (hk:μ nk=none) (hm:E.m0≤nk) {s:Sem Value} {vs:Array Value} {T:TypeId} {len cap sz:Nat} {pr:Bool} {get:Nat→List AV}
  (h:s.run P w=.ok (.slice (some ⟨w.heap.size,0,none⟩) len cap) (w.alloc (.cells vs T))) (rY:cap * sz≤vs.size) (hlen:len≤cap)
  (pS:∀ i,i < len→(get i).length=sz)
  (xX:∀ i j x v,i < len→(get i)[j]?=some x→vs[i * sz+j]?=some v→aq w S (if pr then fV else μ) v x) (CF:sz≠0) (Pk:∀ i,rowOf ⟨false,sz,len,pr,get⟩ i=none) :
  Step P E nk σ S μ w s (.os nk 0 len) [(nk,some ⟨false,sz,len,pr,get⟩)]:=by
 have ga:=g.alloc hk hm vs T ⟨false,sz,len,pr,get⟩ cap rY hlen pS xX CF Pk
 refine ⟨_,_,_,_,h,ga.1,ga.2,fun k lj hn=>by rw [mZ _ lj];exact hn,?_⟩
 exact aq.os ⟨w.heap.size,cap,sz⟩ (by simp [cm]) (by simp) hlen (by simp)
def AV.Uf:AV→Bool
 | .mr _ _ _=>true
 | _=>false
def mP:List AV→Bool
 | []=>true
 | c :: cs=>!c.Uf && mP cs
theorem Ig:∀ {cs:List AV},mP cs=true→∀ c∈cs,c.Uf=false
 | [],_,c,h=>by simp at h
 | a :: cs,h,c,hc=>by
  simp only [mP,aV,Bool.not_eq_true'] at h
  rcases jw.1 hc with rfl | hc
  ·exact h.1
  ·exact Ig h.2 c hc
theorem Mr (v:Value):(fJ v).Uf=false:=by
 unfold fJ
 split
 ·rfl
 ·split<;>rfl
 ·rfl
theorem yk {o:Ob} {l:List AV} (h:∀ i,i < o.len→∀ c∈o.get i,c∈l) (hl:∀ c∈l,c.Uf=false) (i:Nat):rowOf o i=none:=by
 cases hr:rowOf o i with
 | none=>rfl
 | some x =>
  obtain ⟨_,h1,h2⟩:=dk hr
  have:=hl _ (h i h1 (.mr x.1 x.2.1 x.2.2) (by rw [h2];exact List.mem_cons_self))
  cases this
theorem pT {o:Ob} (h:∀ i,i < o.len→AV.kN (o.get i)=true) (i:Nat):rowOf o i=none:=by
 cases hr:rowOf o i with
 | none=>rfl
 | some x =>
  obtain ⟨_,h1,h2⟩:=dk hr
  have:=h i h1
  rw [h2] at this
  cases this
def mm (P:Program) (t:TypeId):Option TypeId :=
 match P.underlying t with
 | some (.slice e)=>some e
 | _=>none
theorem kO {t e:TypeId} (h:mm P t=some e):P.underlying t=some (.slice e):=by
 unfold mm at h
 split at h
 ·cases h;assumption
 ·cases h
def rows (n:Nat):Nat→List AV→List (List AV)
 | 0,_=>[]
 | k+1,cs=>cs.take n :: rows n k (cs.drop n)
theorem KF (n:Nat):∀ (k:Nat) (cs:List AV) (i:Nat),i < k→(rows n k cs)[i]?=some ((cs.drop (i * n)).take n)
 | 0,_,i,h=>by omega
 | k+1,cs,0,_=>by simp [rows]
 | k+1,cs,i+1,h=>by
  simp only [rows,Br]
  rw [KF n k (cs.drop n) i (by omega),List.drop_drop]
  congr 3
  rw [ca];omega
theorem CI (n k:Nat) (cs:List AV) (i:Nat) (h:i < k):(rows n k cs).getD i []=(cs.drop (i * n)).take n:=by
 rw [ee,KF n k cs i h];rfl
def DU (z:List AV):Nat→List AV
 | 0=>[]
 | k+1=>z ++ DU z k
theorem wT (z:List AV):∀ k,(DU z k).length=k * z.length
 | 0=>by simp [DU]
 | k+1=>by simp [DU,wT z k,ca];omega
theorem Ih (z:List AV) (hz:z.length≠0):∀ (k j:Nat),j < k * z.length→(DU z k)[j]?=z[j % z.length]?
 | 0,j,h=>by simp at h
 | k+1,j,h=>by
  simp only [DU]
  by_cases hj:j < z.length
  ·rw [eE hj,Nat.mod_eq_of_lt hj]
  ·rw [gF (by omega),Ih z hz k (j - z.length) (by rw [ca] at h;omega)]
   congr 1
   conv=>rhs;rw [show j=(j - z.length)+z.length by omega]
   simp
theorem QO {z:Value} {n:Nat} (hz:z.cells.size=n) (hn:n≠0) (k:Nat) (c:Array Value) (hc:c=(Array.range (k * n)).map (z.cells[· % z.cells.size]!)) :
  RL w S μ c (DU (z.cells.toList.map fJ) k):=by
 subst hc
 have hl:(z.cells.toList.map fJ).length=n:=by simp [hz]
 refine ⟨by simp [wT,hz],?_⟩
 intro j x v hx hv
 have hj:j < k * n:=by
  have:=(Array.getElem?_eq_some_iff.1 hv).1
  simpa using this
 rw [Ih _ (by omega) k j (by rw [hl];exact hj),hl] at hx
 have ft:j % n < z.cells.size:=by rw [hz];exact Nat.mod_lt _ (by omega)
 have oJ:v=z.cells[j % n]:=by
  simp only [Array.getElem?_map] at hv
  rw [Array.getElem?_range,if_pos hj] at hv
  simp at hv
  rw [← hv,hz]
  simp [getElem!_pos,ft]
 refine (yj (w:=w) (S:=S) (μ:=μ) z.cells).2 (j % n) x v hx ?_
 rw [oJ]
 exact dN ft
def wU (P:Program) (nk:Nat) (t:TypeId) (len:Nat) (parts:List (Nat×AV)):Option (AV×r7) :=
 match mm P t with
 | some e=>match uj P e,wR P e,sH P e with
  | some n,some _,some z=>match Nat.ble 1 (len * n) && Nat.ble (len * n) 16777216 && Nat.beq z.cells.size n with
   | true=>match Aq (fun i=>some (i * n,n)) (DU (z.cells.toList.map fJ) len) parts with
    | some cs=>match mP cs with
     | true=>some (.os nk 0 len,[(nk,some ⟨false,n,len,AV.lG cs,fun i=>(rows n len cs).getD i []⟩)])
     | false=>none
    | none=>none
   | false=>match Nat.beq len 0 && Nat.ble 1 n with
    | true=>some (.os nk 0 0,[(nk,some ⟨false,n,0,true,fun _=>[]⟩)])
    | false=>none
  | _,_,_=>none
 | none=>none
theorem Ej {t e:TypeId} {n:Nat} (he:P.underlying t=some (.slice e)) (hn:uj P e=some n) (w:World) :
  (Instr.buildSlice t 0 #[]).run P w=.ok (.slice (some ⟨w.heap.size,0,none⟩) 0 0) (w.alloc (.cells #[] e)):=by
 simp [Instr.buildSlice,run_underlying he,eM hn,Instr.fill,newRow,Array.range_zero']
theorem HE (g:Good E σ S μ w) (hk:μ nk=none) (hm:E.m0≤nk) {t:TypeId} {len:Nat} {parts:List (Nat×AV)} {jZ:Array (Nat×Value)} (hi:jZ.toList.map (·.1)=parts.map (·.1))
  (hr:∀ (j:Nat) x y,parts[j]?=some x→jZ.toList[j]?=some y→aq w S μ y.2 x.2) {val:AV} {upd:r7} (h:wU P nk t len parts=some (val,upd)) (Zi:len=0→parts=[]) :
  Step P E nk σ S μ w (Instr.buildSlice t len jZ) val upd:=by
 unfold wU at h
 split at h
 ·rename_i e he
  have he:=kO he
  split at h
  ·rename_i n b z hn hb hz
   split at h
   ·rename_i yl
    simp only [aV,Nat.ble_eq] at yl
    have YK:=bm yl.2
    split at h
    ·rename_i cs Xc
     split at h
     case h_2=>cases h
     rename_i hmr
     cases h
     have Ms:n≠0:=by rintro rfl;simp at yl
     have KG:=QO (w:=w) (S:=S) (μ:=μ) YK Ms len _ rfl
     obtain ⟨us,h1,h2⟩:=Bu (w:=w) (S:=S) (μ:=μ) _ parts jZ.toList _ _ cs hi hr KG Xc
     obtain ⟨ie,CJ,kr,hby,Qn⟩:=wS hn hb hz
     subst kr
     have jc:=run_buildSlice w t e len jZ us ie z he CJ Qn (by omega) (by omega) h1
     have hlen:us.size=len * ie.size:=by
      have:=h2.1
      have hf:∀ (parts:List (Nat×AV)) (cs out:List AV),Aq (fun i=>some (i * ie.size,ie.size)) cs parts=some out→out.length=cs.length:=by
       intro parts
       induction parts with
       | nil=>intro cs out h;simp [Aq] at h;rw [h]
       | cons p ps ih =>
        intro cs out h
        simp only [Aq] at h
        split at h
        ·split at h
         ·rename_i ho
          simp only [aV,Nat.ble_eq] at ho
          rw [ih _ _ h,oi _ _ _ ho.2]
         ·cases h
        ·cases h
      rw [this,hf _ _ _ Xc,wT];simp [YK]
     refine Step.QN g hk hm jc (by rw [hlen];exact aP _) (aP _) ?_ ?_ Ms (yk (l:=cs) (fun i hi c hc=>by
      have hc:c∈(rows ie.size len cs).getD i []:=hc
      rw [CI _ _ _ _ hi] at hc
      exact List.mem_of_mem_drop (List.mem_of_mem_take hc)) (Ig hmr))
     ·intro i hi
      rw [CI _ _ _ _ hi]
      have:=h2.1
      have:(i+1) * ie.size≤len * ie.size:=dC _ hi
      rw [ca] at this
      simp;omega
     ·intro i j x v hi hx hv
      rw [CI _ _ _ _ hi,kg] at hx
      split at hx
      ·rw [kf] at hx
       exact h2.pr hx hv
      ·cases hx
    ·cases h
   ·split at h
    ·rename_i KG
     cases h
     simp only [aV,Nat.ble_eq] at KG
     obtain ⟨KG,Hv⟩:=KG
     have:=bm KG
     subst this
     have Zi:=Zi rfl
     subst Zi
     have:jZ=#[]:=by
      have:jZ.toList=[]:=by simpa using hi
      exact Array.toList_eq_nil_iff.1 this
     subst this
     exact Step.QN g hk hm (Ej he hn w) (by simp) (aP _) (fun i hi=>absurd hi (dP _)) (fun i j x v hi=>absurd hi (dP _)) (by omega) (fun i=>rfl)
    ·cases h
  ·cases h
 ·cases h
def Mt (P:Program) (nk:Nat) (t:TypeId) (l c:AV):Option (List Prop×AV×r7) :=
 match mm P t,l,c with
 | some e,.atom (.int _ l),.atom (.int _ c)=>match uj P e,wR P e,sH P e with
  | some n,some b,some z=>match Nat.ble 1 n && Nat.beq z.cells.size n with
   | true=>some ([0≤l,l≤c,(b:Int) * c≤281474976710656,c≤9223372036854775807],.os nk 0 l.toNat,
     [(nk,some ⟨false,n,l.toNat,AV.lG (z.cells.toList.map fJ),fun _=>z.cells.toList.map fJ⟩)])
   | false=>none
  | _,_,_=>none
 | _,_,_=>none
theorem Ug (g:Good E σ S μ w) (hk:μ nk=none) (hm:E.m0≤nk) {t:TypeId} {l c:AV} {vl vc:Value} (hl:aq w S μ vl l) (hc:aq w S μ vc c)
  {ps:List Prop} {val:AV} {upd:r7} (h:Mt P nk t l c=some (ps,val,upd)) (hp:aW ps) :
  Step P E nk σ S μ w (Instr.makeSlice t vl vc) val upd:=by
 unfold Mt at h
 split at h
 ·rename_i e k l k' c he
  have he:=kO he
  have:=db hl;subst this
  have:=db hc;subst this
  split at h
  ·rename_i n b z hn hb hz
   split at h
   ·rename_i yl
    cases h
    simp only [aV,Nat.ble_eq] at yl
    have YK:=bm yl.2
    obtain ⟨h1,h2,h3,h4,_⟩:=hp
    obtain ⟨ie,CJ,kr,hby,Qn⟩:=wS hn hb hz
    subst kr hby
    have jc:=run_make (P:=P) w t e ie z he CJ Qn k k' l c h1 h2 h3 h4
    refine Step.QN g hk hm jc (by rw [size_madeCells];exact aP _) (by omega) (fun _ _=>by simp [YK]) ?_ (by omega) (yk (l:=z.cells.toList.map fJ) (fun _ _ c hc=>hc) (fun c hc=>by
     obtain ⟨v,_,rfl⟩:=List.mem_map.1 hc
     exact Mr v))
    intro i j x v hi hx hv
    have hj:j < ie.size:=by
     have:=(dd.1 hx).1
     simpa [YK] using this
    have oJ:z.cells[j]?=some v:=by
     unfold madeCells at hv
     simp only [Array.getElem?_map] at hv
     have ft:i * ie.size+j < c.toNat * ie.size:=by
      have:(i+1) * ie.size≤c.toNat * ie.size:=dC _ (by omega)
      rw [ca] at this
      omega
     rw [Array.getElem?_range,if_pos ft] at hv
     simp only [Option.map_some,az] at hv
     rw [YK,oI i,Nat.mul_add_mod,Nat.mod_eq_of_lt hj] at hv
     have hjz:j < z.cells.size:=by omega
     rw [dN hjz]
     rw [getElem!_pos z.cells j hjz] at hv
     exact congrArg some hv
    exact (yj (w:=w) (S:=S) (μ:=μ) z.cells).pr hx oJ
   ·cases h
  ·cases h
 ·cases h
def Uh (agg:Bool) (n:Nat) (cs:List AV) (j:Nat):Option AV :=
 match Nat.ble (j+n) cs.length with
 | true=>match agg with
  | true=>some (.agg ((cs.drop j).take n))
  | false=>cs[j]?
 | false=>none
theorem E4 {T:TypeId} {d:TypeDesc} {n:Nat} (hu:P.underlying T=some d) (hn:uj P T=some n) {cs:List AV} {j:Nat} {x:AV} (h:Uh d.isRow n cs j=some x) (b o:Nat)
  (f:Nat→Value) (hc:∀ i,i < cs.length→w.cell? ⟨b,o+i,none⟩=some (f i)) (hr:∀ (i:Nat) c,cs[i]?=some c→aq w S μ (f i) c) :
  ∃ v,(Instr.loadAt T (.pointer (some ⟨b,o+j,none⟩))).run P w=.ok v w∧aq w S μ v x:=by
 unfold Uh at h
 split at h
 ·rename_i hle
  simp only [Nat.ble_eq] at hle
  cases hd:d.isRow with
  | true =>
   simp [hd] at h
   have hl:((List.range n).map fun i=>f (j+i)).length=n:=by simp
   refine ⟨.agg ((List.range n).map fun i=>f (j+i)).toArray,run_loadAt_mid w b (o+j) T _ d ?_ hu hd (by simpa [uj] using hn),?_⟩
   ·intro i v hv
    have hi:i < n:=by
     have:=(dd.1 hv).1
     simpa using this
    rw [List.getElem?_map,List.getElem?_range hi] at hv
    simp at hv
    rw [Nat.add_assoc,hc (j+i) (by omega),hv]
   ·rw [← h]
    refine .agg (by simp;omega) ?_
    intro i c v jr hv
    rw [kg] at jr
    split at jr
    ·rename_i hi
     rw [kf] at jr
     simp [List.getElem?_range hi] at hv
     rw [← hv]
     exact hr _ c jr
    ·cases jr
  | false =>
   simp [hd] at h
   have hj:j < cs.length:=(dd.1 h).1
   have Mm:(isAgg T).run P w=.ok false w:=by
    unfold isAgg
    rw [bH,run_underlying hu w]
    cases d<;>simp_all
   refine ⟨f j,?_,hr j x h⟩
   simp [Instr.loadAt,Instr.sureAddr,loadVar,Mm,hc j hj]
 ·cases h
def Ui (kd:IntKind):AV→Option Int
 | .atom v=>match v with
  | .int k n=>match decide (k=kd) with
   | true=>some n
   | false=>none
  | _=>none
 | _=>none
def Ar (kd:IntKind):Nat→List AV→Option (List Int)
 | 0,_=>some []
 | m+1,c :: cs=>match Ui kd c,Ar kd m cs with
  | some a,some r=>some (a :: r)
  | _,_=>none
 | _+1,[]=>none
def Ii (l:List Int) (n:Nat):Int:=l.getD n 0
def Xd (q t:Nat) (v a:Int):Int:=if q=t then v else a
theorem NQ {kd:IntKind} {c:AV} {a:Int} (h:Ui kd c=some a):c=.atom (.int kd a):=by
 unfold Ui at h
 split at h
 ·split at h
  ·split at h
   ·rename_i hk
    have:=oG hk
    cases h;rw [this]
   ·cases h
  ·cases h
 ·cases h
theorem CK {kd:IntKind}:∀ {m:Nat} {cs:List AV} {l:List Int},Ar kd m cs=some l→∀ n,n < m→cs[n]?=some (.atom (.int kd (Ii l n)))
 | 0,_,_,_,n,hn=>absurd hn (dP n)
 | m+1,[],_,h,_,_=>by simp [Ar] at h
 | m+1,c :: cs,l,h,n,hn=>by
  simp only [Ar] at h
  split at h
  ·rename_i a r h1 h2
   cases h
   cases n with
   | zero=>simp [Ii,NQ h1]
   | succ n =>
    have:=CK h2 n (by omega)
    simpa [Ii] using this
  ·cases h
def NR:AV→Option Bool
 | .atom v=>match v with
  | .bool b=>some b
  | _=>none
 | _=>none
def uV:Nat→List AV→Option (List Bool)
 | 0,_=>some []
 | m+1,c :: cs=>match NR c,uV m cs with
  | some a,some r=>some (a :: r)
  | _,_=>none
 | _+1,[]=>none
def Ij (l:List Bool) (n:Nat):Bool:=l.getD n false
def Xe (q t:Nat) (v a:Bool):Bool:=if q=t then v else a
theorem KH {c:AV} {a:Bool} (h:NR c=some a):c=.atom (.bool a):=by
 unfold NR at h
 split at h
 ·split at h
  ·cases h;rfl
  ·cases h
 ·cases h
theorem AH:∀ {m:Nat} {cs:List AV} {l:List Bool},uV m cs=some l→∀ n,n < m→cs[n]?=some (.atom (.bool (Ij l n)))
 | 0,_,_,_,n,hn=>absurd hn (dP n)
 | m+1,[],_,h,_,_=>by simp [uV] at h
 | m+1,c :: cs,l,h,n,hn=>by
  simp only [uV] at h
  split at h
  ·rename_i a r h1 h2
   cases h
   cases n with
   | zero=>simp [Ij,KH h1]
   | succ n =>
    have:=AH h2 n (by omega)
    simpa [Ij] using this
  ·cases h
def ym (P:Program) (σ:du) (T:TypeId) (a:AV):Option (List Prop×AV×List Nat) :=
 match P.underlying T,uj P T with
 | some d,some n=>match a with
  | .op k i j=>match au σ k with
   | some o=>(Uh d.isRow n (o.get i) j).map fun x=>([i < o.len],x,[k])
   | none=>none
  | .rp cs j=>(Uh d.isRow n cs j).map fun x=>([],x,[])
  | .ov k i j m q=>match au σ k,d with
   | some o,.int kd=>match Ar kd m ((o.get i).drop j) with
    | some l=>match Nat.beq n 1 with
     | true=>some ([i < o.len],.atom (.int kd (Ii l q)),[k])
     | false=>none
    | none=>none
   | some o,.bool=>match uV m ((o.get i).drop j) with
    | some l=>match Nat.beq n 1 with
     | true=>some ([i < o.len],.atom (.bool (Ij l q)),[k])
     | false=>none
    | none=>none
   | _,_=>none
  | _=>none
 | _,_=>none
theorem di {o:Ob} {pl:Place} {c:Array Value} {T:TypeId} (h:gy w S μ o pl c T) {i j:Nat} (hi:i < o.len) (hj:j < o.sz) :
  ∃ v,c[i * o.sz+j]?=some v∧w.cell? ⟨pl.b6,i * o.sz+j,none⟩=some v:=by
 have ft:i * o.sz+j < c.size:=by
  have h1:(i+1) * o.sz≤pl.cap * o.sz:=dC _ (by have:=h.len;omega)
  have:=h.cap
  rw [ca] at h1
  omega
 exact ⟨c[i * o.sz+j],dN ft,by rw [cell_of_row w _ _ _ _ _ ((h.b6 (by have:=h.len;omega)).trans (by rw [fx (by omega)]))];exact dN ft⟩
theorem ig {v:Value} {x:AV} {pr:Bool} (h:aq w S (if pr then fV else μ) v x):aq w S μ v x:=by
 refine h.mono (fun _ h=>h) (fun _ _=>rfl) ?_
 cases pr
 ·exact fun _ _ h=>h
 ·exact fun _ _ h=>by cases h
theorem Jh (g:Good E σ S μ w) {T:TypeId} {a:AV} {va:Value} (ha:aq w S μ va a) {ps:List Prop} {x:AV} {rd:List Nat} (h:ym P σ T a=some (ps,x,rd)) (hp:aW ps) :
  ∃ v,(Instr.loadAt T va).run P w=.ok v w∧aq w S μ v x:=by
 unfold ym at h
 split at h
 ·rename_i d n hu hn
  split at h
  ·rename_i k i j
   split at h
   ·rename_i o ho
    simp only [aJ,ay] at h
    obtain ⟨y,hy,rfl,rfl,rfl⟩:=h
    obtain ⟨pl,c,T',hm,cE⟩:=g.rep.ob k o ho
    have hi:=hp.1
    cases ha with
    | op iJ fy =>
     rw [hm] at fy;cases fy
     rw [cE.sz]
     have hlen:=cE.tz i hi
     refine E4 hu hn hy pl.b6 (i * o.sz) (fun j=>(c[i * o.sz+j]?).getD undef) ?_ ?_
     ·intro j hj
      obtain ⟨v,h1,h2⟩:=di cE hi (hlen ▸ hj)
      rw [h2,h1];rfl
     ·intro j cc TO
      obtain ⟨v,h1,h2⟩:=di cE hi (hlen ▸ (dd.1 TO).1)
      rw [h1]
      exact ig (cE.rep i j cc v hi TO h1)
   ·cases h
  ·rename_i cs j
   simp only [aJ,ay] at h
   obtain ⟨y,hy,rfl,rfl,rfl⟩:=h
   cases ha with
   | rp b o f h1 h2 h3 =>
    exact E4 hu hn hy b o f h2 (fun i c hc=>(h3 i c hc).mono (fun _ h=>h) (fun _ _=>rfl) (fun _ _ h=>by cases h))
  ·rename_i k i j m q
   split at h
   ·rename_i o kd ho
    split at h
    ·rename_i l hl
     split at h
     ·rename_i Hv
      have Hv:=bm Hv
      simp only [az,ay] at h
      obtain ⟨rfl,rfl,rfl⟩:=h
      obtain ⟨pl,c,T',hm,cE⟩:=g.rep.ob k o ho
      have hi:=hp.1
      cases ha with
      | ov iJ fy hq =>
       rw [hm] at fy;cases fy
       rw [cE.sz]
       have hlen:=cE.tz i hi
       have hy:=CK hl q hq
       rw [kf] at hy
       have Qo:=(dd.1 hy).1
       have Ub:Uh (TypeDesc.int kd).isRow n (o.get i) (j+q)=some (.atom (.int kd (Ii l q))):=by
        unfold Uh
        have:Nat.ble (j+q+n) (o.get i).length=true:=by rw [Nat.ble_eq];omega
        rw [this]
        exact hy
       refine E4 hu hn Ub pl.b6 (i * o.sz) (fun j=>(c[i * o.sz+j]?).getD undef) ?_ ?_
       ·intro j hj
        obtain ⟨v,h1,h2⟩:=di cE hi (hlen ▸ hj)
        rw [h2,h1];rfl
       ·intro j cc TO
        obtain ⟨v,h1,h2⟩:=di cE hi (hlen ▸ (dd.1 TO).1)
        rw [h1]
        exact ig (cE.rep i j cc v hi TO h1)
     ·cases h
    ·cases h
   ·rename_i o ho
    split at h
    ·rename_i l hl
     split at h
     ·rename_i Hv
      have Hv:=bm Hv
      simp only [az,ay] at h
      obtain ⟨rfl,rfl,rfl⟩:=h
      obtain ⟨pl,c,T',hm,cE⟩:=g.rep.ob k o ho
      have hi:=hp.1
      cases ha with
      | ov iJ fy hq =>
       rw [hm] at fy;cases fy
       rw [cE.sz]
       have hlen:=cE.tz i hi
       have hy:=AH hl q hq
       rw [kf] at hy
       have Qo:=(dd.1 hy).1
       have Ub:Uh (TypeDesc.bool).isRow n (o.get i) (j+q)=some (.atom (.bool (Ij l q))):=by
        unfold Uh
        have:Nat.ble (j+q+n) (o.get i).length=true:=by rw [Nat.ble_eq];omega
        rw [this]
        exact hy
       refine E4 hu hn Ub pl.b6 (i * o.sz) (fun j=>(c[i * o.sz+j]?).getD undef) ?_ ?_
       ·intro j hj
        obtain ⟨v,h1,h2⟩:=di cE hi (hlen ▸ hj)
        rw [h2,h1];rfl
       ·intro j cc TO
        obtain ⟨v,h1,h2⟩:=di cE hi (hlen ▸ (dd.1 TO).1)
        rw [h1]
        exact ig (cE.rep i j cc v hi TO h1)
     ·cases h
    ·cases h
   ·cases h
  ·cases h
 ·cases h
end
end Go.Ab
namespace Go.Ab
def bQ:Nat→Nat→Nat
 | 0,n=>n
 | m+1,n=>m+1+n
theorem dq (m n:Nat):bQ m n=m+n:=by cases m<;>simp [bQ]
section
variable {P:Program} {E:Env} {nk:Nat} {σ:du} {S:Nat→Prop} {μ:Mu} {w:World}
def Ob.put (o:Ob) (i:Nat) (cs:List AV) (pr:Bool):Ob :=
 match o.var with
 | true=>{ o with pr:=o.pr && pr,get:=fun _=>cs }
 | false=>{ o with pr:=o.pr && pr,get:=fun m=>if m=i then cs else o.get m }
def Zj (sz:Nat) (cs:List AV) (off:Nat) (ns:List AV):List AV :=
 match Nat.beq ns.length sz with
 | true=>ns
 | false=>oX cs off ns
theorem Mv {sz:Nat} {cs:List AV} {off:Nat} {ns:List AV} (h:off+ns.length≤sz) (hl:cs.length=sz):Zj sz cs off ns=oX cs off ns:=by
 unfold Zj
 split
 ·rename_i hb
  have hb:=bm hb
  have h0:off=0:=by omega
  subst h0
  unfold oX
  rw [List.drop_eq_nil_of_le (by omega)]
  simp
 ·rfl
def oj (P:Program) (σ:du) (T:TypeId) (a x:AV):Option (List Prop×r7×List Nat) :=
 match a,x.cells,uj P T with
 | .op k i j,some ns,some n=>match au σ k with
  | some o=>match Nat.beq ns.length n && AV.kN ns && Nat.ble (j+n) o.sz && (!o.var || Nat.beq o.len 1) && Nat.ble 1 o.sz with
   | true=>some ([i < o.len],[(k,some (o.put i (Zj o.sz (o.get i) j ns) (AV.lG ns)))],[k])
   | false=>none
  | none=>none
 | _,_,_=>none
theorem CL (g:Good E σ S μ w) {T:TypeId} {a x:AV} {va vx:Value} (ha:aq w S μ va a) (hx:aq w S μ vx x) {ps:List Prop} {upd:r7} {rd:List Nat}
  (h:oj P σ T a x=some (ps,upd,rd)) (hp:aW ps) :
  ∃ w',(Instr.storeAt T va vx).run P w=.ok () w'∧Ext w S μ w' S μ∧Good E (eX σ upd) S μ w':=by
 unfold oj at h
 split at h
 ·rename_i k i j ns n hns hn
  split at h
  ·rename_i o ho
   split at h
   ·rename_i hb
    simp only [az,ay] at h
    obtain ⟨rfl,rfl,rfl⟩:=h
    simp only [aV,Nat.ble_eq] at hb
    obtain ⟨⟨⟨⟨nM,lP⟩,Qp⟩,Uj⟩,hb5⟩:=hb
    have nM:=bm nM
    have hi:i < o.len:=hp.1
    obtain ⟨pl,c,T',hm,cE⟩:=g.rep.ob k o ho
    cases ha with
    | op iJ fy =>
     rw [hm] at fy;cases fy
     have rY:0 < pl.cap:=by have:=cE.len;omega
     have ui:i * o.sz+o.sz≤c.size:=by
      have h1:(i+1) * o.sz≤pl.cap * o.sz:=dC _ (by have:=cE.len;omega)
      have:=cE.cap
      rw [ca] at h1
      omega
     obtain ⟨Xc,hcr⟩:=hx.cells hns
     have HF:∀ v∈vx.cells.toList,v.oneCell'=true:=by
      intro v hv
      obtain ⟨q,hq⟩:=List.getElem?_of_mem hv
      have ft:q < ns.length:=by
       have:=(dd.1 hq).1
       simp at this;omega
      exact (hcr q _ v (ke ft) (by simpa using hq)).Je (Fo lP (ke ft))
     have zs:=run_storeCells_at P pl.b6 (i * pl.sz+j) T' vx.cells.toList 0 c w ((cE.b6 rY).trans (by rw [fx (by omega)])) (by rw [cE.sz];simp;omega) HF
     simp only [Nat.add_zero] at zs
     generalize jr:(c.toList.take (i * pl.sz+j) ++ vx.cells.toList ++ c.toList.drop (i * pl.sz+j+vx.cells.toList.length)).toArray=c' at zs
     have yn:(c.toList.take (i * pl.sz+j)).length=i * o.sz+j:=by rw [cE.sz];simp;omega
     have NS:vx.cells.toList.length=n:=by simp;omega
     have Fs:c'.size=c.size:=by
      rw [← jr]
      simp only [List.size_toArray,mN,List.length_drop,NS,cE.sz]
      simp;omega
     have oa:∀ m,c'[m]?=if i * o.sz+j≤m∧m < i * o.sz+j+n then vx.cells[m - (i * o.sz+j)]? else c[m]?:=by
      intro m
      rw [← jr]
      simp only [List.getElem?_toArray,wP]
      by_cases h1:m < i * o.sz+j
      ·rw [eE (by omega),kg,if_pos (by rw [cE.sz];omega),if_neg (by omega)]
       simp
      ·rw [gF (by omega),yn]
       by_cases h2:m < i * o.sz+j+n
       ·rw [eE (by omega),if_pos (by omega)]
        simp
       ·rw [gF (by omega),if_neg (by omega),kf,NS,cE.sz]
        simp only [Array.getElem?_toList]
        congr 1;omega
     have Wj:=cE.tz i hi
     have Qq:∀ (o':Ob),o'.sz=o.sz→o'.len=o.len→o'.var=o.var→o'.pr=(o.pr && AV.lG ns)→(o'.get i=oX (o.get i) j ns)→(∀ m,m < o.len→m≠i→o'.get m=o.get m) →
       Ext w S μ (w.setRow pl.b6 c') S μ∧Good E (sset σ k o') S μ (w.setRow pl.b6 c'):=by
      intro o' e1 e2 ev e3 e4 e5
      have ec:∀ m q,m≠i→q < o.sz→¬ (i * o.sz+j≤m * o.sz+q∧m * o.sz+q < i * o.sz+j+n):=by
       rintro m q xF hq ⟨h1,h2⟩
       rcases Nat.lt_or_gt_of_ne xF with h3 | h3
       ·have:(m+1) * o.sz≤i * o.sz:=dC _ h3
        rw [ca] at this;omega
       ·have:(i+1) * o.sz≤m * o.sz:=dC _ h3
        rw [ca] at this;omega
      refine g.write ho hm rY cE (by omega) o' c' e1 Fs (by rw [e2];exact cE.len) ?_ ?_ ?_
      rotate_left 2
      ·intro m x hx
       obtain ⟨q1,q2,q3⟩:=dk hx
       rw [e2] at q2
       rw [ev] at q1
       rw [oa]
       by_cases xF:m=i
       ·subst xF
        rw [e4] at q3
        cases n with
        | zero =>
         have:ns=[]:=List.eq_nil_of_length_eq_zero nM
         rw [this] at q3
         refine ⟨kM q1 q2 (by rw [← q3];unfold oX;simp),if_neg (by omega)⟩
        | succ n =>
         have h1:=oi (o.get m) j ns (by omega)
         rw [q3] at h1
         have hj0:j=0:=by simp at h1;omega
         have h2:=tB (o.get m) j ns (by omega) 0
         rw [q3,if_pos (by omega)] at h2
         have h3:=Fo lP (j:=0 - j) (c:=.mr x.1 x.2.1 x.2.2) (by rw [← h2];rfl)
         cases h3
       ·rw [e5 m q2 xF] at q3
        exact ⟨kM q1 q2 q3,if_neg (ec m 0 xF (by omega))⟩
      ·intro m hm
       rw [e2] at hm
       by_cases xF:m=i
       ·subst xF
        rw [e4,oi _ _ _ (by omega),Wj,e1]
       ·rw [e5 m hm xF,cE.tz m hm,e1]
      ·intro m q y v hm hy hv
       rw [e2] at hm
       rw [e1,oa] at hv
       rw [e3]
       have hq:q < o.sz:=by
        have:=(dd.1 hy).1
        by_cases xF:m=i
        ·subst xF;rw [e4,oi _ _ _ (by omega),Wj] at this;exact this
        ·rw [e5 m hm xF,cE.tz m hm] at this;exact this
       have hold:(o.get m)[q]?=some y→c[m * o.sz+q]?=some v→aq w S (if (o.pr && AV.lG ns)=true then fV else μ) v y:=by
        intro hy hv
        have:=cE.rep m q y v hm hy hv
        cases DV:o.pr
        ·simpa [DV] using this
        ·rw [DV] at this
         split
         ·exact this
         ·exact ig this
       by_cases xF:m=i
       ·subst xF
        rw [e4,tB _ _ _ (by omega)] at hy
        by_cases hjq:j≤q∧q < j+n
        ·rw [if_pos (by omega)] at hy hv
         have oJ:vx.cells[q - j]?=some v:=by rw [← hv];congr 1;omega
         have:=hcr (q - j) y v hy oJ
         split
         ·rename_i hpp
          simp only [aV] at hpp
          exact this.pure (ph hpp.2 hy) fV
         ·exact this
        ·rw [if_neg (by omega)] at hy hv
         exact hold hy hv
       ·rw [e5 m hm xF] at hy
        rw [if_neg (ec m q xF hq)] at hv
        exact hold hy hv
     refine ⟨w.setRow pl.b6 c',?_,?_⟩
     ·simp only [Instr.storeAt,Instr.sureAddr,bH,Sem.run_pure,cN,storeVar,eM hn]
      rw [Sem.run_ite,if_neg (by omega)]
      exact zs
     ·show Ext _ _ _ _ _ _∧Good E (sset σ k _) S μ _
      refine Qq _ ?_ ?_ ?_ ?_ ?_ ?_
      ·unfold Ob.put;split<;>rfl
      ·unfold Ob.put;split<;>rfl
      ·unfold Ob.put;split<;>rfl
      ·unfold Ob.put;split<;>rfl
      ·rw [← Mv (by omega) Wj];unfold Ob.put;split<;>simp
      ·intro m hm xF
       unfold Ob.put
       split
       ·rename_i Bv
        simp only [Bv,Bool.not_true,Bool.false_or] at Uj
        have:=bm Uj
        omega
       ·simp [xF]
   ·cases h
  ·cases h
 ·cases h
def Po (kd:IntKind) (q:Nat) (v:Int):Nat→Nat→List AV→List AV
 | t,m+1,c :: cs=>(match Ui kd c with
  | some a=>.atom (.int kd (Xd q t v a))
  | none=>c) :: Po kd q v (t+1) m cs
 | _,_,cs=>cs
theorem KI {kd:IntKind} {q:Nat} {v:Int}:∀ {m:Nat} {cs:List AV} {l:List Int} (t:Nat),Ar kd m cs=some l→∀ r,(Po kd q v t m cs)[r]?=if q=t+r∧r < m then some (.atom (.int kd v)) else cs[r]?
 | 0,cs,_,t,_,r=>by cases cs<;>simp [Po]
 | m+1,[],_,_,h,_=>by simp [Ar] at h
 | m+1,c :: cs,l,t,h,r=>by
  simp only [Ar] at h
  split at h
  ·rename_i a r' h1 h2
   cases h
   simp only [Po,h1]
   cases r with
   | zero =>
    simp only [List.getElem?_cons_zero,Nat.add_zero]
    by_cases hq:q=t
    ·rw [if_pos ⟨hq,by omega⟩,Xd,if_pos hq]
    ·rw [if_neg (fun h=>hq h.1),Xd,if_neg hq,← NQ h1]
   | succ r =>
    simp only [Br]
    rw [KI (t+1) h2 r]
    have:(q=t+1+r∧r < m)=(q=t+(r+1)∧r+1 < m+1):=propext (by omega)
    simp only [this]
  ·cases h
def Pp (q:Nat) (v:Bool):Nat→Nat→List AV→List AV
 | t,m+1,c :: cs=>(match NR c with
  | some a=>.atom (.bool (Xe q t v a))
  | none=>c) :: Pp q v (t+1) m cs
 | _,_,cs=>cs
theorem KJ {q:Nat} {v:Bool}:∀ {m:Nat} {cs:List AV} {l:List Bool} (t:Nat),uV m cs=some l→∀ r,(Pp q v t m cs)[r]?=if q=t+r∧r < m then some (.atom (.bool v)) else cs[r]?
 | 0,cs,_,t,_,r=>by cases cs<;>simp [Pp]
 | m+1,[],_,_,h,_=>by simp [uV] at h
 | m+1,c :: cs,l,t,h,r=>by
  simp only [uV] at h
  split at h
  ·rename_i a r' h1 h2
   cases h
   simp only [Pp,h1]
   cases r with
   | zero =>
    simp only [List.getElem?_cons_zero,Nat.add_zero]
    by_cases hq:q=t
    ·rw [if_pos ⟨hq,by omega⟩,Xe,if_pos hq]
    ·rw [if_neg (fun h=>hq h.1),Xe,if_neg hq,← KH h1]
   | succ r =>
    simp only [Br]
    rw [KJ (t+1) h2 r]
    have:(q=t+1+r∧r < m)=(q=t+(r+1)∧r+1 < m+1):=propext (by omega)
    simp only [this]
  ·cases h
def zt (P:Program) (σ:du) (T:TypeId) (a x:AV):Option (List Prop×r7×List Nat) :=
 match a with
 | .ov k i j m q=>match au σ k,x,uj P T with
  | some o,.atom (.int kd v),some n=>match Ar kd m ((o.get i).drop j) with
   | some _=>match Nat.beq n 1 && Nat.ble (j+m) o.sz && Nat.ble (j+m) (o.get i).length && (!o.var || Nat.beq o.len 1) && Nat.ble 1 o.sz with
    | true=>some ([i < o.len],[(k,some (o.put i ((o.get i).take j ++ Po kd q v 0 m ((o.get i).drop j)) true))],[k])
    | false=>none
   | none=>none
  | some o,.atom (.bool v),some n=>match uV m ((o.get i).drop j) with
   | some _=>match Nat.beq n 1 && Nat.ble (j+m) o.sz && Nat.ble (j+m) (o.get i).length && (!o.var || Nat.beq o.len 1) && Nat.ble 1 o.sz with
    | true=>some ([i < o.len],[(k,some (o.put i ((o.get i).take j ++ Pp q v 0 m ((o.get i).drop j)) true))],[k])
    | false=>none
   | none=>none
  | _,_,_=>none
 | a=>oj P σ T a x
theorem QP (g:Good E σ S μ w) {T:TypeId} {a x:AV} {va vx:Value} (ha:aq w S μ va a) (hx:aq w S μ vx x) {ps:List Prop} {upd:r7} {rd:List Nat}
  (h:zt P σ T a x=some (ps,upd,rd)) (hp:aW ps) :
  ∃ w',(Instr.storeAt T va vx).run P w=.ok () w'∧Ext w S μ w' S μ∧Good E (eX σ upd) S μ w':=by
 unfold zt at h
 split at h
 ·rename_i k i j m q
  split at h
  ·rename_i o kd v n ho hn
   split at h
   ·rename_i l hl
    split at h
    ·rename_i hb
     simp only [az,ay] at h
     obtain ⟨rfl,rfl,rfl⟩:=h
     simp only [aV,Nat.ble_eq] at hb
     obtain ⟨⟨⟨⟨nM,lP⟩,Qp⟩,Uj⟩,hb5⟩:=hb
     cases ha with
     | ov pl hm hq =>
      have hc:(o.get i).take j ++ Po kd q v 0 m ((o.get i).drop j)=oX (o.get i) (j+q) [.atom (.int kd v)]:=by
       have Wk:((o.get i).take j).length=j:=by simp;omega
       apply List.ext_getElem?
       intro r
       rw [tB _ _ _ (by simp;omega)]
       simp only [List.length_singleton]
       by_cases hr:r < j
       ·rw [eE (by omega),kg,if_pos hr,if_neg (by omega)]
       ·rw [gF (by omega),Wk,KI 0 hl]
        by_cases hqr:r=j+q
        ·rw [if_pos (by omega),if_pos (by omega)]
         have:r - (j+q)=0:=by omega
         rw [this];rfl
        ·rw [if_neg (by omega),if_neg (by omega),kf]
         congr 1;omega
      have Wj:(o.get i).length=o.sz:=by obtain ⟨_,_,_,_,cE⟩:=g.rep.ob k o ho;exact cE.tz i hp.1
      rw [← Mv (sz:=o.sz) (by simp;omega) Wj] at hc
      have h0:oj P σ T (.op k i (j+q)) (.atom (.int kd v))=some ([i < o.len],[(k,some (o.put i (Zj o.sz (o.get i) (j+q) [.atom (.int kd v)]) true))],[k]):=by
       have Xf:=bm nM
       subst Xf
       have e1:Nat.ble (j+q+1) o.sz=true:=by rw [Nat.ble_eq];omega
       have e2:Nat.ble 1 o.sz=true:=by rw [Nat.ble_eq];exact hb5
       unfold oj
       simp only [AV.cells,hn,ho,List.length_singleton,AV.kN,AV.one,AV.lG,AV.pure,e1,e2,Uj,Bool.and_true,Bool.and_self]
      rw [hc]
      exact CL g (aq.op pl hm) hx h0 hp
    ·cases h
   ·cases h
  ·rename_i o v n ho hn
   split at h
   ·rename_i l hl
    split at h
    ·rename_i hb
     simp only [az,ay] at h
     obtain ⟨rfl,rfl,rfl⟩:=h
     simp only [aV,Nat.ble_eq] at hb
     obtain ⟨⟨⟨⟨nM,lP⟩,Qp⟩,Uj⟩,hb5⟩:=hb
     cases ha with
     | ov pl hm hq =>
      have hc:(o.get i).take j ++ Pp q v 0 m ((o.get i).drop j)=oX (o.get i) (j+q) [.atom (.bool v)]:=by
       have Wk:((o.get i).take j).length=j:=by simp;omega
       apply List.ext_getElem?
       intro r
       rw [tB _ _ _ (by simp;omega)]
       simp only [List.length_singleton]
       by_cases hr:r < j
       ·rw [eE (by omega),kg,if_pos hr,if_neg (by omega)]
       ·rw [gF (by omega),Wk,KJ 0 hl]
        by_cases hqr:r=j+q
        ·rw [if_pos (by omega),if_pos (by omega)]
         have:r - (j+q)=0:=by omega
         rw [this];rfl
        ·rw [if_neg (by omega),if_neg (by omega),kf]
         congr 1;omega
      have Wj:(o.get i).length=o.sz:=by obtain ⟨_,_,_,_,cE⟩:=g.rep.ob k o ho;exact cE.tz i hp.1
      rw [← Mv (sz:=o.sz) (by simp;omega) Wj] at hc
      have h0:oj P σ T (.op k i (j+q)) (.atom (.bool v))=some ([i < o.len],[(k,some (o.put i (Zj o.sz (o.get i) (j+q) [.atom (.bool v)]) true))],[k]):=by
       have Xf:=bm nM
       subst Xf
       have e1:Nat.ble (j+q+1) o.sz=true:=by rw [Nat.ble_eq];omega
       have e2:Nat.ble 1 o.sz=true:=by rw [Nat.ble_eq];exact hb5
       unfold oj
       simp only [AV.cells,hn,ho,List.length_singleton,AV.kN,AV.one,AV.lG,AV.pure,e1,e2,Uj,Bool.and_true,Bool.and_self]
      rw [hc]
      exact CL g (aq.op pl hm) hx h0 hp
    ·cases h
   ·cases h
  ·cases h
 ·exact CL g ha hx h hp
def yp (P:Program) (T:TypeId) (x:AV) (f:Nat):Option AV :=
 match P.underlying T with
 | some (.struct fs)=>match fs[f]? with
  | some fl=>match uj P fl.type with
   | some (_+1)=>match x with
    | .op k i j=>some (.op k i (j+fl.offset))
    | .rp cs j=>some (.rp cs (j+fl.offset))
    | _=>none
   | _=>none
  | none=>none
 | _=>none
theorem Ji {T:TypeId} {x:AV} {f:Nat} {v:Value} (hx:aq w S μ v x) {r:AV} (h:yp P T x f=some r) :
  ∃ u,(Instr.fieldAt T v f).run P w=.ok u w∧aq w S μ u r:=by
 unfold yp at h
 split at h
 ·rename_i fs hu
  split at h
  ·rename_i fl hf
   split at h
   ·rename_i n hn
    split at h
    ·cases h
     cases hx with
     | op pl hm =>
      rename_i k i j
      refine ⟨.pointer (some ⟨pl.b6,i * pl.sz+(j+fl.offset),none⟩),?_,.op pl hm⟩
      simp [Instr.fieldAt,run_underlying hu,hf,Instr.sureAddr,fieldPlace,eM hn,Addr.add_mid,Nat.add_assoc]
    ·cases h
     cases hx with
     | rp b o f' h1 h2 h3 =>
      rename_i cs j
      refine ⟨.pointer (some ⟨b,o+(j+fl.offset),none⟩),?_,.rp b o f' h1 h2 h3⟩
      simp [Instr.fieldAt,run_underlying hu,hf,Instr.sureAddr,fieldPlace,eM hn,Addr.add_mid,Nat.add_assoc]
    ·cases h
   ·cases h
  ·cases h
 ·cases h
def Jj (P:Program) (T:TypeId) (x:AV) (f:Nat):Option AV :=
 match P.underlying T,x with
 | some (.struct fs),.agg cs=>match fs[f]? with
  | some fl=>match uj P fl.type with
   | some n=>match Nat.ble (fl.offset+n) cs.length with
    | true=>jX P fl.type cs fl.offset
    | false=>none
   | none=>none
  | none=>none
 | _,_=>none
theorem QQ {T:TypeId} {x:AV} {f:Nat} {v:Value} (hx:aq w S μ v x) {r:AV} (h:Jj P T x f=some r) :
  ∃ u,(Instr.field T v f).run P w=.ok u w∧aq w S μ u r:=by
 unfold Jj at h
 split at h
 ·rename_i fs cs hu
  split at h
  ·rename_i fl hf
   split at h
   ·rename_i n hn
    split at h
    ·rename_i hle
     simp only [Nat.ble_eq] at hle
     obtain ⟨vs,rfl,HD,CH⟩:=nO hx
     obtain ⟨u,r1,r2⟩:=jY HD CH h (fun n' h'=>by rw [hn] at h';cases h';exact hle)
     exact ⟨u,by simp [Instr.field,run_underlying hu,hf,asAgg,r1],r2⟩
    ·cases h
   ·cases h
  ·cases h
 ·cases h
def pj (P:Program) (σ:du) (T:TypeId) (x ix:AV):Option (List Prop×AV×List Nat) :=
 match P.underlying T,ix with
 | some (.slice e),.atom (.int _ n)=>match uj P e with
  | some sz=>match x with
   | .os k off len=>match au σ k with
    | some o=>match Nat.beq o.sz sz with
     | true=>some ([0≤n∧n < len],.op k (bQ off n.toNat) 0,[k])
     | false=>none
    | none=>none
   | .sl len get=>match Nat.beq (get n.toNat).length sz with
    | true=>some ([0≤n∧n < len],.rp (get n.toNat) 0,[])
    | false=>none
   | _=>none
  | none=>none
 | some (.array len e),.atom (.int _ n)=>match uj P e with
  | some sz=>match x with
   | .op k i j=>match P.underlying e with
    | some (.int _)=>match Nat.beq sz 1 with
     | true=>some ([0≤n∧n < len],.ov k i j len n.toNat,[])
     | false=>none
    | some .bool=>match Nat.beq sz 1 with
     | true=>some ([0≤n∧n < len],.ov k i j len n.toNat,[])
     | false=>none
    | _=>some ([0≤n∧n < len],.op k i (j+n.toNat * sz),[])
   | .rp cs j=>some ([0≤n∧n < len],.rp cs (j+n.toNat * sz),[])
   | _=>none
  | none=>none
 | _,_=>none
theorem Jk (g:Good E σ S μ w) {T:TypeId} {x ix:AV} {v vi:Value} (hx:aq w S μ v x) (hi:aq w S μ vi ix) {ps:List Prop} {r:AV} {rd:List Nat}
  (h:pj P σ T x ix=some (ps,r,rd)) (hp:aW ps) :
  ∃ u,(Instr.indexAt T v vi).run P w=.ok u w∧aq w S μ u r:=by
 unfold pj at h
 split at h
 ·rename_i e kk n hu
  have:=db hi;subst this
  split at h
  ·rename_i sz kr
   split at h
   ·rename_i k off len
    split at h
    ·rename_i o ho
     split at h
     ·rename_i hb
      have hb:=bm hb
      simp only [az,ay] at h
      obtain ⟨rfl,rfl,rfl⟩:=h
      obtain ⟨pl,c,T',hm,cE⟩:=g.rep.ob k o ho
      have hn:=hp.1
      cases hx with
      | os iJ fy h1 h2 h3 =>
       rename_i cap a
       rw [hm] at fy;cases fy
       have ha:=h1 (by omega)
       subst ha
       refine ⟨.pointer (some ⟨pl.b6,bQ off n.toNat * pl.sz+0,none⟩),?_,.op pl hm⟩
       simp only [Instr.indexAt,asIntOf,run_underlying hu,bH,Sem.run_pure,cN]
       rw [Sem.run_ite,if_pos hn]
       simp only [bH,eM kr,cN,Sem.run_pure,Addr.add_mid]
       rw [dq,cE.sz,hb,ca]
       rfl
     ·cases h
    ·cases h
   ·rename_i len get
    split at h
    ·rename_i hb
     have hb:=bm hb
     simp only [az,ay] at h
     obtain ⟨rfl,rfl,rfl⟩:=h
     have hn:=hp.1
     cases hx with
     | sl b off Wl f h1 h2 h3 h4 _ =>
      rename_i cap a
      have oY:n.toNat < len:=by omega
      obtain ⟨ha,hS⟩:=h1 (by omega)
      subst ha
      have hss:Wl=sz:=by rw [← h2 n.toNat oY,hb]
      subst hss
      refine ⟨.pointer (some ⟨b,(off+n.toNat * Wl)+0,none⟩),?_,.rp b (off+n.toNat * Wl) (f n.toNat) hS ?_ ?_⟩
      ·simp only [Instr.indexAt,asIntOf,run_underlying hu,bH,Sem.run_pure,cN]
       rw [Sem.run_ite,if_pos hn]
       simp only [bH,eM kr,cN,Sem.run_pure,Addr.add_mid]
       rfl
      ·intro j hj;exact h3 n.toNat j oY (by omega)
      ·intro j c hc;exact h4 n.toNat j c oY hc
    ·cases h
   ·cases h
  ·cases h
 ·rename_i len e kk n hu
  have:=db hi;subst this
  split at h
  ·rename_i sz kr
   split at h
   ·rename_i k i j
    have jc:0≤n∧n < len→∀ pl:Place,(Instr.indexAt T (.pointer (some ⟨pl.b6,i * pl.sz+j,none⟩)) (.int kk n)).run P w=.ok (.pointer (some ⟨pl.b6,i * pl.sz+(j+n.toNat * sz),none⟩)) w:=by
     intro hn pl
     simp only [Instr.indexAt,Instr.sureAddr,asIntOf,run_underlying hu,bH,Sem.run_pure,cN]
     rw [Sem.run_ite,if_pos hn]
     simp only [bH,eM kr,cN,Sem.run_pure,Addr.add_mid,Nat.add_assoc]
    split at h
    ·split at h
     ·rename_i HG
      have HG:=bm HG
      simp only [az,ay] at h
      obtain ⟨rfl,rfl,rfl⟩:=h
      have hn:=hp.1
      cases hx with
      | op pl hm =>
       refine ⟨_,jc hn pl,?_⟩
       rw [HG,Nat.mul_one]
       exact .ov pl hm (by omega)
     ·cases h
    ·split at h
     ·rename_i HG
      have HG:=bm HG
      simp only [az,ay] at h
      obtain ⟨rfl,rfl,rfl⟩:=h
      have hn:=hp.1
      cases hx with
      | op pl hm =>
       refine ⟨_,jc hn pl,?_⟩
       rw [HG,Nat.mul_one]
       exact .ov pl hm (by omega)
     ·cases h
    ·simp only [az,ay] at h
     obtain ⟨rfl,rfl,rfl⟩:=h
     have hn:=hp.1
     cases hx with
     | op pl hm=>exact ⟨_,jc hn pl,.op pl hm⟩
   ·rename_i cs j
    simp only [az,ay] at h
    obtain ⟨rfl,rfl,rfl⟩:=h
    have hn:=hp.1
    cases hx with
    | rp b o f h1 h2 h3 =>
     refine ⟨.pointer (some ⟨b,o+(j+n.toNat * sz),none⟩),?_,.rp b o f h1 h2 h3⟩
     simp only [Instr.indexAt,Instr.sureAddr,asIntOf,run_underlying hu,bH,Sem.run_pure,cN]
     rw [Sem.run_ite,if_pos hn]
     simp only [bH,eM kr,cN,Sem.run_pure,Addr.add_mid,Nat.add_assoc]
   ·cases h
  ·cases h
 ·cases h
def AI (s:ByteArray) (i:Nat):Int:=((s[i]?).getD 0).toNat
def Jl (P:Program) (T:TypeId) (x ix:AV):Option (List Prop×AV) :=
 match P.underlying T,x,ix with
 | some .string,.atom (.string s),.atom (.int _ n)=>some ([0≤n∧n < s.size],.atom (.int .u8 (AI s n.toNat)))
 | some (.array len e),.agg cs,.atom (.int _ n)=>match P.underlying e,uj P e with
  | some (.int kd),some sz=>match Ar kd len cs with
   | some l=>match Nat.beq sz 1 && Nat.beq cs.length len with
    | true=>some ([0≤n∧n < len],.atom (.int kd (Ii l n.toNat)))
    | false=>none
   | none=>none
  | some .bool,some sz=>match uV len cs with
   | some l=>match Nat.beq sz 1 && Nat.beq cs.length len with
    | true=>some ([0≤n∧n < len],.atom (.bool (Ij l n.toNat)))
    | false=>none
   | none=>none
  | some _,some sz=>match Nat.ble (n.toNat * sz+sz) cs.length with
   | true=>(jX P e cs (n.toNat * sz)).map fun r=>([0≤n∧n < len],r)
   | false=>none
  | _,_=>none
 | _,_,_=>none
theorem QR {T:TypeId} {x ix:AV} {v vi:Value} (hx:aq w S μ v x) (hi:aq w S μ vi ix) {ps:List Prop} {r:AV} (h:Jl P T x ix=some (ps,r)) (hp:aW ps) :
  ∃ u,(Instr.index T v vi).run P w=.ok u w∧aq w S μ u r:=by
 unfold Jl at h
 split at h
 ·rename_i s kk n hu
  simp only [az,ay] at h
  obtain ⟨rfl,rfl⟩:=h
  have:=db hi;subst this
  have:=db hx;subst this
  have hn:=hp.1
  have ft:n.toNat < s.size:=by omega
  refine ⟨_,?_,.atom _⟩
  simp only [Instr.index,asIntOf,run_underlying hu,bH,Sem.run_pure,cN]
  rw [if_pos hn.1]
  simp [AI,ft]
 ·rename_i len e cs kk n hu
  have fin:∀ {sz:Nat} {r':AV},uj P e=some sz→n.toNat * sz+sz≤cs.length→jX P e cs (n.toNat * sz)=some r'→0≤n∧n < len →
    ∃ u,(Instr.index T v vi).run P w=.ok u w∧aq w S μ u r':=by
   intro sz r' kr hle hr hn
   have:=db hi;subst this
   obtain ⟨vs,rfl,HD,CH⟩:=nO hx
   obtain ⟨u,r1,r2⟩:=jY HD CH hr (fun n' h'=>by rw [kr] at h';cases h';exact hle)
   refine ⟨u,?_,r2⟩
   simp only [Instr.index,asIntOf,run_underlying hu,bH,Sem.run_pure,cN]
   rw [Sem.run_ite,if_pos hn]
   simp only [bH,eM kr,cN,r1]
  split at h
  ·rename_i kd sz he kr
   split at h
   ·rename_i l hl
    split at h
    ·rename_i hb
     simp only [aV] at hb
     have nM:=bm hb.1
     have lP:=bm hb.2
     simp only [az,ay] at h
     obtain ⟨rfl,rfl⟩:=h
     have hn:=hp.1
     refine fin kr (by rw [nM];omega) ?_ hn
     have hg:=CK hl n.toNat (by omega)
     simp only [jX,he,kr,nM,Nat.mul_one]
     exact hg
    ·cases h
   ·cases h
  ·rename_i sz he kr
   split at h
   ·rename_i l hl
    split at h
    ·rename_i hb
     simp only [aV] at hb
     have nM:=bm hb.1
     have lP:=bm hb.2
     simp only [az,ay] at h
     obtain ⟨rfl,rfl⟩:=h
     have hn:=hp.1
     refine fin kr (by rw [nM];omega) ?_ hn
     have hg:=AH hl n.toNat (by omega)
     simp only [jX,he,kr,nM,Nat.mul_one]
     exact hg
    ·cases h
   ·cases h
  ·rename_i d sz he kr
   split at h
   ·rename_i hle
    simp only [Nat.ble_eq] at hle
    simp only [aJ,ay] at h
    obtain ⟨r',hr,rfl,rfl⟩:=h
    exact fin kr hle hr hp.1
   ·cases h
  ·cases h
 ·cases h
def bound (len:Nat):Option AV→Option Nat
 | none=>some len
 | some (.atom (.int _ n))=>some n.toNat
 | _=>none
def uW:Option AV→List Prop
 | some (.atom (.int _ n))=>[0≤n]
 | _=>[]
def zu (P:Program) (σ:du) (T:TypeId) (x:AV) (lo hi:Option AV):Option (List Prop×AV×List Nat) :=
 match P.underlying T,x with
 | some .string,.atom (.string s)=>match bound 0 lo,bound s.size hi with
  | some l,some h=>some ((l≤h∧h≤s.size) :: (uW lo ++ uW hi),.atom (.string (s.extract l h)),[])
  | _,_=>none
 | some (.slice e),x=>match uj P e with
  | some sz=>match x with
   | .os k off len=>match bound 0 lo,bound len hi,au σ k with
    | some l,some h,some o=>match Nat.beq o.sz sz with
     | true=>some ((l≤h∧h≤len) :: (uW lo ++ uW hi),.os k (bQ off l) (h - l),[k])
     | false=>none
    | _,_,_=>none
   | .sl len get=>match bound 0 lo,bound len hi with
    | some l,some h=>match Nat.beq (get l).length sz with
     | true=>some ((l≤h∧h≤len) :: (uW lo ++ uW hi),.sl (h - l) fun i=>get (bQ l i),[])
     | false=>none
    | _,_=>none
   | _=>none
  | none=>none
 | _,_=>none
theorem AJ {lo:Option AV} {vlo:Option Value} (hv:(vlo=none↔lo=none)∧∀ a b,lo=some a→vlo=some b→aq w S μ b a) {len l:Nat} (h:bound len lo=some l) :
  (lo=none∧vlo=none∧l=len)∨∃ k n,vlo=some (.int k n)∧lo=some (.atom (.int k n))∧l=n.toNat:=by
 unfold bound at h
 split at h
 ·left;cases h;exact ⟨rfl,hv.1.2 rfl,rfl⟩
 ·rename_i k n
  right
  cases vlo with
  | none=>have:=hv.1.1 rfl;cases this
  | some b =>
   have:=db (hv.2 _ b rfl rfl)
   subst this
   cases h
   exact ⟨k,n,rfl,rfl,rfl⟩
 ·cases h
theorem wV (isSlice:Bool) {len cap l h:Nat} {lo hi:Option AV} {vlo vhi:Option Value} (Wm:(vlo=none↔lo=none)∧∀ a b,lo=some a→vlo=some b→aq w S μ b a)
  (NT:(vhi=none↔hi=none)∧∀ a b,hi=some a→vhi=some b→aq w S μ b a) (hl:bound 0 lo=some l) (hh:bound len hi=some h) (hle:l≤h) (rY:h≤cap) (hp:aW (uW lo ++ uW hi)) :
  (Instr.sliceBounds isSlice len cap vlo vhi none).run P w=.ok (l,h,cap) w:=by
 obtain ⟨p1,p2⟩:=aW.app hp
 rcases AJ Wm hl with ⟨e1,e2,e3⟩ | ⟨k1,n1,e1,e2,e3⟩
 ·subst e1 e2 e3
  rcases AJ NT hh with ⟨f1,f2,f3⟩ | ⟨k2,n2,f1,f2,f3⟩
  ·subst f1 f2 f3
   simp [Instr.sliceBounds]
  ·subst f1 f2 f3
   have:=p2.1
   have h2:0≤n2∧n2≤cap:=by omega
   simp [Instr.sliceBounds,Instr.sliceBound,asIntOf,h2]
 ·subst e1 e2 e3
  have:=p1.1
  rcases AJ NT hh with ⟨f1,f2,f3⟩ | ⟨k2,n2,f1,f2,f3⟩
  ·subst f1 f2 f3
   have h2:0≤n1∧n1≤h:=by omega
   simp [Instr.sliceBounds,Instr.sliceBound,asIntOf,h2]
  ·subst f1 f2 f3
   have:=p2.1
   have h2:0≤n2∧n2≤cap:=by omega
   have h3:0≤n1∧n1≤(n2.toNat:Int):=by omega
   simp only [Instr.sliceBounds,Instr.sliceBound,asIntOf,bH,Sem.run_pure,cN,Sem.run_ite,if_pos h2,if_pos h3]
theorem QS (g:Good E σ S μ w) {T:TypeId} {x:AV} {v:Value} (hx:aq w S μ v x) {lo hi:Option AV} {vlo vhi:Option Value}
  (Wm:(vlo=none↔lo=none)∧∀ a b,lo=some a→vlo=some b→aq w S μ b a)
  (NT:(vhi=none↔hi=none)∧∀ a b,hi=some a→vhi=some b→aq w S μ b a) {ps:List Prop} {r:AV} {rd:List Nat} (h:zu P σ T x lo hi=some (ps,r,rd)) (hp:aW ps) :
  ∃ u,(Instr.sliceAt T v vlo vhi none).run P w=.ok u w∧aq w S μ u r:=by
 unfold zu at h
 split at h
 ·rename_i s hu
  have:=db hx;subst this
  split at h
  ·rename_i l hh hl Uk
   simp only [az,ay] at h
   obtain ⟨rfl,rfl,rfl⟩:=h
   obtain ⟨⟨p1,p2⟩,p3⟩:=hp
   have hb:=wV (P:=P) (w:=w) false (cap:=s.size) Wm NT hl Uk p1 p2 p3
   refine ⟨_,?_,.atom _⟩
   simp [Instr.sliceAt,Instr.slice,run_underlying hu,hb]
  ·cases h
 ·rename_i e hu
  split at h
  ·rename_i sz kr
   split at h
   ·rename_i k off len
    split at h
    ·rename_i l hh o hl Uk ho
     split at h
     ·rename_i hb
      have hb:=bm hb
      simp only [az,ay] at h
      obtain ⟨rfl,rfl,rfl⟩:=h
      obtain ⟨⟨p1,p2⟩,p3⟩:=hp
      obtain ⟨pl,c,T',hm,cE⟩:=g.rep.ob k o ho
      cases hx with
      | os iJ fy h1 h2 h3 =>
       rename_i cap a
       rw [hm] at fy;cases fy
       have Pq:=wV (P:=P) (w:=w) true (cap:=cap) Wm NT hl Uk p1 (by omega) p3
       refine ⟨.slice (if cap=l then a else a.map (·.add (l * sz))) (hh - l) (cap - l),?_,?_⟩
       ·simp [Instr.sliceAt,Instr.slice,run_underlying hu,Pq,eM kr]
       ·refine .os pl hm ?_ (by omega) (by rw [dq];omega)
        intro hc
        have:=h1 (by omega)
        subst this
        rw [if_neg (by omega)]
        simp only [Option.map_some,Addr.add_mid]
        rw [dq,cE.sz,hb,ca]
     ·cases h
    ·cases h
   ·rename_i len get
    split at h
    ·rename_i l hh hl Uk
     split at h
     ·rename_i hb
      have hb:=bm hb
      simp only [az,ay] at h
      obtain ⟨rfl,rfl,rfl⟩:=h
      obtain ⟨⟨p1,p2⟩,p3⟩:=hp
      cases hx with
      | sl b off Wl f h1 h2 h3 h4 h5 =>
       rename_i a cap
       have Pq:=wV (P:=P) (w:=w) true (cap:=cap) Wm NT hl Uk p1 (by omega) p3
       have hss:l < hh→Wl=sz:=fun ft=>by rw [← h2 l (by omega),hb]
       refine ⟨.slice (if cap=l then a else a.map (·.add (l * sz))) (hh - l) (cap - l),?_,?_⟩
       ·simp [Instr.sliceAt,Instr.slice,run_underlying hu,Pq,eM kr]
       ·refine .sl b (off+l * sz) Wl (fun i j=>f (bQ l i) j) ?_ (fun i hi=>h2 _ (by rw [dq];omega)) ?_ (fun i j c hi hc=>h4 _ _ _ (by rw [dq];omega) hc) (by omega)
        ·intro hc
         obtain ⟨ha,hS⟩:=h1 (by omega)
         subst ha
         rw [if_neg (by omega)]
         simp only [Option.map_some,Addr.add_mid]
         exact ⟨trivial,hS⟩
        ·intro i j hi hj
         have:=h3 (bQ l i) j (by rw [dq];omega) hj
         rw [dq] at this ⊢
         rw [← this,← hss (by omega),ca]
         congr 2;omega
     ·cases h
    ·cases h
   ·cases h
  ·cases h
 ·cases h
end
end Go.Ab
