/- Abstract values over the heap of the machine, and functions read off its code (part 2). No conditions. -/
import Derived.Test.YtkejjbiabpdhjaaCa
import Derived.Laws.IdiomStrings
import Derived.MapKept
import Derived.Carry
set_option linter.unusedVariables false
set_option linter.unusedSimpArgs false
namespace Go.Ab
def fpOf (w:World) (σ:Sto) (μ:Mu) (b:Nat):Prop:=(∃ k o pl,sget σ k=some o∧μ k=some pl∧0 < pl.cap∧pl.blk=b)∨∃ k i x v,RowV w μ σ k i x v∧ptrTo v b
def envOf (w:World) (S:Nat→Prop) (σ:Sto) (μ:Mu) (m:Nat):Env:=⟨w,S,fpOf w σ μ,μ,m⟩
def Sound (P:Program) (f:FuncId) (args:List AV) (σ:Sto) (m:Nat) (res:AV) (σ':Sto):Prop :=
 ∀ (w:World) (S:Nat→Prop) (μ:Mu) (vs:Array Value),Good (envOf w S σ μ m) σ S μ w→(∀ k,m≤k→μ k=none)→RL w S μ vs args →
  Calls P f vs w fun e w'=>∃ v S' μ',e=.returned v∧Good (envOf w S σ μ m) σ' S' μ' w'∧RepX w' S' μ' v res
section
variable {E:Env} {nk:Nat} {σ:Sto} {S:Nat→Prop} {μ:Mu} {w:World}
theorem RowV.of (g:Good E σ S μ w) {k i:Nat} {o:Ob} {x:Nat×Nat×(Nat→List AV)} (ho:sget σ k=some o) (hr:rowOf o i=some x) {pl:Place} (hm:μ k=some pl):∃ v,RowV w μ σ k i x v:=by
 obtain ⟨h1,h2,h3⟩:=rowOf_some hr
 obtain ⟨pl',c,T,hm',hob⟩:=g.rep.ob k o ho
 rw [hm] at hm';cases hm'
 have hl:=hob.els i h2
 rw [h3] at hl
 obtain ⟨v,q1,q2⟩:=cell_of_obrep hob (i:=i) (j:=0) h2 (by simp at hl;omega)
 exact ⟨v,o,pl,ho,hr,hm,by rw [hob.sz];simpa using q2⟩
theorem ObRep.recell {o:Ob} {pl:Place} {c:Array Value} {T:TypeId} {μ':Mu} (h:ObRep w S μ o pl c T) (hv:o.sz≠0) (hμ:∀ k p,μ k=some p→μ' k=some p) (i:Nat) (cs:List AV) (hl:cs.length=o.sz)
  (hc:∀ j x v,i < o.len→cs[j]?=some x→c[i * o.sz+j]?=some v→RepX w S μ' v x):ObRep w S μ' ⟨false,o.sz,o.len,false,fun m=>if m=i then cs else o.get m⟩ pl c T:=by
 refine ⟨h.sz,h.blk,h.cap,h.len,h.out,fun m hm=>?_,fun m j x v hm hx hv'=>?_,fun hz=>absurd hz hv⟩
 ·show (if m=i then cs else o.get m).length=o.sz
  split
  ·exact hl
  ·exact h.els m hm
 ·have hx2:(if m=i then cs else o.get m)[j]?=some x:=hx
  show RepX w S μ' v x
  by_cases hmi:m=i
  ·grind
  ·rw [if_neg hmi] at hx2
   exact (noMu_mono (h.rep m j x v hm hx2 hv')).mono (fun _ h=>h) (fun _ _=>rfl) hμ
theorem Good.cls (g:Good E σ S μ w) {k q i:Nat} {o oq:Ob} (ho:sget σ k=some o) (hoq:sget σ q=some oq) (hkq:k≠q) (hvar:o.var=false) (hvq:oq.var=false) (hpq:oq.pr=true) (hsq:1≤oq.sz)
  (hi:i < o.len) (hget:o.get i=[.os q 0 oq.len]) (hno:∀ j,rowOf oq j=none) :
  Good E (sset (sdel σ q) k ⟨false,o.sz,o.len,false,fun m=>if m=i then [.mr oq.sz oq.len oq.get] else o.get m⟩) S μ w:=by
 obtain ⟨pl,c,T,hm,hob⟩:=g.rep.ob k o ho
 obtain ⟨pq,cq,Tq,hmq,hobq⟩:=g.rep.ob q oq hoq
 have hsz:o.sz=1:=by have:=hob.els i hi;rw [hget] at this;simpa using this.symm
 let o':Ob:=⟨false,o.sz,o.len,false,fun m=>if m=i then [.mr oq.sz oq.len oq.get] else o.get m⟩
 have hget':∀ n y,sget (sset (sdel σ q) k o') n=some y→n≠q∧((n=k∧y=o')∨(n≠k∧sget σ n=some y)):=by
  intro n y h
  rw [sget_sset] at h
  by_cases hn:k=n
  ·simp_all
  ·rw [if_neg hn,sget_sdel] at h
   grind
 have hold:∀ n y,sget (sset (sdel σ q) k o') n=some y→n≠q∧∃ y',sget σ n=some y':=fun n y h=>by
  grind
 -- the cell that names the row
 have hcell:∃ a cap,c[i * o.sz+0]?=some (.slice a oq.len cap)∧w.cell? ⟨pl.blk,i * pl.sz,none⟩=some (.slice a oq.len cap)∧oq.len≤cap∧cap≤pq.cap∧(0 < cap→a=some ⟨pq.blk,0,none⟩):=by
  obtain ⟨u,b1,b2⟩:=cell_of_obrep hob (i:=i) (j:=0) hi (by omega)
  have:=noMu_mono (hob.rep i 0 (.os q 0 oq.len) u hi (by rw [hget];rfl) b1)
  cases this with
  | os pl' hm' e1 e2 e3 =>
   rename_i cap a
   rw [hmq] at hm';cases hm'
   exact ⟨a,cap,b1,by rw [hob.sz];simpa using b2,e2,by omega,fun h=>by rw [e1 h];simp⟩
 obtain ⟨a,cap,d1,d2,d3,d4,d5⟩:=hcell
 have hrow:RowAt E.fp E.w0.heap.size w S (.slice a oq.len cap) (oq.sz,oq.len,oq.get):=by
  refine ⟨a,cap,rfl,d3,⟨hsq,fun j=>?_⟩,fun hc=>⟨pq.blk,cq,Tq,d5 hc,⟨rfl,fun _=>?_,?_,d3,fun _=>hobq.out (by omega),hobq.els,fun j l y u hj hy hu=>?_,fun hz=>absurd hz (by show oq.sz≠0;omega)⟩,g.own q oq pq hoq hmq (by omega)⟩⟩
  ·cases hr:rowOf ⟨false,oq.sz,oq.len,true,oq.get⟩ j with
   | none=>rfl
   | some y =>
    obtain ⟨_,r2,r3⟩:=rowOf_some hr
    have:=rowOf_mk hvq r2 r3
    simp_all
  ·exact hobq.blk (by omega)
  ·exact Nat.le_trans (Nat.mul_le_mul_right _ d4) hobq.cap
  ·have:=hobq.rep j l y u hj hy hu
   simp_all
 have key:∀ n j y u,RowV w μ (sset (sdel σ q) k o') n j y u→(RowV w μ σ n j y u∧¬ (n=k∧j=i))∨(n=k∧j=i∧y=(oq.sz,oq.len,oq.get)∧u=.slice a oq.len cap):=by
  rintro n j y u ⟨o2,p2,b1,b2,b3,b4⟩
  obtain ⟨h0,⟨rfl,rfl⟩ | ⟨hn,h1⟩⟩:=hget' n o2 b1
  ·rw [hm] at b3;cases b3
   obtain ⟨_,e2,e3⟩:=rowOf_some b2
   have e4:(if j=i then [AV.mr oq.sz oq.len oq.get] else o.get j)=[.mr y.1 y.2.1 y.2.2]:=e3
   clear e3
   by_cases hji:j=i
   ·simp_all
   ·rw [if_neg hji] at e4
    have e3:=e4
    exact .inl ⟨⟨o,pl,ho,rowOf_mk hvar e2 e3,hm,b4⟩,fun h=>hji h.2⟩
  ·exact .inl ⟨⟨o2,p2,h1,b2,b3,b4⟩,fun h=>hn h.1⟩
 have hptr:∀ b,ptrTo (.slice a oq.len cap) b→pq.blk=b∧0 < pq.cap:=by
  rintro b ⟨l,cp,e,hc⟩
  injection e with e1 e2 e3
  subst e3
  rw [d5 hc] at e1
  injection e1 with e1
  injection e1 with e1
  exact ⟨e1,by omega⟩
 refine ⟨g.fr,g.S0,g.S1,g.S2,⟨fun n y h=>?_,fun n n' y y' p p' hne h h' hp hp' hc hc'=>?_⟩,fun n y p h hp hc=>?_,g.mu0,?_⟩
 ·obtain ⟨h0,⟨rfl,rfl⟩ | ⟨hn,h1⟩⟩:=hget' n y h
  ·exact ⟨pl,c,T,hm,hob.recell (by omega) (fun _ _ h=>h) i _ (by rw [hsz];rfl) fun j y u _ hy hu=>by
    cases j with
    | zero=>simp at hy;subst hy;exact .mr
    | succ j=>simp at hy⟩
  ·exact g.rep.ob n y h1
 ·obtain ⟨_,y2,hy2⟩:=hold n y h
  obtain ⟨_,y2',hy2'⟩:=hold n' y' h'
  exact g.rep.ne n n' y2 y2' p p' hne hy2 hy2' hp hp' hc hc'
 ·obtain ⟨_,y2,hy2⟩:=hold n y h
  exact g.own n y2 p hy2 hp hc
 ·refine ⟨fun n j y u h=>?_,fun n j y u b h hb n' y' p' h1 h2 h3 he=>?_,fun n j y u b n' j' y' u' h h' hb hb'=>?_⟩
  ·rcases key n j y u h with ⟨h,_⟩ | ⟨_,_,rfl,rfl⟩
   ·exact g.mx.row _ _ _ _ h
   ·exact hrow
  ·obtain ⟨hnq,y2,hy2⟩:=hold n' y' h1
   rcases key n j y u h with ⟨h,_⟩ | ⟨_,_,rfl,rfl⟩
   ·exact g.mx.obj _ _ _ _ _ h hb n' y2 p' hy2 h2 h3 he
   ·obtain ⟨e1,e2⟩:=hptr b hb
    exact g.rep.ne n' q y2 oq p' pq hnq hy2 hoq h2 hmq h3 e2 (he.trans e1.symm)
  ·rcases key n j y u h with ⟨h,_⟩ | ⟨n1,j1,rfl,rfl⟩<;>rcases key n' j' y' u' h' with ⟨h',_⟩ | ⟨n2,j2,rfl,rfl⟩
   ·exact g.mx.two _ _ _ _ _ _ _ _ _ h h' hb hb'
   ·obtain ⟨e1,e2⟩:=hptr b hb'
    exact (g.mx.obj _ _ _ _ _ h hb q oq pq hoq hmq e2 e1).elim
   ·obtain ⟨e1,e2⟩:=hptr b hb
    exact (g.mx.obj _ _ _ _ _ h' hb' q oq pq hoq hmq e2 e1).elim
   ·exact ⟨n1.trans n2.symm,j1.trans j2.symm⟩
end
mutual
def AV.ren (f:Nat→Option Nat):AV→AV
 | .op k i j=>match f k with
  | some k'=>.op k' i j
  | none=>.unk
 | .os k off len=>match f k with
  | some k'=>.os k' off len
  | none=>.unk
 | .agg cs=>.agg (AV.renL f cs)
 | .tup cs=>.tup (AV.renL f cs)
 | .fn g a b=>.fn g (AV.renL f a) (AV.renL f b)
 | .when b x=>.when b (x.ren f)
 | .mp k=>match f k with
  | some k'=>.mp k'
  | none=>.unk
 | .bn n=>.bn n
 | .pt b cs=>.pt b cs
 | .atom v=>.atom v
 | .sl n g=>.sl n g
 | .rp c o=>.rp c o
 | .ov _ _ _ _ _=>.unk
 | .osf _ _ _=>.unk
 | .nq st x=>.nq st (x.ren f)
 | .nil=>.nil
 | .unk=>.unk
 | .mr sz n g=>.mr sz n g
def AV.renL (f:Nat→Option Nat):List AV→List AV
 | []=>[]
 | c :: cs=>c.ren f :: AV.renL f cs
end
theorem renL_eq (f:Nat→Option Nat) (cs:List AV):AV.renL f cs=cs.map (·.ren f):=by
 induction cs with
 | nil=>rfl
 | cons c cs ih=>simp [AV.renL,ih]
theorem RepX.ren {w:World} {S:Nat→Prop} {μ:Mu} {v:Value} {x:AV} (h:RepX w S μ v x) :
  ∀ {μ':Mu} {f:Nat→Option Nat},(∀ k k' pl,f k=some k'→μ k=some pl→μ' k'=some pl)→RepX w S μ' v (x.ren f):=by
 induction h with
 | atom v=>exact fun _=>.atom v
 | agg h1 h2 ih =>
  intro μ' f hf
  simp only [AV.ren,renL_eq]
  refine .agg (by simp [h1]) fun j c v hc hv=>?_
  grind
 | tup h1 h2 ih =>
  intro μ' f hf
  simp only [AV.ren,renL_eq]
  refine .tup (by simp [h1]) fun j c v hc hv=>?_
  grind
 | sl b off sz f h1 h2 h3 h4 h5 _=>exact fun _=>.sl b off sz f h1 h2 h3 h4 h5
 | rp b o f h1 h2 h3 _=>exact fun _=>.rp b o f h1 h2 h3
 | @op μ k i j pl h =>
  grind [AV.ren,op,unk]
 | @os μ k off len cap a pl h h1 h2 h3 =>
  grind [AV.ren,os,unk]
 | fn h1 h2 _ _ ih1 ih2 =>
  intro μ' f hf
  simp only [AV.ren,renL_eq]
  refine .fn (by simp [h1]) (by simp [h2]) (fun j c v hc hv=>?_) (fun j c v hc hv=>?_)
  ·grind
  grind
 | when _ hu ih=>exact fun hf=>.when (fun hb=>ih hb hf) hu
 | @mp μ k pl h =>
  grind [AV.ren,mp,unk]
 | bn b h=>exact fun _=>.bn b h
 | pt h1 h2 _ =>
  intro μ' f hf
  exact .pt (fun hb=>by have:=h1 hb;cases this with
   | rp b o f q1 q2 q3=>exact .rp b o f q1 q2 q3) h2
 | ov=>exact fun _=>.unk
 | osf=>exact fun _=>.unk
 | nq _ h1 h2 ih=>exact fun hf=>.nq (ih hf) h1 h2
 | nil=>exact fun _=>.nil
 | unk=>exact fun _=>.unk
 | mr=>exact fun _=>.mr
def Ob.ren (f:Nat→Option Nat) (o:Ob):Ob :=
 match o.pr with
 | true=>o
 | false=>{ o with get:=fun i=>AV.renL f (o.get i) }
theorem Ob.ren_sz (f:Nat→Option Nat) (o:Ob):(o.ren f).sz=o.sz:=by grind [Ob.ren]
theorem Ob.ren_len (f:Nat→Option Nat) (o:Ob):(o.ren f).len=o.len:=by grind [Ob.ren]
theorem Ob.ren_pr (f:Nat→Option Nat) (o:Ob):(o.ren f).pr=o.pr:=by grind [Ob.ren]
theorem ren_mr {f:Nat→Option Nat} {cs:List AV} {sz n:Nat} {g:Nat→List AV} (h:AV.renL f cs=[.mr sz n g]):cs=[.mr sz n g]:=by
 cases cs with
 | nil=>cases h
 | cons c cs =>
  cases cs with
  | cons d ds=>simp [AV.renL] at h
  | nil =>
   simp only [AV.renL,List.cons.injEq,and_true] at h
   cases c with
   | op=>grind [AV.ren]
   | os=>grind [AV.ren]
   | mp=>grind [AV.ren]
   | mr=>simpa [AV.ren] using h
   | _=>cases h
theorem rowOf_ren (f:Nat→Option Nat) (o:Ob) (i:Nat) (x:Nat×Nat×(Nat→List AV)):rowOf (o.ren f) i=some x↔rowOf o i=some x:=by
 unfold Ob.ren
 split
 ·exact Iff.rfl
 ·constructor
  ·intro h
   obtain ⟨h1,h2,h3⟩:=rowOf_some h
   grind [rowOf_mk,ren_mr]
  ·intro h
   obtain ⟨h1,h2,h3⟩:=rowOf_some h
   exact rowOf_mk h1 h2 (by show AV.renL f (o.get i)=_;rw [h3];rfl)
theorem ObRep.ren {w:World} {S:Nat→Prop} {μ μ':Mu} {o:Ob} {pl:Place} {c:Array Value} {T:TypeId} (h:ObRep w S μ o pl c T) {f:Nat→Option Nat}
  (hf:∀ k k' pl,f k=some k'→μ k=some pl→μ' k'=some pl):ObRep w S μ' (o.ren f) pl c T:=by
 refine ⟨(Ob.ren_sz f o).symm ▸ h.sz,(Ob.ren_sz f o).symm ▸ h.blk,(Ob.ren_sz f o).symm ▸ h.cap,(Ob.ren_len f o).symm ▸ h.len,h.out,?_,?_,fun hz=>?_⟩
 rotate_left 2
 ·rw [Ob.ren_sz] at hz
  obtain ⟨h0,h1,h2,h3,h4⟩:=h.mp hz
  grind [Ob.ren]
 ·intro i hi
  rw [Ob.ren_len] at hi
  rw [Ob.ren_sz,← h.els i hi]
  grind [Ob.ren,renL_eq]
 ·intro i j x v hi hx hv
  rw [Ob.ren_len] at hi
  rw [Ob.ren_sz] at hv
  rw [Ob.ren_pr]
  unfold Ob.ren at hx
  split at hx
  ·rename_i hp
   have:=h.rep i j x v hi hx hv
   simp_all
  ·rename_i hp
   simp only [renL_eq,List.getElem?_map,Option.map_eq_some_iff] at hx
   obtain ⟨y,hy,rfl⟩:=hx
   have:=h.rep i j y v hi hy hv
   rw [hp] at this ⊢
   exact this.ren hf
def idx:List Nat→Nat→Option Nat
 | [],_=>none
 | a :: r,k=>match Nat.beq a k with
  | true=>some 0
  | false=>(idx r k).map (·+1)
theorem idx_spec:∀ (ks:List Nat) (k i:Nat),idx ks k=some i→ks[i]?=some k
 | [],k,i,h=>by simp [idx] at h
 | a :: r,k,i,h=>by
  simp only [idx] at h
  split at h
  ·rename_i hb
   cases h
   simp [Nat.eq_of_beq_eq_true hb]
  ·simp only [Option.map_eq_some_iff] at h
   obtain ⟨i',hi',rfl⟩:=h
   simpa using idx_spec r k i' hi'
mutual
def AV.lend (σ:Sto) (ks:List Nat):AV→Option (AV×List Nat×List Prop)
 | .op k i j=>match idx ks k with
  | some n=>some (.op n i j,[],[])
  | none=>some (.unk,[],[])
 | .os k off len=>match idx ks k with
  | some n=>some (.os n off len,[],[])
  | none=>match sget σ k with
   | some o=>match o.pr with
    | true=>some (.sl len (fun i=>o.get (addz off i)),[k],[off+len≤o.len])
    | false=>none
   | none=>none
 | .agg cs=>(AV.lendL σ ks cs).map fun (a,b,c)=>(.agg a,b,c)
 | .tup cs=>(AV.lendL σ ks cs).map fun (a,b,c)=>(.tup a,b,c)
 | .fn g x y=>match AV.lendL σ ks x,AV.lendL σ ks y with
  | some (a,b,c),some (a',b',c')=>some (.fn g a a',b ++ b',c ++ c')
  | _,_=>none
 | .when _ _=>none
 | .ov _ _ _ _ _=>none
 | .osf _ _ _=>none
 | .nq _ _=>none
 | .mp k=>(idx ks k).map fun n=>(.mp n,[],[])
 | .bn n=>some (.bn n,[],[])
 | .pt b cs=>some (.pt b cs,[],[])
 | .atom v=>some (.atom v,[],[])
 | .sl n g=>some (.sl n g,[],[])
 | .rp c o=>some (.rp c o,[],[])
 | .nil=>some (.nil,[],[])
 | .unk=>some (.unk,[],[])
 | .mr _ _ _=>none
def AV.lendL (σ:Sto) (ks:List Nat):List AV→Option (List AV×List Nat×List Prop)
 | []=>some ([],[],[])
 | c :: cs=>match c.lend σ ks,AV.lendL σ ks cs with
  | some (a,b,p),some (a',b',p')=>some (a :: a',b ++ b',p ++ p')
  | _,_=>none
end
def muOf (μ:Mu) (ks:List Nat):Mu:=fun i=>(ks[i]?).bind μ
def lent (μ:Mu) (bs:List Nat) (b:Nat):Prop:=∃ k∈bs,∃ pl,μ k=some pl∧0 < pl.cap∧pl.blk=b
theorem muOf_idx {μ:Mu} {ks:List Nat}:∀ k i pl,idx ks k=some i→μ k=some pl→muOf μ ks i=some pl:=by
 intro k i pl h hm
 simp [muOf,idx_spec ks k i h,hm]
section
variable {P:Program} {E:Env} {nk:Nat} {σ:Sto} {S:Nat→Prop} {μ:Mu} {w:World}
theorem lend_rep (g:Good E σ S μ w) {ks:List Nat} {v:Value} {x:AV} (h:RepX w S μ v x):∀ (S':Nat→Prop),(∀ b,S b→S' b)→∀ {y:AV} {bs:List Nat} {ps:List Prop},
  x.lend σ ks=some (y,bs,ps)→AllP ps→(∀ b,lent μ bs b→S' b)→RepX w S' (muOf μ ks) v y:=by
 have lists:∀ {μ:Mu} {vs:Array Value} {cs:List AV} (S':Nat→Prop),
   (∀ (j:Nat) (c:AV) (v:Value),cs[j]?=some c→vs[j]?=some v→∀ {y:AV} {bs:List Nat} {ps:List Prop},c.lend σ ks=some (y,bs,ps)→AllP ps→(∀ b,lent μ bs b→S' b)→RepX w S' (muOf μ ks) v y) →
   ∀ {ys:List AV} {bs:List Nat} {ps:List Prop},AV.lendL σ ks cs=some (ys,bs,ps)→AllP ps→(∀ b,lent μ bs b→S' b) →
   ys.length=cs.length∧∀ (j:Nat) (c:AV) (v:Value),ys[j]?=some c→vs[j]?=some v→RepX w S' (muOf μ ks) v c:=by
  intro μ vs cs S' h
  have gen:∀ (cs:List AV) (o:Nat),(∀ (j:Nat) (c:AV) (v:Value),cs[j]?=some c→vs[o+j]?=some v→∀ {y:AV} {bs:List Nat} {ps:List Prop},c.lend σ ks=some (y,bs,ps)→AllP ps→(∀ b,lent μ bs b→S' b)→RepX w S' (muOf μ ks) v y) →
   ∀ {ys:List AV} {bs:List Nat} {ps:List Prop},AV.lendL σ ks cs=some (ys,bs,ps)→AllP ps→(∀ b,lent μ bs b→S' b) →
   ys.length=cs.length∧∀ (j:Nat) (c:AV) (v:Value),ys[j]?=some c→vs[o+j]?=some v→RepX w S' (muOf μ ks) v c:=by
   intro cs
   induction cs with
   | nil =>
    intro o _ ys bs ps h _ _
    simp [AV.lendL] at h
    simp_all
   | cons c cs ih =>
    intro o hh ys bs ps h hp hb
    simp only [AV.lendL] at h
    split at h
    ·rename_i a b p a' b' p' h1 h2
     simp only [Option.some.injEq,Prod.mk.injEq] at h
     obtain ⟨rfl,rfl,rfl⟩:=h
     obtain ⟨hp1,hp2⟩:=AllP.app hp
     have ih':=ih (o+1) (fun j c v hc hv=>hh (j+1) c v (by simpa using hc) (by grind)) h2 hp2 (fun q hq=>hb q (by obtain ⟨k,hk,r⟩:=hq;exact ⟨k,by simp [hk],r⟩))
     refine ⟨by simp [ih'.1],?_⟩
     intro j c' v hc hv
     cases j with
     | zero =>
      simp at hc;subst hc
      exact hh 0 c v (by simp) hv h1 hp1 (fun q hq=>hb q (by obtain ⟨k,hk,r⟩:=hq;exact ⟨k,by simp [hk],r⟩))
     | succ j=>grind
    ·cases h
  intro ys bs ps h1 h2 h3
  have:=gen cs 0 (fun j c v hc hv=>h j c v hc (by simpa using hv)) h1 h2 h3
  exact ⟨this.1,fun j c v hc hv=>this.2 j c v hc (by simpa using hv)⟩
 intro S' hS
 have h0:=h
 clear h
 have key:∀ {μ₁:Mu} {v:Value} {x:AV},RepX w S μ₁ v x→μ₁=μ→∀ {y:AV} {bs:List Nat} {ps:List Prop},x.lend σ ks=some (y,bs,ps)→AllP ps→(∀ b,lent μ bs b→S' b)→RepX w S' (muOf μ ks) v y:=by
  intro μ₁ v x h
  induction h with
  | atom v=>intro _ y bs ps h _ _;simp [AV.lend] at h;obtain ⟨rfl,_,_⟩:=h;exact .atom v
  | agg h1 h2 ih =>
   intro e y bs ps h hp hb
   subst e
   simp only [AV.lend,Option.map_eq_some_iff] at h
   obtain ⟨⟨a,b,c⟩,h,e⟩:=h
   simp only [Prod.mk.injEq] at e
   obtain ⟨rfl,rfl,rfl⟩:=e
   obtain ⟨q1,q2⟩:=lists S' (fun j c v hc hv=>ih j c v hc hv rfl) h hp hb
   exact .agg (h1.trans q1.symm) q2
  | tup h1 h2 ih =>
   intro e y bs ps h hp hb
   subst e
   simp only [AV.lend,Option.map_eq_some_iff] at h
   obtain ⟨⟨a,b,c⟩,h,e⟩:=h
   simp only [Prod.mk.injEq] at e
   obtain ⟨rfl,rfl,rfl⟩:=e
   obtain ⟨q1,q2⟩:=lists S' (fun j c v hc hv=>ih j c v hc hv rfl) h hp hb
   exact .tup (h1.trans q1.symm) q2
  | @sl μ₁ a len cap get b off sz f h1 h2 h3 h4 h5 _ =>
   intro _ y bs ps h _ _
   simp [AV.lend] at h;obtain ⟨rfl,_,_⟩:=h
   have:=(RepX.sl (μ:=muOf μ ks) b off sz f h1 h2 h3 h4 h5)
   exact this.mono hS (fun _ _=>rfl) (fun _ _ h=>h)
  | @rp μ₁ cs off b o f h1 h2 h3 _ =>
   intro _ y bs ps h _ _
   simp [AV.lend] at h;obtain ⟨rfl,_,_⟩:=h
   have:=(RepX.rp (μ:=muOf μ ks) (off:=off) b o f h1 h2 h3)
   exact this.mono hS (fun _ _=>rfl) (fun _ _ h=>h)
  | @op μ₁ k i j pl hm =>
   intro e y bs ps h _ _
   subst e
   simp only [AV.lend] at h
   split at h
   ·rename_i n hn
    simp at h;obtain ⟨rfl,_,_⟩:=h
    exact .op pl (muOf_idx _ _ _ hn hm)
   ·simp at h;obtain ⟨rfl,_,_⟩:=h
    exact .unk
  | @os μ₁ k off len cap a pl hm h1 h2 h3 =>
   intro e y bs ps h hp hb
   subst e
   simp only [AV.lend] at h
   split at h
   ·rename_i n hn
    simp at h;obtain ⟨rfl,_,_⟩:=h
    exact .os pl (muOf_idx _ _ _ hn hm) h1 h2 h3
   ·split at h
    ·rename_i o ho
     split at h
     ·rename_i hpr
      simp only [Option.some.injEq,Prod.mk.injEq] at h
      obtain ⟨hy,rfl,rfl⟩:=h
      have hle:=hp.1
      obtain ⟨pl',c,T,hm',hob⟩:=g.rep.ob k o ho
      rw [hm] at hm';cases hm'
      have hgt:y=.sl len fun i=>o.get (off+i):=by
       rw [← hy]
       simp only [addz_eq]
      rw [hgt]
      refine .sl pl.blk (off * pl.sz) o.sz (fun i j=>(c[(off+i) * o.sz+j]?).getD undef) ?_ (fun i hi=>hob.els _ (by omega)) ?_ ?_ h2
      ·intro hl
       exact ⟨h1 (by omega),hb _ ⟨k,by simp,pl,hm,by omega,rfl⟩⟩
      ·intro i j hi hj
       obtain ⟨v,q1,q2⟩:=cell_of_obrep hob (i:=off+i) (by omega) hj
       rw [q1,hob.sz,← Nat.add_mul,q2];rfl
      ·intro i j c' hi hc'
       obtain ⟨v,q1,q2⟩:=cell_of_obrep hob (i:=off+i) (by omega) (by have:=(List.getElem?_eq_some_iff.1 hc').1;rwa [hob.els _ (by omega)] at this)
       rw [q1]
       have:=hob.rep _ j c' v (by omega) hc' q1
       rw [hpr] at this
       exact RepX.mono (S:=S) (S':=S') hS (fun _ _=>rfl) this (fun _ _ h=>h)
     ·cases h
    ·cases h
  | fn h1 h2 _ _ ih1 ih2 =>
   intro e y bs ps h hp hb
   subst e
   simp only [AV.lend] at h
   split at h
   ·rename_i a b c a' b' c' e1 e2
    simp only [Option.some.injEq,Prod.mk.injEq] at h
    obtain ⟨rfl,rfl,rfl⟩:=h
    obtain ⟨hp1,hp2⟩:=AllP.app hp
    obtain ⟨q1,q2⟩:=lists S' (fun j c v hc hv=>ih1 j c v hc hv rfl) e1 hp1 (fun q hq=>hb q (by obtain ⟨k,hk,r⟩:=hq;exact ⟨k,by simp [hk],r⟩))
    obtain ⟨r1,r2⟩:=lists S' (fun j c v hc hv=>ih2 j c v hc hv rfl) e2 hp2 (fun q hq=>hb q (by obtain ⟨k,hk,r⟩:=hq;exact ⟨k,by simp [hk],r⟩))
    exact .fn (h1.trans q1.symm) (h2.trans r1.symm) q2 r2
   ·cases h
  | when=>intro _ y bs ps h;simp [AV.lend] at h
  | ov=>intro _ y bs ps h;simp [AV.lend] at h
  | osf=>intro _ y bs ps h;simp [AV.lend] at h
  | nq=>intro _ y bs ps h;simp [AV.lend] at h
  | @mp μ₁ k pl hm =>
   intro e y bs ps h _ _
   subst e
   simp only [AV.lend,Option.map_eq_some_iff,Prod.mk.injEq] at h
   obtain ⟨n,hn,rfl,_,_⟩:=h
   exact .mp pl (muOf_idx _ _ _ hn hm)
  | bn b hb=>intro _ y bs ps h _ _;simp [AV.lend] at h;obtain ⟨rfl,_,_⟩:=h;exact .bn b hb
  | pt h1 h2 _ =>
   intro _ y bs ps h _ _
   simp [AV.lend] at h;obtain ⟨rfl,_,_⟩:=h
   refine .pt (fun hb=>?_) h2
   have:=h1 hb
   cases this with
   | rp b o f q1 q2 q3 =>
    have:=(RepX.rp (μ:=muOf μ ks) (off:=0) b o f q1 q2 q3)
    exact this.mono hS (fun _ _=>rfl) (fun _ _ h=>h)
  | nil=>intro _ y bs ps h _ _;simp [AV.lend] at h;obtain ⟨rfl,_,_⟩:=h;exact .nil
  | unk=>intro _ y bs ps h _ _;simp [AV.lend] at h;obtain ⟨rfl,_,_⟩:=h;exact .unk
  | mr=>intro _ y bs ps h;simp [AV.lend] at h
 intro y bs ps h1 h2 h3
 exact key h0 rfl h1 h2 h3
end
end Go.Ab
namespace Go.Ab
structure YC where
 l:Nat
 as:List AV
 k:Nat
 o:Ob
 o':Ob
structure Orc where
 ks:List Nat
 same:Bool
 res:AV
 sto:Sto
 dec:Nat
 frz:Bool
 y:Option YC
def orcY:Option Orc→Option YC
 | none=>none
 | some o=>o.y
def decO:Option Orc→Nat
 | none=>0
 | some o=>o.dec
def resO:Option Orc→AV
 | none=>.unk
 | some o=>o.res
structure R where
 obl:List Prop
 val:AV
 rds:List Nat
 upd:Upd
def callable (P:Program) (g:FuncId):Bool :=
 match P.funcs[g]? with
 | some fn=>fn.body.isSome && !(fn.name == "runtime.NumGoroutine")
 | none=>false
def canon (σ:Sto) (ks:List Nat):Nat→List Nat→Option Sto
 | _,[]=>some []
 | i,k :: r=>match sget σ k,canon σ ks (i+1) r with
  | some o,some t=>some ((i,o.ren (idx ks)) :: t)
  | _,_=>none
def back (ks:List Nat) (nk n:Nat):Option Nat :=
 match ks[n]? with
 | some k=>some k
 | none=>match Nat.blt n (ks.length+16) with
  | true=>some (nk+(n - ks.length))
  | false=>none
def backU (ks:List Nat) (nk:Nat) (σ':Sto):Nat→List Nat→Upd
 | _,[]=>[]
 | i,k :: r=>(k,(sget σ' i).map (Ob.ren (back ks nk))) :: backU ks nk σ' (i+1) r
def newU (ks:List Nat) (nk:Nat):Sto→Upd
 | []=>[]
 | (n,o) :: r=>match Nat.ble ks.length n with
  | true=>(nk+(n - ks.length),some (o.ren (back ks nk))) :: newU ks nk r
  | false=>newU ks nk r
def nodupB:List Nat→Bool
 | []=>true
 | k :: r=>(idx r k).isNone && nodupB r
def ltKeys (n:Nat):Sto→Bool
 | []=>true
 | (k,_) :: r=>Nat.blt k n && ltKeys n r
def Ob.flat (o:Ob):Bool:=o.var && Nat.beq o.len 1 && Nat.ble 1 o.sz && AV.flatL (o.get 0)
mutual
def AV.noS:AV→Bool
 | .atom _ | .op _ _ _ | .os _ _ _ | .mp _ | .bn _ | .nil=>true
 | .agg cs | .tup cs=>AV.noSL cs
 | .fn _ a b=>AV.noSL a && AV.noSL b
 | _=>false
def AV.noSL:List AV→Bool
 | []=>true
 | c :: cs=>c.noS && AV.noSL cs
end
theorem noSL_get {cs:List AV} (h:AV.noSL cs=true) {j:Nat} {c:AV} (hc:cs[j]?=some c):c.noS=true:=by
 induction cs generalizing j with
 | nil=>simp at hc
 | cons x xs ih =>
  simp only [AV.noSL,Bool.and_eq_true] at h
  grind
theorem RepX.noS {w:World} {S:Nat→Prop} {μ:Mu} {v:Value} {x:AV} (h:RepX w S μ v x):x.noS=true→∀ w' S',RepX w' S' μ v x:=by
 induction h with
 | atom v=>grind [atom]
 | agg h1 _ ih=>grind [agg,noSL_get,AV.noS]
 | tup h1 _ ih=>grind [tup,noSL_get,AV.noS]
 | op pl h=>grind [op]
 | os pl h h1 h2 h3=>grind [os]
 | fn h1 h2 _ _ ih1 ih2 =>
  intro hp w' S'
  simp only [AV.noS,Bool.and_eq_true] at hp
  grind [fn,noSL_get]
 | mp pl h=>grind [mp]
 | bn b h=>grind [bn]
 | nil=>exact fun _ _ _=>.nil
 | sl=>grind [AV.noS]
 | rp=>grind [AV.noS]
 | when=>grind [AV.noS]
 | pt=>grind [AV.noS]
 | ov=>grind [AV.noS]
 | osf=>grind [AV.noS]
 | nq=>grind [AV.noS]
 | unk=>grind [AV.noS]
 | mr=>grind [AV.noS]
def flatObP (o:Ob):Option (List Prop) :=
 match o.flat with
 | true=>some []
 | false=>match o.pr && Nat.ble 1 o.sz with
  | true=>some [∀ i,i < o.len→AV.flatL (o.get i)=true]
  | false=>none
def flatStoP (lone:Bool):Sto→Option (List Prop)
 | []=>some []
 | (_,o) :: r=>match lone with
  | true=>some []
  | false=>match flatObP o,flatStoP lone r with
   | some p,some q=>some (p ++ q)
   | _,_=>none
mutual
def AV.closed (f:Nat→Option Nat):AV→Bool
 | .op k _ _=>(f k).isSome
 | .os k _ _=>(f k).isSome
 | .mp k=>(f k).isSome
 | .ov _ _ _ _ _ | .osf _ _ _ | .mr _ _ _=>false
 | .agg cs | .tup cs=>AV.closedL f cs
 | .fn _ a b=>AV.closedL f a && AV.closedL f b
 | .when _ x=>x.closed f
 | .nq _ x=>x.closed f
 | _=>true
def AV.closedL (f:Nat→Option Nat):List AV→Bool
 | []=>true
 | c :: cs=>c.closed f && AV.closedL f cs
end
def Ob.closed (f:Nat→Option Nat) (o:Ob):Bool:=o.pr || (o.var && Nat.beq o.len 1 && AV.closedL f (o.get 0))
def isMrL:List AV→Bool
 | [.mr _ _ _]=>true
 | _=>false
theorem isMrL_ren {f:Nat→Option Nat} {l:List AV} (h:isMrL l=true):AV.renL f l=l:=by
 unfold isMrL at h
 split at h
 ·rfl
 ·cases h
def sameOb (ks:List Nat) (lone:Bool) (o:Ob):Option (List Prop) :=
 match o.flat || (lone && o.closed (idx ks)) with
 | true=>some []
 | false=>match o.pr with
  | true=>flatObP o
  | false=>match lone && !o.var with
   | true=>some [∀ i,i < o.len→isMrL (o.get i)=true]
   | false=>none
def sameOk (σ:Sto) (ks:List Nat) (lone:Bool):List Nat→Option (List Prop)
 | []=>some []
 | k :: r=>match sget σ k with
  | some o=>match sameOb ks lone o,sameOk σ ks lone r with
   | some p,some q=>some (p ++ q)
   | _,_=>none
  | none=>none
mutual
theorem ren_back {f g:Nat→Option Nat} (hfg:∀ k i,f k=some i→g i=some k):∀ (x:AV),x.closed f=true→(x.ren f).ren g=x
 | .op k i j,h=>by
  obtain ⟨n,hn⟩:=Option.isSome_iff_exists.1 (by simpa [AV.closed] using h)
  simp [AV.ren,hn,hfg k n hn]
 | .os k i j,h=>by
  obtain ⟨n,hn⟩:=Option.isSome_iff_exists.1 (by simpa [AV.closed] using h)
  simp [AV.ren,hn,hfg k n hn]
 | .agg cs,h=>by simp only [AV.ren];rw [renL_back hfg cs (by simpa [AV.closed] using h)]
 | .tup cs,h=>by simp only [AV.ren];rw [renL_back hfg cs (by simpa [AV.closed] using h)]
 | .fn q a b,h=>by
  simp only [AV.closed,Bool.and_eq_true] at h
  simp only [AV.ren];rw [renL_back hfg a h.1,renL_back hfg b h.2]
 | .when b x,h=>by simp only [AV.ren];rw [ren_back hfg x (by simpa [AV.closed] using h)]
 | .nq b x,h=>by simp only [AV.ren];rw [ren_back hfg x (by simpa [AV.closed] using h)]
 | .mp k,h=>by
  obtain ⟨n,hn⟩:=Option.isSome_iff_exists.1 (by simpa [AV.closed] using h)
  simp [AV.ren,hn,hfg k n hn]
 | .ov _ _ _ _ _,h=>by simp [AV.closed] at h
 | .osf _ _ _,h=>by simp [AV.closed] at h
 | .mr _ _ _,h=>by simp [AV.closed] at h
 | .bn _,_=>rfl
 | .pt _ _,_=>rfl
 | .atom _,_=>rfl
 | .sl _ _,_=>rfl
 | .rp _ _,_=>rfl
 | .nil,_=>rfl
 | .unk,_=>rfl
theorem renL_back {f g:Nat→Option Nat} (hfg:∀ k i,f k=some i→g i=some k):∀ (cs:List AV),AV.closedL f cs=true→AV.renL g (AV.renL f cs)=cs
 | [],_=>rfl
 | c :: cs,h=>by
  simp only [AV.closedL,Bool.and_eq_true] at h
  simp only [AV.renL]
  rw [ren_back hfg c h.1,renL_back hfg cs h.2]
end
theorem nodup_spec:∀ (ks:List Nat),nodupB ks=true→∀ (i j k:Nat),ks[i]?=some k→ks[j]?=some k→i=j
 | [],_,i,j,k,h,_=>by simp at h
 | a :: r,h,i,j,k,hi,hj=>by
  simp only [nodupB,Bool.and_eq_true] at h
  have none:∀ n:Nat,r[n]?=some a→False:=by
   intro n hn
   have:∀ (l:List Nat) (n:Nat),l[n]?=some a→(idx l a).isSome=true:=by
    intro l
    induction l with
    | nil=>intro n hn;simp at hn
    | cons b l ih =>
     intro n hn
     simp only [idx]
     cases hb:Nat.beq b a with
     | true=>rfl
     | false =>
      cases n with
      | zero=>simp at hn;rw [hn] at hb;simp at hb
      | succ n=>simpa using ih n (by simpa using hn)
   have:=this r n hn
   rw [Option.isNone_iff_eq_none] at h
   rw [h.1] at this
   cases this
  cases i with
  | zero =>
   simp at hi;subst hi
   cases j with
   | zero=>rfl
   | succ j=>exact (none j (by simpa using hj)).elim
  | succ i =>
   cases j with
   | zero=>simp at hj;subst hj;exact (none i (by simpa using hi)).elim
   | succ j=>rw [nodup_spec r h.2 i j k (by simpa using hi) (by simpa using hj)]
theorem idx_none:∀ (ks:List Nat) (k:Nat),idx ks k=none→∀ i:Nat,ks[i]?≠some k
 | [],k,_,i=>by simp
 | a :: r,k,h,i=>by
  simp only [idx] at h
  split at h
  ·cases h
  ·rename_i hb
   have h':idx r k=none:=by simpa using h
   cases i with
   | zero=>intro e;simp_all
   | succ i=>simpa using idx_none r k h' i
theorem canon_get {σ:Sto} {ks:List Nat}:∀ (l:List Nat) (i:Nat) (σc:Sto),canon σ ks i l=some σc →
  ∀ n,sget σc n=if i≤n then ((l[n - i]?).bind (sget σ)).map (Ob.ren (idx ks)) else none
 | [],i,σc,h,n=>by grind [canon,sget]
 | k :: r,i,σc,h,n=>by
  simp only [canon] at h
  split at h
  ·rename_i o t ho ht
   cases h
   simp only [sget]
   by_cases hin:i=n
   ·simp_all
   ·rw [beq_f hin]
    show sget t n=_
    rw [canon_get r (i+1) t ht n]
    grind
  ·cases h
theorem canon_all {σ:Sto} {ks:List Nat}:∀ (l:List Nat) (i:Nat) (σc:Sto),canon σ ks i l=some σc→∀ k∈l,∃ o,sget σ k=some o
 | [],i,σc,h,k,hk=>by simp at hk
 | a :: r,i,σc,h,k,hk=>by
  simp only [canon] at h
  split at h
  ·rename_i o t ho ht
   rcases List.mem_cons.1 hk with rfl | hk
   ·exact ⟨o,ho⟩
   ·exact canon_all r (i+1) t ht k hk
  ·cases h
theorem backU_get {ks:List Nat} {nk:Nat} {σ':Sto}:∀ (l:List Nat) (i:Nat) (σ:Sto) (n:Nat),(∀ a b k:Nat,l[a]?=some k→l[b]?=some k→a=b) →
  sget (supd σ (backU ks nk σ' i l)) n=match idx l n with
   | some j=>(sget σ' (i+j)).map (Ob.ren (back ks nk))
   | none=>sget σ n
 | [],i,σ,n,_=>by simp [backU,supd,idx]
 | k :: r,i,σ,n,hd=>by
  have hd':∀ a b k:Nat,r[a]?=some k→r[b]?=some k→a=b:=fun a b q ha hb=>by
   have:=hd (a+1) (b+1) q (by simpa using ha) (by simpa using hb)
   omega
  have hnk:idx r k=none:=by
   cases hq:idx r k with
   | none=>rfl
   | some j =>
    have:=idx_spec r k j hq
    have:=hd 0 (j+1) k (by simp) (by simpa using this)
    omega
  simp only [backU]
  have step:sget (supd σ ((k,(sget σ' i).map (Ob.ren (back ks nk))) :: backU ks nk σ' (i+1) r)) n=match idx r n with
    | some j=>(sget σ' (i+1+j)).map (Ob.ren (back ks nk))
    | none=>if k=n then (sget σ' i).map (Ob.ren (back ks nk)) else sget σ n:=by
   cases hs:(sget σ' i).map (Ob.ren (back ks nk)) with
   | some o =>
    simp only [supd]
    rw [backU_get r (i+1) _ n hd',sget_sset]
   | none =>
    simp only [supd]
    rw [backU_get r (i+1) _ n hd',sget_sdel]
  rw [step]
  simp only [idx]
  by_cases hkn:k=n
  ·subst hkn
   rw [hnk,beq_t rfl]
   simp
  ·rw [beq_f hkn]
   cases hq:idx r n with
   | none=>simp [hkn]
   | some j=>simp only [Option.map_some];rw [show i+1+j=i+(j+1) by omega]
def frzU (z:Bool) (bs:List Nat):Upd:=match z with
 | true=>bs.map fun k=>(k,none)
 | false=>[]
theorem frzU_get (z:Bool):∀ (bs:List Nat) (σ:Sto) (n:Nat),sget (supd σ (frzU z bs)) n=if z=true∧n∈bs then none else sget σ n:=by
 cases z with
 | false=>grind [frzU,supd]
 | true =>
  intro bs
  induction bs with
  | nil=>grind [frzU,supd]
  | cons k r ih =>
   intro σ n
   have:=ih (sdel σ k) n
   simp only [frzU,List.map_cons,supd] at this ⊢
   rw [this,sget_sdel]
   by_cases h:k=n
   ·subst h;simp
   ·have h':¬ n=k:=fun e=>h e.symm
    simp [h,h']
theorem supd_append:∀ (u v:Upd) (σ:Sto),supd σ (u ++ v)=supd (supd σ u) v
 | [],v,σ=>rfl
 | (k,some o) :: r,v,σ=>by simp only [List.cons_append,supd];exact supd_append r v _
 | (k,none) :: r,v,σ=>by simp only [List.cons_append,supd];exact supd_append r v _
def geKeys (n:Nat):Sto→Bool
 | []=>true
 | (k,_) :: r=>Nat.ble n k && geKeys n r
theorem geKeys_lt {n:Nat}:∀ {τ:Sto},geKeys n τ=true→∀ j,j < n→sget τ j=none
 | [],_,_,_=>rfl
 | (k,o) :: r,h,j,hj=>by
  simp only [geKeys,Bool.and_eq_true] at h
  simp only [sget]
  rw [beq_f (by have:=Nat.le_of_ble_eq_true h.1;omega)]
  exact geKeys_lt h.2 j hj
theorem sget_app:∀ (σ τ:Sto) (n:Nat),sget (σ ++ τ) n=match sget σ n with
  | some o=>some o
  | none=>sget τ n
 | [],τ,n=>rfl
 | (k,o) :: r,τ,n=>by
  simp only [List.cons_append,sget]
  split
  ·rfl
  ·exact sget_app r τ n
def evCallG (P:Program) (ob:FuncId→List AV→Sto→Nat→AV→Sto→Prop) (nk:Nat) (σ:Sto) (f:AV) (args:List AV) (orc:Orc):Option R :=
 match f with
 | .fn (.func g) first cap=>match callable P g,AV.lendL σ orc.ks (first ++ (args ++ cap)),canon σ orc.ks 0 orc.ks with
  | true,some (as,bs,ps),some σc=>match nodupB orc.ks && (bs.isEmpty || orc.frz || orc.res.noS) with
   | true=>match orc.same with
    | true=>match orc.sto with
     | []=>match sameOk σ orc.ks (bs.isEmpty || orc.frz) orc.ks with
      | some qs=>some ⟨ob g as σc orc.ks.length orc.res σc :: (qs ++ ps),orc.res.ren (back orc.ks nk),orc.ks ++ bs,frzU orc.frz bs⟩
      | none=>none
     | q :: τ=>match bs.isEmpty || orc.frz,sameOk σ orc.ks true orc.ks,geKeys orc.ks.length (q :: τ) && ltKeys (orc.ks.length+16) (q :: τ) && nodupB ((q :: τ).map (·.1)) with
      | true,some qs,true=>some ⟨ob g as σc orc.ks.length orc.res (σc ++ q :: τ) :: (qs ++ ps),orc.res.ren (back orc.ks nk),orc.ks ++ bs,newU orc.ks nk (q :: τ) ++ frzU orc.frz bs⟩
      | _,_,_=>none
    | false=>match ltKeys (orc.ks.length+16) orc.sto && nodupB (orc.sto.map (·.1)),flatStoP (bs.isEmpty || orc.frz) orc.sto with
     | true,some qs=>some ⟨ob g as σc orc.ks.length orc.res orc.sto :: (qs ++ ps),orc.res.ren (back orc.ks nk),orc.ks ++ bs,backU orc.ks nk orc.sto 0 orc.ks ++ (newU orc.ks nk orc.sto ++ frzU orc.frz bs)⟩
     | _,_=>none
   | false=>none
  | _,_,_=>none
 | _=>none
def evCall (P:Program) (nk:Nat) (σ:Sto) (f:AV) (args:List AV) (orc:Orc):Option R:=evCallG P (Sound P) nk σ f args orc
theorem newU_out {ks:List Nat} {nk:Nat}:∀ (τ σ:Sto) (n:Nat),ltKeys (ks.length+16) τ=true→(n < nk∨nk+16≤n)→sget (supd σ (newU ks nk τ)) n=sget σ n
 | [],σ,n,_,_=>rfl
 | (k,o) :: r,σ,n,hl,hn=>by
  simp only [ltKeys,Bool.and_eq_true] at hl
  have hk:k < ks.length+16:=by
   have:=hl.1
   simp only [Nat.blt,Nat.ble_eq] at this
   exact this
  simp only [newU]
  split
  ·rename_i hb
   have hb:=Nat.le_of_ble_eq_true hb
   simp only [supd]
   rw [newU_out r _ n hl.2 hn,sget_sset,if_neg (by omega)]
  ·exact newU_out r σ n hl.2 hn
theorem sget_mem:∀ (τ:Sto) (n:Nat) (o:Ob),sget τ n=some o→n∈τ.map (·.1)
 | [],n,o,h=>by simp [sget] at h
 | (k,x) :: r,n,o,h=>by
  simp only [sget] at h
  split at h
  ·simp_all
  ·exact List.mem_cons_of_mem _ (sget_mem r n o h)
theorem newU_in {ks:List Nat} {nk:Nat}:∀ (τ σ:Sto) (j:Nat),nodupB (τ.map (·.1))=true→sget (supd σ (newU ks nk τ)) (nk+j)=match sget τ (ks.length+j) with
   | some o=>some (o.ren (back ks nk))
   | none=>sget σ (nk+j)
 | [],σ,j,_=>rfl
 | (k,o) :: r,σ,j,hd=>by
  simp only [List.map_cons,nodupB,Bool.and_eq_true,Option.isNone_iff_eq_none] at hd
  simp only [newU,sget]
  by_cases hk:k=ks.length+j
  ·subst hk
   rw [beq_t rfl]
   have hno:sget r (ks.length+j)=none:=by
    cases hs:sget r (ks.length+j) with
    | none=>rfl
    | some x =>
     obtain ⟨i,hi⟩:=List.getElem?_of_mem (sget_mem r _ x hs)
     grind [idx_none]
   have hble:Nat.ble ks.length (ks.length+j)=true:=Nat.ble_eq_true_of_le (by omega)
   rw [hble]
   simp only [supd]
   rw [newU_in r _ j hd.2,hno]
   simp_all [sget_sset,if_pos]
  ·rw [beq_f hk]
   split
   ·rename_i hb
    have hb:=Nat.le_of_ble_eq_true hb
    simp only [supd]
    rw [newU_in r _ j hd.2]
    split
    ·rfl
    ·rw [sget_sset,if_neg (by omega)]
   ·exact newU_in r σ j hd.2
mutual
theorem lend_keys {σ:Sto} {ks:List Nat}:∀ (x y:AV) (bs:List Nat) (ps:List Prop),x.lend σ ks=some (y,bs,ps)→∀ k∈bs,idx ks k=none∧∃ o,sget σ k=some o
 | .op k i j,y,bs,ps,h=>by
  simp only [AV.lend] at h
  grind
 | .os k off len,y,bs,ps,h=>by
  simp only [AV.lend] at h
  grind
 | .agg cs,y,bs,ps,h=>by
  simp only [AV.lend,Option.map_eq_some_iff] at h
  obtain ⟨⟨a,b,c⟩,h,e⟩:=h
  simp only [Prod.mk.injEq] at e
  obtain ⟨rfl,rfl,rfl⟩:=e
  exact lendL_keys cs a b c h
 | .tup cs,y,bs,ps,h=>by
  simp only [AV.lend,Option.map_eq_some_iff] at h
  obtain ⟨⟨a,b,c⟩,h,e⟩:=h
  simp only [Prod.mk.injEq] at e
  obtain ⟨rfl,rfl,rfl⟩:=e
  exact lendL_keys cs a b c h
 | .fn g x z,y,bs,ps,h=>by
  simp only [AV.lend] at h
  split at h
  ·rename_i a b c a' b' c' e1 e2
   simp only [Option.some.injEq,Prod.mk.injEq] at h
   obtain ⟨_,rfl,_⟩:=h
   intro k hk
   rcases List.mem_append.1 hk with hk | hk
   ·exact lendL_keys x a b c e1 k hk
   ·exact lendL_keys z a' b' c' e2 k hk
  ·cases h
 | .when _ _,y,bs,ps,h=>by simp [AV.lend] at h
 | .ov _ _ _ _ _,y,bs,ps,h=>by simp [AV.lend] at h
 | .osf _ _ _,y,bs,ps,h=>by simp [AV.lend] at h
 | .nq _ _,y,bs,ps,h=>by simp [AV.lend] at h
 | .mr _ _ _,y,bs,ps,h=>by simp [AV.lend] at h
 | .mp k,y,bs,ps,h=>by
  simp only [AV.lend,Option.map_eq_some_iff,Prod.mk.injEq] at h
  grind
 | .bn _,y,bs,ps,h=>by simp [AV.lend] at h;simp_all
 | .pt _ _,y,bs,ps,h=>by simp [AV.lend] at h;simp_all
 | .atom _,y,bs,ps,h=>by simp [AV.lend] at h;simp_all
 | .sl _ _,y,bs,ps,h=>by simp [AV.lend] at h;simp_all
 | .rp _ _,y,bs,ps,h=>by simp [AV.lend] at h;simp_all
 | .nil,y,bs,ps,h=>by simp [AV.lend] at h;simp_all
 | .unk,y,bs,ps,h=>by simp [AV.lend] at h;simp_all
theorem lendL_keys {σ:Sto} {ks:List Nat}:∀ (xs ys:List AV) (bs:List Nat) (ps:List Prop),AV.lendL σ ks xs=some (ys,bs,ps)→∀ k∈bs,idx ks k=none∧∃ o,sget σ k=some o
 | [],ys,bs,ps,h=>by simp [AV.lendL] at h;simp_all
 | c :: cs,ys,bs,ps,h=>by
  simp only [AV.lendL] at h
  split at h
  ·rename_i a b p a' b' p' e1 e2
   simp only [Option.some.injEq,Prod.mk.injEq] at h
   obtain ⟨_,rfl,_⟩:=h
   intro k hk
   rcases List.mem_append.1 hk with hk | hk
   ·exact lend_keys c a b p e1 k hk
   ·exact lendL_keys cs a' b' p' e2 k hk
  ·cases h
end
end Go.Ab
namespace Go.Ab
section
variable {P:Program} {E:Env} {nk:Nat} {σ:Sto} {S:Nat→Prop} {μ:Mu} {w:World}
theorem RL.append {vs us:Array Value} {cs ds:List AV} (h:RL w S μ vs cs) (k:RL w S μ us ds):RL w S μ (vs ++ us) (cs ++ ds):=by
 refine ⟨by simp [h.1,k.1],?_⟩
 intro j c v hc hv
 have h1:=h.1
 by_cases hj:j < cs.length
 ·rw [List.getElem?_append_left hj] at hc
  rw [Array.getElem?_append_left (by omega)] at hv
  exact h.2 j c v hc hv
 ·rw [List.getElem?_append_right (by omega)] at hc
  rw [Array.getElem?_append_right (by omega),h1] at hv
  exact k.2 _ c v hc hv
theorem rl_lend (g:Good E σ S μ w) {ks:List Nat} {vs:Array Value} {cs ys:List AV} {bs:List Nat} {ps:List Prop} (h:RL w S μ vs cs) (S':Nat→Prop) (hS:∀ b,S b→S' b)
  (hl:AV.lendL σ ks cs=some (ys,bs,ps)) (hp:AllP ps) (hb:∀ b,lent μ bs b→S' b):RL w S' (muOf μ ks) vs ys:=by
 have:=lend_rep g (ks:=ks) (RepX.agg h.1 h.2) S' hS (y:=.agg ys) (bs:=bs) (ps:=ps) (by simp [AV.lend,hl]) hp hb
 cases this with
 | agg h1 h2=>exact ⟨h1,h2⟩
theorem flat_ob {w':World} {S' S'':Nat→Prop} {μ' μ'':Mu} {o:Ob} {pl:Place} {c:Array Value} {T:TypeId} (h:ObRep w' S' μ' o pl c T) (hf:o.flat=true) (ho:0 < pl.cap→¬ S'' pl.blk) :
  ObRep w' S'' μ'' o pl c T:=by
 unfold Ob.flat at hf
 simp only [Bool.and_eq_true] at hf
 have hl:=Nat.eq_of_beq_eq_true hf.1.1.2
 have hz1:=Nat.le_of_ble_eq_true hf.1.2
 refine { h with out:=ho,rep:=?_,mp:=fun hz=>absurd hz (by omega) }
 intro i j x v hi hx hv
 have:i=0:=by omega
 subst this
 exact (h.rep 0 j x v hi hx hv).flat (flatL_get hf.2 hx) _ _ _
mutual
theorem flat_pure:∀ (x:AV),x.flat=true→x.pure=true
 | .atom _,_=>rfl
 | .nil,_=>rfl
 | .bn _,_=>rfl
 | .pt _ _,h=>by simp [AV.flat] at h
 | .mp _,h=>by simp [AV.flat] at h
 | .ov _ _ _ _ _,h=>by simp [AV.flat] at h
 | .osf _ _ _,h=>by simp [AV.flat] at h
 | .nq _ _,h=>by simp [AV.flat] at h
 | .agg cs,h=>flatL_pure cs h
 | .tup cs,h=>flatL_pure cs h
 | .fn _ a b,h=>by
  simp only [AV.flat,Bool.and_eq_true] at h
  simp only [AV.pure,Bool.and_eq_true]
  exact ⟨flatL_pure a h.1,flatL_pure b h.2⟩
 | .sl _ _,h=>by simp [AV.flat] at h
 | .rp _ _,h=>by simp [AV.flat] at h
 | .op _ _ _,h=>by simp [AV.flat] at h
 | .os _ _ _,h=>by simp [AV.flat] at h
 | .when _ _,h=>by simp [AV.flat] at h
 | .unk,h=>by simp [AV.flat] at h
 | .mr _ _ _,h=>by simp [AV.flat] at h
theorem flatL_pure:∀ (cs:List AV),AV.flatL cs=true→AV.pureL cs=true
 | [],_=>rfl
 | c :: cs,h=>by
  simp only [AV.flatL,Bool.and_eq_true] at h
  simp only [AV.pureL,Bool.and_eq_true]
  exact ⟨flat_pure c h.1,flatL_pure cs h.2⟩
end
mutual
theorem ren_pure {f:Nat→Option Nat}:∀ (x:AV),x.pure=true→x.ren f=x
 | .op _ _ _,h=>by simp [AV.pure] at h
 | .os _ _ _,h=>by simp [AV.pure] at h
 | .mp _,h=>by simp [AV.pure] at h
 | .ov _ _ _ _ _,h=>by simp [AV.pure] at h
 | .osf _ _ _,h=>by simp [AV.pure] at h
 | .mr _ _ _,h=>by simp [AV.pure] at h
 | .bn _,_=>rfl
 | .pt _ _,_=>rfl
 | .agg cs,h=>by simp only [AV.ren];rw [renL_pure cs h]
 | .tup cs,h=>by simp only [AV.ren];rw [renL_pure cs h]
 | .fn q a b,h=>by
  simp only [AV.pure,Bool.and_eq_true] at h
  simp only [AV.ren];rw [renL_pure a h.1,renL_pure b h.2]
 | .when b x,h=>by simp only [AV.ren];rw [ren_pure x h]
 | .nq b x,h=>by simp only [AV.ren];rw [ren_pure x h]
 | .atom _,_=>rfl
 | .sl _ _,_=>rfl
 | .rp _ _,_=>rfl
 | .nil,_=>rfl
 | .unk,_=>rfl
theorem renL_pure {f:Nat→Option Nat}:∀ (cs:List AV),AV.pureL cs=true→AV.renL f cs=cs
 | [],_=>rfl
 | c :: cs,h=>by
  simp only [AV.pureL,Bool.and_eq_true] at h
  simp only [AV.renL]
  rw [ren_pure c h.1,renL_pure cs h.2]
end
theorem ob_get0 {w':World} {S':Nat→Prop} {μ':Mu} {o o':Ob} {pl:Place} {c:Array Value} {T:TypeId} (h:ObRep w' S' μ' o' pl c T) (z1:o'.sz=o.sz) (z2:o'.len=o.len) (z3:o'.pr=o.pr)
  (hl:o.len=1) (h0:o'.get 0=o.get 0):ObRep w' S' μ' o pl c T:=by
 have q1:∀ i,i < o.len→o.get i=o'.get i:=fun i hi=>by
  simp_all
 refine ⟨h.sz.trans z1,z1 ▸ h.blk,z1 ▸ h.cap,z2 ▸ h.len,h.out,?_,?_,fun hz=>by rw [← h0,← z3];exact h.mp (z1.trans hz)⟩
 ·intro i hi
  rw [q1 i hi,← z1]
  exact h.els i (by omega)
 ·intro i j x v hi hx hv
  rw [q1 i hi] at hx
  rw [← z3]
  exact h.rep i j x v (by omega) hx (by rw [z1];exact hv)
theorem ob_getL {w':World} {S':Nat→Prop} {μ':Mu} {o o':Ob} {pl:Place} {c:Array Value} {T:TypeId} (h:ObRep w' S' μ' o' pl c T) (z1:o'.sz=o.sz) (z2:o'.len=o.len) (z3:o'.pr=o.pr)
  (hpr:o.pr=false) (q1:∀ i,i < o.len→o.get i=o'.get i):ObRep w' S' μ' o pl c T:=by
 refine ⟨h.sz.trans z1,z1 ▸ h.blk,z1 ▸ h.cap,z2 ▸ h.len,h.out,?_,?_,fun hz=>?_⟩
 ·intro i hi
  rw [q1 i hi,← z1]
  exact h.els i (by omega)
 ·intro i j x v hi hx hv
  rw [q1 i hi] at hx
  rw [← z3]
  exact h.rep i j x v (by omega) hx (by rw [z1];exact hv)
 ·have:=(h.mp (z1.trans hz)).2.2.2.1
  simp_all
theorem flatP_ob {w':World} {S' S'':Nat→Prop} {μ' μ'':Mu} {o:Ob} {pl:Place} {c:Array Value} {T:TypeId} (h:ObRep w' S' μ' o pl c T) {ps:List Prop} (hf:flatObP o=some ps) (hp:AllP ps) (ho:0 < pl.cap→¬ S'' pl.blk) :
  ObRep w' S'' μ'' o pl c T:=by
 unfold flatObP at hf
 split at hf
 ·grind [flat_ob]
 ·split at hf
  ·rename_i hb
   cases hf
   simp only [Bool.and_eq_true] at hb
   have hz1:=Nat.le_of_ble_eq_true hb.2
   refine { h with out:=ho,rep:=?_,mp:=fun hz=>absurd hz (by omega) }
   intro i j x v hi hx hv
   exact (h.rep i j x v hi hx hv).flat (flatL_get (hp.1 i hi) hx) _ _ _
  ·cases hf
theorem ob_mono {w':World} {S' S'':Nat→Prop} {μ':Mu} {o:Ob} {pl:Place} {c:Array Value} {T:TypeId} (h:ObRep w' S' μ' o pl c T) (hS:∀ b,S' b→S'' b) (ho:0 < pl.cap→¬ S'' pl.blk):ObRep w' S'' μ' o pl c T :=
 { h with
  out:=ho
  rep:=fun i j x v hi hx hv=>RepX.mono hS (fun _ _=>rfl) (h.rep i j x v hi hx hv) (fun _ _ h=>h)
  mp:=fun hz=>let ⟨m0,m1,m2,m3,m4⟩:=h.mp hz
   ⟨m0,m1,m2,m3,fun j x v hx hv=>RepX.mono hS (fun _ _=>rfl) (m4 j x v hx hv) (fun _ _ h=>h)⟩ }
theorem ob_same {w':World} {S' S'':Nat→Prop} {μ' μ'':Mu} {o:Ob} {pl:Place} {c:Array Value} {T:TypeId} {ks:List Nat} {nk:Nat} {lone:Bool} (h:ObRep w' S' μ' (o.ren (idx ks)) pl c T)
  {ps:List Prop} (hok:sameOb ks lone o=some ps) (hp:AllP ps) (hS:lone=true→∀ b,S' b→S'' b) (ho:0 < pl.cap→¬ S'' pl.blk)
  (hm:∀ k k' pl,back ks nk k=some k'→μ' k=some pl→μ'' k'=some pl):ObRep w' S'' μ'' o pl c T:=by
 unfold sameOb at hok
 split at hok
 case h_2 =>
  split at hok
  ·grind [idx,Ob.ren,flatP_ob]
  ·rename_i hpr
   split at hok
   case h_2=>cases hok
   rename_i hl
   cases hok
   simp only [Bool.and_eq_true,Bool.not_eq_true'] at hl
   have h2:=h.ren hm
   refine ob_mono (ob_getL h2 (by rw [Ob.ren_sz,Ob.ren_sz]) (by grind [Ob.ren_len]) (by rw [Ob.ren_pr,Ob.ren_pr]) hpr fun i hi=>?_) (hS hl.1) ho
   have hr:isMrL (o.get i)=true:=hp.1 i hi
   simp_all [Ob.ren,isMrL_ren]
 rename_i hq
 cases hf:o.flat with
 | true =>
  have hf':=hf
  unfold Ob.flat at hf'
  simp only [Bool.and_eq_true] at hf'
  have hl:=Nat.eq_of_beq_eq_true hf'.1.1.2
  refine flat_ob (ob_get0 h (Ob.ren_sz _ _) (Ob.ren_len _ _) (Ob.ren_pr _ _) hl ?_) hf ho
  grind [Ob.ren,renL_pure,flatL_pure]
 | false =>
  rw [hf,Bool.false_or,Bool.and_eq_true] at hq
  have hS:=hS hq.1
  have h2:=h.ren hm
  have hback:∀ k i,idx ks k=some i→back ks nk i=some k:=fun k i hk=>by
   grind [back,idx_spec]
  have h3:ObRep w' S' μ'' o pl c T:=by
   have hc:=hq.2
   unfold Ob.closed at hc
   cases hp:o.pr with
   | true =>
    grind [idx,back,Ob.ren]
   | false =>
    rw [hp,Bool.false_or] at hc
    simp only [Bool.and_eq_true] at hc
    refine ob_get0 h2 (by rw [Ob.ren_sz,Ob.ren_sz]) (by grind [Ob.ren_len]) (by rw [Ob.ren_pr,Ob.ren_pr]) (Nat.eq_of_beq_eq_true hc.1.2) ?_
    simp only [Ob.ren,hp]
    grind [renL_back]
  exact ob_mono h3 hS ho
theorem sameOk_get {σ:Sto} {ks:List Nat} {lone:Bool}:∀ (l:List Nat) (qs:List Prop),sameOk σ ks lone l=some qs→AllP qs→∀ k∈l,∀ o,sget σ k=some o→∃ ps,sameOb ks lone o=some ps∧AllP ps
 | [],_,_,_,k,hk=>by simp at hk
 | a :: r,qs,h,hq,k,hk=>by
  intro o ho
  simp only [sameOk] at h
  split at h
  ·rename_i o1 ho1
   split at h
   ·rename_i p q h1 h2
    cases h
    obtain ⟨q1,q2⟩:=AllP.app hq
    rcases List.mem_cons.1 hk with rfl | hk
    ·simp_all
    ·exact sameOk_get r q h2 q2 k hk o ho
   ·cases h
  ·cases h
theorem flatStoP_get {lone:Bool}:∀ (σ:Sto) (qs:List Prop),flatStoP lone σ=some qs→AllP qs→∀ k o,sget σ k=some o→lone=true∨∃ ps,flatObP o=some ps∧AllP ps
 | [],_,_,_,k,o,h=>by simp [sget] at h
 | (a,x) :: r,qs,h,hq,k,o,hk=>by
  simp only [flatStoP] at h
  split at h
  ·exact .inl rfl
  ·split at h
   ·rename_i p q h1 h2
    cases h
    obtain ⟨q1,q2⟩:=AllP.app hq
    simp only [sget] at hk
    split at hk
    ·simp_all
    ·exact flatStoP_get r q h2 q2 k o hk
   ·cases h
theorem flatObP_noRow {o:Ob} {ps:List Prop} (h:flatObP o=some ps) (hp:AllP ps) (i:Nat):rowOf o i=none:=by
 unfold flatObP at h
 split at h
 ·simp_all [Ob.flat,Bool.and_eq_true,rowOf_none_var]
 ·split at h
  ·cases h
   cases hr:rowOf o i with
   | none=>rfl
   | some x =>
    obtain ⟨_,h2,h3⟩:=rowOf_some hr
    have:=hp.1 i h2
    rw [h3] at this;cases this
  ·cases h
theorem sameOb_noRow {ks:List Nat} {o:Ob} {ps:List Prop} (h:sameOb ks false o=some ps) (hp:AllP ps) (i:Nat):rowOf o i=none:=by
 unfold sameOb at h
 rw [Bool.false_and,Bool.or_false] at h
 split at h
 ·simp_all [flatObP_noRow,flatObP,trivial]
 ·split at h
  ·exact flatObP_noRow h hp i
  simp_all
theorem call_soundG (g:Good E σ S μ w) (hk16:∀ j,j < 16→μ (nk+j)=none) (hm0:E.m0≤nk) {f:AV} {args:List AV} {orc:Orc} {r:R} {fv:Value} (hf:RepX w S μ fv f) {vargs:Array Value} (ha:RL w S μ vargs args)
  (hz:orc.frz=true→∀ b,¬ E.fp b) {ob:FuncId→List AV→Sto→Nat→AV→Sto→Prop}
  (hob:∀ gid as bs σc res σ' vs,ob gid as σc orc.ks.length res σ'→Good (envOf w (fun b=>S b∨lent μ bs b) σc (muOf μ orc.ks) orc.ks.length) σc (fun b=>S b∨lent μ bs b) (muOf μ orc.ks) w→(∀ k,orc.ks.length≤k→muOf μ orc.ks k=none) →
   RL w (fun b=>S b∨lent μ bs b) (muOf μ orc.ks) vs as→Calls P gid vs w fun e w'=>∃ v S' μ',e=.returned v∧Good (envOf w (fun b=>S b∨lent μ bs b) σc (muOf μ orc.ks) orc.ks.length) σ' S' μ' w'∧RepX w' S' μ' v res)
  (h:evCallG P ob nk σ f args orc=some r) (hp:AllP r.obl) :
  ∃ gid vs,(do let d ← Deferred.ofValue fv vargs;invoke d.target d.args:Sem Next).run P w=.ok (.enter gid vs) w ∧
   Calls P gid vs w fun e w'=>∃ v S' μ',e=.returned v∧Ext w S μ w' S' μ'∧Good E (supd σ r.upd) S' μ' w'∧(∀ k,(k < nk∨nk+16≤k)→μ k=none→μ' k=none)∧RepX w' S' μ' v r.val:=by
 unfold evCallG at h
 split at h
 case h_2=>cases h
 rename_i gid first cap
 split at h
 case h_2=>cases h
 rename_i as bs ps σc hcall hlend hcan
 split at h
 case h_2=>cases h
 rename_i hnd0
 rw [Bool.and_eq_true] at hnd0
 obtain ⟨hnd,hres⟩:=hnd0
 have hinj:=nodup_spec orc.ks hnd
 cases hf with
 | fn f1 f2 f3 f4 =>
 rename_i fvs cvs
 refine ⟨gid,fvs ++ vargs ++ cvs,?_,?_⟩
 ·unfold callable at hcall
  split at hcall
  ·rename_i fn hfn
   simp only [Bool.and_eq_true,Bool.not_eq_true'] at hcall
   have hb:¬ fn.body=none:=by intro hh;rw [hh] at hcall;simp at hcall
   have hne:¬ fn.name = "runtime.NumGoroutine":=by simpa using hcall.2
   simp [Deferred.ofValue,invoke,callFunc,hfn,hne,hb]
  ·cases hcall
 have hlk:=lendL_keys _ _ _ _ hlend
 have hcg:=canon_get orc.ks 0 σc hcan
 simp only [Nat.zero_le,if_true,Nat.sub_zero] at hcg
 -- the state in which the callee begins
 have hps:AllP ps:=by
  split at h
  ·split at h
   ·split at h
    ·cases h;exact (AllP.app hp.2).2
    ·cases h
   ·split at h
    ·cases h;exact (AllP.app hp.2).2
    ·cases h
  ·split at h
   ·cases h;exact (AllP.app hp.2).2
   ·cases h
 have hall:RL w (fun b=>S b∨lent μ bs b) (muOf μ orc.ks) (fvs ++ vargs ++ cvs) as:=by
  have hrl:RL w S μ (fvs ++ vargs ++ cvs) (first ++ (args ++ cap)):=by
   have:=RL.append (w:=w) (S:=S) (μ:=μ) ⟨f1,f3⟩ (RL.append ha ⟨f2,f4⟩)
   rwa [← Array.append_assoc] at this
  exact rl_lend g hrl _ (fun _ h=>.inl h) hlend hps (fun _ h=>.inr h)
 have hlt:∀ k o pl,sget σ k=some o→μ k=some pl→0 < pl.cap→pl.blk < w.heap.size:=fun k o pl ho hm hc=>by
  obtain ⟨pl',c,T,hm',hob⟩:=g.rep.ob k o ho
  rw [hm] at hm';cases hm'
  exact lt_of_blk (hob.blk hc)
 have hout:∀ k o pl,sget σ k=some o→μ k=some pl→0 < pl.cap→¬ S pl.blk:=fun k o pl ho hm hc=>by
  obtain ⟨pl',c,T,hm',hob⟩:=g.rep.ob k o ho
  rw [hm] at hm';cases hm'
  exact hob.out hc
 have hcget:∀ i o',sget σc i=some o'→∃ k o,orc.ks[i]?=some k∧sget σ k=some o∧o'=o.ren (idx orc.ks):=by
  intro i o' h
  rw [hcg] at h
  simp only [Option.map_eq_some_iff,Option.bind_eq_some_iff] at h
  obtain ⟨o,⟨k,hk,ho⟩,rfl⟩:=h
  exact ⟨k,o,hk,ho,rfl⟩
 have hrowc:∀ i j x v,RowV w (muOf μ orc.ks) σc i j x v→∃ k,orc.ks[i]?=some k∧RowV w μ σ k j x v:=by
  rintro i j x v ⟨o',pl,h1,h2,h3,h4⟩
  obtain ⟨k,o,hk,ho,rfl⟩:=hcget i o' h1
  exact ⟨k,hk,o,pl,ho,(rowOf_ren _ _ _ _).1 h2,by simpa [muOf,hk] using h3,h4⟩
 have hfpk:∀ b,fpOf w σc (muOf μ orc.ks) b→(∃ (k i:Nat) (o:Ob) (pl:Place),orc.ks[i]?=some k∧sget σ k=some o∧μ k=some pl∧0 < pl.cap∧pl.blk=b) ∨
   ∃ (k i j:Nat) (x:Nat×Nat×(Nat→List AV)) (v:Value),orc.ks[i]?=some k∧RowV w μ σ k j x v∧ptrTo v b:=by
  rintro b (⟨i,o',pl,hi,hm,hc,hb⟩ | ⟨i,j,x,v,hv,hb⟩)
  ·obtain ⟨k,o,hk,ho,_⟩:=hcget i o' hi
   refine .inl ⟨k,i,o,pl,hk,ho,?_,hc,hb⟩
   simpa [muOf,hk] using hm
  ·obtain ⟨k,hk,hv'⟩:=hrowc i j x v hv
   exact .inr ⟨k,i,j,x,v,hk,hv',hb⟩
 have hlentr:∀ k i x v b,RowV w μ σ k i x v→ptrTo v b→¬ lent μ bs b:=by
  rintro k i x v b hv hb ⟨k',hk',pl',hm',hc',he⟩
  obtain ⟨_,o2,ho2⟩:=hlk k' hk'
  exact g.mx.obj _ _ _ _ _ hv hb k' o2 pl' ho2 hm' hc' he
 have g0:Good (envOf w (fun b=>S b∨lent μ bs b) σc (muOf μ orc.ks) orc.ks.length) σc (fun b=>S b∨lent μ bs b) (muOf μ orc.ks) w:=by
  refine ⟨Fr.refl _ _,fun _ h=>h,?_,fun _ h=>.inl h,⟨?_,?_⟩,fun k o pl hk hm hc=>.inl (.inl ⟨k,o,pl,hk,hm,hc,rfl⟩),fun _ _=>rfl,?_⟩
  ·rintro b (hb | ⟨k,hk,pl,hm,hc,rfl⟩)
   ·exact g.S1 b hb
   ·obtain ⟨_,o,ho⟩:=hlk k hk
    exact hlt k o pl ho hm hc
  ·intro i o' hi
   obtain ⟨k,o,hk,ho,rfl⟩:=hcget i o' hi
   obtain ⟨pl,c,T,hm,hob⟩:=g.rep.ob k o ho
   refine ⟨pl,c,T,by simp [muOf,hk,hm],?_⟩
   have h1:=hob.ren (f:=idx orc.ks) (μ':=muOf μ orc.ks) (fun a b pl ha hb=>muOf_idx a b pl ha hb)
   refine h1.ext (w':=w) ⟨Nat.le_refl _,fun _ h=>.inl h,fun _ _=>rfl,fun _ _ h=>h⟩ (fun _=>rfl) ?_
   rintro hc (hS | ⟨k',hk',pl',hm',hc',he⟩)
   ·exact hob.out hc hS
   ·obtain ⟨hno,o2,ho2⟩:=hlk k' hk'
    have hne:k≠k':=fun h=>idx_none _ _ hno i (h ▸ hk)
    exact g.rep.ne k k' o o2 pl pl' hne ho ho2 hm hm' hc hc' he.symm
  ·intro i i' o o' pl pl' hne hi hi' hm hm' hc hc'
   obtain ⟨k,oo,hk,ho,_⟩:=hcget i o hi
   obtain ⟨k',oo',hk',ho',_⟩:=hcget i' o' hi'
   have hkk:k≠k':=fun h=>hne (hinj i i' k hk (h ▸ hk'))
   exact g.rep.ne k k' oo oo' pl pl' hkk ho ho' (by simpa [muOf,hk] using hm) (by simpa [muOf,hk'] using hm') hc hc'
  ·refine g.mx.tr (fun i=>orc.ks.getD i 0) (fun i j x v h=>?_) (fun i j x v i' j' x' v' h h' e=>?_) (fun _ h=>.inl h) (fun _ _=>rfl) (fun i j x v b hv h hb=>?_) (fun i o' pl h1 h2 h3=>?_)
   ·obtain ⟨k,hk,hv⟩:=hrowc i j x v h
    show RowV w μ σ (orc.ks.getD i 0) j x v
    rw [List.getD_eq_getElem?_getD,hk];exact hv
   ·obtain ⟨k,hk,_⟩:=hrowc i j x v h
    obtain ⟨k',hk',_⟩:=hrowc i' j' x' v' h'
    have e:orc.ks.getD i 0=orc.ks.getD i' 0:=e
    rw [List.getD_eq_getElem?_getD,List.getD_eq_getElem?_getD,hk,hk'] at e
    have e:k=k':=e
    exact hinj i i' k hk (e ▸ hk')
   ·obtain ⟨q1,q2,q3,_⟩:=g.mx.blk h hb
    exact ⟨rfl,fun hs=>hs.elim q2 (hlentr _ _ _ _ _ h hb),fun _=>.inl (.inr ⟨i,j,x,v,hv,hb⟩)⟩
   ·obtain ⟨k,o,hk,ho,_⟩:=hcget i o' h1
    exact .inl ⟨k,o,pl,ho,by simpa [muOf,hk] using h2,h3,rfl⟩
 have hnone:∀ k,orc.ks.length≤k→muOf μ orc.ks k=none:=fun k hk=>by simp [muOf,List.getElem?_eq_none hk]
 -- behind the call
 have hkn:∀ k o,sget σ k=some o→k < nk∨nk+16≤k:=by
  intro k o ho
  rcases Nat.lt_or_ge k nk with h1 | h1
  ·exact .inl h1
  ·rcases Nat.lt_or_ge k (nk+16) with h2 | h2
   ·obtain ⟨pl,c,T,hm,_⟩:=g.rep.ob k o ho
    have:=hk16 (k - nk) (by omega)
    rw [show nk+(k - nk)=k by omega,hm] at this
    cases this
   ·exact .inr h2
 have fin:∀ (σ':Sto) (σr:Sto),ob gid as σc orc.ks.length orc.res σ' →
   (∀ n,idx orc.ks n=none→(n < nk∨nk+16≤n)→sget σr n=if orc.frz=true∧n∈bs then none else sget σ n) →
   (∀ j,j < 16→∀ o,sget σr (nk+j)=some o→∃ o1,sget σ' (orc.ks.length+j)=some o1∧o=o1.ren (back orc.ks nk)) →
   (∀ (w':World) (S' S'':Nat→Prop) (μ':Mu),((bs.isEmpty || orc.frz)=true→∀ b,S' b→S'' b)→∀ j,j < 16→∀ o1 pl c T,sget σ' (orc.ks.length+j)=some o1→ObRep w' S' μ' o1 pl c T→(0 < pl.cap→¬ S'' pl.blk)→ObRep w' S'' μ' o1 pl c T) →
   (∀ (w':World) (S' S'':Nat→Prop) (μ' μF:Mu),Good (envOf w (fun b=>S b∨lent μ bs b) σc (muOf μ orc.ks) orc.ks.length) σ' S' μ' w'→((bs.isEmpty || orc.frz)=true→∀ b,S' b→S'' b) →
    (∀ k k' pl,back orc.ks nk k=some k'→μ' k=some pl→μF k'=some pl)→∀ (k i:Nat) (o:Ob) (pl:Place),orc.ks[i]?=some k→sget σr k=some o→μ k=some pl→(0 < pl.cap→¬ S'' pl.blk)→∃ c T,ObRep w' S'' μF o pl c T) →
   (∀ (k i:Nat) (o:Ob),orc.ks[i]?=some k→sget σr k=some o→(∃ o1,sget σ k=some o1)∧∃ o2,sget σ' i=some o2) →
   (∀ (k i:Nat) (o:Ob),orc.ks[i]?=some k→sget σr k=some o→∀ j x,rowOf o j=some x→∃ o2,sget σ' i=some o2∧rowOf o2 j=some x) →
   ((bs.isEmpty || orc.frz)=false→∀ n o,sget σ' n=some o→∀ i,rowOf o i=none) →
   Calls P gid (fvs ++ vargs ++ cvs) w fun e w'=>∃ v S' μ',e=.returned v∧Ext w S μ w' S' μ'∧Good E σr S' μ' w'∧(∀ k,(k < nk∨nk+16≤k)→μ k=none→μ' k=none)∧RepX w' S' μ' v (orc.res.ren (back orc.ks nk)):=by
  intro σ' σr hsound hother hnew hconv hobs hwas hrows hnorow
  refine (hob gid as bs σc _ _ _ hsound g0 hnone hall).mono ?_
  rintro e w' ⟨v,S',μ',rfl,g',hv⟩
  have hSblk:∀ b,b < w.heap.size→(∀ (k i:Nat) (o:Ob) (pl:Place),orc.ks[i]?=some k→sget σ k=some o→μ k=some pl→0 < pl.cap→pl.blk≠b) →
    (∀ (k i j:Nat) (x:Nat×Nat×(Nat→List AV)) (v:Value),orc.ks[i]?=some k→RowV w μ σ k j x v→¬ ptrTo v b)→w'.heap[b]?=w.heap[b]?:=by
   intro b hb hno hno2
   refine g'.fr.blk b hb fun hfp=>?_
   rcases hfpk b hfp with ⟨k,i,o,pl,hk,ho,hm,hc,he⟩ | ⟨k,i,j,x,v,hk,hv,he⟩
   ·exact hno k i o pl hk ho hm hc he
   ·exact hno2 k i j x v hk hv he
  have hSb:∀ b,S b→w'.heap[b]?=w.heap[b]?:=fun b hb=>hSblk b (g.S1 b hb) (fun k i o pl hk ho hm hc he=>hout k o pl ho hm hc (he ▸ hb)) fun k i j x v hk hv he=>(g.mx.blk hv he).2.1 hb
  let μF:Mu:=fun k=>if nk≤k∧k < nk+16 then μ' (orc.ks.length+(k - nk)) else μ k
  have hμo:∀ k,(k < nk∨nk+16≤k)→μF k=μ k:=fun k hk=>by
   show (if nk≤k∧k < nk+16 then _ else _)=_
   rw [if_neg (by omega)]
  have hμn:∀ j,j < 16→μF (nk+j)=μ' (orc.ks.length+j):=fun j hj=>by
   show (if nk≤nk+j∧nk+j < nk+16 then _ else _)=_
   rw [if_pos (by omega)];congr 1;omega
  have hmuF:∀ k pl,μ k=some pl→μF k=some pl:=by
   intro k pl hk
   have hn:k < nk∨nk+16≤k:=by
    rcases Nat.lt_or_ge k nk with h1 | h1
    ·exact .inl h1
    ·rcases Nat.lt_or_ge k (nk+16) with h2 | h2
     ·have:=hk16 (k - nk) (by omega)
      rw [show nk+(k - nk)=k by omega,hk] at this
      cases this
     ·exact .inr h2
   rw [hμo k hn];exact hk
  have hback:∀ k k' pl,back orc.ks nk k=some k'→μ' k=some pl→μF k'=some pl:=by
   intro k k' pl hk hm
   unfold back at hk
   split at hk
   ·rename_i q hq
    cases hk
    have hlt:k < orc.ks.length:=(List.getElem?_eq_some_iff.1 hq).1
    rw [g'.mu0 k hlt] at hm
    have:muOf μ orc.ks k=some pl:=hm
    refine hmuF _ _ ?_
    simpa [muOf,show orc.ks[k]?=some _ from hq] using this
   ·rename_i hq
    split at hk
    ·rename_i hb
     cases hk
     have hlt:k < orc.ks.length+16:=by
      simp only [Nat.blt,Nat.ble_eq] at hb;exact hb
     have hge:orc.ks.length≤k:=List.getElem?_eq_none_iff.1 hq
     rw [hμn _ (by omega),show orc.ks.length+(k - orc.ks.length)=k by omega];exact hm
    ·cases hk
  let SF:Nat→Prop:=fun b=>S b∨(orc.frz=true∧lent μ bs b)∨(S' b∧w.heap.size≤b)
  have hSF:∀ b,SF b→S' b:=by
   rintro b (h1 | ⟨_,h1⟩ | ⟨h1,_⟩)
   ·exact g'.S0 b (.inl h1)
   ·exact g'.S0 b (.inr h1)
   ·exact h1
  have hSS:(bs.isEmpty || orc.frz)=true→∀ b,S' b→SF b:=by
   intro he b hb
   rcases g'.S2 b hb with (h1 | h0) | h1
   ·exact .inl h1
   ·rcases Bool.or_eq_true_iff.1 he with he | he
    ·obtain ⟨k,hk,_⟩:=h0
     rw [List.isEmpty_iff] at he;rw [he] at hk;simp at hk
    ·exact .inr (.inl ⟨he,h0⟩)
   ·exact .inr (.inr ⟨hb,h1⟩)
  have hold:∀ k o,sget σr k=some o→(k < nk∨nk+16≤k)→∃ o1,sget σ k=some o1:=by
   intro k o ho hn
   cases hi:idx orc.ks k with
   | none =>
    rw [hother k hi hn] at ho
    split at ho
    ·cases ho
    ·exact ⟨o,ho⟩
   | some i=>exact (hwas k i o (idx_spec _ _ _ hi) ho).1
  have hnl:∀ k o,sget σr k=some o→orc.frz=true→k ∉ bs:=by
   intro k o ho hz' hk
   obtain ⟨hno,o2,ho2⟩:=hlk k hk
   rw [hother k hno (hkn k o2 ho2),if_pos ⟨hz',hk⟩] at ho
   cases ho
  have hfree:∀ k o0 o pl,sget σr k=some o0→sget σ k=some o→μ k=some pl→0 < pl.cap→¬ SF pl.blk:=by
   rintro k o0 o pl ho0 ho hm hc (h1 | ⟨hz',k',hk',pl',hm',hc',he⟩ | ⟨_,h1⟩)
   ·exact hout k o pl ho hm hc h1
   ·obtain ⟨_,o2,ho2⟩:=hlk k' hk'
    have hne:k≠k':=fun h=>hnl k o0 ho0 hz' (h ▸ hk')
    exact g.rep.ne k k' o o2 pl pl' hne ho ho2 hm hm' hc hc' he.symm
   ·have:=hlt k o pl ho hm hc;omega
  -- a new object, as the callee has left it
  have hnob:∀ j,j < 16→∀ o,sget σr (nk+j)=some o→∃ o1 pl c T,sget σ' (orc.ks.length+j)=some o1∧o=o1.ren (back orc.ks nk)∧μ' (orc.ks.length+j)=some pl∧ObRep w' S' μ' o1 pl c T:=by
   intro j hj o ho
   obtain ⟨o1,h1,h2⟩:=hnew j hj o ho
   obtain ⟨pl,c,T,h3,h4⟩:=g'.rep.ob _ o1 h1
   exact ⟨o1,pl,c,T,h1,h2,h3,h4⟩
  have hsplit:∀ k,(k < nk∨nk+16≤k)∨∃ j,j < 16∧k=nk+j:=fun k=>by
   rcases Nat.lt_or_ge k nk with h1 | h1
   ·exact .inl (.inl h1)
   ·rcases Nat.lt_or_ge k (nk+16) with h2 | h2
    ·exact .inr ⟨k - nk,by omega,by omega⟩
    ·exact .inl (.inr h2)
  -- the block of a new object is none of the caller's
  have hnblk:∀ j o1 pl,sget σ' (orc.ks.length+j)=some o1→μ' (orc.ks.length+j)=some pl→0 < pl.cap →
    (∃ (k i:Nat) (o:Ob) (pl':Place),orc.ks[i]?=some k∧sget σ k=some o∧μ k=some pl'∧0 < pl'.cap∧pl'.blk=pl.blk) ∨
    (∃ (k i j:Nat) (x:Nat×Nat×(Nat→List AV)) (v:Value),orc.ks[i]?=some k∧RowV w μ σ k j x v∧ptrTo v pl.blk)∨w.heap.size≤pl.blk:=by
   intro j o1 pl h1 h2 h3
   rcases g'.own _ o1 pl h1 h2 h3 with h4 | h4
   ·exact (hfpk _ h4).elim .inl fun h=>.inr (.inl h)
   ·exact .inr (.inr h4)
  -- new and old ones lie apart
  have hcross:∀ j,j < 16→∀ k o o' pl pl',sget σr (nk+j)=some o→sget σr k=some o'→(k < nk∨nk+16≤k)→μF (nk+j)=some pl→μF k=some pl'→0 < pl.cap→0 < pl'.cap→pl.blk≠pl'.blk:=by
   intro j hj k o o' pl pl' ho ho' hn hm hm' hc hc' he
   obtain ⟨o1,pl1,c1,T1,h1,h2,h3,h4⟩:=hnob j hj o ho
   rw [hμn j hj,h3] at hm;cases hm
   rw [hμo k hn] at hm'
   cases hi:idx orc.ks k with
   | some i =>
    have hik:=idx_spec _ _ _ hi
    obtain ⟨_,o2,ho2⟩:=hwas k i o' hik ho'
    have hil:i < orc.ks.length:=(List.getElem?_eq_some_iff.1 hik).1
    have hmi:μ' i=some pl':=by
     rw [g'.mu0 i hil]
     show muOf μ orc.ks i=_
     simp [muOf,hik,hm']
    exact g'.rep.ne (orc.ks.length+j) i o1 o2 pl pl' (by omega) h1 ho2 h3 hmi hc hc' he
   | none =>
    obtain ⟨o3,ho3⟩:=hold k o' ho' hn
    rcases hnblk j o1 pl h1 h3 hc with ⟨k2,i2,o4,pl4,q1,q2,q3,q4,q5⟩ | ⟨k2,i2,j2,x2,v2,q1,q2,q3⟩ | h5
    ·have hne:k2≠k:=fun h=>idx_none _ _ hi i2 (h ▸ q1)
     exact g.rep.ne k2 k o4 o3 pl4 pl' hne q2 ho3 q3 hm' q4 hc' (q5.trans he)
    ·exact g.mx.obj _ _ _ _ _ q2 q3 k o3 pl' ho3 hm' hc' he.symm
    ·have:=hlt k o3 pl' ho3 hm' hc'
     omega
  have ext:Ext w S μ w' SF μF:=⟨g'.fr.size,fun _ h=>.inl h,hSb,hmuF⟩
  -- the rows
  have cls:∀ k i x v,RowV w' μF σr k i x v→(idx orc.ks k=none∧(k < nk∨nk+16≤k)∧RowV w μ σ k i x v)∨((bs.isEmpty || orc.frz)=true∧∃ q,back orc.ks nk q=some k∧RowV w' μ' σ' q i x v):=by
   rintro k i x v ⟨o,pl,h1,h2,h3,h4⟩
   have hflag:∀ n o2,sget σ' n=some o2→rowOf o2 i=some x→(bs.isEmpty || orc.frz)=true:=by
    intro n o2 ho2 hr2
    cases hfl:(bs.isEmpty || orc.frz) with
    | true=>rfl
    | false=>rw [hnorow hfl n o2 ho2 i] at hr2;cases hr2
   rcases hsplit k with hn | ⟨j,hj,rfl⟩
   ·cases hi:idx orc.ks k with
    | none =>
     have ho0:=h1
     rw [hother k hi hn] at ho0
     split at ho0
     ·cases ho0
     rw [hμo k hn] at h3
     obtain ⟨pl2,c,T,hm,hob⟩:=g.rep.ob k o ho0
     rw [h3] at hm;cases hm
     refine .inl ⟨rfl,hn,o,pl,ho0,h2,h3,?_⟩
     have hc:0 < pl.cap:=by have:=(rowOf_some h2).2.1;have:=hob.len;omega
     rw [← h4]
     refine (cell_of_blk (hSblk _ (lt_of_blk (hob.blk hc)) ?_ ?_) _).symm
     ·intro k' i' o' pl' hk' ho' hm' hc' he
      have hne:k'≠k:=fun h=>idx_none _ _ hi i' (h ▸ hk')
      exact g.rep.ne k' k o' o pl' pl hne ho' ho0 hm' h3 hc' hc he
     ·intro k' i' j' x' v' hk' hv' he
      exact g.mx.obj _ _ _ _ _ hv' he k o pl ho0 h3 hc rfl
    | some i0 =>
     have hik:=idx_spec _ _ _ hi
     obtain ⟨o2,ho2,hr2⟩:=hrows k i0 o hik h1 i x h2
     have hil:i0 < orc.ks.length:=(List.getElem?_eq_some_iff.1 hik).1
     refine .inr ⟨hflag i0 o2 ho2 hr2,i0,by unfold back;rw [hik],o2,pl,ho2,hr2,?_,h4⟩
     rw [g'.mu0 i0 hil]
     rw [hμo k hn] at h3
     show muOf μ orc.ks i0=_
     simp [muOf,hik,h3]
   ·obtain ⟨o1,q1,q2⟩:=hnew j hj o h1
    rw [q2] at h2
    have hr2:=(rowOf_ren _ _ _ _).1 h2
    refine .inr ⟨hflag _ o1 q1 hr2,orc.ks.length+j,?_,o1,pl,q1,hr2,by rw [← hμn j hj];exact h3,h4⟩
    unfold back
    rw [List.getElem?_eq_none (by omega)]
    have:Nat.blt (orc.ks.length+j) (orc.ks.length+16)=true:=by simp only [Nat.blt,Nat.ble_eq];omega
    rw [this]
    simp
  have hold1:∀ k i x v b,RowV w μ σ k i x v→ptrTo v b→idx orc.ks k=none→w'.heap[b]?=w.heap[b]?∧¬ SF b:=by
   intro k i x v b hv hb hi
   obtain ⟨q1,q2,q3,_⟩:=g.mx.blk hv hb
   refine ⟨hSblk b q1 (fun k' i' o' pl' hk' ho' hm' hc' he=>g.mx.obj _ _ _ _ _ hv hb k' o' pl' ho' hm' hc' he) (fun k' i' j' x' v' hk' hv' he=>?_),?_⟩
   ·obtain ⟨e1,_⟩:=g.mx.two _ _ _ _ _ _ _ _ _ hv hv' hb he
    exact idx_none _ _ hi i' (e1 ▸ hk')
   ·rintro (h1 | ⟨_,h1⟩ | ⟨_,h1⟩)
    ·exact q2 h1
    ·exact hlentr _ _ _ _ _ hv hb h1
    ·omega
  have hcls2:∀ k i x v b,RowV w μ σ k i x v→ptrTo v b→idx orc.ks k=none→∀ b',(fpOf w σc (muOf μ orc.ks) b'∨w.heap.size≤b')→b'≠b:=by
   rintro k i x v b hv hb hi b' (h1 | h1) rfl
   ·rcases hfpk _ h1 with ⟨k2,i2,o4,pl4,q1,q2,q3,q4,q5⟩ | ⟨k2,i2,j2,x2,v2,q1,q2,q3⟩
    ·exact g.mx.obj _ _ _ _ _ hv hb k2 o4 pl4 q2 q3 q4 q5
    ·obtain ⟨e1,_⟩:=g.mx.two _ _ _ _ _ _ _ _ _ hv q2 hb q3
     exact idx_none _ _ hi i2 (e1 ▸ q1)
   ·have:=(g.mx.blk hv hb).1;omega
  have hmxF:MX E.fp E.w0.heap.size w' SF μF σr:=by
   refine ⟨fun k i x v h=>?_,fun k i x v b h hb k' o' pl' h1 h2 h3=>?_,fun k i x v b k' i' x' v' h h' hb hb'=>?_⟩
   ·rcases cls k i x v h with ⟨hi,hn,hv⟩ | ⟨hfl,q,hq,hv⟩
    ·exact (g.mx.row _ _ _ _ hv).ext (fun _ h=>.inl h) hSb fun b hb=>let ⟨a1,a2⟩:=hold1 _ _ _ _ _ hv hb hi;⟨a1,a2,fun h=>h⟩
    ·refine (g'.mx.row _ _ _ _ hv).ext (hSS hfl) (fun _ _=>rfl) fun b hb=>⟨rfl,fun hs=>(g'.mx.blk hv hb).2.1 (hSF b hs),?_⟩
     rintro (h1 | h1)
     ·rcases hfpk _ h1 with ⟨k2,i2,o4,pl4,q1,q2,q3,q4,q5⟩ | ⟨k2,i2,j2,x2,v2,q1,q2,q3⟩
      ·rw [← q5];exact g.own k2 o4 pl4 q2 q3 q4
      ·exact (g.mx.blk q2 q3).2.2.1
     ·exact .inr (Nat.le_trans g.fr.size h1)
   ·rcases cls k i x v h with ⟨hi,hn,hv⟩ | ⟨hfl,q,hq,hv⟩
    ·rcases hsplit k' with hn' | ⟨j',hj',rfl⟩
     ·obtain ⟨o2,ho2⟩:=hold k' o' h1 hn'
      rw [hμo k' hn'] at h2
      exact g.mx.obj _ _ _ _ _ hv hb k' o2 pl' ho2 h2 h3
     ·obtain ⟨o1,pl1,c1,T1,q1,q2,q3,q4⟩:=hnob j' hj' o' h1
      rw [hμn j' hj',q3] at h2;cases h2
      exact hcls2 _ _ _ _ _ hv hb hi _ (g'.own _ o1 pl' q1 q3 h3)
    ·rcases hsplit k' with hn' | ⟨j',hj',rfl⟩
     ·rw [hμo k' hn'] at h2
      cases hi:idx orc.ks k' with
      | some i2 =>
       have hik:=idx_spec _ _ _ hi
       obtain ⟨_,o2,ho2⟩:=hwas k' i2 o' hik h1
       have hil:i2 < orc.ks.length:=(List.getElem?_eq_some_iff.1 hik).1
       have hmi:μ' i2=some pl':=by
        rw [g'.mu0 i2 hil]
        show muOf μ orc.ks i2=_
        simp [muOf,hik,h2]
       exact g'.mx.obj _ _ _ _ _ hv hb i2 o2 pl' ho2 hmi h3
      | none =>
       obtain ⟨o3,ho3⟩:=hold k' o' h1 hn'
       intro he
       rcases (g'.mx.blk hv hb).2.2.1 with h4 | h4
       ·rcases hfpk _ h4 with ⟨k2,i2,o4,pl4,q1,q2,q3,q4,q5⟩ | ⟨k2,i2,j2,x2,v2,q1,q2,q3⟩
        ·have hne:k2≠k':=fun h=>idx_none _ _ hi i2 (h ▸ q1)
         exact g.rep.ne k2 k' o4 o3 pl4 pl' hne q2 ho3 q3 h2 q4 h3 (q5.trans he.symm)
        ·exact g.mx.obj _ _ _ _ _ q2 q3 k' o3 pl' ho3 h2 h3 he
       ·have:=hlt k' o3 pl' ho3 h2 h3
        have h4:w.heap.size≤b:=h4
        omega
     ·obtain ⟨o1,pl1,c1,T1,q1,q2,q3,q4⟩:=hnob j' hj' o' h1
      rw [hμn j' hj',q3] at h2;cases h2
      exact g'.mx.obj _ _ _ _ _ hv hb _ o1 pl' q1 q3 h3
   ·rcases cls k i x v h with ⟨hi,hn,hv⟩ | ⟨hfl,q,hq,hv⟩<;>rcases cls k' i' x' v' h' with ⟨hi',hn',hv'⟩ | ⟨hfl',q',hq',hv'⟩
    ·exact g.mx.two _ _ _ _ _ _ _ _ _ hv hv' hb hb'
    ·exact (hcls2 _ _ _ _ _ hv hb hi _ (g'.mx.blk hv' hb').2.2.1 rfl).elim
    ·exact (hcls2 _ _ _ _ _ hv' hb' hi' _ (g'.mx.blk hv hb).2.2.1 rfl).elim
    ·obtain ⟨e1,e2⟩:=g'.mx.two _ _ _ _ _ _ _ _ _ hv hv' hb hb'
     rw [e1,hq'] at hq
     exact ⟨(Option.some.inj hq).symm,e2⟩
  refine ⟨v,SF,μF,rfl,ext,⟨?_,fun b h=>.inl (g.S0 b h),?_,?_,⟨?_,?_⟩,?_,fun k hk=>by rw [hμo k (.inl (by omega))];exact g.mu0 k hk,hmxF⟩,fun k hn h=>by rw [hμo k hn];exact h,?_⟩
  ·refine ⟨g'.fr.os.trans g.fr.os,g'.fr.tape.trans g.fr.tape,g'.fr.output.trans g.fr.output,Nat.le_trans g.fr.size g'.fr.size,fun b hb hnf=>?_⟩
   rw [← g.fr.blk b hb hnf]
   refine hSblk b (Nat.lt_of_lt_of_le hb g.fr.size) ?_ ?_
   ·intro k i o pl hk ho hm hc he
    rcases g.own k o pl ho hm hc with h1 | h1
    ·exact hnf (he ▸ h1)
    ·have:pl.blk=b:=he
     omega
   ·intro k i j x v hk hv he
    rcases (g.mx.blk hv he).2.2.1 with h1 | h1
    ·exact hnf h1
    ·omega
  ·rintro b (hb | ⟨_,k,hk,pl,hm,hc,rfl⟩ | ⟨hb,_⟩)
   ·exact Nat.lt_of_lt_of_le (g.S1 b hb) g'.fr.size
   ·obtain ⟨_,o,ho⟩:=hlk k hk
    exact Nat.lt_of_lt_of_le (hlt k o pl ho hm hc) g'.fr.size
   ·exact g'.S1 b hb
  ·rintro b (hb | ⟨hz',k,hk,pl,hm,hc,rfl⟩ | ⟨_,hb⟩)
   ·exact g.S2 b hb
   ·obtain ⟨_,o,ho⟩:=hlk k hk
    rcases g.own k o pl ho hm hc with h1 | h1
    ·exact (hz hz' _ h1).elim
    ·exact .inr h1
   ·exact .inr (Nat.le_trans g.fr.size hb)
  ·intro k o ho
   rcases hsplit k with hn | ⟨j,hj,rfl⟩
   ·cases hi:idx orc.ks k with
    | none =>
     have ho0:=ho
     rw [hother k hi hn] at ho
     split at ho
     ·cases ho
     obtain ⟨pl,c,T,hm,hob⟩:=g.rep.ob k o ho
     refine ⟨pl,c,T,hmuF _ _ hm,hob.ext ext ?_ (hfree k o o pl ho0 ho hm)⟩
     intro hc
     refine hSblk _ (lt_of_blk (hob.blk hc)) ?_ (fun k' i' j' x' v' hk' hv' he=>g.mx.obj _ _ _ _ _ hv' he k o pl ho hm hc rfl)
     intro k' i' o' pl' hk' ho' hm' hc' he
     have hne:k'≠k:=fun h=>idx_none _ _ hi i' (h ▸ hk')
     exact g.rep.ne k' k o' o pl' pl hne ho' ho hm' hm hc' hc he
    | some i =>
     have hk:=idx_spec _ _ _ hi
     obtain ⟨⟨o1,ho1⟩,_⟩:=hwas k i o hk ho
     obtain ⟨pl,c,T,hm,_⟩:=g.rep.ob k o1 ho1
     obtain ⟨c',T',hob⟩:=hobs w' S' SF μ' μF g' hSS hback k i o pl hk ho hm (hfree k o o1 pl ho ho1 hm)
     exact ⟨pl,c',T',hmuF _ _ hm,hob⟩
   ·obtain ⟨o1,pl,c,T,h1,h2,h3,h4⟩:=hnob j hj o ho
    have h5:=hconv w' S' SF μ' hSS j hj o1 pl c T h1 h4 (fun hc hb=>h4.out hc (hSF _ hb))
    exact ⟨pl,c,T,by rw [hμn j hj];exact h3,by rw [h2];exact h5.ren hback⟩
  ·intro k k' o o' pl pl' hne ho ho' hm hm' hc hc'
   rcases hsplit k with hn | ⟨j,hj,rfl⟩
   ·rcases hsplit k' with hn' | ⟨j',hj',rfl⟩
    ·obtain ⟨o1,ho1⟩:=hold k o ho hn
     obtain ⟨o2,ho2⟩:=hold k' o' ho' hn'
     rw [hμo k hn] at hm
     rw [hμo k' hn'] at hm'
     exact g.rep.ne k k' o1 o2 pl pl' hne ho1 ho2 hm hm' hc hc'
    ·exact fun he=>hcross j' hj' k o' o pl' pl ho' ho hn hm' hm hc' hc he.symm
   ·rcases hsplit k' with hn' | ⟨j',hj',rfl⟩
    ·exact hcross j hj k' o o' pl pl' ho ho' hn' hm hm' hc hc'
    ·obtain ⟨o1,pl1,c1,T1,h1,h2,h3,h4⟩:=hnob j hj o ho
     obtain ⟨o2,pl2,c2,T2,k1,k2,k3,k4⟩:=hnob j' hj' o' ho'
     rw [hμn j hj,h3] at hm;cases hm
     rw [hμn j' hj',k3] at hm';cases hm'
     exact g'.rep.ne _ _ o1 o2 pl pl' (by omega) h1 k1 h3 k3 hc hc'
  ·intro k o pl ho hm hc
   rcases hsplit k with hn | ⟨j,hj,rfl⟩
   ·obtain ⟨o1,ho1⟩:=hold k o ho hn
    rw [hμo k hn] at hm
    exact g.own k o1 pl ho1 hm hc
   ·obtain ⟨o1,pl1,c1,T1,h1,h2,h3,h4⟩:=hnob j hj o ho
    rw [hμn j hj,h3] at hm;cases hm
    rcases hnblk j o1 pl h1 h3 hc with ⟨k2,i2,o4,pl4,q1,q2,q3,q4,q5⟩ | ⟨k2,i2,j2,x2,v2,q1,q2,q3⟩ | h5
    ·rw [← q5];exact g.own k2 o4 pl4 q2 q3 q4
    ·exact (g.mx.blk q2 q3).2.2.1
    ·exact .inr (Nat.le_trans g.fr.size h5)
  ·cases he:(bs.isEmpty || orc.frz) with
   | true=>exact (hv.ren (f:=back orc.ks nk) hback).mono (hSS he) (fun _ _=>rfl) (fun _ _ h=>h)
   | false =>
    rw [he,Bool.false_or] at hres
    exact (hv.noS hres w' SF).ren (f:=back orc.ks nk) hback
 split at h
 ·split at h
  ·split at h
   ·rename_i qs hok
    cases h
    obtain ⟨hq,_⟩:=AllP.app hp.2
    have hks:∀ k i:Nat,orc.ks[i]?=some k→∀ o,sget (supd σ (frzU orc.frz bs)) k=some o→sget σ k=some o:=fun k i hk o ho=>by
     rw [frzU_get] at ho
     split at ho
     ·cases ho
     ·exact ho
    refine fin σc _ hp.1 (fun n _ _=>frzU_get _ _ _ _) ?_ ?_ ?_ ?_ ?_ ?_
    ·intro j hj o ho
     have ho:sget (supd σ (frzU orc.frz bs)) (nk+j)=some o:=ho
     rw [frzU_get] at ho
     split at ho
     ·cases ho
     ·rcases hkn _ o ho with h1 | h1<;>omega
    ·intro w' S' S'' μ' _ j hj o1 pl c T h1
     obtain ⟨k,o,hk,_⟩:=hcget _ o1 h1
     rw [List.getElem?_eq_none (by omega)] at hk;cases hk
    ·intro w' S' S'' μ' μF g' hS hback k i o pl hk ho hm hfr
     have ho:=hks k i hk o ho
     obtain ⟨ps',hso,hsp⟩:=sameOk_get _ _ hok hq k (List.mem_of_getElem? hk) o ho
     have hci:sget σc i=some (o.ren (idx orc.ks)):=by rw [hcg];simp [hk,ho]
     obtain ⟨pl2,c,T,hm2,hob⟩:=g'.rep.ob i _ hci
     have hlt:i < orc.ks.length:=(List.getElem?_eq_some_iff.1 hk).1
     rw [g'.mu0 i hlt] at hm2
     have:μ k=some pl2:=by simpa [envOf,muOf,hk] using hm2
     rw [hm] at this;cases this
     exact ⟨c,T,ob_same hob hso hsp hS hfr hback⟩
    ·intro k i o hk ho
     have ho:=hks k i hk o ho
     exact ⟨⟨o,ho⟩,o.ren (idx orc.ks),by rw [hcg];simp [hk,ho]⟩
    ·intro k i o hk ho j x hx
     have ho:=hks k i hk o ho
     exact ⟨o.ren (idx orc.ks),by rw [hcg];simp [hk,ho],(rowOf_ren _ _ _ _).2 hx⟩
    ·intro hfl n o' ho' i
     obtain ⟨k,o,hk,ho,rfl⟩:=hcget n o' ho'
     obtain ⟨ps',hso,hsp⟩:=sameOk_get _ _ hok hq k (List.mem_of_getElem? hk) o ho
     rw [hfl] at hso
     cases hr:rowOf (o.ren (idx orc.ks)) i with
     | none=>rfl
     | some x =>
      have:=(rowOf_ren _ _ _ _).1 hr
      rw [sameOb_noRow hso hsp] at this;cases this
   ·cases h
  ·rename_i q τ hqτ
   split at h
   ·rename_i qs hone hok hkeys
    cases h
    obtain ⟨hq,_⟩:=AllP.app hp.2
    simp only [Bool.and_eq_true] at hkeys
    obtain ⟨⟨hge,hltk⟩,hnd2⟩:=hkeys
    have hkold:∀ k i:Nat,orc.ks[i]?=some k→k < nk∨nk+16≤k:=fun k i hk=>by
     obtain ⟨o,ho⟩:=canon_all orc.ks 0 σc hcan k (List.mem_of_getElem? hk)
     exact hkn k o ho
    have hks:∀ k i:Nat,orc.ks[i]?=some k→∀ o,sget (supd σ (newU orc.ks nk (q :: τ) ++ frzU orc.frz bs)) k=some o→sget σ k=some o:=fun k i hk o ho=>by
     rw [supd_append,frzU_get] at ho
     split at ho
     ·cases ho
     ·rw [newU_out _ _ _ hltk (hkold k i hk)] at ho;exact ho
    have hlow:∀ i:Nat,i < orc.ks.length→sget (σc ++ q :: τ) i=sget σc i:=fun i hi=>by
     rw [sget_app]
     cases hs:sget σc i with
     | some o=>rfl
     | none=>exact geKeys_lt hge i hi
    have hhigh:∀ j:Nat,sget (σc ++ q :: τ) (orc.ks.length+j)=sget (q :: τ) (orc.ks.length+j):=fun j=>by
     rw [sget_app]
     have:sget σc (orc.ks.length+j)=none:=by rw [hcg];simp
     rw [this]
    refine fin (σc ++ q :: τ) _ hp.1 ?_ ?_ ?_ ?_ ?_ ?_ ?_
    ·intro n hn hnn
     show sget (supd σ (newU orc.ks nk (q :: τ) ++ frzU orc.frz bs)) n=_
     rw [supd_append,frzU_get,newU_out _ _ _ hltk hnn]
    ·intro j hj o ho
     have ho:sget (supd σ (newU orc.ks nk (q :: τ) ++ frzU orc.frz bs)) (nk+j)=some o:=ho
     rw [supd_append,frzU_get] at ho
     split at ho
     ·cases ho
     rw [newU_in _ _ _ hnd2] at ho
     split at ho
     ·rename_i o1 ho1
      cases ho
      exact ⟨o1,(hhigh j).trans ho1,rfl⟩
     ·rcases hkn _ o ho with h1 | h1<;>omega
    ·intro w' S' S'' μ' hS j hj o1 pl c T h1 h2 h3
     exact ob_mono h2 (hS hone) h3
    ·intro w' S' S'' μ' μF g' hS hback k i o pl hk ho hm hfr
     have ho:=hks k i hk o ho
     obtain ⟨ps',hso,hsp⟩:=sameOk_get _ _ hok hq k (List.mem_of_getElem? hk) o ho
     have hlt:i < orc.ks.length:=(List.getElem?_eq_some_iff.1 hk).1
     have hci:sget (σc ++ q :: τ) i=some (o.ren (idx orc.ks)):=by rw [hlow i hlt,hcg];simp [hk,ho]
     obtain ⟨pl2,c,T,hm2,hob⟩:=g'.rep.ob i _ hci
     rw [g'.mu0 i hlt] at hm2
     have:μ k=some pl2:=by simpa [envOf,muOf,hk] using hm2
     rw [hm] at this;cases this
     exact ⟨c,T,ob_same hob hso hsp (fun _=>hS hone) hfr hback⟩
    ·intro k i o hk ho
     have ho:=hks k i hk o ho
     exact ⟨⟨o,ho⟩,o.ren (idx orc.ks),by rw [hlow i (List.getElem?_eq_some_iff.1 hk).1,hcg];simp [hk,ho]⟩
    ·intro k i o hk ho j x hx
     have ho:=hks k i hk o ho
     exact ⟨o.ren (idx orc.ks),by rw [hlow i (List.getElem?_eq_some_iff.1 hk).1,hcg];simp [hk,ho],(rowOf_ren _ _ _ _).2 hx⟩
    ·intro hfl2
     rw [hone] at hfl2;cases hfl2
   ·cases h
 ·split at h
  ·rename_i qs hok hfl
   cases h
   obtain ⟨hq,_⟩:=AllP.app hp.2
   rw [Bool.and_eq_true] at hok
   have hbk:∀ n,sget (supd σ (backU orc.ks nk orc.sto 0 orc.ks)) n=match idx orc.ks n with
     | some j=>(sget orc.sto (0+j)).map (Ob.ren (back orc.ks nk))
     | none=>sget σ n:=fun n=>backU_get orc.ks 0 σ n hinj
   have hidx:∀ k i:Nat,orc.ks[i]?=some k→idx orc.ks k=some i:=by
    intro k i hk
    cases hi:idx orc.ks k with
    | none=>exact (idx_none _ _ hi i hk).elim
    | some j=>rw [hinj i j k hk (idx_spec _ _ _ hi)]
   have hkold:∀ k i:Nat,orc.ks[i]?=some k→k < nk∨nk+16≤k:=fun k i hk=>by
    obtain ⟨o,ho⟩:=canon_all orc.ks 0 σc hcan k (List.mem_of_getElem? hk)
    exact hkn k o ho
   have hall2:∀ k i:Nat,orc.ks[i]?=some k→∀ o,sget (supd σ (backU orc.ks nk orc.sto 0 orc.ks ++ (newU orc.ks nk orc.sto ++ frzU orc.frz bs))) k=some o→(sget orc.sto i).map (Ob.ren (back orc.ks nk))=some o:=by
    intro k i hk o ho
    rw [supd_append,supd_append,frzU_get] at ho
    split at ho
    ·cases ho
    rw [newU_out _ _ _ hok.1 (hkold k i hk),hbk k,hidx k i hk] at ho
    simpa using ho
   refine fin orc.sto _ hp.1 ?_ ?_ ?_ ?_ ?_ ?_ ?_
   ·intro n hn hnn
    show sget (supd σ (backU orc.ks nk orc.sto 0 orc.ks ++ (newU orc.ks nk orc.sto ++ frzU orc.frz bs))) n=_
    rw [supd_append,supd_append,frzU_get,newU_out _ _ _ hok.1 hnn,hbk n,hn]
   ·intro j hj o ho
    have ho:sget (supd σ (backU orc.ks nk orc.sto 0 orc.ks ++ (newU orc.ks nk orc.sto ++ frzU orc.frz bs))) (nk+j)=some o:=ho
    rw [supd_append,supd_append,frzU_get] at ho
    split at ho
    ·cases ho
    rw [newU_in _ _ _ hok.2] at ho
    split at ho
    ·rename_i o1 ho1
     cases ho
     exact ⟨o1,ho1,rfl⟩
    ·rw [hbk] at ho
     cases hi:idx orc.ks (nk+j) with
     | some i =>
      rcases hkold _ i (idx_spec _ _ _ hi) with h1 | h1<;>omega
     | none =>
      rw [hi] at ho
      rcases hkn _ o ho with h1 | h1<;>omega
   ·intro w' S' S'' μ' hS j hj o1 pl c T h1 h2 h3
    rcases flatStoP_get _ _ hfl hq _ o1 h1 with hl | ⟨ps',hf,hfp⟩
    ·exact ob_mono h2 (hS hl) h3
    ·exact flatP_ob h2 hf hfp h3
   ·intro w' S' S'' μ' μF g' hS hback k i o pl hk ho hm hfr
    have ho:=hall2 k i hk o ho
    simp only [Option.map_eq_some_iff] at ho
    obtain ⟨o1,ho1,rfl⟩:=ho
    obtain ⟨pl2,c,T,hm2,hob⟩:=g'.rep.ob i _ ho1
    have hlt:i < orc.ks.length:=(List.getElem?_eq_some_iff.1 hk).1
    rw [g'.mu0 i hlt] at hm2
    have:μ k=some pl2:=by simpa [envOf,muOf,hk] using hm2
    rw [hm] at this;cases this
    refine ⟨c,T,?_⟩
    rcases flatStoP_get _ _ hfl hq _ o1 ho1 with hl | ⟨ps',hf,hfp⟩
    ·exact (ob_mono hob (hS hl) hfr).ren hback
    ·exact (flatP_ob (μ'':=μ') hob hf hfp hfr).ren hback
   ·intro k i o hk ho
    have ho:=hall2 k i hk o ho
    simp only [Option.map_eq_some_iff] at ho
    obtain ⟨o1,ho1,_⟩:=ho
    exact ⟨canon_all orc.ks 0 σc hcan k (List.mem_of_getElem? hk),o1,ho1⟩
   ·intro k i o hk ho j x hx
    have ho:=hall2 k i hk o ho
    simp only [Option.map_eq_some_iff] at ho
    obtain ⟨o1,ho1,rfl⟩:=ho
    exact ⟨o1,ho1,(rowOf_ren _ _ _ _).1 hx⟩
   ·intro hfl2 n o1 ho1 i
    rcases flatStoP_get _ _ hfl hq _ o1 ho1 with hl | ⟨ps',hf,hfp⟩
    ·rw [hfl2] at hl;cases hl
    ·exact flatObP_noRow hf hfp i
  ·cases h
def isU8:List AV→Bool
 | [.atom v]=>match v with
  | .int k _=>match k with
   | .u8=>true
   | _=>false
  | _=>false
 | _=>false
def u8v:List AV→Int
 | [.atom v]=>match v with
  | .int _ x=>x
  | _=>0
 | _=>0
def strOf (n:Nat) (g:Nat→List AV):ByteArray:=⟨((List.range n).map fun i=>UInt8.ofNat (u8v (g i)).toNat).toArray⟩
theorem isU8_eq {l:List AV} (h:isU8 l=true):l=[.atom (.int .u8 (u8v l))]:=by
 unfold isU8 at h
 split at h
 ·split at h
  ·split at h
   ·rfl
   ·cases h
  ·cases h
 ·cases h
def evConvM (P:Program) (σ:Sto) (src dst:TypeId) (x:AV):Option (List Prop×AV×List Nat) :=
 match P.underlying src,P.underlying dst with
 | some .string,some (.slice e)=>match P.underlying e,x with
  | some (.int .u8),.atom (.string b)=>some ([],.sl b.size (fun i=>[.atom (.int .u8 (byteAt b i))]),[])
  | _,_=>none
 | some (.slice e),some .string=>match P.underlying e,srcOf σ 1 x with
  | some (.int .u8),some (n,g,_,ps,rd)=>some ((∀ i,i < n→isU8 (g i)=true) :: ps,.atom (.string (strOf n g)),rd)
  | _,_=>none
 | _,_=>none
theorem foldl_push (l:List Int):∀ (r:ByteArray),l.foldl (fun r n=>r.push (UInt8.ofNat n.toNat)) r=⟨r.data ++ (l.map fun n=>UInt8.ofNat n.toNat).toArray⟩:=by
 induction l with
 | nil=>intro r;simp
 | cons b l ih =>
  simp_all
theorem ev_convM (g:Good E σ S μ w) {src dst:TypeId} {x:AV} {v:Value} (hx:RepX w S μ v x) {ps:List Prop} {val:AV} {rd:List Nat} (h:evConvM P σ src dst x=some (ps,val,rd)) (hp:AllP ps) :
  Step P E nk σ S μ w (convert src dst v) val []:=by
 unfold evConvM at h
 split at h
 ·rename_i e hs hd
  split at h
  ·rename_i b he
   simp only [Option.some.injEq,Prod.mk.injEq] at h
   obtain ⟨rfl,rfl,rfl⟩:=h
   have:=rep_int hx;subst this
   have hrun:=run_bytes_of_string w src dst e b hs hd he
   have ga:=g.drew.allocStab (.cells (bytesRow b (grownCap w b.size 0 e)) e ((bytesRow b (grownCap w b.size 0 e)).size,(bytesRow b (grownCap w b.size 0 e)).size+1))
   refine ⟨_,_,_,_,hrun,(Ext.drew w S μ).trans ga.1,ga.2,fun _ _ h=>h,?_⟩
   refine .sl w.heap.size 0 1 (fun i _=>.int .u8 (byteAt b i)) (fun _=>⟨rfl,.inr rfl⟩) (fun i hi=>rfl) ?_ ?_ ?_
   ·intro i j hi hj
    have hj:j=0:=by omega
    subst hj
    have:=World.cell?_alloc_mark w.drew (bytesRow b (grownCap w b.size 0 e)) e ((bytesRow b (grownCap w b.size 0 e)).size,(bytesRow b (grownCap w b.size 0 e)).size+1) i
    simp_all [Nat.zero_add,Nat.mul_one,Nat.add_zero,bytesRow,Array.getElem?_append,byteAt,ByteArray.getElem_eq_getElem_data,getElem?_pos]
   ·intro i j c hi hc
    cases j with
    | zero=>simp at hc;subst hc;exact .atom _
    | succ j=>simp at hc
   ·simp [grownCap,Question.cut]
  ·cases h
 ·rename_i e hs hd
  split at h
  ·rename_i n gt pr qs rd' he hsrc
   simp only [Option.some.injEq,Prod.mk.injEq] at h
   obtain ⟨rfl,rfl,rfl⟩:=h
   obtain ⟨hu,hp'⟩:=hp
   obtain ⟨news,hn⟩:=ev_src g (P:=P) hx hsrc hp'
   have hsl:∃ a len cap,v=.slice a len cap:=by
    unfold srcOf at hsrc
    split at hsrc
    ·cases hx;exact ⟨_,_,_,rfl⟩
    ·cases hx;exact ⟨_,_,_,rfl⟩
    ·cases hx;exact ⟨_,_,_,rfl⟩
    ·cases hsrc
   obtain ⟨a,len,cap,rfl⟩:=hsl
   have hlen:len=n:=by
    have:=hn.len w
    simpa [Builtin.lenOf] using this
   subst hlen
   have hnews:news=((List.range len).map fun i=>Value.int .u8 (u8v (gt i))):=by
    have hsz:news.length=len:=by simpa using hn.size
    apply List.ext_getElem?
    intro i
    by_cases hi:i < len
    ·have h1:news[i]?=some (news[i]'(by omega)):=List.getElem?_eq_getElem _
     have hg:=isU8_eq (hu i hi)
     have h2:=hn.rep i 0 _ _ hi (by rw [hg];rfl) (by simpa only [Nat.mul_one,Nat.add_zero] using h1)
     grind [rep_int]
    ·simp_all
   have hstr:(((List.range len).map fun i=>u8v (gt i)).foldl (fun r n=>r.push (UInt8.ofNat n.toNat)) ByteArray.empty)=strOf len gt:=by
    rw [foldl_push]
    have h0:ByteArray.empty.data=#[]:=rfl
    rw [h0];simp [strOf]
   refine Step.pure g (v:=.string (strOf len gt)) ?_ (.atom _)
   rw [run_convert_bytes_string w src dst e a len cap hs he hd]
   cases a with
   | none =>
    have:len=0:=by
     rcases Nat.eq_zero_or_pos len with h0 | h0
     ·exact h0
     ·have:=hn.cells w rfl
      simp_all [Builtin.firstCells,congrArg,List.length]
    subst this
    rfl
   | some a =>
    rw [← hstr]
    refine run_bytesToString w a len cap _ ?_
    have:=hn.cells w rfl
    grind [Builtin.firstCells,Function.comp_def]
  ·cases h
 ·cases h
open Go.MapKept
def keyEq (P:Program) (kt:TypeId) (a b:AV):Option Bool :=
 match a,b with
 | .atom a,.atom b=>match a,b with
  | .string s,.string t=>some (streq s t)
  | .int k x,.int k' y=>match decide (k=k') with
   | true=>some (x == y)
   | false=>none
  | _,_=>none
 | .agg ys,.agg xs=>match Nat.beq ys.length xs.length with
  | true=>evEq P 64 kt (.agg xs) (.agg ys)
  | false=>none
 | _,_=>none
def look (P:Program) (kt:TypeId):List AV→AV→Option (Option AV)
 | k :: v :: r,x=>match keyEq P kt k x with
  | some true=>some (some v)
  | some false=>look P kt r x
  | none=>none
 | [_],_=>none
 | [],_=>some none
def insA (P:Program) (kt:TypeId):List AV→AV→AV→Option (List AV)
 | k :: v :: r,x,y=>match keyEq P kt k x with
  | some true=>some (k :: y :: r)
  | some false=>(insA P kt r x y).map fun l=>k :: v :: l
  | none=>none
 | [_],_,_=>none
 | [],x,y=>some [x,y]
def allI (k:IntKind):List AV→Bool
 | []=>true
 | .atom (.int k' _) :: r=>match decide (k'=k) with
  | true=>allI k r
  | false=>false
 | _ :: _=>false
def isKeyA (P:Program) (d:TypeDesc) (x:AV):Bool :=
 match d,x with
 | .string,.atom v=>match v with
  | .string _=>true
  | _=>false
 | .int k,.atom v=>match v with
  | .int k' _=>decide (k'=k)
  | _=>false
 | .array n e,.agg xs=>match P.underlying e,tSz P e with
  | some (.int k),some m=>Nat.beq m 1 && Nat.beq xs.length n && allI k xs
  | _,_=>false
 | _,_=>false
def EntR (R:Value→AV→Prop):List MapEntry→List AV→Prop
 | [],[]=>True
 | e :: es,k :: v :: cs=>R e.key k∧R e.val v∧EntR R es cs
 | _,_=>False
theorem entsOf_get (c:Array Value) (i:Nat) (hi:i < c.size / 2):(entsOf c)[i]?=some ⟨c[2 * i]?.getD undef,c[2 * i+1]?.getD undef,i⟩:=by
 simp [entsOf,hi]
theorem entsOf_size (c:Array Value):(entsOf c).size=c.size / 2:=by simp [entsOf]
theorem entR_of {R:Value→AV→Prop} {c:Array Value} {cs:List AV} (h1:c.size % 2=0) (h2:c.size=cs.length) (h3:∀ (j:Nat) x v,cs[j]?=some x→c[j]?=some v→R v x):EntR R (entsOf c).toList cs:=by
 have key:∀ (n o:Nat),2 * (o+n)=c.size→EntR R ((List.range' o n).map fun i=>(⟨c[2 * i]?.getD undef,c[2 * i+1]?.getD undef,i⟩:MapEntry)) (cs.drop (2 * o)):=by
  intro n
  induction n with
  | zero=>intro o h;rw [List.drop_of_length_le (by omega)];trivial
  | succ n ih =>
   intro o h
   have e1:2 * o < cs.length:=by omega
   have e2:2 * o+1 < cs.length:=by omega
   rw [List.range'_succ,List.map_cons,List.drop_eq_getElem_cons e1,List.drop_eq_getElem_cons e2]
   have d1:c[2 * o]?=some c[2 * o]:=Array.getElem?_eq_getElem _
   have d2:c[2 * o+1]?=some c[2 * o+1]:=Array.getElem?_eq_getElem _
   have ih':=ih (o+1) (by omega)
   rw [show 2 * (o+1)=2 * o+1+1 by omega] at ih'
   refine ⟨?_,?_,ih'⟩
   ·grind
   grind
 have:=key (c.size / 2) 0 (by omega)
 have e:(entsOf c).toList=(List.range' 0 (c.size / 2)).map fun i=>(⟨c[2 * i]?.getD undef,c[2 * i+1]?.getD undef,i⟩:MapEntry):=by
  unfold entsOf
  rw [Array.toList_map,Array.toList_range,List.range_eq_range']
 rw [e];exact this
theorem bytesEq (a b:ByteArray):(a == b)=streq a b:=by
 have hl:∀ x:ByteArray,x.toList=x.data.toList:=fun x=>ByteArray.toList_eq x
 rw [Bool.eq_iff_iff,bytes_beq]
 unfold streq
 rw [hl,hl,beq_iff_eq]
 constructor
 ·rintro rfl;rfl
 ·intro h
  cases a;simp_all
theorem keyEq_same {d:TypeDesc} {kt:TypeId} {kv ev:Value} {v:Value} {k:AV} {b:Bool} (hx:isKeyA P d (.atom v)=true) {w w':World} {S S':Nat→Prop} {μ μ':Mu} (h1:RepX w S μ kv (.atom v)) (h2:RepX w' S' μ' ev k) (h:keyEq P kt k (.atom v)=some b) :
  IsKey d kv∧Instr.sameNow d kv ev=some b∧(b=true→ev=kv):=by
 have:=rep_int h1;subst this
 cases k with
 | atom u =>
  have:=rep_int h2;subst this
  cases d<;>cases kv<;>simp [isKeyA] at hx
  ·rename_i k0 k' n
   subst hx
   cases ev<;>simp [keyEq] at h
   rename_i ka a
   by_cases hk:ka=k'
   ·subst hk
    rw [decide_eq_true rfl] at h
    simp only [Option.some.injEq] at h
    subst h
    refine ⟨rfl,?_,?_⟩
    ·simp only [Instr.sameNow,if_true]
     grind
    simp
   simp_all
  ·cases ev<;>simp [keyEq] at h
   rename_i s a
   subst h
   refine ⟨trivial,?_,?_⟩
   ·simp only [Instr.sameNow,bytesEq]
    congr 1
    unfold streq;grind
   ·intro hb
    rw [← bytesEq,bytes_beq] at hb
    rw [hb]
 | _=>simp [keyEq] at h
theorem isKey_of {d:TypeDesc} {kv v:Value} (hx:isKeyA P d (.atom v)=true) {w:World} {S:Nat→Prop} {μ:Mu} (h1:RepX w S μ kv (.atom v)):IsKey d kv:=by
 have:=rep_int h1;subst this
 cases d<;>cases kv<;>simp [isKeyA] at hx
 ·exact hx
 ·trivial
theorem arr_key {d:TypeDesc} {xs:List AV} (hx:isKeyA P d (.agg xs)=true):∃ n e k,d=.array n e∧P.underlying e=some (.int k)∧tSz P e=some 1∧xs.length=n∧allI k xs=true:=by
 cases d<;>simp [isKeyA] at hx
 rename_i n e
 split at hx
 ·rename_i k m h1 h2
  simp only [Bool.and_eq_true] at hx
  have hm:=Nat.eq_of_beq_eq_true hx.1.1
  subst hm
  exact ⟨n,e,k,rfl,h1,h2,Nat.eq_of_beq_eq_true hx.1.2,hx.2⟩
 ·cases hx
theorem allI_at {k:IntKind}:∀ {xs:List AV},allI k xs=true→∀ i,i < xs.length→∃ a,xs[i]?=some (.atom (.int k a))
 | [],_,i,h=>by simp at h
 | .atom (.int k' a) :: r,h,i,hi=>by
  unfold allI at h
  split at h
  ·rename_i hk
   have hk:=of_decide_eq_true hk
   subst hk
   cases i with
   | zero=>exact ⟨a,rfl⟩
   | succ i=>simpa using allI_at h i (by simpa using hi)
  ·cases h
theorem arr_val {k:IntKind} {xs:List AV} (h:allI k xs=true) {w:World} {S:Nat→Prop} {μ:Mu} {kv:Value} (hr:RepX w S μ kv (.agg xs)):∃ vs:Array Value,kv=.agg vs∧vs.size=xs.length∧∀ i,i < xs.length→∃ a,xs[i]?=some (.atom (.int k a))∧vs[i]?=some (.int k a):=by
 obtain ⟨vs,rfl,h1,h2⟩:=rep_agg hr
 refine ⟨vs,rfl,h1,fun i hi=>?_⟩
 obtain ⟨a,ha⟩:=allI_at h i hi
 have hv:vs[i]?=some vs[i]:=Array.getElem?_eq_getElem _
 have:=rep_int (h2 i _ _ ha hv)
 exact ⟨a,ha,by rw [hv,this]⟩
theorem allI_pure {k:IntKind}:∀ {xs:List AV},allI k xs=true→AV.pureL xs=true
 | [],_=>rfl
 | .atom (.int k' a) :: r,h=>by
  unfold allI at h
  split at h
  ·simpa [AV.pureL,AV.pure] using allI_pure h
  ·cases h
theorem look_find {d:TypeDesc} {kt:TypeId} {kv xv:Value} (hx:isKeyA P d (.atom xv)=true) {w w':World} {S S':Nat→Prop} {μ μ':Mu} (h1:RepX w S μ kv (.atom xv)):∀ (es:List MapEntry) (cs:List AV) (i:Nat) (r:Option AV),EntR (RepX w' S' μ') es cs→look P kt cs (.atom xv)=some r →
  (r=none∧Instr.findNow d kv es i=some none)∨∃ (j:Nat) (e:MapEntry) (v:AV),r=some v∧Instr.findNow d kv es i=some (some (i+j,e.val))∧RepX w' S' μ' e.val v
 | [],[],i,r,_,h=>by simp only [look,Option.some.injEq] at h;exact .inl ⟨h.symm,rfl⟩
 | e :: es,k :: v :: cs,i,r,hR,h=>by
  obtain ⟨r1,r2,r3⟩:=hR
  simp only [look] at h
  split at h
  ·rename_i hq
   cases h
   obtain ⟨_,q2,_⟩:=keyEq_same hx h1 r1 hq
   exact .inr ⟨0,e,v,rfl,by simp [Instr.findNow,q2],r2⟩
  ·rename_i hq
   obtain ⟨_,q2,_⟩:=keyEq_same hx h1 r1 hq
   rcases look_find hx h1 es cs (i+1) r r3 h with ⟨a,b⟩ | ⟨j,e',v',a,b,c⟩
   ·grind [Instr.findNow]
   ·exact .inr ⟨j+1,e',v',a,by grind [Instr.findNow],c⟩
  ·cases h
 | [],_ :: _,_,_,hR,_=>by simp [EntR] at hR
 | _ :: _,[],_,_,hR,_=>by simp [EntR] at hR
 | _ :: _,[_],_,_,hR,_=>by simp [EntR] at hR
theorem ins_find {d:TypeDesc} {kt:TypeId} {kv xv:Value} {y:AV} (hx:isKeyA P d (.atom xv)=true) {w w':World} {S S':Nat→Prop} {μ μ':Mu} (h1:RepX w S μ kv (.atom xv)):∀ (es:List MapEntry) (cs:List AV) (i:Nat) (cs':List AV),EntR (RepX w' S' μ') es cs→insA P kt cs (.atom xv) y=some cs' →
  (Instr.findNow d kv es i=some none∧cs'=cs ++ [.atom xv,y])∨∃ (j:Nat) (e:MapEntry),Instr.findNow d kv es i=some (some (i+j,e.val))∧es[j]?=some e∧e.key=kv∧cs'=cs.set (2 * j+1) y
 | [],[],i,cs',_,h=>by simp only [insA,Option.some.injEq] at h;exact .inl ⟨rfl,h.symm⟩
 | e :: es,k :: v :: cs,i,cs',hR,h=>by
  obtain ⟨r1,r2,r3⟩:=hR
  simp only [insA] at h
  split at h
  ·rename_i hq
   cases h
   obtain ⟨_,q2,q3⟩:=keyEq_same hx h1 r1 hq
   exact .inr ⟨0,e,by simp [Instr.findNow,q2],rfl,q3 rfl,rfl⟩
  ·rename_i hq
   obtain ⟨_,q2,_⟩:=keyEq_same hx h1 r1 hq
   simp only [Option.map_eq_some_iff] at h
   obtain ⟨l,hl,rfl⟩:=h
   rcases ins_find hx h1 es cs (i+1) l r3 hl with ⟨a,b⟩ | ⟨j,e',a,b,c,q⟩
   ·grind [Instr.findNow]
   ·exact .inr ⟨j+1,e',by grind [Instr.findNow],by simpa using b,c,by grind⟩
  ·cases h
 | [],_ :: _,_,_,hR,_=>by simp [EntR] at hR
 | _ :: _,[],_,_,hR,_=>by simp [EntR] at hR
 | _ :: _,[_],_,_,hR,_=>by simp [EntR] at hR
theorem arr_same {e:TypeId} {k:IntKind} (hu:P.underlying e=some (.int k)):∀ (D n i:Nat) (xs ys:List AV),evEqA P D e 1 xs ys i n=some true→∀ j,i≤j→j < i+n→xs[j]?=ys[j]?∧(xs[j]?).isSome=true:=by
 intro D
 induction D with
 | zero =>
  grind [evEqA]
 | succ D ih =>
  intro n i xs ys h j h1 h2
  cases n with
  | zero=>omega
  | succ n =>
   simp only [evEqA,Nat.mul_one] at h
   split at h
   ·rename_i a c _ ha hc
    split at h
    ·rename_i p q hp hq
     simp only [Option.some.injEq,Bool.and_eq_true] at h
     obtain ⟨rfl,rfl⟩:=h
     by_cases hj:j=i
     ·subst hj
      have cell:∀ (l:List AV) (z:AV),cellPart P e l j=some z→l[j]?=some z:=fun l z hz=>by
       grind [cellPart]
      rw [cell _ _ ha,cell _ _ hc]
      cases D with
      | zero=>simp [evEq] at hp
      | succ D =>
       simp only [evEq,hu] at hp
       grind
     ·exact ih n (i+1) xs ys hq j (by omega) (by omega)
    ·cases h
   ·cases h
theorem keyEq_ask {d:TypeDesc} {kt:TypeId} (hd:P.underlying kt=some d) {xs:List AV} (hx:isKeyA P d (.agg xs)=true) {w:World} {S:Nat→Prop} {kv ev:Value} {k:AV} {b:Bool} (h1:RepX w S noMu kv (.agg xs)) (h2:RepX w S noMu ev k) (h:keyEq P kt k (.agg xs)=some b) :
  (Op.equal kt kv ev).run P w=.ok b w∧(b=true→ev=kv):=by
 cases k with
 | agg ys =>
  unfold keyEq at h
  simp only at h
  split at h
  ·rename_i hl
   have hl:=Nat.eq_of_beq_eq_true hl
   refine ⟨(ev_eq 64).1 Op.maxDepth kt _ _ _ _ _ (by decide) h1 h2 h,fun hb=>?_⟩
   subst hb
   obtain ⟨n,e,kk,rfl,hu,hs,hn,hall⟩:=arr_key hx
   obtain ⟨vs,rfl,hv1,hv2⟩:=arr_val hall h1
   obtain ⟨us,rfl,hu1,hu2⟩:=rep_agg h2
   simp only [evEq,hd,hs] at h
   have hsame:=arr_same hu _ _ _ _ _ h
   congr 1
   apply Array.ext
   ·omega
   ·intro i hi1 hi2
    have hi:i < xs.length:=by omega
    obtain ⟨a,ha1,ha2⟩:=hv2 i hi
    obtain ⟨hq,_⟩:=hsame i (Nat.zero_le _) (by omega)
    rw [ha1] at hq
    have:=rep_int (hu2 i _ us[i] hq.symm (Array.getElem?_eq_getElem _))
    rw [this]
    rw [Array.getElem?_eq_getElem hi2] at ha2
    exact (Option.some.inj ha2).symm
  ·cases h
 | _=>simp [keyEq] at h
theorem look_ask {d:TypeDesc} {kt:TypeId} (hd:P.underlying kt=some d) {xs:List AV} (hx:isKeyA P d (.agg xs)=true) {w:World} {S:Nat→Prop} {kv:Value} (h1:RepX w S noMu kv (.agg xs)):∀ (es:List MapEntry) (cs:List AV) (i:Nat) (r:Option AV),EntR (RepX w S noMu) es cs→look P kt cs (.agg xs)=some r →
  (r=none∧(Instr.findAsking kt kv es i).run P w=.ok none w)∨∃ (j:Nat) (e:MapEntry) (v:AV),r=some v∧(Instr.findAsking kt kv es i).run P w=.ok (some (i+j,e.val)) w∧RepX w S noMu e.val v
 | [],[],i,r,_,h=>by simp_all [look,Option.some.injEq,Instr.findAsking]
 | e :: es,k :: v :: cs,i,r,hR,h=>by
  obtain ⟨r1,r2,r3⟩:=hR
  simp only [look] at h
  split at h
  ·rename_i hq
   cases h
   obtain ⟨q2,_⟩:=keyEq_ask hd hx h1 r1 hq
   exact .inr ⟨0,e,v,rfl,by simp [Instr.findAsking,q2,Result.andThen],r2⟩
  ·rename_i hq
   obtain ⟨q2,_⟩:=keyEq_ask hd hx h1 r1 hq
   rcases look_ask hd hx h1 es cs (i+1) r r3 h with ⟨a,b⟩ | ⟨j,e',v',a,b,c⟩
   ·simp_all [Instr.findAsking,Result.andThen]
   ·exact .inr ⟨j+1,e',v',a,by simp [Instr.findAsking,q2,Result.andThen,b];omega,c⟩
  ·cases h
 | [],_ :: _,_,_,hR,_=>by simp [EntR] at hR
 | _ :: _,[],_,_,hR,_=>by simp [EntR] at hR
 | _ :: _,[_],_,_,hR,_=>by simp [EntR] at hR
theorem ins_ask {d:TypeDesc} {kt:TypeId} (hd:P.underlying kt=some d) {xs:List AV} {y:AV} (hx:isKeyA P d (.agg xs)=true) {w:World} {S:Nat→Prop} {kv:Value} (h1:RepX w S noMu kv (.agg xs)):∀ (es:List MapEntry) (cs:List AV) (i:Nat) (cs':List AV),EntR (RepX w S noMu) es cs→insA P kt cs (.agg xs) y=some cs' →
  ((Instr.findAsking kt kv es i).run P w=.ok none w∧cs'=cs ++ [.agg xs,y])∨∃ (j:Nat) (e:MapEntry),(Instr.findAsking kt kv es i).run P w=.ok (some (i+j,e.val)) w∧es[j]?=some e∧e.key=kv∧cs'=cs.set (2 * j+1) y
 | [],[],i,cs',_,h=>by simp_all [insA,Option.some.injEq,Instr.findAsking]
 | e :: es,k :: v :: cs,i,cs',hR,h=>by
  obtain ⟨r1,r2,r3⟩:=hR
  simp only [insA] at h
  split at h
  ·rename_i hq
   cases h
   obtain ⟨q2,q3⟩:=keyEq_ask hd hx h1 r1 hq
   exact .inr ⟨0,e,by simp [Instr.findAsking,q2,Result.andThen],rfl,q3 rfl,rfl⟩
  ·rename_i hq
   obtain ⟨q2,_⟩:=keyEq_ask hd hx h1 r1 hq
   simp only [Option.map_eq_some_iff] at h
   obtain ⟨l,hl,rfl⟩:=h
   rcases ins_ask hd hx h1 es cs (i+1) l r3 hl with ⟨a,b⟩ | ⟨j,e',a,b,c,q⟩
   ·simp_all [Instr.findAsking,Result.andThen]
   ·exact .inr ⟨j+1,e',by simp [Instr.findAsking,q2,Result.andThen,a];omega,by simpa using b,c,by grind⟩
  ·cases h
 | [],_ :: _,_,_,hR,_=>by simp [EntR] at hR
 | _ :: _,[],_,_,hR,_=>by simp [EntR] at hR
 | _ :: _,[_],_,_,hR,_=>by simp [EntR] at hR
theorem find_ask {kt:TypeId} {n:Nat} {e:TypeId} (hd:P.underlying kt=some (.array n e)) {w:World} {vs:Array Value} {es:List MapEntry} {a:Option (Nat×Value)} (h:(Instr.findAsking kt (.agg vs) es 0).run P w=.ok a w):(Instr.findKey kt (.agg vs) es).run P w=.ok a w:=by
 cases es with
 | nil =>
  simp_all [Instr.findAsking,Instr.findKey,run_underlying,Result.andThen,Instr.findNow]
 | cons z es=>simp_all [Instr.findKey,run_underlying,Result.andThen,Instr.findNow,Instr.sameNow]
theorem look_run {d:TypeDesc} {kt:TypeId} (hd:P.underlying kt=some d) {x:AV} (hx:isKeyA P d x=true) {w:World} {S:Nat→Prop} {μ:Mu} {kv:Value} (h1:RepX w S μ kv x) {es:List MapEntry} {cs:List AV} {r:Option AV} (hR:EntR (RepX w S noMu) es cs) (h:look P kt cs x=some r) :
  (r=none∧(Instr.findKey kt kv es).run P w=.ok none w)∨∃ (j:Nat) (e:MapEntry) (v:AV),r=some v∧(Instr.findKey kt kv es).run P w=.ok (some (j,e.val)) w∧RepX w S noMu e.val v:=by
 cases x with
 | atom xv =>
  rcases look_find hx h1 es cs 0 r hR h with ⟨a,b⟩ | ⟨j,e,v,a,b,c⟩
  ·grind [run_findKey]
  ·exact .inr ⟨j,e,v,a,by simp_all [Nat.zero_add,run_findKey],c⟩
 | agg xs =>
  obtain ⟨n,e,k,rfl,_,_,_,hall⟩:=arr_key hx
  have h1':RepX w S noMu kv (.agg xs):=h1.pure (allI_pure hall) noMu
  obtain ⟨vs,rfl,_,_⟩:=arr_val hall h1'
  rcases look_ask hd hx h1' es cs 0 r hR h with ⟨a,b⟩ | ⟨j,e,v,a,b,c⟩
  ·grind [find_ask]
  ·exact .inr ⟨j,e,v,a,by rw [Nat.zero_add] at b;exact find_ask hd b,c⟩
 | _=>grind [isKeyA]
theorem ins_run {d:TypeDesc} {kt:TypeId} (hd:P.underlying kt=some d) {x y:AV} (hx:isKeyA P d x=true) {w:World} {S:Nat→Prop} {μ:Mu} {kv:Value} (h1:RepX w S μ kv x) {es:List MapEntry} {cs cs':List AV} (hR:EntR (RepX w S noMu) es cs) (h:insA P kt cs x y=some cs') :
  ((Instr.findKey kt kv es).run P w=.ok none w∧cs'=cs ++ [x,y])∨∃ (j:Nat) (e:MapEntry),(Instr.findKey kt kv es).run P w=.ok (some (j,e.val)) w∧es[j]?=some e∧e.key=kv∧cs'=cs.set (2 * j+1) y:=by
 cases x with
 | atom xv =>
  rcases ins_find hx h1 (y:=y) es cs 0 cs' hR h with ⟨a,b⟩ | ⟨j,e,a,b⟩
  ·grind [run_findKey]
  ·exact .inr ⟨j,e,by simp_all [Nat.zero_add,run_findKey],b⟩
 | agg xs =>
  obtain ⟨n,e,k,rfl,_,_,_,hall⟩:=arr_key hx
  have h1':RepX w S noMu kv (.agg xs):=h1.pure (allI_pure hall) noMu
  obtain ⟨vs,rfl,_,_⟩:=arr_val hall h1'
  rcases ins_ask hd hx h1' (y:=y) es cs 0 cs' hR h with ⟨a,b⟩ | ⟨j,e,a,b⟩
  ·grind [find_ask]
  ·exact .inr ⟨j,e,by rw [Nat.zero_add] at a;exact find_ask hd a,b⟩
 | _=>grind [isKeyA]
theorem key_pure {d:TypeDesc} {x:AV} (hx:isKeyA P d x=true):x.pure=true:=by
 cases x with
 | atom xv=>rfl
 | agg xs=>grind [arr_key,AV.pure,allI_pure]
 | _=>grind [isKeyA]
theorem check_run {d:TypeDesc} {kt:TypeId} (hd:P.underlying kt=some d) {x:AV} (hx:isKeyA P d x=true) {w:World} {S:Nat→Prop} {μ:Mu} {kv:Value} (h1:RepX w S μ kv x) (b:Bool):(Instr.checkKey b 10000 kt kv).run P w=.ok () w:=by
 cases x with
 | atom xv=>grind [run_checkKey,isKey_of]
 | agg xs =>
  obtain ⟨n,e,k,rfl,hu,hs,hn,hall⟩:=arr_key hx
  obtain ⟨vs,rfl,hv1,hv2⟩:=arr_val hall h1
  obtain ⟨us,hus,hu1,hu2⟩:=rep_agg h1
  cases hus
  have loop:∀ (m i:Nat),i+m=n→(forIn (m:=Sem) (List.range' i m) PUnit.unit fun i _=>do
    let z ← sizeOf e
    let q ← part e vs (i * z)
    Instr.checkKey b 9999 e q
    pure (ForInStep.yield PUnit.unit)).run P w=.ok PUnit.unit w:=by
   intro m
   induction m with
   | zero=>intro i _;simp
   | succ m ih =>
    intro i him
    have hi:i < xs.length:=by omega
    obtain ⟨a,ha1,ha2⟩:=hv2 i hi
    have hc:cellPart P e xs i=some (.atom (.int k a)):=by
     unfold cellPart
     rw [hu,hs]
     exact ha1
    obtain ⟨v,r1,r2⟩:=sat_stuck_part hv1 hu2 hc (fun n' hn'=>by grind)
    have:=rep_int r2;subst this
    have hck:(Instr.checkKey b 9999 e (.int k a)).run P w=.ok () w:=run_checkKey hu (show IsKey (.int k) (.int k a) from rfl) b 9998
    rw [List.range'_succ,List.forIn_cons]
    simp only [Sem.run_bind,run_sizeOf' hs,Nat.mul_one,r1,hck,Result.andThen_ok]
    simpa using ih (i+1) (by omega)
  unfold Instr.checkKey
  simp only [Sem.run_bind,run_underlying hd,Result.andThen_ok]
  simp_all
 | _=>grind [isKeyA]
theorem stays_run {d:TypeDesc} {x:AV} (hx:isKeyA P d x=true) {w:World} {S:Nat→Prop} {μ:Mu} {kv:Value} (h1:RepX w S μ kv x):(Instr.keyThatStays kv kv).run P w=.ok kv w:=by
 cases x with
 | atom xv=>exact run_keyThatStays (isKey_of hx h1)
 | agg xs =>
  obtain ⟨n,e,k,rfl,hu,hs,hn,hall⟩:=arr_key hx
  obtain ⟨vs,rfl,hv1,hv2⟩:=arr_val hall h1
  have:Instr.sameBits 10000 (.agg vs) (.agg vs)=true:=by
   have hz:∀ l:List Value,(∀ v,v∈l→∃ a,v=.int k a)→(l.zip l).all (fun (x,y)=>Instr.sameBits 9999 x y)=true:=by
    intro l
    induction l with
    | nil=>intro _;rfl
    | cons a l ih =>
     intro h
     obtain ⟨z,rfl⟩:=h a (.head _)
     simp only [List.zip_cons_cons,List.all_cons,Bool.and_eq_true]
     exact ⟨by simp [Instr.sameBits],ih fun v hv=>h v (.tail _ hv)⟩
   simp only [Instr.sameBits,beq_self_eq_true,Bool.true_and]
   refine hz _ fun v hv=>?_
   obtain ⟨i,hi,rfl⟩:=List.getElem_of_mem hv
   have hi:i < vs.size:=by simpa using hi
   obtain ⟨a,_,ha⟩:=hv2 i (by omega)
   rw [Array.getElem?_eq_getElem hi] at ha
   exact ⟨a,by simpa using Option.some.inj ha⟩
  simp [Instr.keyThatStays,this]
 | _=>cases d<;>simp [isKeyA] at hx
theorem entsOf_push (c:Array Value) (h:c.size % 2=0) (a b:Value):entsOf ((c.push a).push b)=(entsOf c).push ⟨a,b,c.size / 2⟩:=by
 apply Array.ext
 ·simp [entsOf];omega
 ·intro i h1 h2
  have hs:i < (c.size+1+1) / 2:=by simpa [entsOf] using h1
  by_cases hi:i < c.size / 2
  ·rw [Array.getElem_push_lt (by rw [entsOf_size];exact hi)]
   have e1:2 * i < c.size:=by omega
   have e2:2 * i+1 < c.size:=by omega
   simp [entsOf,Array.getElem?_push,e1,e2,Nat.ne_of_lt e1,Nat.ne_of_lt e2,show ¬ 2 * i=c.size+1 by omega,show ¬ 2 * i+1=c.size+1 by omega]
  ·have:i=c.size / 2:=by omega
   subst this
   have e1:2 * (c.size / 2)=c.size:=by omega
   simp [entsOf,Array.getElem_push,Array.getElem?_push,e1]
theorem entsOf_set (c:Array Value) (j:Nat) (e:MapEntry) (he:(entsOf c)[j]?=some e) (v:Value):entsOf (c.setIfInBounds (2 * j+1) v)=(entsOf c).modify j fun q=>{ q with key:=e.key,val:=v }:=by
 have hj:j < c.size / 2:=by
  have:=(Array.getElem?_eq_some_iff.1 he).1
  rwa [entsOf_size] at this
 rw [entsOf_get c j hj] at he
 cases he
 apply Array.ext
 ·simp [entsOf]
 ·intro i h1 h2
  have hi:i < c.size / 2:=by simpa [entsOf] using h1
  rw [Array.getElem_modify]
  by_cases hij:j=i
  ·subst hij
   simp [entsOf,Array.getElem?_setIfInBounds,show ¬ 2 * j+1=2 * j by omega,show 2 * j+1 < c.size by omega]
  ·rw [if_neg hij]
   simp [entsOf,Array.getElem?_setIfInBounds,show ¬ 2 * j+1=2 * i by omega,show ¬ 2 * j=2 * i by omega,hij]
def evLookup (P:Program) (σ:Sto) (t:TypeId) (m x:AV) (ok:Bool) (orc:Orc):Option (List Prop×AV×List Nat) :=
 match m,P.underlying t with
 | .mp k,some (.map kt et)=>match P.underlying kt,sget σ k,tZero P et with
  | some d,some o,some z=>match isKeyA P d x && Nat.beq o.sz 0 with
   | true=>match ok with
    | false=>some ([(look P kt (o.get 0) x).map (fun r=>r.getD (ofConst z))=some orc.res],orc.res,[k])
    | true=>some ([(look P kt (o.get 0) x).map (fun r=>AV.tup [r.getD (ofConst z),.atom (.bool r.isSome)])=some orc.res],orc.res,[k])
   | false=>none
  | _,_,_=>none
 | _,_=>none
def evMapUpd (P:Program) (σ:Sto) (t:TypeId) (m x y:AV) (orc:Orc):Option (List Prop×Upd×List Nat) :=
 match m,P.underlying t,orc.res with
 | .mp k,some (.map kt _),.tup cs=>match P.underlying kt,sget σ k with
  | some d,some o=>match isKeyA P d x && Nat.beq o.sz 0 && Nat.beq o.len 0 && y.pure with
   | true=>some ([insA P kt (o.get 0) x y=some cs],[(k,some ⟨o.var,o.sz,o.len,true,fun _=>cs⟩)],[k])
   | false=>none
  | _,_=>none
 | _,_,_=>none
theorem map_place (g:Good E σ S μ w) {k:Nat} {o:Ob} (ho:sget σ k=some o) (hz:o.sz=0) {v:Value} (hv:RepX w S μ v (.mp k)) :
  ∃ pl c T,μ k=some pl∧ObRep w S μ o pl c T∧v=.map (some pl.blk):=by
 obtain ⟨pl,c,T,hm,hob⟩:=g.rep.ob k o ho
 cases hv with
 | mp pl' hm'=>grind
theorem ev_lookup (g:Good E σ S μ w) {t:TypeId} {m x:AV} {ok:Bool} {orc:Orc} {vm vx:Value} (hm:RepX w S μ vm m) (hx:RepX w S μ vx x) {ps:List Prop} {val:AV} {rd:List Nat}
  (h:evLookup P σ t m x ok orc=some (ps,val,rd)) (hp:AllP ps):∃ v,(Instr.lookup t vm vx ok).run P w=.ok v w∧RepX w S μ v val:=by
 unfold evLookup at h
 split at h
 ·rename_i k kt et ht
  split at h
  ·rename_i d o z hd ho hz
   split at h
   ·rename_i hb
    simp only [Bool.and_eq_true] at hb
    have hz0:=Nat.eq_of_beq_eq_true hb.2
    obtain ⟨pl,c,T,hmk,hob,rfl⟩:=map_place g ho hz0 hm
    obtain ⟨hc,m1,m2,m3,m4⟩:=hob.mp hz0
    have hblk:w.heap[pl.blk]?=some (.map (entsOf c) (c.size / 2)):=(hob.blk hc).trans (by rw [blkObj_map hz0])
    have hent:=entR_of m1 m2 m4
    have hchk:=fun b=>check_run hd hb.1 hx b
    have main:∀ r,look P kt (o.get 0) x=some r→∃ v,RepX w S μ v (r.getD (ofConst z))∧(Instr.lookup t (.map (some pl.blk)) vx ok).run P w=.ok (if ok then .tuple #[v,.bool r.isSome] else v) w:=by
     intro r hr
     rcases look_run hd hb.1 hx hent hr with ⟨rfl,q⟩ | ⟨j,e,v,rfl,q1,q2⟩
     ·refine ⟨z,rep_const w S μ z,?_⟩
      simp [Instr.lookup,run_underlying ht,Go.MapKept.run_getObj_map hblk,hchk,q,run_zero' hz,Result.andThen]
     ·refine ⟨e.val,noMu_mono (pr:=true) q2,?_⟩
      simp [Instr.lookup,run_underlying ht,Go.MapKept.run_getObj_map hblk,hchk,q1,Result.andThen]
    split at h
    ·simp only [Option.some.injEq,Prod.mk.injEq] at h
     obtain ⟨rfl,rfl,rfl⟩:=h
     obtain ⟨hp1,_⟩:=hp
     simp only [Option.map_eq_some_iff] at hp1
     obtain ⟨r,hr,hr2⟩:=hp1
     obtain ⟨v,h1,h2⟩:=main r hr
     exact ⟨v,by simpa using h2,by rw [← hr2];exact h1⟩
    ·simp only [Option.some.injEq,Prod.mk.injEq] at h
     obtain ⟨rfl,rfl,rfl⟩:=h
     obtain ⟨hp1,_⟩:=hp
     simp only [Option.map_eq_some_iff] at hp1
     obtain ⟨r,hr,hr2⟩:=hp1
     obtain ⟨v,h1,h2⟩:=main r hr
     refine ⟨.tuple #[v,.bool r.isSome],by simpa using h2,?_⟩
     rw [← hr2]
     refine .tup rfl fun j c v' hc hv=>?_
     match j with
     | 0=>simp at hc hv;subst hc hv;exact h1
     | 1=>simp at hc hv;subst hc hv;exact .atom _
     | j+2=>simp at hc
   ·cases h
  ·cases h
 ·cases h
theorem ev_mapUpd (g:Good E σ S μ w) {t:TypeId} {m x y:AV} {orc:Orc} {vm vx vy:Value} (hm:RepX w S μ vm m) (hx:RepX w S μ vx x) (hy:RepX w S μ vy y) {ps:List Prop} {upd:Upd} {rd:List Nat}
  (h:evMapUpd P σ t m x y orc=some (ps,upd,rd)) (hp:AllP ps):∃ w',(Instr.mapUpdate t vm vx vy).run P w=.ok () w'∧Ext w S μ w' S μ∧Good E (supd σ upd) S μ w':=by
 unfold evMapUpd at h
 split at h
 ·rename_i k kt et cs ht hres
  split at h
  ·rename_i d o hd ho
   split at h
   ·rename_i hb
    simp only [Option.some.injEq,Prod.mk.injEq] at h
    obtain ⟨rfl,rfl,rfl⟩:=h
    simp only [Bool.and_eq_true] at hb
    obtain ⟨⟨⟨hb1,hb2⟩,hb3⟩,hb4⟩:=hb
    have hz0:=Nat.eq_of_beq_eq_true hb2
    have hl0:=Nat.eq_of_beq_eq_true hb3
    obtain ⟨hp1,_⟩:=hp
    obtain ⟨pl,c,T,hmk,hob,rfl⟩:=map_place g ho hz0 hm
    obtain ⟨hc,m1,m2,m3,m4⟩:=hob.mp hz0
    have hblk:w.heap[pl.blk]?=some (.map (entsOf c) (c.size / 2)):=(hob.blk hc).trans (by rw [blkObj_map hz0])
    have hent:=entR_of m1 m2 m4
    have hchk:=fun b=>check_run hd hb1 hx b
    have hstay:=stays_run hb1 hx
    have hxp:x.pure=true:=key_pure hb1
    -- the block that is written
    have fin:∀ (c':Array Value),c'.size % 2=0→c'.size=cs.length→(∀ (j:Nat) x v,cs[j]?=some x→c'[j]?=some v→RepX w S noMu v x) →
      (Instr.mapUpdate t (.map (some pl.blk)) vx vy).run P w=.ok () { w with heap:=w.heap.setIfInBounds pl.blk (.map (entsOf c') (c'.size / 2)) } →
      ∃ w',(Instr.mapUpdate t (.map (some pl.blk)) vx vy).run P w=.ok () w'∧Ext w S μ w' S μ∧Good E (supd σ [(k,some ⟨o.var,o.sz,o.len,true,fun _=>cs⟩)]) S μ w':=by
     intro c' e1 e2 e3 hrun
     refine ⟨_,hrun,?_⟩
     have hset:=heap_set (o':=.map (entsOf c') (c'.size / 2)) hblk
     refine g.writeAt (w':={ w with heap:=w.heap.setIfInBounds pl.blk (.map (entsOf c') (c'.size / 2)) }) ho hmk hc hob rfl rfl rfl (by simp) (fun b hb=>hset.2 b hb) ⟨o.var,o.sz,o.len,true,fun _=>cs⟩ (rowOf_none_one fun i hi=>absurd hi (by show ¬ i < o.len;omega)) (fun ex=>⟨c',T,hob.sz,fun _=>?_,?_,by simp_all,hob.out,fun i hi=>absurd hi (by show ¬ i < o.len;omega),fun i j x v hi=>absurd hi (by show ¬ i < o.len;omega),fun _=>⟨hc,e1,e2,rfl,fun j x v hx hv=>(e3 j x v hx hv).mono ex.stab ex.blk (fun _ _ h=>h)⟩⟩)
     ·grind [blkObj,blkObj_map]
     ·simp_all
    rcases ins_run hd hb1 hx (y:=y) hent hp1 with ⟨q1,q2⟩ | ⟨j,e,q1,q2,q3,q4⟩
    ·refine fin ((c.push vx).push vy) (by simp;omega) (by rw [q2];simp;omega) ?_ ?_
     ·intro j x' v' hx' hv'
      rw [q2] at hx'
      by_cases hj:j < c.size
      ·grind
      ·rw [List.getElem?_append_right (by omega)] at hx'
       by_cases hj0:j=c.size
       ·subst hj0
        rw [show c.size - (o.get 0).length=0 by omega] at hx'
        rw [Array.getElem?_push,if_neg (by simp),Array.getElem?_push,if_pos rfl] at hv'
        simp at hx' hv'
        subst hx' hv'
        exact hx.pure hxp noMu
       ·by_cases hj1:j=c.size+1
        ·subst hj1
         rw [show c.size+1 - (o.get 0).length=1 by omega] at hx'
         rw [Array.getElem?_push,if_pos (by simp)] at hv'
         simp at hx' hv'
         subst hx' hv'
         exact hy.pure hb4 noMu
        ·rw [List.getElem?_eq_none (by simp;omega)] at hx';cases hx'
     ·rw [entsOf_push c m1]
      have e:((c.push vx).push vy).size / 2=c.size / 2+1:=by simp;omega
      rw [e]
      simp [Instr.mapUpdate,run_underlying ht,Go.MapKept.run_getObj_map hblk,hchk,q1,Go.MapKept.run_setObj_map _ hblk,Result.andThen]
    ·have q2':(entsOf c)[j]?=some e:=by simpa using q2
     have hj:j < c.size / 2:=by
      have:=(Array.getElem?_eq_some_iff.1 q2').1
      rwa [entsOf_size] at this
     refine fin (c.setIfInBounds (2 * j+1) vy) (by simpa using m1) (by rw [q4];simpa using m2) ?_ ?_
     ·intro i x' v' hx' hv'
      rw [q4,List.getElem?_set] at hx'
      rw [Array.getElem?_setIfInBounds] at hv'
      by_cases hi:2 * j+1=i
      ·subst hi
       rw [if_pos rfl,if_pos (by omega)] at hx'
       rw [if_pos rfl,if_pos (by omega)] at hv'
       simp at hx' hv'
       subst hx' hv'
       exact hy.pure hb4 noMu
      ·rw [if_neg hi] at hx' hv'
       exact m4 i x' v' hx' hv'
     ·rw [entsOf_set c j e q2' vy]
      simp [Instr.mapUpdate,run_underlying ht,Go.MapKept.run_getObj_map hblk,hchk,q1,q2',q3,hstay,Go.MapKept.run_setObj_map _ hblk,Result.andThen]
   ·cases h
  ·cases h
 ·cases h
theorem call_sound (g:Good E σ S μ w) (hk16:∀ j,j < 16→μ (nk+j)=none) (hm0:E.m0≤nk) {f:AV} {args:List AV} {orc:Orc} {r:R} {fv:Value} (hf:RepX w S μ fv f) {vargs:Array Value} (ha:RL w S μ vargs args)
  (hz:orc.frz=true→∀ b,¬ E.fp b) (h:evCall P nk σ f args orc=some r) (hp:AllP r.obl) :
  ∃ gid vs,(do let d ← Deferred.ofValue fv vargs;invoke d.target d.args:Sem Next).run P w=.ok (.enter gid vs) w ∧
   Calls P gid vs w fun e w'=>∃ v S' μ',e=.returned v∧Ext w S μ w' S' μ'∧Good E (supd σ r.upd) S' μ' w'∧(∀ k,(k < nk∨nk+16≤k)→μ k=none→μ' k=none)∧RepX w' S' μ' v r.val :=
 call_soundG (ob:=Sound P) g hk16 hm0 hf ha hz (fun _ _ _ _ _ _ vs hs g0 hn hall=>hs w _ _ vs g0 hn hall) h hp
end
end Go.Ab
