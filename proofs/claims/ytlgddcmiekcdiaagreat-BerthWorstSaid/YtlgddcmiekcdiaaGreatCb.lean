/- Abstract values over the heap of the machine, and functions read off its code (part 2). No conditions. -/
import Derived.Test.YtlgddcmiekcdiaaGreatCa
import Derived.Laws.IdiomStrings
import Derived.MapKept
import Derived.Carry
set_option linter.unusedVariables false
set_option linter.unusedSimpArgs false
namespace Go.Ab
def M5 (w:World) (σ:dn) (μ:Mu) (b:Nat):Prop:=(∃ k o pl,ar σ k=some o∧μ k=some pl∧0 < pl.cap∧pl.cy=b)∨∃ k i x v,iJ w μ σ k i x v∧ptrTo v b
def sm (w:World) (S:Nat→Prop) (σ:dn) (μ:Mu) (m:Nat):Env:=⟨w,S,M5 w σ μ,μ,m⟩
def Sound (P:Program) (f:FuncId) (args:List AV) (σ:dn) (m:Nat) (res:AV) (dX:dn):Prop :=
 ∀ (w:World) (S:Nat→Prop) (μ:Mu) (vs:Array Value),Good (sm w S σ μ m) σ S μ w→(∀ k,m≤k→μ k=none)→RL w S μ vs args →
  Calls P f vs w fun e w'=>∃ v S' da,e=.returned v∧Good (sm w S σ μ m) dX S' da w'∧ao w' S' da v res
section
variable {E:Env} {nk:Nat} {σ:dn} {S:Nat→Prop} {μ:Mu} {w:World}
theorem iJ.of (g:Good E σ S μ w) {k i:Nat} {o:Ob} {x:Nat×Nat×(Nat→List AV)} (ho:ar σ k=some o) (hr:rowOf o i=some x) {pl:Place} (hm:μ k=some pl):∃ v,iJ w μ σ k i x v:=by
 obtain ⟨h1,h2,h3⟩:=db hr
 obtain ⟨jQ,c,T,gF,cY⟩:=g.rep.ob k o ho
 rw [hm] at gF;cases gF
 have hl:=cY.s8 i h2
 rw [h3] at hl
 obtain ⟨v,q1,q2⟩:=cM cY (i:=i) (j:=0) h2 (by simp at hl;omega)
 exact ⟨v,o,pl,ho,hr,hm,by rw [cY.sz];simpa using q2⟩
theorem gD.OA {o:Ob} {pl:Place} {c:Array Value} {T:TypeId} {da:Mu} (h:gD w S μ o pl c T) (hv:o.sz≠0) (hμ:∀ k p,μ k=some p→da k=some p) (i:Nat) (cs:List AV) (hl:cs.length=o.sz)
  (hc:∀ j x v,i < o.len→cs[j]?=some x→c[i * o.sz+j]?=some v→ao w S da v x):gD w S da ⟨false,o.sz,o.len,false,fun m=>if m=i then cs else o.get m⟩ pl c T:=by
 refine ⟨h.sz,h.cy,h.cap,h.len,h.out,fun m hm=>?_,fun m j x v hm hx sf=>?_,fun hz=>absurd hz hv⟩
 ·show (if m=i then cs else o.get m).length=o.sz
  split
  ·exact hl
  ·exact h.s8 m hm
 ·have X8:(if m=i then cs else o.get m)[j]?=some x:=hx
  show ao w S da v x
  by_cases Ay:m=i
  ·grind
  ·rw [if_neg Ay] at X8
   exact (iz (h.rep m j x v hm X8 sf)).mono (fun _ h=>h) (fun _ _=>rfl) hμ
theorem Good.opn (g:Good E σ S μ w) (hk:μ nk=none) (tq:E.m0≤nk) {k i:Nat} {o:Ob} {x:Nat×Nat×(Nat→List AV)} (ho:ar σ k=some o) (hr:rowOf o i=some x) :
  ∃ q:Place,Ext w S μ w S (bT μ nk q)∧Good E (sset (sset σ k ⟨false,o.sz,o.len,false,fun m=>if m=i then [.os nk 0 x.2.1] else o.get m⟩) nk ⟨false,x.1,x.2.1,true,x.2.2⟩) S (bT μ nk q) w:=by
 obtain ⟨Az,hi,pZ⟩:=db hr
 obtain ⟨pl,c,T,hm,cY⟩:=g.rep.ob k o ho
 have wc:k≠nk:=fun h=>by simp_all
 have qR:o.sz=1:=by have:=cY.s8 i hi;rw [pZ] at this;simpa using this.symm
 obtain ⟨v,hv⟩:=iJ.of g ho hr hm
 obtain ⟨a,cap,rfl,h1,h2,h3⟩:=g.mx.row _ _ _ _ hv
 -- the place of the row
 have hq:∃ q:Place,q.sz=x.1∧cap=q.cap∧(0 < cap→a=some ⟨q.cy,0,none⟩)∧(0 < q.cap→0 < cap)∧(∃ c' T',gD w S iI ⟨false,x.1,x.2.1,true,x.2.2⟩ q c' T')∧(0 < q.cap→E.fp q.cy∨E.w0.heap.size≤q.cy):=by
  rcases Nat.eq_zero_or_pos cap with hc | hc
  ·refine ⟨⟨0,0,x.1⟩,rfl,hc,fun h=>by omega,fun h=>absurd h (vk _),⟨#[],0,rfl,fun h=>absurd h (vk _),by simp,by show x.2.1≤0;omega,fun h=>absurd h (vk _),fun j hj=>absurd hj (by show ¬ j < x.2.1;omega),fun j l y u hj=>absurd hj (by show ¬ j < x.2.1;omega),fun hz=>absurd hz (by simp_all)⟩,fun h=>absurd h (vk _)⟩
  ·grind
 obtain ⟨q,q1,q2,q3,q4,⟨c',T',q5⟩,q6⟩:=hq
 have NW:∀ n p,μ n=some p→bT μ nk q n=some p:=fun n p h=>by
  grind [bT]
 have Ky:0 < q.cap→ptrTo (.slice a x.2.1 cap) q.cy:=fun h=>⟨_,_,by rw [q3 (q4 h)],q4 h⟩
 have ext:Ext w S μ w S (bT μ nk q):=⟨aF _,fun _ h=>h,fun _ _=>rfl,NW⟩
 let o':Ob:=⟨false,o.sz,o.len,false,fun m=>if m=i then [.os nk 0 x.2.1] else o.get m⟩
 let oq:Ob:=⟨false,x.1,x.2.1,true,x.2.2⟩
 have I9:∀ n y,ar (sset (sset σ k o') nk oq) n=some y→(n=nk∧y=oq)∨(n≠nk∧n=k∧y=o')∨(n≠nk∧n≠k∧ar σ n=some y):=by
  intro n y h
  rw [aX] at h
  by_cases hn:nk=n
  ·simp_all
  ·rw [if_neg hn,aX] at h
   grind
 have Ja:∀ n p,n≠nk→bT μ nk q n=some p→μ n=some p:=fun n p hn h=>by simp_all [bT,if_neg]
 have Rf:∀ p,bT μ nk q nk=some p→p=q:=fun p h=>by unfold bT at h;simp_all
 have hold:∀ n y,ar (sset (sset σ k o') nk oq) n=some y→n≠nk→∃ y',ar σ n=some y':=fun n y h hn=>by
  grind
 refine ⟨q,ext,⟨g.fr,g.S0,g.S1,g.S2,⟨fun n y h=>?_,fun n n' y y' p p' fP h h' hp rV hc oe=>?_⟩,fun n y p h hp hc=>?_,fun n hn=>?_,?_⟩⟩
 ·rcases I9 n y h with ⟨rfl,rfl⟩ | ⟨hn,rfl,rfl⟩ | ⟨hn,hn2,h⟩
  ·refine ⟨q,c',T',by simp [bT],q5.sz,q5.cy,q5.cap,q5.len,q5.out,q5.s8,fun j l y u hj hy hu=>q5.rep j l y u hj hy hu,fun hz=>absurd hz (by grind)⟩
  ·refine ⟨pl,c,T,NW _ _ hm,cY.OA (by omega) NW i [.os nk 0 x.2.1] (by rw [qR];rfl) fun j y u _ hy hu=>?_⟩
   cases j with
   | succ j=>simp at hy
   | zero =>
    simp at hy
    subst hy
    obtain ⟨o2,p2,b1,b2,b3,b4⟩:=hv
    rw [ho] at b1;cases b1
    rw [hm] at b3;cases b3
    have CF:c[i * o.sz+0]?=some (.slice a x.2.1 cap):=by
     have:=cell_of_row w pl.cy (i * pl.sz) _ _ _ ((cY.cy (by have:=cY.len;omega)).trans (congrArg some (fm (by omega) c T)))
     rw [this,cY.sz] at b4
     exact b4
    rw [CF] at hu;cases hu
    exact .os q (by simp [bT]) (fun hc=>by rw [q3 hc];simp) h1 (by omega)
  ·obtain ⟨p,c2,T2,CY,Ox⟩:=g.rep.ob n y h
   exact ⟨p,c2,T2,NW _ _ CY,Ox.ext ext (fun _=>rfl) Ox.out⟩
 ·by_cases hn:n=nk<;>by_cases HJ:n'=nk
  ·exact absurd (hn.trans HJ.symm) fP
  ·subst hn
   cases Rf p hp
   obtain ⟨y2,F1⟩:=hold n' y' h' HJ
   exact fun e=>g.mx.obj _ _ _ _ _ hv (Ky hc) n' y2 p' F1 (Ja _ _ HJ rV) oe e.symm
  ·subst HJ
   cases Rf p' rV
   obtain ⟨y2,F1⟩:=hold n y h hn
   exact g.mx.obj _ _ _ _ _ hv (Ky oe) n y2 p F1 (Ja _ _ hn hp) hc
  ·obtain ⟨y2,F1⟩:=hold n y h hn
   obtain ⟨X9,TX⟩:=hold n' y' h' HJ
   exact g.rep.ne n n' y2 X9 p p' fP F1 TX (Ja _ _ hn hp) (Ja _ _ HJ rV) hc oe
 ·by_cases hn:n=nk
  ·subst hn
   cases Rf p hp
   exact q6 hc
  ·obtain ⟨y2,F1⟩:=hold n y h hn
   exact g.own n y2 p F1 (Ja _ _ hn hp) hc
 ·unfold bT;rw [if_neg (by omega)];exact g.CC n hn
 ·have key:∀ n j y u,iJ w (bT μ nk q) (sset (sset σ k o') nk oq) n j y u→iJ w μ σ n j y u∧¬ (n=k∧j=i):=by
   rintro n j y u ⟨o2,p2,b1,b2,b3,b4⟩
   rcases I9 n o2 b1 with ⟨rfl,rfl⟩ | ⟨hn,rfl,rfl⟩ | ⟨hn,hn2,h⟩
   ·rw [h2.2 j] at b2;cases b2
   ·obtain ⟨_,e2,e3⟩:=db b2
    have e3:(if j=i then [AV.os nk 0 x.2.1] else o.get j)=[.mr y.1 y.2.1 y.2.2]:=e3
    split at e3
    ·cases e3
    ·rename_i NX
     exact ⟨⟨o,p2,ho,kB Az e2 e3,Ja _ _ hn b3,b4⟩,fun h=>NX h.2⟩
   ·exact ⟨⟨o2,p2,h,b2,Ja _ _ hn b3,b4⟩,fun h=>hn2 h.1⟩
  refine ⟨fun n j y u h=>g.mx.row _ _ _ _ (key n j y u h).1,fun n j y u b h hb n' y' p' h1 h2 h3 he=>?_,fun n j y u b n' j' y' u' h h' hb tp=>g.mx.two _ _ _ _ _ _ _ _ _ (key _ _ _ _ h).1 (key _ _ _ _ h').1 hb tp⟩
  obtain ⟨sf,fP⟩:=key n j y u h
  by_cases hn:n'=nk
  ·subst hn
   cases Rf p' h2
   obtain ⟨e1,e2⟩:=g.mx.two _ _ _ _ _ _ _ _ _ sf hv hb (he ▸ Ky h3)
   exact fP ⟨e1,e2⟩
  ·obtain ⟨y2,F1⟩:=hold n' y' h1 hn
   exact g.mx.obj _ _ _ _ _ sf hb n' y2 p' F1 (Ja _ _ hn h2) h3 he
theorem Good.cls (g:Good E σ S μ w) {k q i:Nat} {o oq:Ob} (ho:ar σ k=some o) (TY:ar σ q=some oq) (hkq:k≠q) (Az:o.var=false) (hvq:oq.var=false) (NY:oq.pr=true) (hsq:1≤oq.sz)
  (hi:i < o.len) (pZ:o.get i=[.os q 0 oq.len]) (C7:∀ j,rowOf oq j=none) :
  Good E (sset (uq σ q) k ⟨false,o.sz,o.len,false,fun m=>if m=i then [.mr oq.sz oq.len oq.get] else o.get m⟩) S μ w:=by
 obtain ⟨pl,c,T,hm,cY⟩:=g.rep.ob k o ho
 obtain ⟨pq,cq,Tq,VL,OB⟩:=g.rep.ob q oq TY
 have qR:o.sz=1:=by have:=cY.s8 i hi;rw [pZ] at this;simpa using this.symm
 let o':Ob:=⟨false,o.sz,o.len,false,fun m=>if m=i then [.mr oq.sz oq.len oq.get] else o.get m⟩
 have I9:∀ n y,ar (sset (uq σ q) k o') n=some y→n≠q∧((n=k∧y=o')∨(n≠k∧ar σ n=some y)):=by
  intro n y h
  rw [aX] at h
  by_cases hn:k=n
  ·simp_all
  ·rw [if_neg hn,fz] at h
   grind
 have hold:∀ n y,ar (sset (uq σ q) k o') n=some y→n≠q∧∃ y',ar σ n=some y':=fun n y h=>by
  grind
 -- the cell that names the row
 have CF:∃ a cap,c[i * o.sz+0]?=some (.slice a oq.len cap)∧w.cell? ⟨pl.cy,i * pl.sz,none⟩=some (.slice a oq.len cap)∧oq.len≤cap∧cap≤pq.cap∧(0 < cap→a=some ⟨pq.cy,0,none⟩):=by
  obtain ⟨u,b1,b2⟩:=cM cY (i:=i) (j:=0) hi (by omega)
  have:=iz (cY.rep i 0 (.os q 0 oq.len) u hi (by rw [pZ];rfl) b1)
  cases this with
  | os jQ gF e1 e2 e3 =>
   rename_i cap a
   rw [VL] at gF;cases gF
   exact ⟨a,cap,b1,by rw [cY.sz];simpa using b2,e2,by omega,fun h=>by rw [e1 h];simp⟩
 obtain ⟨a,cap,d1,d2,d3,d4,d5⟩:=CF
 have vo:IY E.fp E.w0.heap.size w S (.slice a oq.len cap) (oq.sz,oq.len,oq.get):=by
  refine ⟨a,cap,rfl,d3,⟨hsq,fun j=>?_⟩,fun hc=>⟨pq.cy,cq,Tq,d5 hc,⟨rfl,fun _=>?_,?_,d3,fun _=>OB.out (by omega),OB.s8,fun j l y u hj hy hu=>?_,fun hz=>absurd hz (by show oq.sz≠0;omega)⟩,g.own q oq pq TY VL (by omega)⟩⟩
  ·cases hr:rowOf ⟨false,oq.sz,oq.len,true,oq.get⟩ j with
   | none=>rfl
   | some y =>
    obtain ⟨_,r2,r3⟩:=db hr
    have:=kB hvq r2 r3
    simp_all
  ·exact OB.cy (by omega)
  ·exact dU (dE _ d4) OB.cap
  ·have:=OB.rep j l y u hj hy hu
   simp_all
 have key:∀ n j y u,iJ w μ (sset (uq σ q) k o') n j y u→(iJ w μ σ n j y u∧¬ (n=k∧j=i))∨(n=k∧j=i∧y=(oq.sz,oq.len,oq.get)∧u=.slice a oq.len cap):=by
  rintro n j y u ⟨o2,p2,b1,b2,b3,b4⟩
  obtain ⟨h0,⟨rfl,rfl⟩ | ⟨hn,h1⟩⟩:=I9 n o2 b1
  ·rw [hm] at b3;cases b3
   obtain ⟨_,e2,e3⟩:=db b2
   have e4:(if j=i then [AV.mr oq.sz oq.len oq.get] else o.get j)=[.mr y.1 y.2.1 y.2.2]:=e3
   clear e3
   by_cases NX:j=i
   ·simp_all
   ·rw [if_neg NX] at e4
    have e3:=e4
    exact .inl ⟨⟨o,pl,ho,kB Az e2 e3,hm,b4⟩,fun h=>NX h.2⟩
  ·exact .inl ⟨⟨o2,p2,h1,b2,b3,b4⟩,fun h=>hn h.1⟩
 have Ky:∀ b,ptrTo (.slice a oq.len cap) b→pq.cy=b∧0 < pq.cap:=by
  rintro b ⟨l,cp,e,hc⟩
  injection e with e1 e2 e3
  subst e3
  rw [d5 hc] at e1
  injection e1 with e1
  injection e1 with e1
  exact ⟨e1,by omega⟩
 refine ⟨g.fr,g.S0,g.S1,g.S2,⟨fun n y h=>?_,fun n n' y y' p p' fP h h' hp rV hc oe=>?_⟩,fun n y p h hp hc=>?_,g.CC,?_⟩
 ·obtain ⟨h0,⟨rfl,rfl⟩ | ⟨hn,h1⟩⟩:=I9 n y h
  ·exact ⟨pl,c,T,hm,cY.OA (by omega) (fun _ _ h=>h) i _ (by rw [qR];rfl) fun j y u _ hy hu=>by
    cases j with
    | zero=>simp at hy;subst hy;exact .mr
    | succ j=>simp at hy⟩
  ·exact g.rep.ob n y h1
 ·obtain ⟨_,y2,F1⟩:=hold n y h
  obtain ⟨_,X9,TX⟩:=hold n' y' h'
  exact g.rep.ne n n' y2 X9 p p' fP F1 TX hp rV hc oe
 ·obtain ⟨_,y2,F1⟩:=hold n y h
  exact g.own n y2 p F1 hp hc
 ·refine ⟨fun n j y u h=>?_,fun n j y u b h hb n' y' p' h1 h2 h3 he=>?_,fun n j y u b n' j' y' u' h h' hb tp=>?_⟩
  ·rcases key n j y u h with ⟨h,_⟩ | ⟨_,_,rfl,rfl⟩
   ·exact g.mx.row _ _ _ _ h
   ·exact vo
  ·obtain ⟨hnq,y2,F1⟩:=hold n' y' h1
   rcases key n j y u h with ⟨h,_⟩ | ⟨_,_,rfl,rfl⟩
   ·exact g.mx.obj _ _ _ _ _ h hb n' y2 p' F1 h2 h3 he
   ·obtain ⟨e1,e2⟩:=Ky b hb
    exact g.rep.ne n' q y2 oq p' pq hnq F1 TY h2 VL h3 e2 (he.trans e1.symm)
  ·rcases key n j y u h with ⟨h,_⟩ | ⟨n1,j1,rfl,rfl⟩<;>rcases key n' j' y' u' h' with ⟨h',_⟩ | ⟨n2,j2,rfl,rfl⟩
   ·exact g.mx.two _ _ _ _ _ _ _ _ _ h h' hb tp
   ·obtain ⟨e1,e2⟩:=Ky b tp
    exact (g.mx.obj _ _ _ _ _ h hb q oq pq TY VL e2 e1).elim
   ·obtain ⟨e1,e2⟩:=Ky b hb
    exact (g.mx.obj _ _ _ _ _ h' tp q oq pq TY VL e2 e1).elim
   ·exact ⟨n1.trans n2.symm,j1.trans j2.symm⟩
end
mutual
def AV.jV (f:Nat→Option Nat):AV→AV
 | .op k i j=>match f k with
  | some k'=>.op k' i j
  | none=>.mn
 | .os k off len=>match f k with
  | some k'=>.os k' off len
  | none=>.mn
 | .agg cs=>.agg (AV.tM f cs)
 | .tup cs=>.tup (AV.tM f cs)
 | .fn g a b=>.fn g (AV.tM f a) (AV.tM f b)
 | .when b x=>.when b (x.jV f)
 | .mp k=>match f k with
  | some k'=>.mp k'
  | none=>.mn
 | .bn n=>.bn n
 | .pt b cs=>.pt b cs
 | .atom v=>.atom v
 | .sl n g=>.sl n g
 | .rp c o=>.rp c o
 | .ov _ _ _ _ _=>.mn
 | .Bw _ _ _=>.mn
 | .nq st x=>.nq st (x.jV f)
 | .nil=>.nil
 | .mn=>.mn
 | .mr sz n g=>.mr sz n g
def AV.tM (f:Nat→Option Nat):List AV→List AV
 | []=>[]
 | c :: cs=>c.jV f :: AV.tM f cs
end
theorem vz (f:Nat→Option Nat) (cs:List AV):AV.tM f cs=cs.map (·.jV f):=by
 induction cs with
 | nil=>rfl
 | cons c cs ih=>simp [AV.tM,ih]
theorem ao.jV {w:World} {S:Nat→Prop} {μ:Mu} {v:Value} {x:AV} (h:ao w S μ v x) :
  ∀ {da:Mu} {f:Nat→Option Nat},(∀ k k' pl,f k=some k'→μ k=some pl→da k'=some pl)→ao w S da v (x.jV f):=by
 induction h with
 | atom v=>exact fun _=>.atom v
 | agg h1 h2 ih =>
  intro da f hf
  simp only [AV.jV,vz]
  refine .agg (by simp [h1]) fun j c v hc hv=>?_
  grind
 | tup h1 h2 ih =>
  intro da f hf
  simp only [AV.jV,vz]
  refine .tup (by simp [h1]) fun j c v hc hv=>?_
  grind
 | sl b off sz f h1 h2 h3 h4 h5 _=>exact fun _=>.sl b off sz f h1 h2 h3 h4 h5
 | rp b o f h1 h2 h3 _=>exact fun _=>.rp b o f h1 h2 h3
 | @op μ k i j pl h =>
  grind [AV.jV,op,mn]
 | @os μ k off len cap a pl h h1 h2 h3 =>
  grind [AV.jV,os,mn]
 | fn h1 h2 _ _ MQ MR =>
  intro da f hf
  simp only [AV.jV,vz]
  refine .fn (by simp [h1]) (by simp [h2]) (fun j c v hc hv=>?_) (fun j c v hc hv=>?_)
  ·grind
  grind
 | when _ hu ih=>exact fun hf=>.when (fun hb=>ih hb hf) hu
 | @mp μ k pl h =>
  grind [AV.jV,mp,mn]
 | bn b h=>exact fun _=>.bn b h
 | pt h1 h2 _ =>
  intro da f hf
  exact .pt (fun hb=>by have:=h1 hb;cases this with
   | rp b o f q1 q2 q3=>exact .rp b o f q1 q2 q3) h2
 | ov=>exact fun _=>.mn
 | Bw=>exact fun _=>.mn
 | nq _ h1 h2 ih=>exact fun hf=>.nq (ih hf) h1 h2
 | nil=>exact fun _=>.nil
 | mn=>exact fun _=>.mn
 | mr=>exact fun _=>.mr
def Ob.jV (f:Nat→Option Nat) (o:Ob):Ob :=
 match o.pr with
 | true=>o
 | false=>{ o with get:=fun i=>AV.tM f (o.get i) }
theorem Ob.sn (f:Nat→Option Nat) (o:Ob):(o.jV f).sz=o.sz:=by grind [Ob.jV]
theorem Ob.yh (f:Nat→Option Nat) (o:Ob):(o.jV f).len=o.len:=by grind [Ob.jV]
theorem Ob.BI (f:Nat→Option Nat) (o:Ob):(o.jV f).pr=o.pr:=by grind [Ob.jV]
theorem OC {f:Nat→Option Nat} {cs:List AV} {sz n:Nat} {g:Nat→List AV} (h:AV.tM f cs=[.mr sz n g]):cs=[.mr sz n g]:=by
 cases cs with
 | nil=>cases h
 | cons c cs =>
  cases cs with
  | cons d ds=>simp [AV.tM] at h
  | nil =>
   simp only [AV.tM,List.cons.injEq,and_true] at h
   cases c with
   | op=>grind [AV.jV]
   | os=>grind [AV.jV]
   | mp=>grind [AV.jV]
   | mr=>simpa [AV.jV] using h
   | _=>cases h
theorem p6 (f:Nat→Option Nat) (o:Ob) (i:Nat) (x:Nat×Nat×(Nat→List AV)):rowOf (o.jV f) i=some x↔rowOf o i=some x:=by
 unfold Ob.jV
 split
 ·exact Iff.rfl
 ·constructor
  ·intro h
   obtain ⟨h1,h2,h3⟩:=db h
   grind [kB,OC]
  ·intro h
   obtain ⟨h1,h2,h3⟩:=db h
   exact kB h1 h2 (by show AV.tM f (o.get i)=_;rw [h3];rfl)
theorem gD.jV {w:World} {S:Nat→Prop} {μ da:Mu} {o:Ob} {pl:Place} {c:Array Value} {T:TypeId} (h:gD w S μ o pl c T) {f:Nat→Option Nat}
  (hf:∀ k k' pl,f k=some k'→μ k=some pl→da k'=some pl):gD w S da (o.jV f) pl c T:=by
 refine ⟨(Ob.sn f o).symm ▸ h.sz,(Ob.sn f o).symm ▸ h.cy,(Ob.sn f o).symm ▸ h.cap,(Ob.yh f o).symm ▸ h.len,h.out,?_,?_,fun hz=>?_⟩
 rotate_left 2
 ·rw [Ob.sn] at hz
  obtain ⟨h0,h1,h2,h3,h4⟩:=h.mp hz
  grind [Ob.jV]
 ·intro i hi
  rw [Ob.yh] at hi
  rw [Ob.sn,← h.s8 i hi]
  grind [Ob.jV,vz]
 ·intro i j x v hi hx hv
  rw [Ob.yh] at hi
  rw [Ob.sn] at hv
  rw [Ob.BI]
  unfold Ob.jV at hx
  split at hx
  ·rename_i hp
   have:=h.rep i j x v hi hx hv
   simp_all
  ·rename_i hp
   simp only [vz,List.getElem?_map,aG] at hx
   obtain ⟨y,hy,rfl⟩:=hx
   have:=h.rep i j y v hi hy hv
   rw [hp] at this ⊢
   exact this.jV hf
def idx:List Nat→Nat→Option Nat
 | [],_=>none
 | a :: r,k=>match Nat.beq a k with
  | true=>some 0
  | false=>(idx r k).map (·+1)
theorem mI:∀ (ks:List Nat) (k i:Nat),idx ks k=some i→ks[i]?=some k
 | [],k,i,h=>by simp [idx] at h
 | a :: r,k,i,h=>by
  simp only [idx] at h
  split at h
  ·rename_i hb
   cases h
   simp [bK hb]
  ·simp only [aG] at h
   obtain ⟨i',qT,rfl⟩:=h
   simpa using mI r k i' qT
mutual
def AV.fX (σ:dn) (ks:List Nat):AV→Option (AV×List Nat×List Prop)
 | .op k i j=>match idx ks k with
  | some n=>some (.op n i j,[],[])
  | none=>some (.mn,[],[])
 | .os k off len=>match idx ks k with
  | some n=>some (.os n off len,[],[])
  | none=>match ar σ k with
   | some o=>match o.pr with
    | true=>some (.sl len (fun i=>o.get (bu off i)),[k],[off+len≤o.len])
    | false=>none
   | none=>none
 | .agg cs=>(AV.pX σ ks cs).map fun (a,b,c)=>(.agg a,b,c)
 | .tup cs=>(AV.pX σ ks cs).map fun (a,b,c)=>(.tup a,b,c)
 | .fn g x y=>match AV.pX σ ks x,AV.pX σ ks y with
  | some (a,b,c),some (a',b',c')=>some (.fn g a a',b ++ b',c ++ c')
  | _,_=>none
 | .when _ _=>none
 | .ov _ _ _ _ _=>none
 | .Bw _ _ _=>none
 | .nq _ _=>none
 | .mp k=>(idx ks k).map fun n=>(.mp n,[],[])
 | .bn n=>some (.bn n,[],[])
 | .pt b cs=>some (.pt b cs,[],[])
 | .atom v=>some (.atom v,[],[])
 | .sl n g=>some (.sl n g,[],[])
 | .rp c o=>some (.rp c o,[],[])
 | .nil=>some (.nil,[],[])
 | .mn=>some (.mn,[],[])
 | .mr _ _ _=>none
def AV.pX (σ:dn) (ks:List Nat):List AV→Option (List AV×List Nat×List Prop)
 | []=>some ([],[],[])
 | c :: cs=>match c.fX σ ks,AV.pX σ ks cs with
  | some (a,b,p),some (a',b',p')=>some (a :: a',b ++ b',p ++ p')
  | _,_=>none
end
def kf (μ:Mu) (ks:List Nat):Mu:=fun i=>(ks[i]?).bind μ
def xm (μ:Mu) (bs:List Nat) (b:Nat):Prop:=∃ k∈bs,∃ pl,μ k=some pl∧0 < pl.cap∧pl.cy=b
theorem xn {μ:Mu} {ks:List Nat}:∀ k i pl,idx ks k=some i→μ k=some pl→kf μ ks i=some pl:=by
 intro k i pl h hm
 simp [kf,mI ks k i h,hm]
section
variable {P:Program} {E:Env} {nk:Nat} {σ:dn} {S:Nat→Prop} {μ:Mu} {w:World}
theorem OD (g:Good E σ S μ w) {ks:List Nat} {v:Value} {x:AV} (h:ao w S μ v x):∀ (S':Nat→Prop),(∀ b,S b→S' b)→∀ {y:AV} {bs:List Nat} {ps:List Prop},
  x.fX σ ks=some (y,bs,ps)→bg ps→(∀ b,xm μ bs b→S' b)→ao w S' (kf μ ks) v y:=by
 have lists:∀ {μ:Mu} {vs:Array Value} {cs:List AV} (S':Nat→Prop),
   (∀ (j:Nat) (c:AV) (v:Value),cs[j]?=some c→vs[j]?=some v→∀ {y:AV} {bs:List Nat} {ps:List Prop},c.fX σ ks=some (y,bs,ps)→bg ps→(∀ b,xm μ bs b→S' b)→ao w S' (kf μ ks) v y) →
   ∀ {ys:List AV} {bs:List Nat} {ps:List Prop},AV.pX σ ks cs=some (ys,bs,ps)→bg ps→(∀ b,xm μ bs b→S' b) →
   ys.length=cs.length∧∀ (j:Nat) (c:AV) (v:Value),ys[j]?=some c→vs[j]?=some v→ao w S' (kf μ ks) v c:=by
  intro μ vs cs S' h
  have gen:∀ (cs:List AV) (o:Nat),(∀ (j:Nat) (c:AV) (v:Value),cs[j]?=some c→vs[o+j]?=some v→∀ {y:AV} {bs:List Nat} {ps:List Prop},c.fX σ ks=some (y,bs,ps)→bg ps→(∀ b,xm μ bs b→S' b)→ao w S' (kf μ ks) v y) →
   ∀ {ys:List AV} {bs:List Nat} {ps:List Prop},AV.pX σ ks cs=some (ys,bs,ps)→bg ps→(∀ b,xm μ bs b→S' b) →
   ys.length=cs.length∧∀ (j:Nat) (c:AV) (v:Value),ys[j]?=some c→vs[o+j]?=some v→ao w S' (kf μ ks) v c:=by
   intro cs
   induction cs with
   | nil =>
    intro o _ ys bs ps h _ _
    simp [AV.pX] at h
    simp_all
   | cons c cs ih =>
    intro o hh ys bs ps h hp hb
    simp only [AV.pX] at h
    split at h
    ·rename_i a b p a' b' p' h1 h2
     simp only [aA,az] at h
     obtain ⟨rfl,rfl,rfl⟩:=h
     obtain ⟨xa,wM⟩:=bg.app hp
     have Xh:=ih (o+1) (fun j c v hc hv=>hh (j+1) c v (by simpa using hc) (by grind)) h2 wM (fun q hq=>hb q (by obtain ⟨k,hk,r⟩:=hq;exact ⟨k,by simp [hk],r⟩))
     refine ⟨by simp [Xh.1],?_⟩
     intro j c' v hc hv
     cases j with
     | zero =>
      simp at hc;subst hc
      exact hh 0 c v (by simp) hv h1 xa (fun q hq=>hb q (by obtain ⟨k,hk,r⟩:=hq;exact ⟨k,by simp [hk],r⟩))
     | succ j=>grind
    ·cases h
  intro ys bs ps h1 h2 h3
  have:=gen cs 0 (fun j c v hc hv=>h j c v hc (by simpa using hv)) h1 h2 h3
  exact ⟨this.1,fun j c v hc hv=>this.2 j c v hc (by simpa using hv)⟩
 intro S' hS
 have h0:=h
 clear h
 have key:∀ {CH:Mu} {v:Value} {x:AV},ao w S CH v x→CH=μ→∀ {y:AV} {bs:List Nat} {ps:List Prop},x.fX σ ks=some (y,bs,ps)→bg ps→(∀ b,xm μ bs b→S' b)→ao w S' (kf μ ks) v y:=by
  intro CH v x h
  induction h with
  | atom v=>intro _ y bs ps h _ _;simp [AV.fX] at h;obtain ⟨rfl,_,_⟩:=h;exact .atom v
  | agg h1 h2 ih =>
   intro e y bs ps h hp hb
   subst e
   simp only [AV.fX,aG] at h
   obtain ⟨⟨a,b,c⟩,h,e⟩:=h
   simp only [az] at e
   obtain ⟨rfl,rfl,rfl⟩:=e
   obtain ⟨q1,q2⟩:=lists S' (fun j c v hc hv=>ih j c v hc hv rfl) h hp hb
   exact .agg (h1.trans q1.symm) q2
  | tup h1 h2 ih =>
   intro e y bs ps h hp hb
   subst e
   simp only [AV.fX,aG] at h
   obtain ⟨⟨a,b,c⟩,h,e⟩:=h
   simp only [az] at e
   obtain ⟨rfl,rfl,rfl⟩:=e
   obtain ⟨q1,q2⟩:=lists S' (fun j c v hc hv=>ih j c v hc hv rfl) h hp hb
   exact .tup (h1.trans q1.symm) q2
  | @sl CH a len cap get b off sz f h1 h2 h3 h4 h5 _ =>
   intro _ y bs ps h _ _
   simp [AV.fX] at h;obtain ⟨rfl,_,_⟩:=h
   have:=(ao.sl (μ:=kf μ ks) b off sz f h1 h2 h3 h4 h5)
   exact this.mono hS (fun _ _=>rfl) (fun _ _ h=>h)
  | @rp CH cs off b o f h1 h2 h3 _ =>
   intro _ y bs ps h _ _
   simp [AV.fX] at h;obtain ⟨rfl,_,_⟩:=h
   have:=(ao.rp (μ:=kf μ ks) (off:=off) b o f h1 h2 h3)
   exact this.mono hS (fun _ _=>rfl) (fun _ _ h=>h)
  | @op CH k i j pl hm =>
   intro e y bs ps h _ _
   subst e
   simp only [AV.fX] at h
   split at h
   ·rename_i n hn
    simp at h;obtain ⟨rfl,_,_⟩:=h
    exact .op pl (xn _ _ _ hn hm)
   ·simp at h;obtain ⟨rfl,_,_⟩:=h
    exact .mn
  | @os CH k off len cap a pl hm h1 h2 h3 =>
   intro e y bs ps h hp hb
   subst e
   simp only [AV.fX] at h
   split at h
   ·rename_i n hn
    simp at h;obtain ⟨rfl,_,_⟩:=h
    exact .os pl (xn _ _ _ hn hm) h1 h2 h3
   ·split at h
    ·rename_i o ho
     split at h
     ·rename_i Kn
      simp only [aA,az] at h
      obtain ⟨hy,rfl,rfl⟩:=h
      have hle:=hp.1
      obtain ⟨jQ,c,T,gF,cY⟩:=g.rep.ob k o ho
      rw [hm] at gF;cases gF
      have TL:y=.sl len fun i=>o.get (off+i):=by
       rw [← hy]
       simp only [dg]
      rw [TL]
      refine .sl pl.cy (off * pl.sz) o.sz (fun i j=>(c[(off+i) * o.sz+j]?).getD undef) ?_ (fun i hi=>cY.s8 _ (by omega)) ?_ ?_ h2
      ·intro hl
       exact ⟨h1 (by omega),hb _ ⟨k,by simp,pl,hm,by omega,rfl⟩⟩
      ·intro i j hi hj
       obtain ⟨v,q1,q2⟩:=cM cY (i:=off+i) (by omega) hj
       rw [q1,cY.sz,← cr,q2];rfl
      ·intro i j c' hi oe
       obtain ⟨v,q1,q2⟩:=cM cY (i:=off+i) (by omega) (by have:=(dD.1 oe).1;rwa [cY.s8 _ (by omega)] at this)
       rw [q1]
       have:=cY.rep _ j c' v (by omega) oe q1
       rw [Kn] at this
       exact ao.mono (S:=S) (S':=S') hS (fun _ _=>rfl) this (fun _ _ h=>h)
     ·cases h
    ·cases h
  | fn h1 h2 _ _ MQ MR =>
   intro e y bs ps h hp hb
   subst e
   simp only [AV.fX] at h
   split at h
   ·rename_i a b c a' b' c' e1 e2
    simp only [aA,az] at h
    obtain ⟨rfl,rfl,rfl⟩:=h
    obtain ⟨xa,wM⟩:=bg.app hp
    obtain ⟨q1,q2⟩:=lists S' (fun j c v hc hv=>MQ j c v hc hv rfl) e1 xa (fun q hq=>hb q (by obtain ⟨k,hk,r⟩:=hq;exact ⟨k,by simp [hk],r⟩))
    obtain ⟨r1,r2⟩:=lists S' (fun j c v hc hv=>MR j c v hc hv rfl) e2 wM (fun q hq=>hb q (by obtain ⟨k,hk,r⟩:=hq;exact ⟨k,by simp [hk],r⟩))
    exact .fn (h1.trans q1.symm) (h2.trans r1.symm) q2 r2
   ·cases h
  | when=>intro _ y bs ps h;simp [AV.fX] at h
  | ov=>intro _ y bs ps h;simp [AV.fX] at h
  | Bw=>intro _ y bs ps h;simp [AV.fX] at h
  | nq=>intro _ y bs ps h;simp [AV.fX] at h
  | @mp CH k pl hm =>
   intro e y bs ps h _ _
   subst e
   simp only [AV.fX,aG,az] at h
   obtain ⟨n,hn,rfl,_,_⟩:=h
   exact .mp pl (xn _ _ _ hn hm)
  | bn b hb=>intro _ y bs ps h _ _;simp [AV.fX] at h;obtain ⟨rfl,_,_⟩:=h;exact .bn b hb
  | pt h1 h2 _ =>
   intro _ y bs ps h _ _
   simp [AV.fX] at h;obtain ⟨rfl,_,_⟩:=h
   refine .pt (fun hb=>?_) h2
   have:=h1 hb
   cases this with
   | rp b o f q1 q2 q3 =>
    have:=(ao.rp (μ:=kf μ ks) (off:=0) b o f q1 q2 q3)
    exact this.mono hS (fun _ _=>rfl) (fun _ _ h=>h)
  | nil=>intro _ y bs ps h _ _;simp [AV.fX] at h;obtain ⟨rfl,_,_⟩:=h;exact .nil
  | mn=>intro _ y bs ps h _ _;simp [AV.fX] at h;obtain ⟨rfl,_,_⟩:=h;exact .mn
  | mr=>intro _ y bs ps h;simp [AV.fX] at h
 intro y bs ps h1 h2 h3
 exact key h0 rfl h1 h2 h3
end
end Go.Ab
namespace Go.Ab
structure YC where
 l:Nat
 as:List AV
 k:Nat
 o:Ob
 o':Ob
structure nG where
 ks:List Nat
 same:Bool
 res:AV
 mJ:dn
 dec:Nat
 wg:Bool
 y:Option YC
def Ya:Option nG→Option YC
 | none=>none
 | some o=>o.y
def Yb:Option nG→Nat
 | none=>0
 | some o=>o.dec
def Yc:Option nG→AV
 | none=>.mn
 | some o=>o.res
structure R where
 GO:List Prop
 val:AV
 IL:List Nat
 ld:qS
def Jb (P:Program) (g:FuncId):Bool :=
 match P.funcs[g]? with
 | some fn=>fn.body.isSome && !(fn.name == "runtime.NumGoroutine")
 | none=>false
def canon (σ:dn) (ks:List Nat):Nat→List Nat→Option dn
 | _,[]=>some []
 | i,k :: r=>match ar σ k,canon σ ks (i+1) r with
  | some o,some t=>some ((i,o.jV (idx ks)) :: t)
  | _,_=>none
def back (ks:List Nat) (nk n:Nat):Option Nat :=
 match ks[n]? with
 | some k=>some k
 | none=>match Nat.blt n (ks.length+16) with
  | true=>some (nk+(n - ks.length))
  | false=>none
def zk (ks:List Nat) (nk:Nat) (dX:dn):Nat→List Nat→qS
 | _,[]=>[]
 | i,k :: r=>(k,(ar dX i).map (Ob.jV (back ks nk))) :: zk ks nk dX (i+1) r
def AA (ks:List Nat) (nk:Nat):dn→qS
 | []=>[]
 | (n,o) :: r=>match Nat.ble ks.length n with
  | true=>(nk+(n - ks.length),some (o.jV (back ks nk))) :: AA ks nk r
  | false=>AA ks nk r
def mg:List Nat→Bool
 | []=>true
 | k :: r=>(idx r k).isNone && mg r
def Eg (n:Nat):dn→Bool
 | []=>true
 | (k,_) :: r=>Nat.blt k n && Eg n r
def Ob.flat (o:Ob):Bool:=o.var && Nat.beq o.len 1 && Nat.ble 1 o.sz && AV.xd (o.get 0)
mutual
def AV.IM:AV→Bool
 | .atom _ | .op _ _ _ | .os _ _ _ | .mp _ | .bn _ | .nil=>true
 | .agg cs | .tup cs=>AV.M6 cs
 | .fn _ a b=>AV.M6 a && AV.M6 b
 | _=>false
def AV.M6:List AV→Bool
 | []=>true
 | c :: cs=>c.IM && AV.M6 cs
end
theorem Eh {cs:List AV} (h:AV.M6 cs=true) {j:Nat} {c:AV} (hc:cs[j]?=some c):c.IM=true:=by
 induction cs generalizing j with
 | nil=>simp at hc
 | cons x xs ih =>
  simp only [AV.M6,bc] at h
  grind
theorem ao.IM {w:World} {S:Nat→Prop} {μ:Mu} {v:Value} {x:AV} (h:ao w S μ v x):x.IM=true→∀ w' S',ao w' S' μ v x:=by
 induction h with
 | atom v=>grind [atom]
 | agg h1 _ ih=>grind [agg,Eh,AV.IM]
 | tup h1 _ ih=>grind [tup,Eh,AV.IM]
 | op pl h=>grind [op]
 | os pl h h1 h2 h3=>grind [os]
 | fn h1 h2 _ _ MQ MR =>
  intro hp w' S'
  simp only [AV.IM,bc] at hp
  grind [fn,Eh]
 | mp pl h=>grind [mp]
 | bn b h=>grind [bn]
 | nil=>exact fun _ _ _=>.nil
 | sl=>grind [AV.IM]
 | rp=>grind [AV.IM]
 | when=>grind [AV.IM]
 | pt=>grind [AV.IM]
 | ov=>grind [AV.IM]
 | Bw=>grind [AV.IM]
 | nq=>grind [AV.IM]
 | mn=>grind [AV.IM]
 | mr=>grind [AV.IM]
def tu (o:Ob):Option (List Prop) :=
 match o.flat with
 | true=>some []
 | false=>match o.pr && Nat.ble 1 o.sz with
  | true=>some [∀ i,i < o.len→AV.xd (o.get i)=true]
  | false=>none
def AB (lone:Bool):dn→Option (List Prop)
 | []=>some []
 | (_,o) :: r=>match lone with
  | true=>some []
  | false=>match tu o,AB lone r with
   | some p,some q=>some (p ++ q)
   | _,_=>none
mutual
def AV.closed (f:Nat→Option Nat):AV→Bool
 | .op k _ _=>(f k).isSome
 | .os k _ _=>(f k).isSome
 | .mp k=>(f k).isSome
 | .ov _ _ _ _ _ | .Bw _ _ _ | .mr _ _ _=>false
 | .agg cs | .tup cs=>AV.vA f cs
 | .fn _ a b=>AV.vA f a && AV.vA f b
 | .when _ x=>x.closed f
 | .nq _ x=>x.closed f
 | _=>true
def AV.vA (f:Nat→Option Nat):List AV→Bool
 | []=>true
 | c :: cs=>c.closed f && AV.vA f cs
end
def Ob.closed (f:Nat→Option Nat) (o:Ob):Bool:=o.pr || (o.var && Nat.beq o.len 1 && AV.vA f (o.get 0))
def Ei:List AV→Bool
 | [.mr _ _ _]=>true
 | _=>false
theorem GP {f:Nat→Option Nat} {l:List AV} (h:Ei l=true):AV.tM f l=l:=by
 unfold Ei at h
 split at h
 ·rfl
 ·cases h
def BJ (ks:List Nat) (lone:Bool) (o:Ob):Option (List Prop) :=
 match o.flat || (lone && o.closed (idx ks)) with
 | true=>some []
 | false=>match o.pr with
  | true=>tu o
  | false=>match lone && !o.var with
   | true=>some [∀ i,i < o.len→Ei (o.get i)=true]
   | false=>none
def xp (σ:dn) (ks:List Nat) (lone:Bool):List Nat→Option (List Prop)
 | []=>some []
 | k :: r=>match ar σ k with
  | some o=>match BJ ks lone o,xp σ ks lone r with
   | some p,some q=>some (p ++ q)
   | _,_=>none
  | none=>none
mutual
theorem Ej {f g:Nat→Option Nat} (NZ:∀ k i,f k=some i→g i=some k):∀ (x:AV),x.closed f=true→(x.jV f).jV g=x
 | .op k i j,h=>by
  obtain ⟨n,hn⟩:=Option.isSome_iff_exists.1 (by simpa [AV.closed] using h)
  simp [AV.jV,hn,NZ k n hn]
 | .os k i j,h=>by
  obtain ⟨n,hn⟩:=Option.isSome_iff_exists.1 (by simpa [AV.closed] using h)
  simp [AV.jV,hn,NZ k n hn]
 | .agg cs,h=>by simp only [AV.jV];rw [rX NZ cs (by simpa [AV.closed] using h)]
 | .tup cs,h=>by simp only [AV.jV];rw [rX NZ cs (by simpa [AV.closed] using h)]
 | .fn q a b,h=>by
  simp only [AV.closed,bc] at h
  simp only [AV.jV];rw [rX NZ a h.1,rX NZ b h.2]
 | .when b x,h=>by simp only [AV.jV];rw [Ej NZ x (by simpa [AV.closed] using h)]
 | .nq b x,h=>by simp only [AV.jV];rw [Ej NZ x (by simpa [AV.closed] using h)]
 | .mp k,h=>by
  obtain ⟨n,hn⟩:=Option.isSome_iff_exists.1 (by simpa [AV.closed] using h)
  simp [AV.jV,hn,NZ k n hn]
 | .ov _ _ _ _ _,h=>by simp [AV.closed] at h
 | .Bw _ _ _,h=>by simp [AV.closed] at h
 | .mr _ _ _,h=>by simp [AV.closed] at h
 | .bn _,_=>rfl
 | .pt _ _,_=>rfl
 | .atom _,_=>rfl
 | .sl _ _,_=>rfl
 | .rp _ _,_=>rfl
 | .nil,_=>rfl
 | .mn,_=>rfl
theorem rX {f g:Nat→Option Nat} (NZ:∀ k i,f k=some i→g i=some k):∀ (cs:List AV),AV.vA f cs=true→AV.tM g (AV.tM f cs)=cs
 | [],_=>rfl
 | c :: cs,h=>by
  simp only [AV.vA,bc] at h
  simp only [AV.tM]
  rw [Ej NZ c h.1,rX NZ cs h.2]
end
theorem Ek:∀ (ks:List Nat),mg ks=true→∀ (i j k:Nat),ks[i]?=some k→ks[j]?=some k→i=j
 | [],_,i,j,k,h,_=>by simp at h
 | a :: r,h,i,j,k,hi,hj=>by
  simp only [mg,bc] at h
  have none:∀ n:Nat,r[n]?=some a→False:=by
   intro n hn
   have:∀ (l:List Nat) (n:Nat),l[n]?=some a→(idx l a).isSome=true:=by
    intro l
    induction l with
    | nil=>intro n hn;simp at hn
    | cons b l ih =>
     intro n hn
     simp only [idx]
     cases hb:Nat.beq b a with
     | true=>rfl
     | false =>
      cases n with
      | zero=>simp at hn;rw [hn] at hb;simp at hb
      | succ n=>simpa using ih n (by simpa using hn)
   have:=this r n hn
   rw [Option.isNone_iff_eq_none] at h
   rw [h.1] at this
   cases this
  cases i with
  | zero =>
   simp at hi;subst hi
   cases j with
   | zero=>rfl
   | succ j=>exact (none j (by simpa using hj)).elim
  | succ i =>
   cases j with
   | zero=>simp at hj;subst hj;exact (none i (by simpa using hi)).elim
   | succ j=>rw [Ek r h.2 i j k (by simpa using hi) (by simpa using hj)]
theorem lX:∀ (ks:List Nat) (k:Nat),idx ks k=none→∀ i:Nat,ks[i]?≠some k
 | [],k,_,i=>by simp
 | a :: r,k,h,i=>by
  simp only [idx] at h
  split at h
  ·cases h
  ·rename_i hb
   have h':idx r k=none:=by simpa using h
   cases i with
   | zero=>intro e;simp_all
   | succ i=>simpa using lX r k h' i
theorem GQ {σ:dn} {ks:List Nat}:∀ (l:List Nat) (i:Nat) (qU:dn),canon σ ks i l=some qU →
  ∀ n,ar qU n=if i≤n then ((l[n - i]?).bind (ar σ)).map (Ob.jV (idx ks)) else none
 | [],i,qU,h,n=>by grind [canon,ar]
 | k :: r,i,qU,h,n=>by
  simp only [canon] at h
  split at h
  ·rename_i o t ho ht
   cases h
   simp only [ar]
   by_cases pS:i=n
   ·simp_all
   ·rw [oH pS]
    show ar t n=_
    rw [GQ r (i+1) t ht n]
    grind
  ·cases h
theorem yi {σ:dn} {ks:List Nat}:∀ (l:List Nat) (i:Nat) (qU:dn),canon σ ks i l=some qU→∀ k∈l,∃ o,ar σ k=some o
 | [],i,qU,h,k,hk=>by simp at hk
 | a :: r,i,qU,h,k,hk=>by
  simp only [canon] at h
  split at h
  ·rename_i o t ho ht
   rcases kz.1 hk with rfl | hk
   ·exact ⟨o,ho⟩
   ·exact yi r (i+1) t ht k hk
  ·cases h
theorem BK {ks:List Nat} {nk:Nat} {dX:dn}:∀ (l:List Nat) (i:Nat) (σ:dn) (n:Nat),(∀ a b k:Nat,l[a]?=some k→l[b]?=some k→a=b) →
  ar (eF σ (zk ks nk dX i l)) n=match idx l n with
   | some j=>(ar dX (i+j)).map (Ob.jV (back ks nk))
   | none=>ar σ n
 | [],i,σ,n,_=>by simp [zk,eF,idx]
 | k :: r,i,σ,n,hd=>by
  have Vi:∀ a b k:Nat,r[a]?=some k→r[b]?=some k→a=b:=fun a b q ha hb=>by
   have:=hd (a+1) (b+1) q (by simpa using ha) (by simpa using hb)
   omega
  have VI:idx r k=none:=by
   cases hq:idx r k with
   | none=>rfl
   | some j =>
    have:=mI r k j hq
    have:=hd 0 (j+1) k (by simp) (by simpa using this)
    omega
  simp only [zk]
  have step:ar (eF σ ((k,(ar dX i).map (Ob.jV (back ks nk))) :: zk ks nk dX (i+1) r)) n=match idx r n with
    | some j=>(ar dX (i+1+j)).map (Ob.jV (back ks nk))
    | none=>if k=n then (ar dX i).map (Ob.jV (back ks nk)) else ar σ n:=by
   cases hs:(ar dX i).map (Ob.jV (back ks nk)) with
   | some o =>
    simp only [eF]
    rw [BK r (i+1) _ n Vi,aX]
   | none =>
    simp only [eF]
    rw [BK r (i+1) _ n Vi,fz]
  rw [step]
  simp only [idx]
  by_cases wc:k=n
  ·subst wc
   rw [VI,rm rfl]
   simp
  ·rw [oH wc]
   cases hq:idx r n with
   | none=>simp [wc]
   | some j=>simp only [Option.map_some];rw [show i+1+j=i+(j+1) by omega]
def uv (z:Bool) (bs:List Nat):qS:=match z with
 | true=>bs.map fun k=>(k,none)
 | false=>[]
theorem lY (z:Bool):∀ (bs:List Nat) (σ:dn) (n:Nat),ar (eF σ (uv z bs)) n=if z=true∧n∈bs then none else ar σ n:=by
 cases z with
 | false=>grind [uv,eF]
 | true =>
  intro bs
  induction bs with
  | nil=>grind [uv,eF]
  | cons k r ih =>
   intro σ n
   have:=ih (uq σ k) n
   simp only [uv,List.map_cons,eF] at this ⊢
   rw [this,fz]
   by_cases h:k=n
   ·subst h;simp
   ·have h':¬ n=k:=fun e=>h e.symm
    simp [h,h']
theorem gl:∀ (u v:qS) (σ:dn),eF σ (u ++ v)=eF (eF σ u) v
 | [],v,σ=>rfl
 | (k,some o) :: r,v,σ=>by simp only [List.cons_append,eF];exact gl r v _
 | (k,none) :: r,v,σ=>by simp only [List.cons_append,eF];exact gl r v _
def HK (n:Nat):dn→Bool
 | []=>true
 | (k,_) :: r=>Nat.ble n k && HK n r
theorem GR {n:Nat}:∀ {τ:dn},HK n τ=true→∀ j,j < n→ar τ j=none
 | [],_,_,_=>rfl
 | (k,o) :: r,h,j,hj=>by
  simp only [HK,bc] at h
  simp only [ar]
  rw [oH (by have:=Nat.le_of_ble_eq_true h.1;omega)]
  exact GR h.2 j hj
theorem El:∀ (σ τ:dn) (n:Nat),ar (σ ++ τ) n=match ar σ n with
  | some o=>some o
  | none=>ar τ n
 | [],τ,n=>rfl
 | (k,o) :: r,τ,n=>by
  simp only [List.cons_append,ar]
  split
  ·rfl
  ·exact El r τ n
def AD (P:Program) (ob:FuncId→List AV→dn→Nat→AV→dn→Prop) (nk:Nat) (σ:dn) (f:AV) (args:List AV) (bd:nG):Option R :=
 match f with
 | .fn (.func g) first cap=>match Jb P g,AV.pX σ bd.ks (first ++ (args ++ cap)),canon σ bd.ks 0 bd.ks with
  | true,some (as,bs,ps),some qU=>match mg bd.ks && (bs.isEmpty || bd.wg || bd.res.IM) with
   | true=>match bd.same with
    | true=>match bd.mJ with
     | []=>match xp σ bd.ks (bs.isEmpty || bd.wg) bd.ks with
      | some qs=>some ⟨ob g as qU bd.ks.length bd.res qU :: (qs ++ ps),bd.res.jV (back bd.ks nk),bd.ks ++ bs,uv bd.wg bs⟩
      | none=>none
     | q :: τ=>match bs.isEmpty || bd.wg,xp σ bd.ks true bd.ks,HK bd.ks.length (q :: τ) && Eg (bd.ks.length+16) (q :: τ) && mg ((q :: τ).map (·.1)) with
      | true,some qs,true=>some ⟨ob g as qU bd.ks.length bd.res (qU ++ q :: τ) :: (qs ++ ps),bd.res.jV (back bd.ks nk),bd.ks ++ bs,AA bd.ks nk (q :: τ) ++ uv bd.wg bs⟩
      | _,_,_=>none
    | false=>match Eg (bd.ks.length+16) bd.mJ && mg (bd.mJ.map (·.1)),AB (bs.isEmpty || bd.wg) bd.mJ with
     | true,some qs=>some ⟨ob g as qU bd.ks.length bd.res bd.mJ :: (qs ++ ps),bd.res.jV (back bd.ks nk),bd.ks ++ bs,zk bd.ks nk bd.mJ 0 bd.ks ++ (AA bd.ks nk bd.mJ ++ uv bd.wg bs)⟩
     | _,_=>none
   | false=>none
  | _,_,_=>none
 | _=>none
def Em (P:Program) (nk:Nat) (σ:dn) (f:AV) (args:List AV) (bd:nG):Option R:=AD P (Sound P) nk σ f args bd
theorem uw {ks:List Nat} {nk:Nat}:∀ (τ σ:dn) (n:Nat),Eg (ks.length+16) τ=true→(n < nk∨nk+16≤n)→ar (eF σ (AA ks nk τ)) n=ar σ n
 | [],σ,n,_,_=>rfl
 | (k,o) :: r,σ,n,hl,hn=>by
  simp only [Eg,bc] at hl
  have hk:k < ks.length+16:=by
   have:=hl.1
   simp only [Nat.blt,Nat.ble_eq] at this
   exact this
  simp only [AA]
  split
  ·rename_i hb
   have hb:=Nat.le_of_ble_eq_true hb
   simp only [eF]
   rw [uw r _ n hl.2 hn,aX,if_neg (by omega)]
  ·exact uw r σ n hl.2 hn
theorem Jc:∀ (τ:dn) (n:Nat) (o:Ob),ar τ n=some o→n∈τ.map (·.1)
 | [],n,o,h=>by simp [ar] at h
 | (k,x) :: r,n,o,h=>by
  simp only [ar] at h
  split at h
  ·simp_all
  ·exact List.mem_cons_of_mem _ (Jc r n o h)
theorem AE {ks:List Nat} {nk:Nat}:∀ (τ σ:dn) (j:Nat),mg (τ.map (·.1))=true→ar (eF σ (AA ks nk τ)) (nk+j)=match ar τ (ks.length+j) with
   | some o=>some (o.jV (back ks nk))
   | none=>ar σ (nk+j)
 | [],σ,j,_=>rfl
 | (k,o) :: r,σ,j,hd=>by
  simp only [List.map_cons,mg,bc,Option.isNone_iff_eq_none] at hd
  simp only [AA,ar]
  by_cases hk:k=ks.length+j
  ·subst hk
   rw [rm rfl]
   have C7:ar r (ks.length+j)=none:=by
    cases hs:ar r (ks.length+j) with
    | none=>rfl
    | some x =>
     obtain ⟨i,hi⟩:=List.getElem?_of_mem (Jc r _ x hs)
     grind [lX]
   have Yd:Nat.ble ks.length (ks.length+j)=true:=Nat.ble_eq_true_of_le (by omega)
   rw [Yd]
   simp only [eF]
   rw [AE r _ j hd.2,C7]
   simp_all [aX,if_pos]
  ·rw [oH hk]
   split
   ·rename_i hb
    have hb:=Nat.le_of_ble_eq_true hb
    simp only [eF]
    rw [AE r _ j hd.2]
    split
    ·rfl
    ·rw [aX,if_neg (by omega)]
   ·exact AE r σ j hd.2
mutual
theorem M7 {σ:dn} {ks:List Nat}:∀ (x y:AV) (bs:List Nat) (ps:List Prop),x.fX σ ks=some (y,bs,ps)→∀ k∈bs,idx ks k=none∧∃ o,ar σ k=some o
 | .op k i j,y,bs,ps,h=>by
  simp only [AV.fX] at h
  grind
 | .os k off len,y,bs,ps,h=>by
  simp only [AV.fX] at h
  grind
 | .agg cs,y,bs,ps,h=>by
  simp only [AV.fX,aG] at h
  obtain ⟨⟨a,b,c⟩,h,e⟩:=h
  simp only [az] at e
  obtain ⟨rfl,rfl,rfl⟩:=e
  exact p7 cs a b c h
 | .tup cs,y,bs,ps,h=>by
  simp only [AV.fX,aG] at h
  obtain ⟨⟨a,b,c⟩,h,e⟩:=h
  simp only [az] at e
  obtain ⟨rfl,rfl,rfl⟩:=e
  exact p7 cs a b c h
 | .fn g x z,y,bs,ps,h=>by
  simp only [AV.fX] at h
  split at h
  ·rename_i a b c a' b' c' e1 e2
   simp only [aA,az] at h
   obtain ⟨_,rfl,_⟩:=h
   intro k hk
   rcases List.mem_append.1 hk with hk | hk
   ·exact p7 x a b c e1 k hk
   ·exact p7 z a' b' c' e2 k hk
  ·cases h
 | .when _ _,y,bs,ps,h=>by simp [AV.fX] at h
 | .ov _ _ _ _ _,y,bs,ps,h=>by simp [AV.fX] at h
 | .Bw _ _ _,y,bs,ps,h=>by simp [AV.fX] at h
 | .nq _ _,y,bs,ps,h=>by simp [AV.fX] at h
 | .mr _ _ _,y,bs,ps,h=>by simp [AV.fX] at h
 | .mp k,y,bs,ps,h=>by
  simp only [AV.fX,aG,az] at h
  grind
 | .bn _,y,bs,ps,h=>by simp [AV.fX] at h;simp_all
 | .pt _ _,y,bs,ps,h=>by simp [AV.fX] at h;simp_all
 | .atom _,y,bs,ps,h=>by simp [AV.fX] at h;simp_all
 | .sl _ _,y,bs,ps,h=>by simp [AV.fX] at h;simp_all
 | .rp _ _,y,bs,ps,h=>by simp [AV.fX] at h;simp_all
 | .nil,y,bs,ps,h=>by simp [AV.fX] at h;simp_all
 | .mn,y,bs,ps,h=>by simp [AV.fX] at h;simp_all
theorem p7 {σ:dn} {ks:List Nat}:∀ (xs ys:List AV) (bs:List Nat) (ps:List Prop),AV.pX σ ks xs=some (ys,bs,ps)→∀ k∈bs,idx ks k=none∧∃ o,ar σ k=some o
 | [],ys,bs,ps,h=>by simp [AV.pX] at h;simp_all
 | c :: cs,ys,bs,ps,h=>by
  simp only [AV.pX] at h
  split at h
  ·rename_i a b p a' b' p' e1 e2
   simp only [aA,az] at h
   obtain ⟨_,rfl,_⟩:=h
   intro k hk
   rcases List.mem_append.1 hk with hk | hk
   ·exact M7 c a b p e1 k hk
   ·exact p7 cs a' b' p' e2 k hk
  ·cases h
end
end Go.Ab
namespace Go.Ab
section
variable {P:Program} {E:Env} {nk:Nat} {σ:dn} {S:Nat→Prop} {μ:Mu} {w:World}
theorem RL.append {vs us:Array Value} {cs ds:List AV} (h:RL w S μ vs cs) (k:RL w S μ us ds):RL w S μ (vs ++ us) (cs ++ ds):=by
 refine ⟨by simp [h.1,k.1],?_⟩
 intro j c v hc hv
 have h1:=h.1
 by_cases hj:j < cs.length
 ·rw [ia hj] at hc
  rw [Array.getElem?_append_left (by omega)] at hv
  exact h.2 j c v hc hv
 ·rw [jt (by omega)] at hc
  rw [Array.getElem?_append_right (by omega),h1] at hv
  exact k.2 _ c v hc hv
theorem Rg (g:Good E σ S μ w) {ks:List Nat} {vs:Array Value} {cs ys:List AV} {bs:List Nat} {ps:List Prop} (h:RL w S μ vs cs) (S':Nat→Prop) (hS:∀ b,S b→S' b)
  (hl:AV.pX σ ks cs=some (ys,bs,ps)) (hp:bg ps) (hb:∀ b,xm μ bs b→S' b):RL w S' (kf μ ks) vs ys:=by
 have:=OD g (ks:=ks) (ao.agg h.1 h.2) S' hS (y:=.agg ys) (bs:=bs) (ps:=ps) (by simp [AV.fX,hl]) hp hb
 cases this with
 | agg h1 h2=>exact ⟨h1,h2⟩
theorem LK {w':World} {S' Aq:Nat→Prop} {da D9:Mu} {o:Ob} {pl:Place} {c:Array Value} {T:TypeId} (h:gD w' S' da o pl c T) (hf:o.flat=true) (ho:0 < pl.cap→¬ Aq pl.cy) :
  gD w' Aq D9 o pl c T:=by
 unfold Ob.flat at hf
 simp only [bc] at hf
 have hl:=bK hf.1.1.2
 have M8:=Nat.le_of_ble_eq_true hf.1.2
 refine { h with out:=ho,rep:=?_,mp:=fun hz=>absurd hz (by omega) }
 intro i j x v hi hx hv
 have:i=0:=by omega
 subst this
 exact (h.rep 0 j x v hi hx hv).flat (um hf.2 hx) _ _ _
mutual
theorem M9:∀ (x:AV),x.flat=true→x.pure=true
 | .atom _,_=>rfl
 | .nil,_=>rfl
 | .bn _,_=>rfl
 | .pt _ _,h=>by simp [AV.flat] at h
 | .mp _,h=>by simp [AV.flat] at h
 | .ov _ _ _ _ _,h=>by simp [AV.flat] at h
 | .Bw _ _ _,h=>by simp [AV.flat] at h
 | .nq _ _,h=>by simp [AV.flat] at h
 | .agg cs,h=>p8 cs h
 | .tup cs,h=>p8 cs h
 | .fn _ a b,h=>by
  simp only [AV.flat,bc] at h
  simp only [AV.pure,bc]
  exact ⟨p8 a h.1,p8 b h.2⟩
 | .sl _ _,h=>by simp [AV.flat] at h
 | .rp _ _,h=>by simp [AV.flat] at h
 | .op _ _ _,h=>by simp [AV.flat] at h
 | .os _ _ _,h=>by simp [AV.flat] at h
 | .when _ _,h=>by simp [AV.flat] at h
 | .mn,h=>by simp [AV.flat] at h
 | .mr _ _ _,h=>by simp [AV.flat] at h
theorem p8:∀ (cs:List AV),AV.xd cs=true→AV.lz cs=true
 | [],_=>rfl
 | c :: cs,h=>by
  simp only [AV.xd,bc] at h
  simp only [AV.lz,bc]
  exact ⟨M9 c h.1,p8 cs h.2⟩
end
mutual
theorem En {f:Nat→Option Nat}:∀ (x:AV),x.pure=true→x.jV f=x
 | .op _ _ _,h=>by simp [AV.pure] at h
 | .os _ _ _,h=>by simp [AV.pure] at h
 | .mp _,h=>by simp [AV.pure] at h
 | .ov _ _ _ _ _,h=>by simp [AV.pure] at h
 | .Bw _ _ _,h=>by simp [AV.pure] at h
 | .mr _ _ _,h=>by simp [AV.pure] at h
 | .bn _,_=>rfl
 | .pt _ _,_=>rfl
 | .agg cs,h=>by simp only [AV.jV];rw [rY cs h]
 | .tup cs,h=>by simp only [AV.jV];rw [rY cs h]
 | .fn q a b,h=>by
  simp only [AV.pure,bc] at h
  simp only [AV.jV];rw [rY a h.1,rY b h.2]
 | .when b x,h=>by simp only [AV.jV];rw [En x h]
 | .nq b x,h=>by simp only [AV.jV];rw [En x h]
 | .atom _,_=>rfl
 | .sl _ _,_=>rfl
 | .rp _ _,_=>rfl
 | .nil,_=>rfl
 | .mn,_=>rfl
theorem rY {f:Nat→Option Nat}:∀ (cs:List AV),AV.lz cs=true→AV.tM f cs=cs
 | [],_=>rfl
 | c :: cs,h=>by
  simp only [AV.lz,bc] at h
  simp only [AV.tM]
  rw [En c h.1,rY cs h.2]
end
theorem LL {w':World} {S':Nat→Prop} {da:Mu} {o o':Ob} {pl:Place} {c:Array Value} {T:TypeId} (h:gD w' S' da o' pl c T) (z1:o'.sz=o.sz) (z2:o'.len=o.len) (z3:o'.pr=o.pr)
  (hl:o.len=1) (h0:o'.get 0=o.get 0):gD w' S' da o pl c T:=by
 have q1:∀ i,i < o.len→o.get i=o'.get i:=fun i hi=>by
  simp_all
 refine ⟨h.sz.trans z1,z1 ▸ h.cy,z1 ▸ h.cap,z2 ▸ h.len,h.out,?_,?_,fun hz=>by rw [← h0,← z3];exact h.mp (z1.trans hz)⟩
 ·intro i hi
  rw [q1 i hi,← z1]
  exact h.s8 i (by omega)
 ·intro i j x v hi hx hv
  rw [q1 i hi] at hx
  rw [← z3]
  exact h.rep i j x v (by omega) hx (by rw [z1];exact hv)
theorem Rh {w':World} {S':Nat→Prop} {da:Mu} {o o':Ob} {pl:Place} {c:Array Value} {T:TypeId} (h:gD w' S' da o' pl c T) (z1:o'.sz=o.sz) (z2:o'.len=o.len) (z3:o'.pr=o.pr)
  (Kn:o.pr=false) (q1:∀ i,i < o.len→o.get i=o'.get i):gD w' S' da o pl c T:=by
 refine ⟨h.sz.trans z1,z1 ▸ h.cy,z1 ▸ h.cap,z2 ▸ h.len,h.out,?_,?_,fun hz=>?_⟩
 ·intro i hi
  rw [q1 i hi,← z1]
  exact h.s8 i (by omega)
 ·intro i j x v hi hx hv
  rw [q1 i hi] at hx
  rw [← z3]
  exact h.rep i j x v (by omega) hx (by rw [z1];exact hv)
 ·have:=(h.mp (z1.trans hz)).2.2.2.1
  simp_all
theorem Eo {w':World} {S' Aq:Nat→Prop} {da D9:Mu} {o:Ob} {pl:Place} {c:Array Value} {T:TypeId} (h:gD w' S' da o pl c T) {ps:List Prop} (hf:tu o=some ps) (hp:bg ps) (ho:0 < pl.cap→¬ Aq pl.cy) :
  gD w' Aq D9 o pl c T:=by
 unfold tu at hf
 split at hf
 ·grind [LK]
 ·split at hf
  ·rename_i hb
   cases hf
   simp only [bc] at hb
   have M8:=Nat.le_of_ble_eq_true hb.2
   refine { h with out:=ho,rep:=?_,mp:=fun hz=>absurd hz (by omega) }
   intro i j x v hi hx hv
   exact (h.rep i j x v hi hx hv).flat (um (hp.1 i hi) hx) _ _ _
  ·cases hf
theorem AF {w':World} {S' Aq:Nat→Prop} {da:Mu} {o:Ob} {pl:Place} {c:Array Value} {T:TypeId} (h:gD w' S' da o pl c T) (hS:∀ b,S' b→Aq b) (ho:0 < pl.cap→¬ Aq pl.cy):gD w' Aq da o pl c T :=
 { h with
  out:=ho
  rep:=fun i j x v hi hx hv=>ao.mono hS (fun _ _=>rfl) (h.rep i j x v hi hx hv) (fun _ _ h=>h)
  mp:=fun hz=>let ⟨m0,m1,m2,m3,m4⟩:=h.mp hz
   ⟨m0,m1,m2,m3,fun j x v hx hv=>ao.mono hS (fun _ _=>rfl) (m4 j x v hx hv) (fun _ _ h=>h)⟩ }
theorem LO {w':World} {S' Aq:Nat→Prop} {da D9:Mu} {o:Ob} {pl:Place} {c:Array Value} {T:TypeId} {ks:List Nat} {nk:Nat} {lone:Bool} (h:gD w' S' da (o.jV (idx ks)) pl c T)
  {ps:List Prop} (IP:BJ ks lone o=some ps) (hp:bg ps) (hS:lone=true→∀ b,S' b→Aq b) (ho:0 < pl.cap→¬ Aq pl.cy)
  (hm:∀ k k' pl,back ks nk k=some k'→da k=some pl→D9 k'=some pl):gD w' Aq D9 o pl c T:=by
 unfold BJ at IP
 split at IP
 case h_2 =>
  split at IP
  ·grind [idx,Ob.jV,Eo]
  ·rename_i Kn
   split at IP
   case h_2=>cases IP
   rename_i hl
   cases IP
   simp only [bc,Bool.not_eq_true'] at hl
   have h2:=h.jV hm
   refine AF (Rh h2 (by rw [Ob.sn,Ob.sn]) (by grind [Ob.yh]) (by rw [Ob.BI,Ob.BI]) Kn fun i hi=>?_) (hS hl.1) ho
   have hr:Ei (o.get i)=true:=hp.1 i hi
   simp_all [Ob.jV,GP]
 rename_i hq
 cases hf:o.flat with
 | true =>
  have Ye:=hf
  unfold Ob.flat at Ye
  simp only [bc] at Ye
  have hl:=bK Ye.1.1.2
  refine LK (LL h (Ob.sn _ _) (Ob.yh _ _) (Ob.BI _ _) hl ?_) hf ho
  grind [Ob.jV,rY,p8]
 | false =>
  rw [hf,Bool.false_or,bc] at hq
  have hS:=hS hq.1
  have h2:=h.jV hm
  have wh:∀ k i,idx ks k=some i→back ks nk i=some k:=fun k i hk=>by
   grind [back,mI]
  have h3:gD w' S' D9 o pl c T:=by
   have hc:=hq.2
   unfold Ob.closed at hc
   cases hp:o.pr with
   | true =>
    grind [idx,back,Ob.jV]
   | false =>
    rw [hp,Bool.false_or] at hc
    simp only [bc] at hc
    refine LL h2 (by rw [Ob.sn,Ob.sn]) (by grind [Ob.yh]) (by rw [Ob.BI,Ob.BI]) (bK hc.1.2) ?_
    simp only [Ob.jV,hp]
    grind [rX]
  exact AF h3 hS ho
theorem vB {σ:dn} {ks:List Nat} {lone:Bool}:∀ (l:List Nat) (qs:List Prop),xp σ ks lone l=some qs→bg qs→∀ k∈l,∀ o,ar σ k=some o→∃ ps,BJ ks lone o=some ps∧bg ps
 | [],_,_,_,k,hk=>by simp at hk
 | a :: r,qs,h,hq,k,hk=>by
  intro o ho
  simp only [xp] at h
  split at h
  ·rename_i o1 wi
   split at h
   ·rename_i p q h1 h2
    cases h
    obtain ⟨q1,q2⟩:=bg.app hq
    rcases kz.1 hk with rfl | hk
    ·simp_all
    ·exact vB r q h2 q2 k hk o ho
   ·cases h
  ·cases h
theorem rE {lone:Bool}:∀ (σ:dn) (qs:List Prop),AB lone σ=some qs→bg qs→∀ k o,ar σ k=some o→lone=true∨∃ ps,tu o=some ps∧bg ps
 | [],_,_,_,k,o,h=>by simp [ar] at h
 | (a,x) :: r,qs,h,hq,k,o,hk=>by
  simp only [AB] at h
  split at h
  ·exact .inl rfl
  ·split at h
   ·rename_i p q h1 h2
    cases h
    obtain ⟨q1,q2⟩:=bg.app hq
    simp only [ar] at hk
    split at hk
    ·simp_all
    ·exact rE r q h2 q2 k o hk
   ·cases h
theorem tN {o:Ob} {ps:List Prop} (h:tu o=some ps) (hp:bg ps) (i:Nat):rowOf o i=none:=by
 unfold tu at h
 split at h
 ·simp_all [Ob.flat,bc,xe]
 ·split at h
  ·cases h
   cases hr:rowOf o i with
   | none=>rfl
   | some x =>
    obtain ⟨_,h2,h3⟩:=db hr
    have:=hp.1 i h2
    rw [h3] at this;cases this
  ·cases h
theorem HL {ks:List Nat} {o:Ob} {ps:List Prop} (h:BJ ks false o=some ps) (hp:bg ps) (i:Nat):rowOf o i=none:=by
 unfold BJ at h
 rw [Bool.false_and,Bool.or_false] at h
 split at h
 ·simp_all [tN,tu,trivial]
 ·split at h
  ·exact tN h hp i
  simp_all
theorem CI (g:Good E σ S μ w) (zH:∀ j,j < 16→μ (nk+j)=none) (tq:E.m0≤nk) {f:AV} {args:List AV} {bd:nG} {r:R} {fv:Value} (hf:ao w S μ fv f) {vargs:Array Value} (ha:RL w S μ vargs args)
  (hz:bd.wg=true→∀ b,¬ E.fp b) {ob:FuncId→List AV→dn→Nat→AV→dn→Prop}
  (cY:∀ gid as bs qU res dX vs,ob gid as qU bd.ks.length res dX→Good (sm w (fun b=>S b∨xm μ bs b) qU (kf μ bd.ks) bd.ks.length) qU (fun b=>S b∨xm μ bs b) (kf μ bd.ks) w→(∀ k,bd.ks.length≤k→kf μ bd.ks k=none) →
   RL w (fun b=>S b∨xm μ bs b) (kf μ bd.ks) vs as→Calls P gid vs w fun e w'=>∃ v S' da,e=.returned v∧Good (sm w (fun b=>S b∨xm μ bs b) qU (kf μ bd.ks) bd.ks.length) dX S' da w'∧ao w' S' da v res)
  (h:AD P ob nk σ f args bd=some r) (hp:bg r.GO) :
  ∃ gid vs,(do let d ← Deferred.ofValue fv vargs;invoke d.target d.args:Sem Next).run P w=.ok (.enter gid vs) w ∧
   Calls P gid vs w fun e w'=>∃ v S' da,e=.returned v∧Ext w S μ w' S' da∧Good E (eF σ r.ld) S' da w'∧(∀ k,(k < nk∨nk+16≤k)→μ k=none→da k=none)∧ao w' S' da v r.val:=by
 unfold AD at h
 split at h
 case h_2=>cases h
 rename_i gid first cap
 split at h
 case h_2=>cases h
 rename_i as bs ps qU Ep Tc Ri
 split at h
 case h_2=>cases h
 rename_i VM
 rw [bc] at VM
 obtain ⟨Xi,Na⟩:=VM
 have Rj:=Ek bd.ks Xi
 cases hf with
 | fn f1 f2 f3 f4 =>
 rename_i Xj Xk
 refine ⟨gid,Xj ++ vargs ++ Xk,?_,?_⟩
 ·unfold Jb at Ep
  split at Ep
  ·rename_i fn Vj
   simp only [bc,Bool.not_eq_true'] at Ep
   have hb:¬ fn.body=none:=by intro hh;rw [hh] at Ep;simp at Ep
   have fP:¬ fn.name = "runtime.NumGoroutine":=by simpa using Ep.2
   simp [Deferred.ofValue,invoke,callFunc,Vj,fP,hb]
  ·cases Ep
 have TZ:=p7 _ _ _ _ Tc
 have Rk:=GQ bd.ks 0 qU Ri
 simp only [Nat.zero_le,if_true,Nat.sub_zero] at Rk
 -- the state in which the callee begins
 have hps:bg ps:=by
  split at h
  ·split at h
   ·split at h
    ·cases h;exact (bg.app hp.2).2
    ·cases h
   ·split at h
    ·cases h;exact (bg.app hp.2).2
    ·cases h
  ·split at h
   ·cases h;exact (bg.app hp.2).2
   ·cases h
 have mK:RL w (fun b=>S b∨xm μ bs b) (kf μ bd.ks) (Xj ++ vargs ++ Xk) as:=by
  have Xl:RL w S μ (Xj ++ vargs ++ Xk) (first ++ (args ++ cap)):=by
   have:=RL.append (w:=w) (S:=S) (μ:=μ) ⟨f1,f3⟩ (RL.append ha ⟨f2,f4⟩)
   rwa [← Array.append_assoc] at this
  exact Rg g Xl _ (fun _ h=>.inl h) Tc hps (fun _ h=>.inr h)
 have gk:∀ k o pl,ar σ k=some o→μ k=some pl→0 < pl.cap→pl.cy < w.heap.size:=fun k o pl ho hm hc=>by
  obtain ⟨jQ,c,T,gF,cY⟩:=g.rep.ob k o ho
  rw [hm] at gF;cases gF
  exact gj (cY.cy hc)
 have VN:∀ k o pl,ar σ k=some o→μ k=some pl→0 < pl.cap→¬ S pl.cy:=fun k o pl ho hm hc=>by
  obtain ⟨jQ,c,T,gF,cY⟩:=g.rep.ob k o ho
  rw [hm] at gF;cases gF
  exact cY.out hc
 have CJ:∀ i o',ar qU i=some o'→∃ k o,bd.ks[i]?=some k∧ar σ k=some o∧o'=o.jV (idx bd.ks):=by
  intro i o' h
  rw [Rk] at h
  simp only [aG,Option.bind_eq_some_iff] at h
  obtain ⟨o,⟨k,hk,ho⟩,rfl⟩:=h
  exact ⟨k,o,hk,ho,rfl⟩
 have LP:∀ i j x v,iJ w (kf μ bd.ks) qU i j x v→∃ k,bd.ks[i]?=some k∧iJ w μ σ k j x v:=by
  rintro i j x v ⟨o',pl,h1,h2,h3,h4⟩
  obtain ⟨k,o,hk,ho,rfl⟩:=CJ i o' h1
  exact ⟨k,hk,o,pl,ho,(p6 _ _ _ _).1 h2,by simpa [kf,hk] using h3,h4⟩
 have OE:∀ b,M5 w qU (kf μ bd.ks) b→(∃ (k i:Nat) (o:Ob) (pl:Place),bd.ks[i]?=some k∧ar σ k=some o∧μ k=some pl∧0 < pl.cap∧pl.cy=b) ∨
   ∃ (k i j:Nat) (x:Nat×Nat×(Nat→List AV)) (v:Value),bd.ks[i]?=some k∧iJ w μ σ k j x v∧ptrTo v b:=by
  rintro b (⟨i,o',pl,hi,hm,hc,hb⟩ | ⟨i,j,x,v,hv,hb⟩)
  ·obtain ⟨k,o,hk,ho,_⟩:=CJ i o' hi
   refine .inl ⟨k,i,o,pl,hk,ho,?_,hc,hb⟩
   simpa [kf,hk] using hm
  ·obtain ⟨k,hk,sf⟩:=LP i j x v hv
   exact .inr ⟨k,i,j,x,v,hk,sf,hb⟩
 have OF:∀ k i x v b,iJ w μ σ k i x v→ptrTo v b→¬ xm μ bs b:=by
  rintro k i x v b hv hb ⟨k',nL,jQ,gF,oe,he⟩
  obtain ⟨_,o2,CD⟩:=TZ k' nL
  exact g.mx.obj _ _ _ _ _ hv hb k' o2 jQ CD gF oe he
 have g0:Good (sm w (fun b=>S b∨xm μ bs b) qU (kf μ bd.ks) bd.ks.length) qU (fun b=>S b∨xm μ bs b) (kf μ bd.ks) w:=by
  refine ⟨Fr.refl _ _,fun _ h=>h,?_,fun _ h=>.inl h,⟨?_,?_⟩,fun k o pl hk hm hc=>.inl (.inl ⟨k,o,pl,hk,hm,hc,rfl⟩),fun _ _=>rfl,?_⟩
  ·rintro b (hb | ⟨k,hk,pl,hm,hc,rfl⟩)
   ·exact g.S1 b hb
   ·obtain ⟨_,o,ho⟩:=TZ k hk
    exact gk k o pl ho hm hc
  ·intro i o' hi
   obtain ⟨k,o,hk,ho,rfl⟩:=CJ i o' hi
   obtain ⟨pl,c,T,hm,cY⟩:=g.rep.ob k o ho
   refine ⟨pl,c,T,by simp [kf,hk,hm],?_⟩
   have h1:=cY.jV (f:=idx bd.ks) (da:=kf μ bd.ks) (fun a b pl ha hb=>xn a b pl ha hb)
   refine h1.ext (w':=w) ⟨aF _,fun _ h=>.inl h,fun _ _=>rfl,fun _ _ h=>h⟩ (fun _=>rfl) ?_
   rintro hc (hS | ⟨k',nL,jQ,gF,oe,he⟩)
   ·exact cY.out hc hS
   ·obtain ⟨C7,o2,CD⟩:=TZ k' nL
    have fP:k≠k':=fun h=>lX _ _ C7 i (h ▸ hk)
    exact g.rep.ne k k' o o2 pl jQ fP ho CD hm gF hc oe he.symm
  ·intro i i' o o' pl jQ fP hi qT hm gF hc oe
   obtain ⟨k,oo,hk,ho,_⟩:=CJ i o hi
   obtain ⟨k',oo',nL,vj,_⟩:=CJ i' o' qT
   have OG:k≠k':=fun h=>fP (Rj i i' k hk (h ▸ nL))
   exact g.rep.ne k k' oo oo' pl jQ OG ho vj (by simpa [kf,hk] using hm) (by simpa [kf,nL] using gF) hc oe
  ·refine g.mx.tr (fun i=>bd.ks.getD i 0) (fun i j x v h=>?_) (fun i j x v i' j' x' v' h h' e=>?_) (fun _ h=>.inl h) (fun _ _=>rfl) (fun i j x v b hv h hb=>?_) (fun i o' pl h1 h2 h3=>?_)
   ·obtain ⟨k,hk,hv⟩:=LP i j x v h
    show iJ w μ σ (bd.ks.getD i 0) j x v
    rw [fk,hk];exact hv
   ·obtain ⟨k,hk,_⟩:=LP i j x v h
    obtain ⟨k',nL,_⟩:=LP i' j' x' v' h'
    have e:bd.ks.getD i 0=bd.ks.getD i' 0:=e
    rw [fk,fk,hk,nL] at e
    have e:k=k':=e
    exact Rj i i' k hk (e ▸ nL)
   ·obtain ⟨q1,q2,q3,_⟩:=g.mx.cy h hb
    exact ⟨rfl,fun hs=>hs.elim q2 (OF _ _ _ _ _ h hb),fun _=>.inl (.inr ⟨i,j,x,v,hv,hb⟩)⟩
   ·obtain ⟨k,o,hk,ho,_⟩:=CJ i o' h1
    exact .inl ⟨k,o,pl,ho,by simpa [kf,hk] using h2,h3,rfl⟩
 have OH:∀ k,bd.ks.length≤k→kf μ bd.ks k=none:=fun k hk=>by simp [kf,n8 hk]
 -- behind the call
 have wc:∀ k o,ar σ k=some o→k < nk∨nk+16≤k:=by
  intro k o ho
  rcases Nat.lt_or_ge k nk with h1 | h1
  ·exact .inl h1
  ·rcases Nat.lt_or_ge k (nk+16) with h2 | h2
   ·obtain ⟨pl,c,T,hm,_⟩:=g.rep.ob k o ho
    have:=zH (k - nk) (by omega)
    rw [show nk+(k - nk)=k by omega,hm] at this
    cases this
   ·exact .inr h2
 have fin:∀ (dX:dn) (Kz:dn),ob gid as qU bd.ks.length bd.res dX →
   (∀ n,idx bd.ks n=none→(n < nk∨nk+16≤n)→ar Kz n=if bd.wg=true∧n∈bs then none else ar σ n) →
   (∀ j,j < 16→∀ o,ar Kz (nk+j)=some o→∃ o1,ar dX (bd.ks.length+j)=some o1∧o=o1.jV (back bd.ks nk)) →
   (∀ (w':World) (S' Aq:Nat→Prop) (da:Mu),((bs.isEmpty || bd.wg)=true→∀ b,S' b→Aq b)→∀ j,j < 16→∀ o1 pl c T,ar dX (bd.ks.length+j)=some o1→gD w' S' da o1 pl c T→(0 < pl.cap→¬ Aq pl.cy)→gD w' Aq da o1 pl c T) →
   (∀ (w':World) (S' Aq:Nat→Prop) (da Jd:Mu),Good (sm w (fun b=>S b∨xm μ bs b) qU (kf μ bd.ks) bd.ks.length) dX S' da w'→((bs.isEmpty || bd.wg)=true→∀ b,S' b→Aq b) →
    (∀ k k' pl,back bd.ks nk k=some k'→da k=some pl→Jd k'=some pl)→∀ (k i:Nat) (o:Ob) (pl:Place),bd.ks[i]?=some k→ar Kz k=some o→μ k=some pl→(0 < pl.cap→¬ Aq pl.cy)→∃ c T,gD w' Aq Jd o pl c T) →
   (∀ (k i:Nat) (o:Ob),bd.ks[i]?=some k→ar Kz k=some o→(∃ o1,ar σ k=some o1)∧∃ o2,ar dX i=some o2) →
   (∀ (k i:Nat) (o:Ob),bd.ks[i]?=some k→ar Kz k=some o→∀ j x,rowOf o j=some x→∃ o2,ar dX i=some o2∧rowOf o2 j=some x) →
   ((bs.isEmpty || bd.wg)=false→∀ n o,ar dX n=some o→∀ i,rowOf o i=none) →
   Calls P gid (Xj ++ vargs ++ Xk) w fun e w'=>∃ v S' da,e=.returned v∧Ext w S μ w' S' da∧Good E Kz S' da w'∧(∀ k,(k < nk∨nk+16≤k)→μ k=none→da k=none)∧ao w' S' da v (bd.res.jV (back bd.ks nk)):=by
  intro dX Kz T0 HM Q6 VO Yf Rl VP T4
  refine (cY gid as bs qU _ _ _ T0 g0 OH mK).mono ?_
  rintro e w' ⟨v,S',da,rfl,g',hv⟩
  have Je:∀ b,b < w.heap.size→(∀ (k i:Nat) (o:Ob) (pl:Place),bd.ks[i]?=some k→ar σ k=some o→μ k=some pl→0 < pl.cap→pl.cy≠b) →
    (∀ (k i j:Nat) (x:Nat×Nat×(Nat→List AV)) (v:Value),bd.ks[i]?=some k→iJ w μ σ k j x v→¬ ptrTo v b)→w'.heap[b]?=w.heap[b]?:=by
   intro b hb C7 Yg
   refine g'.fr.cy b hb fun Nb=>?_
   rcases OE b Nb with ⟨k,i,o,pl,hk,ho,hm,hc,he⟩ | ⟨k,i,j,x,v,hk,hv,he⟩
   ·exact C7 k i o pl hk ho hm hc he
   ·exact Yg k i j x v hk hv he
  have hSb:∀ b,S b→w'.heap[b]?=w.heap[b]?:=fun b hb=>Je b (g.S1 b hb) (fun k i o pl hk ho hm hc he=>VN k o pl ho hm hc (he ▸ hb)) fun k i j x v hk hv he=>(g.mx.cy hv he).2.1 hb
  let Jd:Mu:=fun k=>if nk≤k∧k < nk+16 then da (bd.ks.length+(k - nk)) else μ k
  have Er:∀ k,(k < nk∨nk+16≤k)→Jd k=μ k:=fun k hk=>by
   show (if nk≤k∧k < nk+16 then _ else _)=_
   rw [if_neg (by omega)]
  have HN:∀ j,j < 16→Jd (nk+j)=da (bd.ks.length+j):=fun j hj=>by
   show (if nk≤nk+j∧nk+j < nk+16 then _ else _)=_
   rw [if_pos (by omega)];congr 1;omega
  have Rm:∀ k pl,μ k=some pl→Jd k=some pl:=by
   intro k pl hk
   have hn:k < nk∨nk+16≤k:=by
    rcases Nat.lt_or_ge k nk with h1 | h1
    ·exact .inl h1
    ·rcases Nat.lt_or_ge k (nk+16) with h2 | h2
     ·have:=zH (k - nk) (by omega)
      rw [show nk+(k - nk)=k by omega,hk] at this
      cases this
     ·exact .inr h2
   rw [Er k hn];exact hk
  have wh:∀ k k' pl,back bd.ks nk k=some k'→da k=some pl→Jd k'=some pl:=by
   intro k k' pl hk hm
   unfold back at hk
   split at hk
   ·rename_i q hq
    cases hk
    have gk:k < bd.ks.length:=(dD.1 hq).1
    rw [g'.CC k gk] at hm
    have:kf μ bd.ks k=some pl:=hm
    refine Rm _ _ ?_
    simpa [kf,show bd.ks[k]?=some _ from hq] using this
   ·rename_i hq
    split at hk
    ·rename_i hb
     cases hk
     have gk:k < bd.ks.length+16:=by
      simp only [Nat.blt,Nat.ble_eq] at hb;exact hb
     have Yh:bd.ks.length≤k:=List.getElem?_eq_none_iff.1 hq
     rw [HN _ (by omega),show bd.ks.length+(k - bd.ks.length)=k by omega];exact hm
    ·cases hk
  let SF:Nat→Prop:=fun b=>S b∨(bd.wg=true∧xm μ bs b)∨(S' b∧w.heap.size≤b)
  have hSF:∀ b,SF b→S' b:=by
   rintro b (h1 | ⟨_,h1⟩ | ⟨h1,_⟩)
   ·exact g'.S0 b (.inl h1)
   ·exact g'.S0 b (.inr h1)
   ·exact h1
  have Xm:(bs.isEmpty || bd.wg)=true→∀ b,S' b→SF b:=by
   intro he b hb
   rcases g'.S2 b hb with (h1 | h0) | h1
   ·exact .inl h1
   ·rcases Bool.or_eq_true_iff.1 he with he | he
    ·obtain ⟨k,hk,_⟩:=h0
     rw [List.isEmpty_iff] at he;rw [he] at hk;simp at hk
    ·exact .inr (.inl ⟨he,h0⟩)
   ·exact .inr (.inr ⟨hb,h1⟩)
  have hold:∀ k o,ar Kz k=some o→(k < nk∨nk+16≤k)→∃ o1,ar σ k=some o1:=by
   intro k o ho hn
   cases hi:idx bd.ks k with
   | none =>
    rw [HM k hi hn] at ho
    split at ho
    ·cases ho
    ·exact ⟨o,ho⟩
   | some i=>exact (Rl k i o (mI _ _ _ hi) ho).1
  have hnl:∀ k o,ar Kz k=some o→bd.wg=true→k ∉ bs:=by
   intro k o ho NS hk
   obtain ⟨C7,o2,CD⟩:=TZ k hk
   rw [HM k C7 (wc k o2 CD),if_pos ⟨NS,hk⟩] at ho
   cases ho
  have LR:∀ k o0 o pl,ar Kz k=some o0→ar σ k=some o→μ k=some pl→0 < pl.cap→¬ SF pl.cy:=by
   rintro k o0 o pl qy ho hm hc (h1 | ⟨NS,k',nL,jQ,gF,oe,he⟩ | ⟨_,h1⟩)
   ·exact VN k o pl ho hm hc h1
   ·obtain ⟨_,o2,CD⟩:=TZ k' nL
    have fP:k≠k':=fun h=>hnl k o0 qy NS (h ▸ nL)
    exact g.rep.ne k k' o o2 pl jQ fP ho CD hm gF hc oe he.symm
   ·have:=gk k o pl ho hm hc;omega
  -- a new object, as the callee has left it
  have KA:∀ j,j < 16→∀ o,ar Kz (nk+j)=some o→∃ o1 pl c T,ar dX (bd.ks.length+j)=some o1∧o=o1.jV (back bd.ks nk)∧da (bd.ks.length+j)=some pl∧gD w' S' da o1 pl c T:=by
   intro j hj o ho
   obtain ⟨o1,h1,h2⟩:=Q6 j hj o ho
   obtain ⟨pl,c,T,h3,h4⟩:=g'.rep.ob _ o1 h1
   exact ⟨o1,pl,c,T,h1,h2,h3,h4⟩
  have xq:∀ k,(k < nk∨nk+16≤k)∨∃ j,j < 16∧k=nk+j:=fun k=>by
   rcases Nat.lt_or_ge k nk with h1 | h1
   ·exact .inl (.inl h1)
   ·rcases Nat.lt_or_ge k (nk+16) with h2 | h2
    ·exact .inr ⟨k - nk,by omega,by omega⟩
    ·exact .inl (.inr h2)
  -- the block of a new object is none of the caller's
  have Td:∀ j o1 pl,ar dX (bd.ks.length+j)=some o1→da (bd.ks.length+j)=some pl→0 < pl.cap →
    (∃ (k i:Nat) (o:Ob) (jQ:Place),bd.ks[i]?=some k∧ar σ k=some o∧μ k=some jQ∧0 < jQ.cap∧jQ.cy=pl.cy) ∨
    (∃ (k i j:Nat) (x:Nat×Nat×(Nat→List AV)) (v:Value),bd.ks[i]?=some k∧iJ w μ σ k j x v∧ptrTo v pl.cy)∨w.heap.size≤pl.cy:=by
   intro j o1 pl h1 h2 h3
   rcases g'.own _ o1 pl h1 h2 h3 with h4 | h4
   ·exact (OE _ h4).elim .inl fun h=>.inr (.inl h)
   ·exact .inr (.inr h4)
  -- new and old ones lie apart
  have OI:∀ j,j < 16→∀ k o o' pl jQ,ar Kz (nk+j)=some o→ar Kz k=some o'→(k < nk∨nk+16≤k)→Jd (nk+j)=some pl→Jd k=some jQ→0 < pl.cap→0 < jQ.cap→pl.cy≠jQ.cy:=by
   intro j hj k o o' pl jQ ho vj hn hm gF hc oe he
   obtain ⟨o1,Ar,c1,T1,h1,h2,h3,h4⟩:=KA j hj o ho
   rw [HN j hj,h3] at hm;cases hm
   rw [Er k hn] at gF
   cases hi:idx bd.ks k with
   | some i =>
    have N3:=mI _ _ _ hi
    obtain ⟨_,o2,CD⟩:=Rl k i o' N3 vj
    have Ko:i < bd.ks.length:=(dD.1 N3).1
    have Ay:da i=some jQ:=by
     rw [g'.CC i Ko]
     show kf μ bd.ks i=_
     simp [kf,N3,gF]
    exact g'.rep.ne (bd.ks.length+j) i o1 o2 pl jQ (by omega) h1 CD h3 Ay hc oe he
   | none =>
    obtain ⟨o3,Km⟩:=hold k o' vj hn
    rcases Td j o1 pl h1 h3 hc with ⟨k2,i2,o4,Rn,q1,q2,q3,q4,q5⟩ | ⟨k2,i2,j2,x2,v2,q1,q2,q3⟩ | h5
    ·have fP:k2≠k:=fun h=>lX _ _ hi i2 (h ▸ q1)
     exact g.rep.ne k2 k o4 o3 Rn jQ fP q2 Km q3 gF q4 oe (q5.trans he)
    ·exact g.mx.obj _ _ _ _ _ q2 q3 k o3 jQ Km gF oe he.symm
    ·have:=gk k o3 jQ Km gF oe
     omega
  have ext:Ext w S μ w' SF Jd:=⟨g'.fr.size,fun _ h=>.inl h,hSb,Rm⟩
  -- the rows
  have cls:∀ k i x v,iJ w' Jd Kz k i x v→(idx bd.ks k=none∧(k < nk∨nk+16≤k)∧iJ w μ σ k i x v)∨((bs.isEmpty || bd.wg)=true∧∃ q,back bd.ks nk q=some k∧iJ w' da dX q i x v):=by
   rintro k i x v ⟨o,pl,h1,h2,h3,h4⟩
   have Te:∀ n o2,ar dX n=some o2→rowOf o2 i=some x→(bs.isEmpty || bd.wg)=true:=by
    intro n o2 CD eI
    cases OJ:(bs.isEmpty || bd.wg) with
    | true=>rfl
    | false=>rw [T4 OJ n o2 CD i] at eI;cases eI
   rcases xq k with hn | ⟨j,hj,rfl⟩
   ·cases hi:idx bd.ks k with
    | none =>
     have qy:=h1
     rw [HM k hi hn] at qy
     split at qy
     ·cases qy
     rw [Er k hn] at h3
     obtain ⟨rD,c,T,hm,cY⟩:=g.rep.ob k o qy
     rw [h3] at hm;cases hm
     refine .inl ⟨rfl,hn,o,pl,qy,h2,h3,?_⟩
     have hc:0 < pl.cap:=by have:=(db h2).2.1;have:=cY.len;omega
     rw [← h4]
     refine (qu (Je _ (gj (cY.cy hc)) ?_ ?_) _).symm
     ·intro k' i' o' jQ nL vj gF oe he
      have fP:k'≠k:=fun h=>lX _ _ hi i' (h ▸ nL)
      exact g.rep.ne k' k o' o jQ pl fP vj qy gF h3 oe hc he
     ·intro k' i' j' x' v' nL sf he
      exact g.mx.obj _ _ _ _ _ sf he k o pl qy h3 hc rfl
    | some i0 =>
     have N3:=mI _ _ _ hi
     obtain ⟨o2,CD,eI⟩:=VP k i0 o N3 h1 i x h2
     have Ko:i0 < bd.ks.length:=(dD.1 N3).1
     refine .inr ⟨Te i0 o2 CD eI,i0,by unfold back;rw [N3],o2,pl,CD,eI,?_,h4⟩
     rw [g'.CC i0 Ko]
     rw [Er k hn] at h3
     show kf μ bd.ks i0=_
     simp [kf,N3,h3]
   ·obtain ⟨o1,q1,q2⟩:=Q6 j hj o h1
    rw [q2] at h2
    have eI:=(p6 _ _ _ _).1 h2
    refine .inr ⟨Te _ o1 q1 eI,bd.ks.length+j,?_,o1,pl,q1,eI,by rw [← HN j hj];exact h3,h4⟩
    unfold back
    rw [n8 (by omega)]
    have:Nat.blt (bd.ks.length+j) (bd.ks.length+16)=true:=by simp only [Nat.blt,Nat.ble_eq];omega
    rw [this]
    simp
  have VQ:∀ k i x v b,iJ w μ σ k i x v→ptrTo v b→idx bd.ks k=none→w'.heap[b]?=w.heap[b]?∧¬ SF b:=by
   intro k i x v b hv hb hi
   obtain ⟨q1,q2,q3,_⟩:=g.mx.cy hv hb
   refine ⟨Je b q1 (fun k' i' o' jQ nL vj gF oe he=>g.mx.obj _ _ _ _ _ hv hb k' o' jQ vj gF oe he) (fun k' i' j' x' v' nL sf he=>?_),?_⟩
   ·obtain ⟨e1,_⟩:=g.mx.two _ _ _ _ _ _ _ _ _ hv sf hb he
    exact lX _ _ hi i' (e1 ▸ nL)
   ·rintro (h1 | ⟨_,h1⟩ | ⟨_,h1⟩)
    ·exact q2 h1
    ·exact OF _ _ _ _ _ hv hb h1
    ·omega
  have OK:∀ k i x v b,iJ w μ σ k i x v→ptrTo v b→idx bd.ks k=none→∀ b',(M5 w qU (kf μ bd.ks) b'∨w.heap.size≤b')→b'≠b:=by
   rintro k i x v b hv hb hi b' (h1 | h1) rfl
   ·rcases OE _ h1 with ⟨k2,i2,o4,Rn,q1,q2,q3,q4,q5⟩ | ⟨k2,i2,j2,x2,v2,q1,q2,q3⟩
    ·exact g.mx.obj _ _ _ _ _ hv hb k2 o4 Rn q2 q3 q4 q5
    ·obtain ⟨e1,_⟩:=g.mx.two _ _ _ _ _ _ _ _ _ hv q2 hb q3
     exact lX _ _ hi i2 (e1 ▸ q1)
   ·have:=(g.mx.cy hv hb).1;omega
  have Yi:MX E.fp E.w0.heap.size w' SF Jd Kz:=by
   refine ⟨fun k i x v h=>?_,fun k i x v b h hb k' o' jQ h1 h2 h3=>?_,fun k i x v b k' i' x' v' h h' hb tp=>?_⟩
   ·rcases cls k i x v h with ⟨hi,hn,hv⟩ | ⟨OJ,q,hq,hv⟩
    ·exact (g.mx.row _ _ _ _ hv).ext (fun _ h=>.inl h) hSb fun b hb=>let ⟨a1,a2⟩:=VQ _ _ _ _ _ hv hb hi;⟨a1,a2,fun h=>h⟩
    ·refine (g'.mx.row _ _ _ _ hv).ext (Xm OJ) (fun _ _=>rfl) fun b hb=>⟨rfl,fun hs=>(g'.mx.cy hv hb).2.1 (hSF b hs),?_⟩
     rintro (h1 | h1)
     ·rcases OE _ h1 with ⟨k2,i2,o4,Rn,q1,q2,q3,q4,q5⟩ | ⟨k2,i2,j2,x2,v2,q1,q2,q3⟩
      ·rw [← q5];exact g.own k2 o4 Rn q2 q3 q4
      ·exact (g.mx.cy q2 q3).2.2.1
     ·exact .inr (dU g.fr.size h1)
   ·rcases cls k i x v h with ⟨hi,hn,hv⟩ | ⟨OJ,q,hq,hv⟩
    ·rcases xq k' with HJ | ⟨j',yj,rfl⟩
     ·obtain ⟨o2,CD⟩:=hold k' o' h1 HJ
      rw [Er k' HJ] at h2
      exact g.mx.obj _ _ _ _ _ hv hb k' o2 jQ CD h2 h3
     ·obtain ⟨o1,Ar,c1,T1,q1,q2,q3,q4⟩:=KA j' yj o' h1
      rw [HN j' yj,q3] at h2;cases h2
      exact OK _ _ _ _ _ hv hb hi _ (g'.own _ o1 jQ q1 q3 h3)
    ·rcases xq k' with HJ | ⟨j',yj,rfl⟩
     ·rw [Er k' HJ] at h2
      cases hi:idx bd.ks k' with
      | some i2 =>
       have N3:=mI _ _ _ hi
       obtain ⟨_,o2,CD⟩:=Rl k' i2 o' N3 h1
       have Ko:i2 < bd.ks.length:=(dD.1 N3).1
       have Ay:da i2=some jQ:=by
        rw [g'.CC i2 Ko]
        show kf μ bd.ks i2=_
        simp [kf,N3,h2]
       exact g'.mx.obj _ _ _ _ _ hv hb i2 o2 jQ CD Ay h3
      | none =>
       obtain ⟨o3,Km⟩:=hold k' o' h1 HJ
       intro he
       rcases (g'.mx.cy hv hb).2.2.1 with h4 | h4
       ·rcases OE _ h4 with ⟨k2,i2,o4,Rn,q1,q2,q3,q4,q5⟩ | ⟨k2,i2,j2,x2,v2,q1,q2,q3⟩
        ·have fP:k2≠k':=fun h=>lX _ _ hi i2 (h ▸ q1)
         exact g.rep.ne k2 k' o4 o3 Rn jQ fP q2 Km q3 h2 q4 h3 (q5.trans he.symm)
        ·exact g.mx.obj _ _ _ _ _ q2 q3 k' o3 jQ Km h2 h3 he
       ·have:=gk k' o3 jQ Km h2 h3
        have h4:w.heap.size≤b:=h4
        omega
     ·obtain ⟨o1,Ar,c1,T1,q1,q2,q3,q4⟩:=KA j' yj o' h1
      rw [HN j' yj,q3] at h2;cases h2
      exact g'.mx.obj _ _ _ _ _ hv hb _ o1 jQ q1 q3 h3
   ·rcases cls k i x v h with ⟨hi,hn,hv⟩ | ⟨OJ,q,hq,hv⟩<;>rcases cls k' i' x' v' h' with ⟨qT,HJ,sf⟩ | ⟨abP,q',M4,sf⟩
    ·exact g.mx.two _ _ _ _ _ _ _ _ _ hv sf hb tp
    ·exact (OK _ _ _ _ _ hv hb hi _ (g'.mx.cy sf tp).2.2.1 rfl).elim
    ·exact (OK _ _ _ _ _ sf tp qT _ (g'.mx.cy hv hb).2.2.1 rfl).elim
    ·obtain ⟨e1,e2⟩:=g'.mx.two _ _ _ _ _ _ _ _ _ hv sf hb tp
     rw [e1,M4] at hq
     exact ⟨(Option.some.inj hq).symm,e2⟩
  refine ⟨v,SF,Jd,rfl,ext,⟨?_,fun b h=>.inl (g.S0 b h),?_,?_,⟨?_,?_⟩,?_,fun k hk=>by rw [Er k (.inl (by omega))];exact g.CC k hk,Yi⟩,fun k hn h=>by rw [Er k hn];exact h,?_⟩
  ·refine ⟨g'.fr.os.trans g.fr.os,g'.fr.tape.trans g.fr.tape,g'.fr.output.trans g.fr.output,dU g.fr.size g'.fr.size,fun b hb Yj=>?_⟩
   rw [← g.fr.cy b hb Yj]
   refine Je b (nc hb g.fr.size) ?_ ?_
   ·intro k i o pl hk ho hm hc he
    rcases g.own k o pl ho hm hc with h1 | h1
    ·exact Yj (he ▸ h1)
    ·have:pl.cy=b:=he
     omega
   ·intro k i j x v hk hv he
    rcases (g.mx.cy hv he).2.2.1 with h1 | h1
    ·exact Yj h1
    ·omega
  ·rintro b (hb | ⟨_,k,hk,pl,hm,hc,rfl⟩ | ⟨hb,_⟩)
   ·exact nc (g.S1 b hb) g'.fr.size
   ·obtain ⟨_,o,ho⟩:=TZ k hk
    exact nc (gk k o pl ho hm hc) g'.fr.size
   ·exact g'.S1 b hb
  ·rintro b (hb | ⟨NS,k,hk,pl,hm,hc,rfl⟩ | ⟨_,hb⟩)
   ·exact g.S2 b hb
   ·obtain ⟨_,o,ho⟩:=TZ k hk
    rcases g.own k o pl ho hm hc with h1 | h1
    ·exact (hz NS _ h1).elim
    ·exact .inr h1
   ·exact .inr (dU g.fr.size hb)
  ·intro k o ho
   rcases xq k with hn | ⟨j,hj,rfl⟩
   ·cases hi:idx bd.ks k with
    | none =>
     have qy:=ho
     rw [HM k hi hn] at ho
     split at ho
     ·cases ho
     obtain ⟨pl,c,T,hm,cY⟩:=g.rep.ob k o ho
     refine ⟨pl,c,T,Rm _ _ hm,cY.ext ext ?_ (LR k o o pl qy ho hm)⟩
     intro hc
     refine Je _ (gj (cY.cy hc)) ?_ (fun k' i' j' x' v' nL sf he=>g.mx.obj _ _ _ _ _ sf he k o pl ho hm hc rfl)
     intro k' i' o' jQ nL vj gF oe he
     have fP:k'≠k:=fun h=>lX _ _ hi i' (h ▸ nL)
     exact g.rep.ne k' k o' o jQ pl fP vj ho gF hm oe hc he
    | some i =>
     have hk:=mI _ _ _ hi
     obtain ⟨⟨o1,wi⟩,_⟩:=Rl k i o hk ho
     obtain ⟨pl,c,T,hm,_⟩:=g.rep.ob k o1 wi
     obtain ⟨c',T',cY⟩:=Yf w' S' SF da Jd g' Xm wh k i o pl hk ho hm (LR k o o1 pl ho wi hm)
     exact ⟨pl,c',T',Rm _ _ hm,cY⟩
   ·obtain ⟨o1,pl,c,T,h1,h2,h3,h4⟩:=KA j hj o ho
    have h5:=VO w' S' SF da Xm j hj o1 pl c T h1 h4 (fun hc hb=>h4.out hc (hSF _ hb))
    exact ⟨pl,c,T,by rw [HN j hj];exact h3,by rw [h2];exact h5.jV wh⟩
  ·intro k k' o o' pl jQ fP ho vj hm gF hc oe
   rcases xq k with hn | ⟨j,hj,rfl⟩
   ·rcases xq k' with HJ | ⟨j',yj,rfl⟩
    ·obtain ⟨o1,wi⟩:=hold k o ho hn
     obtain ⟨o2,CD⟩:=hold k' o' vj HJ
     rw [Er k hn] at hm
     rw [Er k' HJ] at gF
     exact g.rep.ne k k' o1 o2 pl jQ fP wi CD hm gF hc oe
    ·exact fun he=>OI j' yj k o' o jQ pl vj ho hn gF hm oe hc he.symm
   ·rcases xq k' with HJ | ⟨j',yj,rfl⟩
    ·exact OI j hj k' o o' pl jQ ho vj HJ hm gF hc oe
    ·obtain ⟨o1,Ar,c1,T1,h1,h2,h3,h4⟩:=KA j hj o ho
     obtain ⟨o2,rD,c2,T2,k1,k2,k3,k4⟩:=KA j' yj o' vj
     rw [HN j hj,h3] at hm;cases hm
     rw [HN j' yj,k3] at gF;cases gF
     exact g'.rep.ne _ _ o1 o2 pl jQ (by omega) h1 k1 h3 k3 hc oe
  ·intro k o pl ho hm hc
   rcases xq k with hn | ⟨j,hj,rfl⟩
   ·obtain ⟨o1,wi⟩:=hold k o ho hn
    rw [Er k hn] at hm
    exact g.own k o1 pl wi hm hc
   ·obtain ⟨o1,Ar,c1,T1,h1,h2,h3,h4⟩:=KA j hj o ho
    rw [HN j hj,h3] at hm;cases hm
    rcases Td j o1 pl h1 h3 hc with ⟨k2,i2,o4,Rn,q1,q2,q3,q4,q5⟩ | ⟨k2,i2,j2,x2,v2,q1,q2,q3⟩ | h5
    ·rw [← q5];exact g.own k2 o4 Rn q2 q3 q4
    ·exact (g.mx.cy q2 q3).2.2.1
    ·exact .inr (dU g.fr.size h5)
  ·cases he:(bs.isEmpty || bd.wg) with
   | true=>exact (hv.jV (f:=back bd.ks nk) wh).mono (Xm he) (fun _ _=>rfl) (fun _ _ h=>h)
   | false =>
    rw [he,Bool.false_or] at Na
    exact (hv.IM Na w' SF).jV (f:=back bd.ks nk) wh
 split at h
 ·split at h
  ·split at h
   ·rename_i qs IP
    cases h
    obtain ⟨hq,_⟩:=bg.app hp.2
    have Ro:∀ k i:Nat,bd.ks[i]?=some k→∀ o,ar (eF σ (uv bd.wg bs)) k=some o→ar σ k=some o:=fun k i hk o ho=>by
     rw [lY] at ho
     split at ho
     ·cases ho
     ·exact ho
    refine fin qU _ hp.1 (fun n _ _=>lY _ _ _ _) ?_ ?_ ?_ ?_ ?_ ?_
    ·intro j hj o ho
     have ho:ar (eF σ (uv bd.wg bs)) (nk+j)=some o:=ho
     rw [lY] at ho
     split at ho
     ·cases ho
     ·rcases wc _ o ho with h1 | h1<;>omega
    ·intro w' S' Aq da _ j hj o1 pl c T h1
     obtain ⟨k,o,hk,_⟩:=CJ _ o1 h1
     rw [n8 (by omega)] at hk;cases hk
    ·intro w' S' Aq da Jd g' hS wh k i o pl hk ho hm N4
     have ho:=Ro k i hk o ho
     obtain ⟨Oy,Vk,NV⟩:=vB _ _ IP hq k (List.mem_of_getElem? hk) o ho
     have Yk:ar qU i=some (o.jV (idx bd.ks)):=by rw [Rk];simp [hk,ho]
     obtain ⟨rD,c,T,CY,cY⟩:=g'.rep.ob i _ Yk
     have gk:i < bd.ks.length:=(dD.1 hk).1
     rw [g'.CC i gk] at CY
     have:μ k=some rD:=by simpa [sm,kf,hk] using CY
     rw [hm] at this;cases this
     exact ⟨c,T,LO cY Vk NV hS N4 wh⟩
    ·intro k i o hk ho
     have ho:=Ro k i hk o ho
     exact ⟨⟨o,ho⟩,o.jV (idx bd.ks),by rw [Rk];simp [hk,ho]⟩
    ·intro k i o hk ho j x hx
     have ho:=Ro k i hk o ho
     exact ⟨o.jV (idx bd.ks),by rw [Rk];simp [hk,ho],(p6 _ _ _ _).2 hx⟩
    ·intro OJ n o' vj i
     obtain ⟨k,o,hk,ho,rfl⟩:=CJ n o' vj
     obtain ⟨Oy,Vk,NV⟩:=vB _ _ IP hq k (List.mem_of_getElem? hk) o ho
     rw [OJ] at Vk
     cases hr:rowOf (o.jV (idx bd.ks)) i with
     | none=>rfl
     | some x =>
      have:=(p6 _ _ _ _).1 hr
      rw [HL Vk NV] at this;cases this
   ·cases h
  ·rename_i q τ abQ
   split at h
   ·rename_i qs F5 IP Tf
    cases h
    obtain ⟨hq,_⟩:=bg.app hp.2
    simp only [bc] at Tf
    obtain ⟨⟨Yh,VR⟩,Yl⟩:=Tf
    have LS:∀ k i:Nat,bd.ks[i]?=some k→k < nk∨nk+16≤k:=fun k i hk=>by
     obtain ⟨o,ho⟩:=yi bd.ks 0 qU Ri k (List.mem_of_getElem? hk)
     exact wc k o ho
    have Ro:∀ k i:Nat,bd.ks[i]?=some k→∀ o,ar (eF σ (AA bd.ks nk (q :: τ) ++ uv bd.wg bs)) k=some o→ar σ k=some o:=fun k i hk o ho=>by
     rw [gl,lY] at ho
     split at ho
     ·cases ho
     ·rw [uw _ _ _ VR (LS k i hk)] at ho;exact ho
    have F6:∀ i:Nat,i < bd.ks.length→ar (qU ++ q :: τ) i=ar qU i:=fun i hi=>by
     rw [El]
     cases hs:ar qU i with
     | some o=>rfl
     | none=>exact GR Yh i hi
    have VS:∀ j:Nat,ar (qU ++ q :: τ) (bd.ks.length+j)=ar (q :: τ) (bd.ks.length+j):=fun j=>by
     rw [El]
     have:ar qU (bd.ks.length+j)=none:=by rw [Rk];simp
     rw [this]
    refine fin (qU ++ q :: τ) _ hp.1 ?_ ?_ ?_ ?_ ?_ ?_ ?_
    ·intro n hn OL
     show ar (eF σ (AA bd.ks nk (q :: τ) ++ uv bd.wg bs)) n=_
     rw [gl,lY,uw _ _ _ VR OL]
    ·intro j hj o ho
     have ho:ar (eF σ (AA bd.ks nk (q :: τ) ++ uv bd.wg bs)) (nk+j)=some o:=ho
     rw [gl,lY] at ho
     split at ho
     ·cases ho
     rw [AE _ _ _ Yl] at ho
     split at ho
     ·rename_i o1 wi
      cases ho
      exact ⟨o1,(VS j).trans wi,rfl⟩
     ·rcases wc _ o ho with h1 | h1<;>omega
    ·intro w' S' Aq da hS j hj o1 pl c T h1 h2 h3
     exact AF h2 (hS F5) h3
    ·intro w' S' Aq da Jd g' hS wh k i o pl hk ho hm N4
     have ho:=Ro k i hk o ho
     obtain ⟨Oy,Vk,NV⟩:=vB _ _ IP hq k (List.mem_of_getElem? hk) o ho
     have gk:i < bd.ks.length:=(dD.1 hk).1
     have Yk:ar (qU ++ q :: τ) i=some (o.jV (idx bd.ks)):=by rw [F6 i gk,Rk];simp [hk,ho]
     obtain ⟨rD,c,T,CY,cY⟩:=g'.rep.ob i _ Yk
     rw [g'.CC i gk] at CY
     have:μ k=some rD:=by simpa [sm,kf,hk] using CY
     rw [hm] at this;cases this
     exact ⟨c,T,LO cY Vk NV (fun _=>hS F5) N4 wh⟩
    ·intro k i o hk ho
     have ho:=Ro k i hk o ho
     exact ⟨⟨o,ho⟩,o.jV (idx bd.ks),by rw [F6 i (dD.1 hk).1,Rk];simp [hk,ho]⟩
    ·intro k i o hk ho j x hx
     have ho:=Ro k i hk o ho
     exact ⟨o.jV (idx bd.ks),by rw [F6 i (dD.1 hk).1,Rk];simp [hk,ho],(p6 _ _ _ _).2 hx⟩
    ·intro Rp
     rw [F5] at Rp;cases Rp
   ·cases h
 ·split at h
  ·rename_i qs IP OJ
   cases h
   obtain ⟨hq,_⟩:=bg.app hp.2
   rw [bc] at IP
   have Vy:∀ n,ar (eF σ (zk bd.ks nk bd.mJ 0 bd.ks)) n=match idx bd.ks n with
     | some j=>(ar bd.mJ (0+j)).map (Ob.jV (back bd.ks nk))
     | none=>ar σ n:=fun n=>BK bd.ks 0 σ n Rj
   have Ym:∀ k i:Nat,bd.ks[i]?=some k→idx bd.ks k=some i:=by
    intro k i hk
    cases hi:idx bd.ks k with
    | none=>exact (lX _ _ hi i hk).elim
    | some j=>rw [Rj i j k hk (mI _ _ _ hi)]
   have LS:∀ k i:Nat,bd.ks[i]?=some k→k < nk∨nk+16≤k:=fun k i hk=>by
    obtain ⟨o,ho⟩:=yi bd.ks 0 qU Ri k (List.mem_of_getElem? hk)
    exact wc k o ho
   have OM:∀ k i:Nat,bd.ks[i]?=some k→∀ o,ar (eF σ (zk bd.ks nk bd.mJ 0 bd.ks ++ (AA bd.ks nk bd.mJ ++ uv bd.wg bs))) k=some o→(ar bd.mJ i).map (Ob.jV (back bd.ks nk))=some o:=by
    intro k i hk o ho
    rw [gl,gl,lY] at ho
    split at ho
    ·cases ho
    rw [uw _ _ _ IP.1 (LS k i hk),Vy k,Ym k i hk] at ho
    simpa using ho
   refine fin bd.mJ _ hp.1 ?_ ?_ ?_ ?_ ?_ ?_ ?_
   ·intro n hn OL
    show ar (eF σ (zk bd.ks nk bd.mJ 0 bd.ks ++ (AA bd.ks nk bd.mJ ++ uv bd.wg bs))) n=_
    rw [gl,gl,lY,uw _ _ _ IP.1 OL,Vy n,hn]
   ·intro j hj o ho
    have ho:ar (eF σ (zk bd.ks nk bd.mJ 0 bd.ks ++ (AA bd.ks nk bd.mJ ++ uv bd.wg bs))) (nk+j)=some o:=ho
    rw [gl,gl,lY] at ho
    split at ho
    ·cases ho
    rw [AE _ _ _ IP.2] at ho
    split at ho
    ·rename_i o1 wi
     cases ho
     exact ⟨o1,wi,rfl⟩
    ·rw [Vy] at ho
     cases hi:idx bd.ks (nk+j) with
     | some i =>
      rcases LS _ i (mI _ _ _ hi) with h1 | h1<;>omega
     | none =>
      rw [hi] at ho
      rcases wc _ o ho with h1 | h1<;>omega
   ·intro w' S' Aq da hS j hj o1 pl c T h1 h2 h3
    rcases rE _ _ OJ hq _ o1 h1 with hl | ⟨Oy,hf,Nb⟩
    ·exact AF h2 (hS hl) h3
    ·exact Eo h2 hf Nb h3
   ·intro w' S' Aq da Jd g' hS wh k i o pl hk ho hm N4
    have ho:=OM k i hk o ho
    simp only [aG] at ho
    obtain ⟨o1,wi,rfl⟩:=ho
    obtain ⟨rD,c,T,CY,cY⟩:=g'.rep.ob i _ wi
    have gk:i < bd.ks.length:=(dD.1 hk).1
    rw [g'.CC i gk] at CY
    have:μ k=some rD:=by simpa [sm,kf,hk] using CY
    rw [hm] at this;cases this
    refine ⟨c,T,?_⟩
    rcases rE _ _ OJ hq _ o1 wi with hl | ⟨Oy,hf,Nb⟩
    ·exact (AF cY (hS hl) N4).jV wh
    ·exact (Eo (D9:=da) cY hf Nb N4).jV wh
   ·intro k i o hk ho
    have ho:=OM k i hk o ho
    simp only [aG] at ho
    obtain ⟨o1,wi,_⟩:=ho
    exact ⟨yi bd.ks 0 qU Ri k (List.mem_of_getElem? hk),o1,wi⟩
   ·intro k i o hk ho j x hx
    have ho:=OM k i hk o ho
    simp only [aG] at ho
    obtain ⟨o1,wi,rfl⟩:=ho
    exact ⟨o1,wi,(p6 _ _ _ _).1 hx⟩
   ·intro Rp n o1 wi i
    rcases rE _ _ OJ hq _ o1 wi with hl | ⟨Oy,hf,Nb⟩
    ·rw [Rp] at hl;cases hl
    ·exact tN hf Nb i
  ·cases h
def T5:List AV→Bool
 | [.atom v]=>match v with
  | .int k _=>match k with
   | .u8=>true
   | _=>false
  | _=>false
 | _=>false
def Xn:List AV→Int
 | [.atom v]=>match v with
  | .int _ x=>x
  | _=>0
 | _=>0
def strOf (n:Nat) (g:Nat→List AV):ByteArray:=⟨((List.range n).map fun i=>UInt8.ofNat (Xn (g i)).toNat).toArray⟩
theorem Rq {l:List AV} (h:T5 l=true):l=[.atom (.int .u8 (Xn l))]:=by
 unfold T5 at h
 split at h
 ·split at h
  ·split at h
   ·rfl
   ·cases h
  ·cases h
 ·cases h
def yk (P:Program) (σ:dn) (src dst:TypeId) (x:AV):Option (List Prop×AV×List Nat) :=
 match P.underlying src,P.underlying dst with
 | some .string,some (.slice e)=>match P.underlying e,x with
  | some (.int .u8),.atom (.string b)=>some ([],.sl b.size (fun i=>[.atom (.int .u8 (ke b i))]),[])
  | _,_=>none
 | some (.slice e),some .string=>match P.underlying e,ur σ 1 x with
  | some (.int .u8),some (n,g,_,ps,rd)=>some ((∀ i,i < n→T5 (g i)=true) :: ps,.atom (.string (strOf n g)),rd)
  | _,_=>none
 | _,_=>none
theorem foldl_push (l:List Int):∀ (r:ByteArray),l.foldl (fun r n=>r.push (UInt8.ofNat n.toNat)) r=⟨r.data ++ (l.map fun n=>UInt8.ofNat n.toNat).toArray⟩:=by
 induction l with
 | nil=>intro r;simp
 | cons b l ih =>
  simp_all
theorem ON (g:Good E σ S μ w) {src dst:TypeId} {x:AV} {v:Value} (hx:ao w S μ v x) {ps:List Prop} {val:AV} {rd:List Nat} (h:yk P σ src dst x=some (ps,val,rd)) (hp:bg ps) :
  Step P E nk σ S μ w (convert src dst v) val []:=by
 unfold yk at h
 split at h
 ·rename_i e hs hd
  split at h
  ·rename_i b he
   simp only [aA,az] at h
   obtain ⟨rfl,rfl,rfl⟩:=h
   have:=cX hx;subst this
   have ll:=run_bytes_of_string w src dst e b hs hd he
   have ga:=g.drew.MT (.cells (bytesRow b (grownCap w b.size 0 e)) e ((bytesRow b (grownCap w b.size 0 e)).size,(bytesRow b (grownCap w b.size 0 e)).size+1))
   refine ⟨_,_,_,_,ll,(Ext.drew w S μ).trans ga.1,ga.2,fun _ _ h=>h,?_⟩
   refine .sl w.heap.size 0 1 (fun i _=>.int .u8 (ke b i)) (fun _=>⟨rfl,.inr rfl⟩) (fun i hi=>rfl) ?_ ?_ ?_
   ·intro i j hi hj
    have hj:j=0:=by omega
    subst hj
    have:=World.cell?_alloc_mark w.drew (bytesRow b (grownCap w b.size 0 e)) e ((bytesRow b (grownCap w b.size 0 e)).size,(bytesRow b (grownCap w b.size 0 e)).size+1) i
    simp_all [Nat.zero_add,Nat.mul_one,Nat.add_zero,bytesRow,Array.getElem?_append,ke,ByteArray.getElem_eq_getElem_data,getElem?_pos]
   ·intro i j c hi hc
    cases j with
    | zero=>simp at hc;subst hc;exact .atom _
    | succ j=>simp at hc
   ·simp [grownCap,Question.cut]
  ·cases h
 ·rename_i e hs hd
  split at h
  ·rename_i n gt pr qs LJ he uu
   simp only [aA,az] at h
   obtain ⟨rfl,rfl,rfl⟩:=h
   obtain ⟨hu,rV⟩:=hp
   obtain ⟨news,hn⟩:=xk g (P:=P) hx uu rV
   have hsl:∃ a len cap,v=.slice a len cap:=by
    unfold ur at uu
    split at uu
    ·cases hx;exact ⟨_,_,_,rfl⟩
    ·cases hx;exact ⟨_,_,_,rfl⟩
    ·cases hx;exact ⟨_,_,_,rfl⟩
    ·cases uu
   obtain ⟨a,len,cap,rfl⟩:=hsl
   have hlen:len=n:=by
    have:=hn.len w
    simpa [Builtin.lenOf] using this
   subst hlen
   have Tb:news=((List.range len).map fun i=>Value.int .u8 (Xn (gt i))):=by
    have qR:news.length=len:=by simpa using hn.size
    apply List.ext_getElem?
    intro i
    by_cases hi:i < len
    ·have h1:news[i]?=some (news[i]'(by omega)):=o6 _
     have hg:=Rq (hu i hi)
     have h2:=hn.rep i 0 _ _ hi (by rw [hg];rfl) (by simpa only [Nat.mul_one,Nat.add_zero] using h1)
     grind [cX]
    ·simp_all
   have Yn:(((List.range len).map fun i=>Xn (gt i)).foldl (fun r n=>r.push (UInt8.ofNat n.toNat)) ByteArray.empty)=strOf len gt:=by
    rw [foldl_push]
    have h0:ByteArray.empty.data=#[]:=rfl
    rw [h0];simp [strOf]
   refine Step.pure g (v:=.string (strOf len gt)) ?_ (.atom _)
   rw [run_convert_bytes_string w src dst e a len cap hs he hd]
   cases a with
   | none =>
    have:len=0:=by
     rcases Nat.eq_zero_or_pos len with h0 | h0
     ·exact h0
     ·have:=hn.cells w rfl
      simp_all [Builtin.firstCells,congrArg,List.length]
    subst this
    rfl
   | some a =>
    rw [← Yn]
    refine run_bytesToString w a len cap _ ?_
    have:=hn.cells w rfl
    grind [Builtin.firstCells,Function.comp_def]
  ·cases h
 ·cases h
open Go.MapKept
def zl (P:Program) (kt:TypeId) (a b:AV):Option Bool :=
 match a,b with
 | .atom a,.atom b=>match a,b with
  | .string s,.string t=>some (lk s t)
  | .int k x,.int k' y=>match decide (k=k') with
   | true=>some (x == y)
   | false=>none
  | _,_=>none
 | .agg ys,.agg xs=>match Nat.beq ys.length xs.length with
  | true=>BD P 64 kt (.agg xs) (.agg ys)
  | false=>none
 | _,_=>none
def look (P:Program) (kt:TypeId):List AV→AV→Option (Option AV)
 | k :: v :: r,x=>match zl P kt k x with
  | some true=>some (some v)
  | some false=>look P kt r x
  | none=>none
 | [_],_=>none
 | [],_=>some none
def HO (P:Program) (kt:TypeId):List AV→AV→AV→Option (List AV)
 | k :: v :: r,x,y=>match zl P kt k x with
  | some true=>some (k :: y :: r)
  | some false=>(HO P kt r x y).map fun l=>k :: v :: l
  | none=>none
 | [_],_,_=>none
 | [],x,y=>some [x,y]
def allI (k:IntKind):List AV→Bool
 | []=>true
 | .atom (.int k' _) :: r=>match decide (k'=k) with
  | true=>allI k r
  | false=>false
 | _ :: _=>false
def jW (P:Program) (d:TypeDesc) (x:AV):Bool :=
 match d,x with
 | .string,.atom v=>match v with
  | .string _=>true
  | _=>false
 | .int k,.atom v=>match v with
  | .int k' _=>decide (k'=k)
  | _=>false
 | .array n e,.agg xs=>match P.underlying e,ta P e with
  | some (.int k),some m=>Nat.beq m 1 && Nat.beq xs.length n && allI k xs
  | _,_=>false
 | _,_=>false
def tO (R:Value→AV→Prop):List MapEntry→List AV→Prop
 | [],[]=>True
 | e :: es,k :: v :: cs=>R e.key k∧R e.val v∧tO R es cs
 | _,_=>False
theorem KB (c:Array Value) (i:Nat) (hi:i < c.size / 2):(gI c)[i]?=some ⟨c[2 * i]?.getD undef,c[2 * i+1]?.getD undef,i⟩:=by
 simp [gI,hi]
theorem xr (c:Array Value):(gI c).size=c.size / 2:=by simp [gI]
theorem LU {R:Value→AV→Prop} {c:Array Value} {cs:List AV} (h1:c.size % 2=0) (h2:c.size=cs.length) (h3:∀ (j:Nat) x v,cs[j]?=some x→c[j]?=some v→R v x):tO R (gI c).toList cs:=by
 have key:∀ (n o:Nat),2 * (o+n)=c.size→tO R ((List.range' o n).map fun i=>(⟨c[2 * i]?.getD undef,c[2 * i+1]?.getD undef,i⟩:MapEntry)) (cs.drop (2 * o)):=by
  intro n
  induction n with
  | zero=>intro o h;rw [List.drop_of_length_le (by omega)];trivial
  | succ n ih =>
   intro o h
   have e1:2 * o < cs.length:=by omega
   have e2:2 * o+1 < cs.length:=by omega
   rw [List.range'_succ,List.map_cons,List.drop_eq_getElem_cons e1,List.drop_eq_getElem_cons e2]
   have d1:c[2 * o]?=some c[2 * o]:=jd _
   have d2:c[2 * o+1]?=some c[2 * o+1]:=jd _
   have Xh:=ih (o+1) (by omega)
   rw [show 2 * (o+1)=2 * o+1+1 by omega] at Xh
   refine ⟨?_,?_,Xh⟩
   ·grind
   grind
 have:=key (c.size / 2) 0 (by omega)
 have e:(gI c).toList=(List.range' 0 (c.size / 2)).map fun i=>(⟨c[2 * i]?.getD undef,c[2 * i+1]?.getD undef,i⟩:MapEntry):=by
  unfold gI
  rw [Array.toList_map,Array.toList_range,List.range_eq_range']
 rw [e];exact this
theorem LV (a b:ByteArray):(a == b)=lk a b:=by
 have hl:∀ x:ByteArray,x.toList=x.data.toList:=fun x=>ByteArray.toList_eq x
 rw [Bool.eq_iff_iff,bytes_beq]
 unfold lk
 rw [hl,hl,beq_iff_eq]
 constructor
 ·rintro rfl;rfl
 ·intro h
  cases a;simp_all
theorem vC {d:TypeDesc} {kt:TypeId} {kv ev:Value} {v:Value} {k:AV} {b:Bool} (hx:jW P d (.atom v)=true) {w w':World} {S S':Nat→Prop} {μ da:Mu} (h1:ao w S μ kv (.atom v)) (h2:ao w' S' da ev k) (h:zl P kt k (.atom v)=some b) :
  IsKey d kv∧Instr.sameNow d kv ev=some b∧(b=true→ev=kv):=by
 have:=cX h1;subst this
 cases k with
 | atom u =>
  have:=cX h2;subst this
  cases d<;>cases kv<;>simp [jW] at hx
  ·rename_i k0 k' n
   subst hx
   cases ev<;>simp [zl] at h
   rename_i ka a
   by_cases hk:ka=k'
   ·subst hk
    rw [decide_eq_true rfl] at h
    simp only [aA] at h
    subst h
    refine ⟨rfl,?_,?_⟩
    ·simp only [Instr.sameNow,if_true]
     grind
    simp
   simp_all
  ·cases ev<;>simp [zl] at h
   rename_i s a
   subst h
   refine ⟨trivial,?_,?_⟩
   ·simp only [Instr.sameNow,LV]
    congr 1
    unfold lk;grind
   ·intro hb
    rw [← LV,bytes_beq] at hb
    rw [hb]
 | _=>simp [zl] at h
theorem Jf {d:TypeDesc} {kv v:Value} (hx:jW P d (.atom v)=true) {w:World} {S:Nat→Prop} {μ:Mu} (h1:ao w S μ kv (.atom v)):IsKey d kv:=by
 have:=cX h1;subst this
 cases d<;>cases kv<;>simp [jW] at hx
 ·exact hx
 ·trivial
theorem yl {d:TypeDesc} {xs:List AV} (hx:jW P d (.agg xs)=true):∃ n e k,d=.array n e∧P.underlying e=some (.int k)∧ta P e=some 1∧xs.length=n∧allI k xs=true:=by
 cases d<;>simp [jW] at hx
 rename_i n e
 split at hx
 ·rename_i k m h1 h2
  simp only [bc] at hx
  have hm:=bK hx.1.1
  subst hm
  exact ⟨n,e,k,rfl,h1,h2,bK hx.1.2,hx.2⟩
 ·cases hx
theorem LW {k:IntKind}:∀ {xs:List AV},allI k xs=true→∀ i,i < xs.length→∃ a,xs[i]?=some (.atom (.int k a))
 | [],_,i,h=>by simp at h
 | .atom (.int k' a) :: r,h,i,hi=>by
  unfold allI at h
  split at h
  ·rename_i hk
   have hk:=rA hk
   subst hk
   cases i with
   | zero=>exact ⟨a,rfl⟩
   | succ i=>simpa using LW h i (by simpa using hi)
  ·cases h
theorem AG {k:IntKind} {xs:List AV} (h:allI k xs=true) {w:World} {S:Nat→Prop} {μ:Mu} {kv:Value} (hr:ao w S μ kv (.agg xs)):∃ vs:Array Value,kv=.agg vs∧vs.size=xs.length∧∀ i,i < xs.length→∃ a,xs[i]?=some (.atom (.int k a))∧vs[i]?=some (.int k a):=by
 obtain ⟨vs,rfl,h1,h2⟩:=nf hr
 refine ⟨vs,rfl,h1,fun i hi=>?_⟩
 obtain ⟨a,ha⟩:=LW h i hi
 have hv:vs[i]?=some vs[i]:=jd _
 have:=cX (h2 i _ _ ha hv)
 exact ⟨a,ha,by rw [hv,this]⟩
theorem ym {k:IntKind}:∀ {xs:List AV},allI k xs=true→AV.lz xs=true
 | [],_=>rfl
 | .atom (.int k' a) :: r,h=>by
  unfold allI at h
  split at h
  ·simpa [AV.lz,AV.pure] using ym h
  ·cases h
theorem GS {d:TypeDesc} {kt:TypeId} {kv xv:Value} (hx:jW P d (.atom xv)=true) {w w':World} {S S':Nat→Prop} {μ da:Mu} (h1:ao w S μ kv (.atom xv)):∀ (es:List MapEntry) (cs:List AV) (i:Nat) (r:Option AV),tO (ao w' S' da) es cs→look P kt cs (.atom xv)=some r →
  (r=none∧Instr.findNow d kv es i=some none)∨∃ (j:Nat) (e:MapEntry) (v:AV),r=some v∧Instr.findNow d kv es i=some (some (i+j,e.val))∧ao w' S' da e.val v
 | [],[],i,r,_,h=>by simp only [look,aA] at h;exact .inl ⟨h.symm,rfl⟩
 | e :: es,k :: v :: cs,i,r,hR,h=>by
  obtain ⟨r1,r2,r3⟩:=hR
  simp only [look] at h
  split at h
  ·rename_i hq
   cases h
   obtain ⟨_,q2,_⟩:=vC hx h1 r1 hq
   exact .inr ⟨0,e,v,rfl,by simp [Instr.findNow,q2],r2⟩
  ·rename_i hq
   obtain ⟨_,q2,_⟩:=vC hx h1 r1 hq
   rcases GS hx h1 es cs (i+1) r r3 h with ⟨a,b⟩ | ⟨j,e',v',a,b,c⟩
   ·grind [Instr.findNow]
   ·exact .inr ⟨j+1,e',v',a,by grind [Instr.findNow],c⟩
  ·cases h
 | [],_ :: _,_,_,hR,_=>by simp [tO] at hR
 | _ :: _,[],_,_,hR,_=>by simp [tO] at hR
 | _ :: _,[_],_,_,hR,_=>by simp [tO] at hR
theorem Jg {d:TypeDesc} {kt:TypeId} {kv xv:Value} {y:AV} (hx:jW P d (.atom xv)=true) {w w':World} {S S':Nat→Prop} {μ da:Mu} (h1:ao w S μ kv (.atom xv)):∀ (es:List MapEntry) (cs:List AV) (i:Nat) (GU:List AV),tO (ao w' S' da) es cs→HO P kt cs (.atom xv) y=some GU →
  (Instr.findNow d kv es i=some none∧GU=cs ++ [.atom xv,y])∨∃ (j:Nat) (e:MapEntry),Instr.findNow d kv es i=some (some (i+j,e.val))∧es[j]?=some e∧e.key=kv∧GU=cs.set (2 * j+1) y
 | [],[],i,GU,_,h=>by simp only [HO,aA] at h;exact .inl ⟨rfl,h.symm⟩
 | e :: es,k :: v :: cs,i,GU,hR,h=>by
  obtain ⟨r1,r2,r3⟩:=hR
  simp only [HO] at h
  split at h
  ·rename_i hq
   cases h
   obtain ⟨_,q2,q3⟩:=vC hx h1 r1 hq
   exact .inr ⟨0,e,by simp [Instr.findNow,q2],rfl,q3 rfl,rfl⟩
  ·rename_i hq
   obtain ⟨_,q2,_⟩:=vC hx h1 r1 hq
   simp only [aG] at h
   obtain ⟨l,hl,rfl⟩:=h
   rcases Jg hx h1 es cs (i+1) l r3 hl with ⟨a,b⟩ | ⟨j,e',a,b,c,q⟩
   ·grind [Instr.findNow]
   ·exact .inr ⟨j+1,e',by grind [Instr.findNow],by simpa using b,c,by grind⟩
  ·cases h
 | [],_ :: _,_,_,hR,_=>by simp [tO] at hR
 | _ :: _,[],_,_,hR,_=>by simp [tO] at hR
 | _ :: _,[_],_,_,hR,_=>by simp [tO] at hR
theorem OO {e:TypeId} {k:IntKind} (hu:P.underlying e=some (.int k)):∀ (D n i:Nat) (xs ys:List AV),zf P D e 1 xs ys i n=some true→∀ j,i≤j→j < i+n→xs[j]?=ys[j]?∧(xs[j]?).isSome=true:=by
 intro D
 induction D with
 | zero =>
  grind [zf]
 | succ D ih =>
  intro n i xs ys h j h1 h2
  cases n with
  | zero=>omega
  | succ n =>
   simp only [zf,Nat.mul_one] at h
   split at h
   ·rename_i a c _ ha hc
    split at h
    ·rename_i p q hp hq
     simp only [aA,bc] at h
     obtain ⟨rfl,rfl⟩:=h
     by_cases hj:j=i
     ·subst hj
      have cell:∀ (l:List AV) (z:AV),jS P e l j=some z→l[j]?=some z:=fun l z hz=>by
       grind [jS]
      rw [cell _ _ ha,cell _ _ hc]
      cases D with
      | zero=>simp [BD] at hp
      | succ D =>
       simp only [BD,hu] at hp
       grind
     ·exact ih n (i+1) xs ys hq j (by omega) (by omega)
    ·cases h
   ·cases h
theorem yn {d:TypeDesc} {kt:TypeId} (hd:P.underlying kt=some d) {xs:List AV} (hx:jW P d (.agg xs)=true) {w:World} {S:Nat→Prop} {kv ev:Value} {k:AV} {b:Bool} (h1:ao w S iI kv (.agg xs)) (h2:ao w S iI ev k) (h:zl P kt k (.agg xs)=some b) :
  (Op.equal kt kv ev).run P w=.ok b w∧(b=true→ev=kv):=by
 cases k with
 | agg ys =>
  unfold zl at h
  simp only at h
  split at h
  ·rename_i hl
   have hl:=bK hl
   refine ⟨(I1 64).1 Op.maxDepth kt _ _ _ _ _ (by decide) h1 h2 h,fun hb=>?_⟩
   subst hb
   obtain ⟨n,e,kk,rfl,hu,hs,hn,mK⟩:=yl hx
   obtain ⟨vs,rfl,F3,CZ⟩:=AG mK h1
   obtain ⟨us,rfl,MW,I2⟩:=nf h2
   simp only [BD,hd,hs] at h
   have si:=OO hu _ _ _ _ _ h
   congr 1
   apply Array.ext
   ·omega
   ·intro i hi1 Tg
    have hi:i < xs.length:=by omega
    obtain ⟨a,T6,QU⟩:=CZ i hi
    obtain ⟨hq,_⟩:=si i (Nat.zero_le _) (by omega)
    rw [T6] at hq
    have:=cX (I2 i _ us[i] hq.symm (jd _))
    rw [this]
    rw [jd Tg] at QU
    exact (Option.some.inj QU).symm
  ·cases h
 | _=>simp [zl] at h
theorem Jh {d:TypeDesc} {kt:TypeId} (hd:P.underlying kt=some d) {xs:List AV} (hx:jW P d (.agg xs)=true) {w:World} {S:Nat→Prop} {kv:Value} (h1:ao w S iI kv (.agg xs)):∀ (es:List MapEntry) (cs:List AV) (i:Nat) (r:Option AV),tO (ao w S iI) es cs→look P kt cs (.agg xs)=some r →
  (r=none∧(Instr.findAsking kt kv es i).run P w=.ok none w)∨∃ (j:Nat) (e:MapEntry) (v:AV),r=some v∧(Instr.findAsking kt kv es i).run P w=.ok (some (i+j,e.val)) w∧ao w S iI e.val v
 | [],[],i,r,_,h=>by simp_all [look,aA,Instr.findAsking]
 | e :: es,k :: v :: cs,i,r,hR,h=>by
  obtain ⟨r1,r2,r3⟩:=hR
  simp only [look] at h
  split at h
  ·rename_i hq
   cases h
   obtain ⟨q2,_⟩:=yn hd hx h1 r1 hq
   exact .inr ⟨0,e,v,rfl,by simp [Instr.findAsking,q2,Result.andThen],r2⟩
  ·rename_i hq
   obtain ⟨q2,_⟩:=yn hd hx h1 r1 hq
   rcases Jh hd hx h1 es cs (i+1) r r3 h with ⟨a,b⟩ | ⟨j,e',v',a,b,c⟩
   ·simp_all [Instr.findAsking,Result.andThen]
   ·exact .inr ⟨j+1,e',v',a,by simp [Instr.findAsking,q2,Result.andThen,b];omega,c⟩
  ·cases h
 | [],_ :: _,_,_,hR,_=>by simp [tO] at hR
 | _ :: _,[],_,_,hR,_=>by simp [tO] at hR
 | _ :: _,[_],_,_,hR,_=>by simp [tO] at hR
theorem LX {d:TypeDesc} {kt:TypeId} (hd:P.underlying kt=some d) {xs:List AV} {y:AV} (hx:jW P d (.agg xs)=true) {w:World} {S:Nat→Prop} {kv:Value} (h1:ao w S iI kv (.agg xs)):∀ (es:List MapEntry) (cs:List AV) (i:Nat) (GU:List AV),tO (ao w S iI) es cs→HO P kt cs (.agg xs) y=some GU →
  ((Instr.findAsking kt kv es i).run P w=.ok none w∧GU=cs ++ [.agg xs,y])∨∃ (j:Nat) (e:MapEntry),(Instr.findAsking kt kv es i).run P w=.ok (some (i+j,e.val)) w∧es[j]?=some e∧e.key=kv∧GU=cs.set (2 * j+1) y
 | [],[],i,GU,_,h=>by simp_all [HO,aA,Instr.findAsking]
 | e :: es,k :: v :: cs,i,GU,hR,h=>by
  obtain ⟨r1,r2,r3⟩:=hR
  simp only [HO] at h
  split at h
  ·rename_i hq
   cases h
   obtain ⟨q2,q3⟩:=yn hd hx h1 r1 hq
   exact .inr ⟨0,e,by simp [Instr.findAsking,q2,Result.andThen],rfl,q3 rfl,rfl⟩
  ·rename_i hq
   obtain ⟨q2,_⟩:=yn hd hx h1 r1 hq
   simp only [aG] at h
   obtain ⟨l,hl,rfl⟩:=h
   rcases LX hd hx h1 es cs (i+1) l r3 hl with ⟨a,b⟩ | ⟨j,e',a,b,c,q⟩
   ·simp_all [Instr.findAsking,Result.andThen]
   ·exact .inr ⟨j+1,e',by simp [Instr.findAsking,q2,Result.andThen,a];omega,by simpa using b,c,by grind⟩
  ·cases h
 | [],_ :: _,_,_,hR,_=>by simp [tO] at hR
 | _ :: _,[],_,_,hR,_=>by simp [tO] at hR
 | _ :: _,[_],_,_,hR,_=>by simp [tO] at hR
theorem AH {kt:TypeId} {n:Nat} {e:TypeId} (hd:P.underlying kt=some (.array n e)) {w:World} {vs:Array Value} {es:List MapEntry} {a:Option (Nat×Value)} (h:(Instr.findAsking kt (.agg vs) es 0).run P w=.ok a w):(Instr.findKey kt (.agg vs) es).run P w=.ok a w:=by
 cases es with
 | nil =>
  simp_all [Instr.findAsking,Instr.findKey,run_underlying,Result.andThen,Instr.findNow]
 | cons z es=>simp_all [Instr.findKey,run_underlying,Result.andThen,Instr.findNow,Instr.sameNow]
theorem OP {d:TypeDesc} {kt:TypeId} (hd:P.underlying kt=some d) {x:AV} (hx:jW P d x=true) {w:World} {S:Nat→Prop} {μ:Mu} {kv:Value} (h1:ao w S μ kv x) {es:List MapEntry} {cs:List AV} {r:Option AV} (hR:tO (ao w S iI) es cs) (h:look P kt cs x=some r) :
  (r=none∧(Instr.findKey kt kv es).run P w=.ok none w)∨∃ (j:Nat) (e:MapEntry) (v:AV),r=some v∧(Instr.findKey kt kv es).run P w=.ok (some (j,e.val)) w∧ao w S iI e.val v:=by
 cases x with
 | atom xv =>
  rcases GS hx h1 es cs 0 r hR h with ⟨a,b⟩ | ⟨j,e,v,a,b,c⟩
  ·grind [run_findKey]
  ·exact .inr ⟨j,e,v,a,by simp_all [Nat.zero_add,run_findKey],c⟩
 | agg xs =>
  obtain ⟨n,e,k,rfl,_,_,_,mK⟩:=yl hx
  have QV:ao w S iI kv (.agg xs):=h1.pure (ym mK) iI
  obtain ⟨vs,rfl,_,_⟩:=AG mK QV
  rcases Jh hd hx QV es cs 0 r hR h with ⟨a,b⟩ | ⟨j,e,v,a,b,c⟩
  ·grind [AH]
  ·exact .inr ⟨j,e,v,a,by rw [Nat.zero_add] at b;exact AH hd b,c⟩
 | _=>grind [jW]
theorem Rr {d:TypeDesc} {kt:TypeId} (hd:P.underlying kt=some d) {x y:AV} (hx:jW P d x=true) {w:World} {S:Nat→Prop} {μ:Mu} {kv:Value} (h1:ao w S μ kv x) {es:List MapEntry} {cs GU:List AV} (hR:tO (ao w S iI) es cs) (h:HO P kt cs x y=some GU) :
  ((Instr.findKey kt kv es).run P w=.ok none w∧GU=cs ++ [x,y])∨∃ (j:Nat) (e:MapEntry),(Instr.findKey kt kv es).run P w=.ok (some (j,e.val)) w∧es[j]?=some e∧e.key=kv∧GU=cs.set (2 * j+1) y:=by
 cases x with
 | atom xv =>
  rcases Jg hx h1 (y:=y) es cs 0 GU hR h with ⟨a,b⟩ | ⟨j,e,a,b⟩
  ·grind [run_findKey]
  ·exact .inr ⟨j,e,by simp_all [Nat.zero_add,run_findKey],b⟩
 | agg xs =>
  obtain ⟨n,e,k,rfl,_,_,_,mK⟩:=yl hx
  have QV:ao w S iI kv (.agg xs):=h1.pure (ym mK) iI
  obtain ⟨vs,rfl,_,_⟩:=AG mK QV
  rcases LX hd hx QV (y:=y) es cs 0 GU hR h with ⟨a,b⟩ | ⟨j,e,a,b⟩
  ·grind [AH]
  ·exact .inr ⟨j,e,by rw [Nat.zero_add] at a;exact AH hd a,b⟩
 | _=>grind [jW]
theorem OQ {d:TypeDesc} {x:AV} (hx:jW P d x=true):x.pure=true:=by
 cases x with
 | atom xv=>rfl
 | agg xs=>grind [yl,AV.pure,ym]
 | _=>grind [jW]
theorem GV {d:TypeDesc} {kt:TypeId} (hd:P.underlying kt=some d) {x:AV} (hx:jW P d x=true) {w:World} {S:Nat→Prop} {μ:Mu} {kv:Value} (h1:ao w S μ kv x) (b:Bool):(Instr.checkKey b 10000 kt kv).run P w=.ok () w:=by
 cases x with
 | atom xv=>grind [run_checkKey,Jf]
 | agg xs =>
  obtain ⟨n,e,k,rfl,hu,hs,hn,mK⟩:=yl hx
  obtain ⟨vs,rfl,F3,CZ⟩:=AG mK h1
  obtain ⟨us,hus,MW,I2⟩:=nf h1
  cases hus
  have loop:∀ (m i:Nat),i+m=n→(forIn (m:=Sem) (List.range' i m) PUnit.unit fun i _=>do
    let z ← sizeOf e
    let q ← part e vs (i * z)
    Instr.checkKey b 9999 e q
    pure (ForInStep.yield PUnit.unit)).run P w=.ok PUnit.unit w:=by
   intro m
   induction m with
   | zero=>intro i _;simp
   | succ m ih =>
    intro i him
    have hi:i < xs.length:=by omega
    obtain ⟨a,T6,QU⟩:=CZ i hi
    have hc:jS P e xs i=some (.atom (.int k a)):=by
     unfold jS
     rw [hu,hs]
     exact T6
    obtain ⟨v,r1,r2⟩:=jT F3 I2 hc (fun n' HJ=>by grind)
    have:=cX r2;subst this
    have hck:(Instr.checkKey b 9999 e (.int k a)).run P w=.ok () w:=run_checkKey hu (show IsKey (.int k) (.int k a) from rfl) b 9998
    rw [List.range'_succ,List.forIn_cons]
    simp only [bD,ey hs,Nat.mul_one,r1,hck,cV]
    simpa using ih (i+1) (by omega)
  unfold Instr.checkKey
  simp only [bD,run_underlying hd,cV]
  simp_all
 | _=>grind [jW]
theorem Nc {d:TypeDesc} {x:AV} (hx:jW P d x=true) {w:World} {S:Nat→Prop} {μ:Mu} {kv:Value} (h1:ao w S μ kv x):(Instr.keyThatStays kv kv).run P w=.ok kv w:=by
 cases x with
 | atom xv=>exact run_keyThatStays (Jf hx h1)
 | agg xs =>
  obtain ⟨n,e,k,rfl,hu,hs,hn,mK⟩:=yl hx
  obtain ⟨vs,rfl,F3,CZ⟩:=AG mK h1
  have:Instr.sameBits 10000 (.agg vs) (.agg vs)=true:=by
   have hz:∀ l:List Value,(∀ v,v∈l→∃ a,v=.int k a)→(l.zip l).all (fun (x,y)=>Instr.sameBits 9999 x y)=true:=by
    intro l
    induction l with
    | nil=>intro _;rfl
    | cons a l ih =>
     intro h
     obtain ⟨z,rfl⟩:=h a (.head _)
     simp only [List.zip_cons_cons,List.all_cons,bc]
     exact ⟨by simp [Instr.sameBits],ih fun v hv=>h v (.tail _ hv)⟩
   simp only [Instr.sameBits,beq_self_eq_true,Bool.true_and]
   refine hz _ fun v hv=>?_
   obtain ⟨i,hi,rfl⟩:=List.getElem_of_mem hv
   have hi:i < vs.size:=by simpa using hi
   obtain ⟨a,_,ha⟩:=CZ i (by omega)
   rw [jd hi] at ha
   exact ⟨a,by simpa using Option.some.inj ha⟩
  simp [Instr.keyThatStays,this]
 | _=>cases d<;>simp [jW] at hx
theorem Ji (c:Array Value) (h:c.size % 2=0) (a b:Value):gI ((c.push a).push b)=(gI c).push ⟨a,b,c.size / 2⟩:=by
 apply Array.ext
 ·simp [gI];omega
 ·intro i h1 h2
  have hs:i < (c.size+1+1) / 2:=by simpa [gI] using h1
  by_cases hi:i < c.size / 2
  ·rw [Array.getElem_push_lt (by rw [xr];exact hi)]
   have e1:2 * i < c.size:=by omega
   have e2:2 * i+1 < c.size:=by omega
   simp [gI,Array.getElem?_push,e1,e2,Nat.ne_of_lt e1,Nat.ne_of_lt e2,show ¬ 2 * i=c.size+1 by omega,show ¬ 2 * i+1=c.size+1 by omega]
  ·have:i=c.size / 2:=by omega
   subst this
   have e1:2 * (c.size / 2)=c.size:=by omega
   simp [gI,Array.getElem_push,Array.getElem?_push,e1]
theorem KC (c:Array Value) (j:Nat) (e:MapEntry) (he:(gI c)[j]?=some e) (v:Value):gI (c.setIfInBounds (2 * j+1) v)=(gI c).modify j fun q=>{ q with key:=e.key,val:=v }:=by
 have hj:j < c.size / 2:=by
  have:=(Array.getElem?_eq_some_iff.1 he).1
  rwa [xr] at this
 rw [KB c j hj] at he
 cases he
 apply Array.ext
 ·simp [gI]
 ·intro i h1 h2
  have hi:i < c.size / 2:=by simpa [gI] using h1
  rw [Array.getElem_modify]
  by_cases T7:j=i
  ·subst T7
   simp [gI,Array.getElem?_setIfInBounds,show ¬ 2 * j+1=2 * j by omega,show 2 * j+1 < c.size by omega]
  ·rw [if_neg T7]
   simp [gI,Array.getElem?_setIfInBounds,show ¬ 2 * j+1=2 * i by omega,show ¬ 2 * j=2 * i by omega,T7]
def ux (P:Program) (σ:dn) (t:TypeId) (m x:AV) (ok:Bool) (bd:nG):Option (List Prop×AV×List Nat) :=
 match m,P.underlying t with
 | .mp k,some (.map kt et)=>match P.underlying kt,ar σ k,rr P et with
  | some d,some o,some z=>match jW P d x && Nat.beq o.sz 0 with
   | true=>match ok with
    | false=>some ([(look P kt (o.get 0) x).map (fun r=>r.getD (ofConst z))=some bd.res],bd.res,[k])
    | true=>some ([(look P kt (o.get 0) x).map (fun r=>AV.tup [r.getD (ofConst z),.atom (.bool r.isSome)])=some bd.res],bd.res,[k])
   | false=>none
  | _,_,_=>none
 | _,_=>none
def uy (P:Program) (σ:dn) (t:TypeId) (m x y:AV) (bd:nG):Option (List Prop×qS×List Nat) :=
 match m,P.underlying t,bd.res with
 | .mp k,some (.map kt _),.tup cs=>match P.underlying kt,ar σ k with
  | some d,some o=>match jW P d x && Nat.beq o.sz 0 && Nat.beq o.len 0 && y.pure with
   | true=>some ([HO P kt (o.get 0) x y=some cs],[(k,some ⟨o.var,o.sz,o.len,true,fun _=>cs⟩)],[k])
   | false=>none
  | _,_=>none
 | _,_,_=>none
theorem GW (g:Good E σ S μ w) {k:Nat} {o:Ob} (ho:ar σ k=some o) (hz:o.sz=0) {v:Value} (hv:ao w S μ v (.mp k)) :
  ∃ pl c T,μ k=some pl∧gD w S μ o pl c T∧v=.map (some pl.cy):=by
 obtain ⟨pl,c,T,hm,cY⟩:=g.rep.ob k o ho
 cases hv with
 | mp jQ gF=>grind
theorem Nd (g:Good E σ S μ w) {t:TypeId} {m x:AV} {ok:Bool} {bd:nG} {vm vx:Value} (hm:ao w S μ vm m) (hx:ao w S μ vx x) {ps:List Prop} {val:AV} {rd:List Nat}
  (h:ux P σ t m x ok bd=some (ps,val,rd)) (hp:bg ps):∃ v,(Instr.lookup t vm vx ok).run P w=.ok v w∧ao w S μ v val:=by
 unfold ux at h
 split at h
 ·rename_i k kt et ht
  split at h
  ·rename_i d o z hd ho hz
   split at h
   ·rename_i hb
    simp only [bc] at hb
    have N5:=bK hb.2
    obtain ⟨pl,c,T,tL,cY,rfl⟩:=GW g ho N5 hm
    obtain ⟨hc,m1,m2,m3,m4⟩:=cY.mp N5
    have Jj:w.heap[pl.cy]?=some (.map (gI c) (c.size / 2)):=(cY.cy hc).trans (by rw [zC N5])
    have OS:=LU m1 m2 m4
    have OT:=fun b=>GV hd hb.1 hx b
    have main:∀ r,look P kt (o.get 0) x=some r→∃ v,ao w S μ v (r.getD (ofConst z))∧(Instr.lookup t (.map (some pl.cy)) vx ok).run P w=.ok (if ok then .tuple #[v,.bool r.isSome] else v) w:=by
     intro r hr
     rcases OP hd hb.1 hx OS hr with ⟨rfl,q⟩ | ⟨j,e,v,rfl,q1,q2⟩
     ·refine ⟨z,GG w S μ z,?_⟩
      simp [Instr.lookup,run_underlying ht,Go.MapKept.run_getObj_map Jj,OT,q,GH hz,Result.andThen]
     ·refine ⟨e.val,iz (pr:=true) q2,?_⟩
      simp [Instr.lookup,run_underlying ht,Go.MapKept.run_getObj_map Jj,OT,q1,Result.andThen]
    split at h
    ·simp only [aA,az] at h
     obtain ⟨rfl,rfl,rfl⟩:=h
     obtain ⟨xa,_⟩:=hp
     simp only [aG] at xa
     obtain ⟨r,hr,eI⟩:=xa
     obtain ⟨v,h1,h2⟩:=main r hr
     exact ⟨v,by simpa using h2,by rw [← eI];exact h1⟩
    ·simp only [aA,az] at h
     obtain ⟨rfl,rfl,rfl⟩:=h
     obtain ⟨xa,_⟩:=hp
     simp only [aG] at xa
     obtain ⟨r,hr,eI⟩:=xa
     obtain ⟨v,h1,h2⟩:=main r hr
     refine ⟨.tuple #[v,.bool r.isSome],by simpa using h2,?_⟩
     rw [← eI]
     refine .tup rfl fun j c v' hc hv=>?_
     match j with
     | 0=>simp at hc hv;subst hc hv;exact h1
     | 1=>simp at hc hv;subst hc hv;exact .atom _
     | j+2=>simp at hc
   ·cases h
  ·cases h
 ·cases h
theorem GX (g:Good E σ S μ w) {t:TypeId} {m x y:AV} {bd:nG} {vm vx vy:Value} (hm:ao w S μ vm m) (hx:ao w S μ vx x) (hy:ao w S μ vy y) {ps:List Prop} {ld:qS} {rd:List Nat}
  (h:uy P σ t m x y bd=some (ps,ld,rd)) (hp:bg ps):∃ w',(Instr.mapUpdate t vm vx vy).run P w=.ok () w'∧Ext w S μ w' S μ∧Good E (eF σ ld) S μ w':=by
 unfold uy at h
 split at h
 ·rename_i k kt et cs ht Na
  split at h
  ·rename_i d o hd ho
   split at h
   ·rename_i hb
    simp only [aA,az] at h
    obtain ⟨rfl,rfl,rfl⟩:=h
    simp only [bc] at hb
    obtain ⟨⟨⟨qQ,oc⟩,NU⟩,Rc⟩:=hb
    have N5:=bK oc
    have I4:=bK NU
    obtain ⟨xa,_⟩:=hp
    obtain ⟨pl,c,T,tL,cY,rfl⟩:=GW g ho N5 hm
    obtain ⟨hc,m1,m2,m3,m4⟩:=cY.mp N5
    have Jj:w.heap[pl.cy]?=some (.map (gI c) (c.size / 2)):=(cY.cy hc).trans (by rw [zC N5])
    have OS:=LU m1 m2 m4
    have OT:=fun b=>GV hd qQ hx b
    have VT:=Nc qQ hx
    have hxp:x.pure=true:=OQ qQ
    -- the block that is written
    have fin:∀ (c':Array Value),c'.size % 2=0→c'.size=cs.length→(∀ (j:Nat) x v,cs[j]?=some x→c'[j]?=some v→ao w S iI v x) →
      (Instr.mapUpdate t (.map (some pl.cy)) vx vy).run P w=.ok () { w with heap:=w.heap.setIfInBounds pl.cy (.map (gI c') (c'.size / 2)) } →
      ∃ w',(Instr.mapUpdate t (.map (some pl.cy)) vx vy).run P w=.ok () w'∧Ext w S μ w' S μ∧Good E (eF σ [(k,some ⟨o.var,o.sz,o.len,true,fun _=>cs⟩)]) S μ w':=by
     intro c' e1 e2 e3 ll
     refine ⟨_,ll,?_⟩
     have Nf:=heap_set (o':=.map (gI c') (c'.size / 2)) Jj
     refine g.Q5 (w':={ w with heap:=w.heap.setIfInBounds pl.cy (.map (gI c') (c'.size / 2)) }) ho tL hc cY rfl rfl rfl (by simp) (fun b hb=>Nf.2 b hb) ⟨o.var,o.sz,o.len,true,fun _=>cs⟩ (pf fun i hi=>absurd hi (by show ¬ i < o.len;omega)) (fun ex=>⟨c',T,cY.sz,fun _=>?_,?_,by simp_all,cY.out,fun i hi=>absurd hi (by show ¬ i < o.len;omega),fun i j x v hi=>absurd hi (by show ¬ i < o.len;omega),fun _=>⟨hc,e1,e2,rfl,fun j x v hx hv=>(e3 j x v hx hv).mono ex.Hy ex.cy (fun _ _ h=>h)⟩⟩)
     ·grind [zB,zC]
     ·simp_all
    rcases Rr hd qQ hx (y:=y) OS xa with ⟨q1,q2⟩ | ⟨j,e,q1,q2,q3,q4⟩
    ·refine fin ((c.push vx).push vy) (by simp;omega) (by rw [q2];simp;omega) ?_ ?_
     ·intro j x' v' we sf
      rw [q2] at we
      by_cases hj:j < c.size
      ·grind
      ·rw [jt (by omega)] at we
       by_cases Xe:j=c.size
       ·subst Xe
        rw [show c.size - (o.get 0).length=0 by omega] at we
        rw [Array.getElem?_push,if_neg (by simp),Array.getElem?_push,if_pos rfl] at sf
        simp at we sf
        subst we sf
        exact hx.pure hxp iI
       ·by_cases hj1:j=c.size+1
        ·subst hj1
         rw [show c.size+1 - (o.get 0).length=1 by omega] at we
         rw [Array.getElem?_push,if_pos (by simp)] at sf
         simp at we sf
         subst we sf
         exact hy.pure Rc iI
        ·rw [n8 (by simp;omega)] at we;cases we
     ·rw [Ji c m1]
      have e:((c.push vx).push vy).size / 2=c.size / 2+1:=by simp;omega
      rw [e]
      simp [Instr.mapUpdate,run_underlying ht,Go.MapKept.run_getObj_map Jj,OT,q1,Go.MapKept.run_setObj_map _ Jj,Result.andThen]
    ·have Vl:(gI c)[j]?=some e:=by simpa using q2
     have hj:j < c.size / 2:=by
      have:=(Array.getElem?_eq_some_iff.1 Vl).1
      rwa [xr] at this
     refine fin (c.setIfInBounds (2 * j+1) vy) (by simpa using m1) (by rw [q4];simpa using m2) ?_ ?_
     ·intro i x' v' we sf
      rw [q4,List.getElem?_set] at we
      rw [Array.getElem?_setIfInBounds] at sf
      by_cases hi:2 * j+1=i
      ·subst hi
       rw [if_pos rfl,if_pos (by omega)] at we
       rw [if_pos rfl,if_pos (by omega)] at sf
       simp at we sf
       subst we sf
       exact hy.pure Rc iI
      ·rw [if_neg hi] at we sf
       exact m4 i x' v' we sf
     ·rw [KC c j e Vl vy]
      simp [Instr.mapUpdate,run_underlying ht,Go.MapKept.run_getObj_map Jj,OT,q1,Vl,q3,VT,Go.MapKept.run_setObj_map _ Jj,Result.andThen]
   ·cases h
  ·cases h
 ·cases h
theorem KD (g:Good E σ S μ w) (zH:∀ j,j < 16→μ (nk+j)=none) (tq:E.m0≤nk) {f:AV} {args:List AV} {bd:nG} {r:R} {fv:Value} (hf:ao w S μ fv f) {vargs:Array Value} (ha:RL w S μ vargs args)
  (hz:bd.wg=true→∀ b,¬ E.fp b) (h:Em P nk σ f args bd=some r) (hp:bg r.GO) :
  ∃ gid vs,(do let d ← Deferred.ofValue fv vargs;invoke d.target d.args:Sem Next).run P w=.ok (.enter gid vs) w ∧
   Calls P gid vs w fun e w'=>∃ v S' da,e=.returned v∧Ext w S μ w' S' da∧Good E (eF σ r.ld) S' da w'∧(∀ k,(k < nk∨nk+16≤k)→μ k=none→da k=none)∧ao w' S' da v r.val :=
 CI (ob:=Sound P) g zH tq hf ha hz (fun _ _ _ _ _ _ vs hs g0 hn mK=>hs w _ _ vs g0 hn mK) h hp
end
end Go.Ab
