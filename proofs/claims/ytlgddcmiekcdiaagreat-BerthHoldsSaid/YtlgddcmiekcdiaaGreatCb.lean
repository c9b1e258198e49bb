/- Abstract values over the heap of the machine, and functions read off its code (part 2). No conditions. -/
import Derived.Test.YtlgddcmiekcdiaaGreatCa
import Derived.Laws.IdiomStrings
import Derived.MapKept
import Derived.Carry
set_option linter.unusedVariables false
set_option linter.unusedSimpArgs false
namespace Go.Ab
def RO (w:World) (σ:dw) (μ:Mu) (b:Nat):Prop:=(∃ k o pl,au σ k=some o∧μ k=some pl∧0 < pl.cap∧pl.cK=b)∨∃ k i x v,ja w μ σ k i x v∧ptrTo v b
def xN (w:World) (S:Nat→Prop) (σ:dw) (μ:Mu) (m:Nat):Env:=⟨w,S,RO w σ μ,μ,m⟩
def Sound (P:Program) (f:FuncId) (args:List AV) (σ:dw) (m:Nat) (res:AV) (eS:dw):Prop :=
 ∀ (w:World) (S:Nat→Prop) (μ:Mu) (vs:Array Value),Good (xN w S σ μ m) σ S μ w→(∀ k,m≤k→μ k=none)→RL w S μ vs args →
  Calls P f vs w fun e w'=>∃ v S' dn,e=.returned v∧Good (xN w S σ μ m) eS S' dn w'∧aq w' S' dn v res
section
variable {E:Env} {nk:Nat} {σ:dw} {S:Nat→Prop} {μ:Mu} {w:World}
theorem ja.of (g:Good E σ S μ w) {k i:Nat} {o:Ob} {x:Nat×Nat×(Nat→List AV)} (ho:au σ k=some o) (hr:rowOf o i=some x) {pl:Place} (hm:μ k=some pl):∃ v,ja w μ σ k i x v:=by
 obtain ⟨h1,h2,h3⟩:=da hr
 obtain ⟨j9,c,T,gV,cZ⟩:=g.rep.ob k o ho
 rw [hm] at gV;cases gV
 have hl:=cZ.tB i h2
 rw [h3] at hl
 obtain ⟨v,q1,q2⟩:=cQ cZ (i:=i) (j:=0) h2 (by simp at hl;omega)
 exact ⟨v,o,pl,ho,hr,hm,by rw [cZ.sz];simpa using q2⟩
theorem gR.O8 {o:Ob} {pl:Place} {c:Array Value} {T:TypeId} {dn:Mu} (h:gR w S μ o pl c T) (hv:o.sz≠0) (hμ:∀ k p,μ k=some p→dn k=some p) (i:Nat) (cs:List AV) (hl:cs.length=o.sz)
  (hc:∀ j x v,i < o.len→cs[j]?=some x→c[i * o.sz+j]?=some v→aq w S dn v x):gR w S dn ⟨false,o.sz,o.len,false,fun m=>if m=i then cs else o.get m⟩ pl c T:=by
 refine ⟨h.sz,h.cK,h.cap,h.len,h.out,fun m hm=>?_,fun m j x v hm hx sJ=>?_,fun hz=>absurd hz hv⟩
 ·show (if m=i then cs else o.get m).length=o.sz
  split
  ·exact hl
  ·exact h.tB m hm
 ·have YB:(if m=i then cs else o.get m)[j]?=some x:=hx
  show aq w S dn v x
  by_cases AW:m=i
  ·grind
  ·rw [if_neg AW] at YB
   exact (iQ (h.rep m j x v hm YB sJ)).mono (fun _ h=>h) (fun _ _=>rfl) hμ
theorem Good.opn (g:Good E σ S μ w) (hk:μ nk=none) (tO:E.m0≤nk) {k i:Nat} {o:Ob} {x:Nat×Nat×(Nat→List AV)} (ho:au σ k=some o) (hr:rowOf o i=some x) :
  ∃ q:Place,Ext w S μ w S (bZ μ nk q)∧Good E (sset (sset σ k ⟨false,o.sz,o.len,false,fun m=>if m=i then [.os nk 0 x.2.1] else o.get m⟩) nk ⟨false,x.1,x.2.1,true,x.2.2⟩) S (bZ μ nk q) w:=by
 obtain ⟨AX,hi,qm⟩:=da hr
 obtain ⟨pl,c,T,hm,cZ⟩:=g.rep.ob k o ho
 have wR:k≠nk:=fun h=>by simp_all
 have rM:o.sz=1:=by have:=cZ.tB i hi;rw [qm] at this;simpa using this.symm
 obtain ⟨v,hv⟩:=ja.of g ho hr hm
 obtain ⟨a,cap,rfl,h1,h2,h3⟩:=g.mx.row _ _ _ _ hv
 -- the place of the row
 have hq:∃ q:Place,q.sz=x.1∧cap=q.cap∧(0 < cap→a=some ⟨q.cK,0,none⟩)∧(0 < q.cap→0 < cap)∧(∃ c' T',gR w S iL ⟨false,x.1,x.2.1,true,x.2.2⟩ q c' T')∧(0 < q.cap→E.fp q.cK∨E.w0.heap.size≤q.cK):=by
  rcases Nat.eq_zero_or_pos cap with hc | hc
  ·refine ⟨⟨0,0,x.1⟩,rfl,hc,fun h=>by omega,fun h=>absurd h (vS _),⟨#[],0,rfl,fun h=>absurd h (vS _),by simp,by show x.2.1≤0;omega,fun h=>absurd h (vS _),fun j hj=>absurd hj (by show ¬ j < x.2.1;omega),fun j l y u hj=>absurd hj (by show ¬ j < x.2.1;omega),fun hz=>absurd hz (by simp_all)⟩,fun h=>absurd h (vS _)⟩
  ·grind
 obtain ⟨q,q1,q2,q3,q4,⟨c',T',q5⟩,q6⟩:=hq
 have Rq:∀ n p,μ n=some p→bZ μ nk q n=some p:=fun n p h=>by
  grind [bZ]
 have K9:0 < q.cap→ptrTo (.slice a x.2.1 cap) q.cK:=fun h=>⟨_,_,by rw [q3 (q4 h)],q4 h⟩
 have ext:Ext w S μ w S (bZ μ nk q):=⟨aG _,fun _ h=>h,fun _ _=>rfl,Rq⟩
 let o':Ob:=⟨false,o.sz,o.len,false,fun m=>if m=i then [.os nk 0 x.2.1] else o.get m⟩
 let oq:Ob:=⟨false,x.1,x.2.1,true,x.2.2⟩
 have JK:∀ n y,au (sset (sset σ k o') nk oq) n=some y→(n=nk∧y=oq)∨(n≠nk∧n=k∧y=o')∨(n≠nk∧n≠k∧au σ n=some y):=by
  intro n y h
  rw [ba] at h
  by_cases hn:nk=n
  ·simp_all
  ·rw [if_neg hn,ba] at h
   grind
 have JL:∀ n p,n≠nk→bZ μ nk q n=some p→μ n=some p:=fun n p hn h=>by simp_all [bZ,if_neg]
 have RP:∀ p,bZ μ nk q nk=some p→p=q:=fun p h=>by unfold bZ at h;simp_all
 have hold:∀ n y,au (sset (sset σ k o') nk oq) n=some y→n≠nk→∃ y',au σ n=some y':=fun n y h hn=>by
  grind
 refine ⟨q,ext,⟨g.fr,g.S0,g.S1,g.S2,⟨fun n y h=>?_,fun n n' y y' p p' fZ h h' hp sw hc oG=>?_⟩,fun n y p h hp hc=>?_,fun n hn=>?_,?_⟩⟩
 ·rcases JK n y h with ⟨rfl,rfl⟩ | ⟨hn,rfl,rfl⟩ | ⟨hn,hn2,h⟩
  ·refine ⟨q,c',T',by simp [bZ],q5.sz,q5.cK,q5.cap,q5.len,q5.out,q5.tB,fun j l y u hj hy hu=>q5.rep j l y u hj hy hu,fun hz=>absurd hz (by grind)⟩
  ·refine ⟨pl,c,T,Rq _ _ hm,cZ.O8 (by omega) Rq i [.os nk 0 x.2.1] (by rw [rM];rfl) fun j y u _ hy hu=>?_⟩
   cases j with
   | succ j=>simp at hy
   | zero =>
    simp at hy
    subst hy
    obtain ⟨o2,p2,b1,b2,b3,b4⟩:=hv
    rw [ho] at b1;cases b1
    rw [hm] at b3;cases b3
    have Dg:c[i * o.sz+0]?=some (.slice a x.2.1 cap):=by
     have:=cell_of_row w pl.cK (i * pl.sz) _ _ _ ((cZ.cK (by have:=cZ.len;omega)).trans (congrArg some (fF (by omega) c T)))
     rw [this,cZ.sz] at b4
     exact b4
    rw [Dg] at hu;cases hu
    exact .os q (by simp [bZ]) (fun hc=>by rw [q3 hc];simp) h1 (by omega)
  ·obtain ⟨p,c2,T2,Dx,O5⟩:=g.rep.ob n y h
   exact ⟨p,c2,T2,Rq _ _ Dx,O5.ext ext (fun _=>rfl) O5.out⟩
 ·by_cases hn:n=nk<;>by_cases Il:n'=nk
  ·exact absurd (hn.trans Il.symm) fZ
  ·subst hn
   cases RP p hp
   obtain ⟨y2,GF⟩:=hold n' y' h' Il
   exact fun e=>g.mx.obj _ _ _ _ _ hv (K9 hc) n' y2 p' GF (JL _ _ Il sw) oG e.symm
  ·subst Il
   cases RP p' sw
   obtain ⟨y2,GF⟩:=hold n y h hn
   exact g.mx.obj _ _ _ _ _ hv (K9 oG) n y2 p GF (JL _ _ hn hp) hc
  ·obtain ⟨y2,GF⟩:=hold n y h hn
   obtain ⟨YD,UB⟩:=hold n' y' h' Il
   exact g.rep.ne n n' y2 YD p p' fZ GF UB (JL _ _ hn hp) (JL _ _ Il sw) hc oG
 ·by_cases hn:n=nk
  ·subst hn
   cases RP p hp
   exact q6 hc
  ·obtain ⟨y2,GF⟩:=hold n y h hn
   exact g.own n y2 p GF (JL _ _ hn hp) hc
 ·unfold bZ;rw [if_neg (by omega)];exact g.Eh n hn
 ·have key:∀ n j y u,ja w (bZ μ nk q) (sset (sset σ k o') nk oq) n j y u→ja w μ σ n j y u∧¬ (n=k∧j=i):=by
   rintro n j y u ⟨o2,p2,b1,b2,b3,b4⟩
   rcases JK n o2 b1 with ⟨rfl,rfl⟩ | ⟨hn,rfl,rfl⟩ | ⟨hn,hn2,h⟩
   ·rw [h2.2 j] at b2;cases b2
   ·obtain ⟨_,e2,e3⟩:=da b2
    have e3:(if j=i then [AV.os nk 0 x.2.1] else o.get j)=[.mr y.1 y.2.1 y.2.2]:=e3
    split at e3
    ·cases e3
    ·rename_i OB
     exact ⟨⟨o,p2,ho,kN AX e2 e3,JL _ _ hn b3,b4⟩,fun h=>OB h.2⟩
   ·exact ⟨⟨o2,p2,h,b2,JL _ _ hn b3,b4⟩,fun h=>hn2 h.1⟩
  refine ⟨fun n j y u h=>g.mx.row _ _ _ _ (key n j y u h).1,fun n j y u b h hb n' y' p' h1 h2 h3 he=>?_,fun n j y u b n' j' y' u' h h' hb tN=>g.mx.two _ _ _ _ _ _ _ _ _ (key _ _ _ _ h).1 (key _ _ _ _ h').1 hb tN⟩
  obtain ⟨sJ,fZ⟩:=key n j y u h
  by_cases hn:n'=nk
  ·subst hn
   cases RP p' h2
   obtain ⟨e1,e2⟩:=g.mx.two _ _ _ _ _ _ _ _ _ sJ hv hb (he ▸ K9 h3)
   exact fZ ⟨e1,e2⟩
  ·obtain ⟨y2,GF⟩:=hold n' y' h1 hn
   exact g.mx.obj _ _ _ _ _ sJ hb n' y2 p' GF (JL _ _ hn h2) h3 he
theorem Good.cls (g:Good E σ S μ w) {k q i:Nat} {o oq:Ob} (ho:au σ k=some o) (UC:au σ q=some oq) (hkq:k≠q) (AX:o.var=false) (hvq:oq.var=false) (OC:oq.pr=true) (hsq:1≤oq.sz)
  (hi:i < o.len) (qm:o.get i=[.os q 0 oq.len]) (GD:∀ j,rowOf oq j=none) :
  Good E (sset (uM σ q) k ⟨false,o.sz,o.len,false,fun m=>if m=i then [.mr oq.sz oq.len oq.get] else o.get m⟩) S μ w:=by
 obtain ⟨pl,c,T,hm,cZ⟩:=g.rep.ob k o ho
 obtain ⟨pq,cq,Tq,Wm,O9⟩:=g.rep.ob q oq UC
 have rM:o.sz=1:=by have:=cZ.tB i hi;rw [qm] at this;simpa using this.symm
 let o':Ob:=⟨false,o.sz,o.len,false,fun m=>if m=i then [.mr oq.sz oq.len oq.get] else o.get m⟩
 have JK:∀ n y,au (sset (uM σ q) k o') n=some y→n≠q∧((n=k∧y=o')∨(n≠k∧au σ n=some y)):=by
  intro n y h
  rw [ba] at h
  by_cases hn:k=n
  ·simp_all
  ·rw [if_neg hn,fO] at h
   grind
 have hold:∀ n y,au (sset (uM σ q) k o') n=some y→n≠q∧∃ y',au σ n=some y':=fun n y h=>by
  grind
 -- the cell that names the row
 have Dg:∃ a cap,c[i * o.sz+0]?=some (.slice a oq.len cap)∧w.cell? ⟨pl.cK,i * pl.sz,none⟩=some (.slice a oq.len cap)∧oq.len≤cap∧cap≤pq.cap∧(0 < cap→a=some ⟨pq.cK,0,none⟩):=by
  obtain ⟨u,b1,b2⟩:=cQ cZ (i:=i) (j:=0) hi (by omega)
  have:=iQ (cZ.rep i 0 (.os q 0 oq.len) u hi (by rw [qm];rfl) b1)
  cases this with
  | os j9 gV e1 e2 e3 =>
   rename_i cap a
   rw [Wm] at gV;cases gV
   exact ⟨a,cap,b1,by rw [cZ.sz];simpa using b2,e2,by omega,fun h=>by rw [e1 h];simp⟩
 obtain ⟨a,cap,d1,d2,d3,d4,d5⟩:=Dg
 have vU:Jz E.fp E.w0.heap.size w S (.slice a oq.len cap) (oq.sz,oq.len,oq.get):=by
  refine ⟨a,cap,rfl,d3,⟨hsq,fun j=>?_⟩,fun hc=>⟨pq.cK,cq,Tq,d5 hc,⟨rfl,fun _=>?_,?_,d3,fun _=>O9.out (by omega),O9.tB,fun j l y u hj hy hu=>?_,fun hz=>absurd hz (by show oq.sz≠0;omega)⟩,g.own q oq pq UC Wm (by omega)⟩⟩
  ·cases hr:rowOf ⟨false,oq.sz,oq.len,true,oq.get⟩ j with
   | none=>rfl
   | some y =>
    obtain ⟨_,r2,r3⟩:=da hr
    have:=kN hvq r2 r3
    simp_all
  ·exact O9.cK (by omega)
  ·exact eC (dH _ d4) O9.cap
  ·have:=O9.rep j l y u hj hy hu
   simp_all
 have key:∀ n j y u,ja w μ (sset (uM σ q) k o') n j y u→(ja w μ σ n j y u∧¬ (n=k∧j=i))∨(n=k∧j=i∧y=(oq.sz,oq.len,oq.get)∧u=.slice a oq.len cap):=by
  rintro n j y u ⟨o2,p2,b1,b2,b3,b4⟩
  obtain ⟨h0,⟨rfl,rfl⟩ | ⟨hn,h1⟩⟩:=JK n o2 b1
  ·rw [hm] at b3;cases b3
   obtain ⟨_,e2,e3⟩:=da b2
   have e4:(if j=i then [AV.mr oq.sz oq.len oq.get] else o.get j)=[.mr y.1 y.2.1 y.2.2]:=e3
   clear e3
   by_cases OB:j=i
   ·simp_all
   ·rw [if_neg OB] at e4
    have e3:=e4
    exact .inl ⟨⟨o,pl,ho,kN AX e2 e3,hm,b4⟩,fun h=>OB h.2⟩
  ·exact .inl ⟨⟨o2,p2,h1,b2,b3,b4⟩,fun h=>hn h.1⟩
 have K9:∀ b,ptrTo (.slice a oq.len cap) b→pq.cK=b∧0 < pq.cap:=by
  rintro b ⟨l,cp,e,hc⟩
  injection e with e1 e2 e3
  subst e3
  rw [d5 hc] at e1
  injection e1 with e1
  injection e1 with e1
  exact ⟨e1,by omega⟩
 refine ⟨g.fr,g.S0,g.S1,g.S2,⟨fun n y h=>?_,fun n n' y y' p p' fZ h h' hp sw hc oG=>?_⟩,fun n y p h hp hc=>?_,g.Eh,?_⟩
 ·obtain ⟨h0,⟨rfl,rfl⟩ | ⟨hn,h1⟩⟩:=JK n y h
  ·exact ⟨pl,c,T,hm,cZ.O8 (by omega) (fun _ _ h=>h) i _ (by rw [rM];rfl) fun j y u _ hy hu=>by
    cases j with
    | zero=>simp at hy;subst hy;exact .mr
    | succ j=>simp at hy⟩
  ·exact g.rep.ob n y h1
 ·obtain ⟨_,y2,GF⟩:=hold n y h
  obtain ⟨_,YD,UB⟩:=hold n' y' h'
  exact g.rep.ne n n' y2 YD p p' fZ GF UB hp sw hc oG
 ·obtain ⟨_,y2,GF⟩:=hold n y h
  exact g.own n y2 p GF hp hc
 ·refine ⟨fun n j y u h=>?_,fun n j y u b h hb n' y' p' h1 h2 h3 he=>?_,fun n j y u b n' j' y' u' h h' hb tN=>?_⟩
  ·rcases key n j y u h with ⟨h,_⟩ | ⟨_,_,rfl,rfl⟩
   ·exact g.mx.row _ _ _ _ h
   ·exact vU
  ·obtain ⟨hnq,y2,GF⟩:=hold n' y' h1
   rcases key n j y u h with ⟨h,_⟩ | ⟨_,_,rfl,rfl⟩
   ·exact g.mx.obj _ _ _ _ _ h hb n' y2 p' GF h2 h3 he
   ·obtain ⟨e1,e2⟩:=K9 b hb
    exact g.rep.ne n' q y2 oq p' pq hnq GF UC h2 Wm h3 e2 (he.trans e1.symm)
  ·rcases key n j y u h with ⟨h,_⟩ | ⟨n1,j1,rfl,rfl⟩<;>rcases key n' j' y' u' h' with ⟨h',_⟩ | ⟨n2,j2,rfl,rfl⟩
   ·exact g.mx.two _ _ _ _ _ _ _ _ _ h h' hb tN
   ·obtain ⟨e1,e2⟩:=K9 b tN
    exact (g.mx.obj _ _ _ _ _ h hb q oq pq UC Wm e2 e1).elim
   ·obtain ⟨e1,e2⟩:=K9 b hb
    exact (g.mx.obj _ _ _ _ _ h' tN q oq pq UC Wm e2 e1).elim
   ·exact ⟨n1.trans n2.symm,j1.trans j2.symm⟩
end
mutual
def AV.kB (f:Nat→Option Nat):AV→AV
 | .op k i j=>match f k with
  | some k'=>.op k' i j
  | none=>.m9
 | .os k off len=>match f k with
  | some k'=>.os k' off len
  | none=>.m9
 | .agg cs=>.agg (AV.ug f cs)
 | .tup cs=>.tup (AV.ug f cs)
 | .fn g a b=>.fn g (AV.ug f a) (AV.ug f b)
 | .when b x=>.when b (x.kB f)
 | .mp k=>match f k with
  | some k'=>.mp k'
  | none=>.m9
 | .bn n=>.bn n
 | .pt b cs=>.pt b cs
 | .atom v=>.atom v
 | .sl n g=>.sl n g
 | .rp c o=>.rp c o
 | .ov _ _ _ _ _=>.m9
 | .B4 _ _ _=>.m9
 | .nq st x=>.nq st (x.kB f)
 | .nil=>.nil
 | .m9=>.m9
 | .mr sz n g=>.mr sz n g
def AV.ug (f:Nat→Option Nat):List AV→List AV
 | []=>[]
 | c :: cs=>c.kB f :: AV.ug f cs
end
theorem v7 (f:Nat→Option Nat) (cs:List AV):AV.ug f cs=cs.map (·.kB f):=by
 induction cs with
 | nil=>rfl
 | cons c cs ih=>simp [AV.ug,ih]
theorem aq.kB {w:World} {S:Nat→Prop} {μ:Mu} {v:Value} {x:AV} (h:aq w S μ v x) :
  ∀ {dn:Mu} {f:Nat→Option Nat},(∀ k k' pl,f k=some k'→μ k=some pl→dn k'=some pl)→aq w S dn v (x.kB f):=by
 induction h with
 | atom v=>exact fun _=>.atom v
 | agg h1 h2 ih =>
  intro dn f hf
  simp only [AV.kB,v7]
  refine .agg (by simp [h1]) fun j c v hc hv=>?_
  grind
 | tup h1 h2 ih =>
  intro dn f hf
  simp only [AV.kB,v7]
  refine .tup (by simp [h1]) fun j c v hc hv=>?_
  grind
 | sl b off sz f h1 h2 h3 h4 h5 _=>exact fun _=>.sl b off sz f h1 h2 h3 h4 h5
 | rp b o f h1 h2 h3 _=>exact fun _=>.rp b o f h1 h2 h3
 | @op μ k i j pl h =>
  grind [AV.kB,op,m9]
 | @os μ k off len cap a pl h h1 h2 h3 =>
  grind [AV.kB,os,m9]
 | fn h1 h2 _ _ Nv Nw =>
  intro dn f hf
  simp only [AV.kB,v7]
  refine .fn (by simp [h1]) (by simp [h2]) (fun j c v hc hv=>?_) (fun j c v hc hv=>?_)
  ·grind
  grind
 | when _ hu ih=>exact fun hf=>.when (fun hb=>ih hb hf) hu
 | @mp μ k pl h =>
  grind [AV.kB,mp,m9]
 | bn b h=>exact fun _=>.bn b h
 | pt h1 h2 _ =>
  intro dn f hf
  exact .pt (fun hb=>by have:=h1 hb;cases this with
   | rp b o f q1 q2 q3=>exact .rp b o f q1 q2 q3) h2
 | ov=>exact fun _=>.m9
 | B4=>exact fun _=>.m9
 | nq _ h1 h2 ih=>exact fun hf=>.nq (ih hf) h1 h2
 | nil=>exact fun _=>.nil
 | m9=>exact fun _=>.m9
 | mr=>exact fun _=>.mr
def Ob.kB (f:Nat→Option Nat) (o:Ob):Ob :=
 match o.pr with
 | true=>o
 | false=>{ o with get:=fun i=>AV.ug f (o.get i) }
theorem Ob.sM (f:Nat→Option Nat) (o:Ob):(o.kB f).sz=o.sz:=by grind [Ob.kB]
theorem Ob.yK (f:Nat→Option Nat) (o:Ob):(o.kB f).len=o.len:=by grind [Ob.kB]
theorem Ob.Cg (f:Nat→Option Nat) (o:Ob):(o.kB f).pr=o.pr:=by grind [Ob.kB]
theorem Pa {f:Nat→Option Nat} {cs:List AV} {sz n:Nat} {g:Nat→List AV} (h:AV.ug f cs=[.mr sz n g]):cs=[.mr sz n g]:=by
 cases cs with
 | nil=>cases h
 | cons c cs =>
  cases cs with
  | cons d ds=>simp [AV.ug] at h
  | nil =>
   simp only [AV.ug,List.cons.injEq,and_true] at h
   cases c with
   | op=>grind [AV.kB]
   | os=>grind [AV.kB]
   | mp=>grind [AV.kB]
   | mr=>simpa [AV.kB] using h
   | _=>cases h
theorem qn (f:Nat→Option Nat) (o:Ob) (i:Nat) (x:Nat×Nat×(Nat→List AV)):rowOf (o.kB f) i=some x↔rowOf o i=some x:=by
 unfold Ob.kB
 split
 ·exact Iff.rfl
 ·constructor
  ·intro h
   obtain ⟨h1,h2,h3⟩:=da h
   grind [kN,Pa]
  ·intro h
   obtain ⟨h1,h2,h3⟩:=da h
   exact kN h1 h2 (by show AV.ug f (o.get i)=_;rw [h3];rfl)
theorem gR.kB {w:World} {S:Nat→Prop} {μ dn:Mu} {o:Ob} {pl:Place} {c:Array Value} {T:TypeId} (h:gR w S μ o pl c T) {f:Nat→Option Nat}
  (hf:∀ k k' pl,f k=some k'→μ k=some pl→dn k'=some pl):gR w S dn (o.kB f) pl c T:=by
 refine ⟨(Ob.sM f o).symm ▸ h.sz,(Ob.sM f o).symm ▸ h.cK,(Ob.sM f o).symm ▸ h.cap,(Ob.yK f o).symm ▸ h.len,h.out,?_,?_,fun hz=>?_⟩
 rotate_left 2
 ·rw [Ob.sM] at hz
  obtain ⟨h0,h1,h2,h3,h4⟩:=h.mp hz
  grind [Ob.kB]
 ·intro i hi
  rw [Ob.yK] at hi
  rw [Ob.sM,← h.tB i hi]
  grind [Ob.kB,v7]
 ·intro i j x v hi hx hv
  rw [Ob.yK] at hi
  rw [Ob.sM] at hv
  rw [Ob.Cg]
  unfold Ob.kB at hx
  split at hx
  ·rename_i hp
   have:=h.rep i j x v hi hx hv
   simp_all
  ·rename_i hp
   simp only [v7,List.getElem?_map,aL] at hx
   obtain ⟨y,hy,rfl⟩:=hx
   have:=h.rep i j y v hi hy hv
   rw [hp] at this ⊢
   exact this.kB hf
def idx:List Nat→Nat→Option Nat
 | [],_=>none
 | a :: r,k=>match Nat.beq a k with
  | true=>some 0
  | false=>(idx r k).map (·+1)
theorem nh:∀ (ks:List Nat) (k i:Nat),idx ks k=some i→ks[i]?=some k
 | [],k,i,h=>by simp [idx] at h
 | a :: r,k,i,h=>by
  simp only [idx] at h
  split at h
  ·rename_i hb
   cases h
   simp [bO hb]
  ·simp only [aL] at h
   obtain ⟨i',rr,rfl⟩:=h
   simpa using nh r k i' rr
mutual
def AV.gp (σ:dw) (ks:List Nat):AV→Option (AV×List Nat×List Prop)
 | .op k i j=>match idx ks k with
  | some n=>some (.op n i j,[],[])
  | none=>some (.m9,[],[])
 | .os k off len=>match idx ks k with
  | some n=>some (.os n off len,[],[])
  | none=>match au σ k with
   | some o=>match o.pr with
    | true=>some (.sl len (fun i=>o.get (bA off i)),[k],[off+len≤o.len])
    | false=>none
   | none=>none
 | .agg cs=>(AV.qk σ ks cs).map fun (a,b,c)=>(.agg a,b,c)
 | .tup cs=>(AV.qk σ ks cs).map fun (a,b,c)=>(.tup a,b,c)
 | .fn g x y=>match AV.qk σ ks x,AV.qk σ ks y with
  | some (a,b,c),some (a',b',c')=>some (.fn g a a',b ++ b',c ++ c')
  | _,_=>none
 | .when _ _=>none
 | .ov _ _ _ _ _=>none
 | .B4 _ _ _=>none
 | .nq _ _=>none
 | .mp k=>(idx ks k).map fun n=>(.mp n,[],[])
 | .bn n=>some (.bn n,[],[])
 | .pt b cs=>some (.pt b cs,[],[])
 | .atom v=>some (.atom v,[],[])
 | .sl n g=>some (.sl n g,[],[])
 | .rp c o=>some (.rp c o,[],[])
 | .nil=>some (.nil,[],[])
 | .m9=>some (.m9,[],[])
 | .mr _ _ _=>none
def AV.qk (σ:dw) (ks:List Nat):List AV→Option (List AV×List Nat×List Prop)
 | []=>some ([],[],[])
 | c :: cs=>match c.gp σ ks,AV.qk σ ks cs with
  | some (a,b,p),some (a',b',p')=>some (a :: a',b ++ b',p ++ p')
  | _,_=>none
end
def kP (μ:Mu) (ks:List Nat):Mu:=fun i=>(ks[i]?).bind μ
def xO (μ:Mu) (bs:List Nat) (b:Nat):Prop:=∃ k∈bs,∃ pl,μ k=some pl∧0 < pl.cap∧pl.cK=b
theorem AY {μ:Mu} {ks:List Nat}:∀ k i pl,idx ks k=some i→μ k=some pl→kP μ ks i=some pl:=by
 intro k i pl h hm
 simp [kP,nh ks k i h,hm]
section
variable {P:Program} {E:Env} {nk:Nat} {σ:dw} {S:Nat→Prop} {μ:Mu} {w:World}
theorem Pb (g:Good E σ S μ w) {ks:List Nat} {v:Value} {x:AV} (h:aq w S μ v x):∀ (S':Nat→Prop),(∀ b,S b→S' b)→∀ {y:AV} {bs:List Nat} {ps:List Prop},
  x.gp σ ks=some (y,bs,ps)→bj ps→(∀ b,xO μ bs b→S' b)→aq w S' (kP μ ks) v y:=by
 have lists:∀ {μ:Mu} {vs:Array Value} {cs:List AV} (S':Nat→Prop),
   (∀ (j:Nat) (c:AV) (v:Value),cs[j]?=some c→vs[j]?=some v→∀ {y:AV} {bs:List Nat} {ps:List Prop},c.gp σ ks=some (y,bs,ps)→bj ps→(∀ b,xO μ bs b→S' b)→aq w S' (kP μ ks) v y) →
   ∀ {ys:List AV} {bs:List Nat} {ps:List Prop},AV.qk σ ks cs=some (ys,bs,ps)→bj ps→(∀ b,xO μ bs b→S' b) →
   ys.length=cs.length∧∀ (j:Nat) (c:AV) (v:Value),ys[j]?=some c→vs[j]?=some v→aq w S' (kP μ ks) v c:=by
  intro μ vs cs S' h
  have gen:∀ (cs:List AV) (o:Nat),(∀ (j:Nat) (c:AV) (v:Value),cs[j]?=some c→vs[o+j]?=some v→∀ {y:AV} {bs:List Nat} {ps:List Prop},c.gp σ ks=some (y,bs,ps)→bj ps→(∀ b,xO μ bs b→S' b)→aq w S' (kP μ ks) v y) →
   ∀ {ys:List AV} {bs:List Nat} {ps:List Prop},AV.qk σ ks cs=some (ys,bs,ps)→bj ps→(∀ b,xO μ bs b→S' b) →
   ys.length=cs.length∧∀ (j:Nat) (c:AV) (v:Value),ys[j]?=some c→vs[o+j]?=some v→aq w S' (kP μ ks) v c:=by
   intro cs
   induction cs with
   | nil =>
    intro o _ ys bs ps h _ _
    simp [AV.qk] at h
    simp_all
   | cons c cs ih =>
    intro o hh ys bs ps h hp hb
    simp only [AV.qk] at h
    split at h
    ·rename_i a b p a' b' p' h1 h2
     simp only [az,ay] at h
     obtain ⟨rfl,rfl,rfl⟩:=h
     obtain ⟨xC,xh⟩:=bj.app hp
     have XO:=ih (o+1) (fun j c v hc hv=>hh (j+1) c v (by simpa using hc) (by grind)) h2 xh (fun q hq=>hb q (by obtain ⟨k,hk,r⟩:=hq;exact ⟨k,by simp [hk],r⟩))
     refine ⟨by simp [XO.1],?_⟩
     intro j c' v hc hv
     cases j with
     | zero =>
      simp at hc;subst hc
      exact hh 0 c v (by simp) hv h1 xC (fun q hq=>hb q (by obtain ⟨k,hk,r⟩:=hq;exact ⟨k,by simp [hk],r⟩))
     | succ j=>grind
    ·cases h
  intro ys bs ps h1 h2 h3
  have:=gen cs 0 (fun j c v hc hv=>h j c v hc (by simpa using hv)) h1 h2 h3
  exact ⟨this.1,fun j c v hc hv=>this.2 j c v hc (by simpa using hv)⟩
 intro S' hS
 have h0:=h
 clear h
 have key:∀ {Di:Mu} {v:Value} {x:AV},aq w S Di v x→Di=μ→∀ {y:AV} {bs:List Nat} {ps:List Prop},x.gp σ ks=some (y,bs,ps)→bj ps→(∀ b,xO μ bs b→S' b)→aq w S' (kP μ ks) v y:=by
  intro Di v x h
  induction h with
  | atom v=>intro _ y bs ps h _ _;simp [AV.gp] at h;obtain ⟨rfl,_,_⟩:=h;exact .atom v
  | agg h1 h2 ih =>
   intro e y bs ps h hp hb
   subst e
   simp only [AV.gp,aL] at h
   obtain ⟨⟨a,b,c⟩,h,e⟩:=h
   simp only [ay] at e
   obtain ⟨rfl,rfl,rfl⟩:=e
   obtain ⟨q1,q2⟩:=lists S' (fun j c v hc hv=>ih j c v hc hv rfl) h hp hb
   exact .agg (h1.trans q1.symm) q2
  | tup h1 h2 ih =>
   intro e y bs ps h hp hb
   subst e
   simp only [AV.gp,aL] at h
   obtain ⟨⟨a,b,c⟩,h,e⟩:=h
   simp only [ay] at e
   obtain ⟨rfl,rfl,rfl⟩:=e
   obtain ⟨q1,q2⟩:=lists S' (fun j c v hc hv=>ih j c v hc hv rfl) h hp hb
   exact .tup (h1.trans q1.symm) q2
  | @sl Di a len cap get b off sz f h1 h2 h3 h4 h5 _ =>
   intro _ y bs ps h _ _
   simp [AV.gp] at h;obtain ⟨rfl,_,_⟩:=h
   have:=(aq.sl (μ:=kP μ ks) b off sz f h1 h2 h3 h4 h5)
   exact this.mono hS (fun _ _=>rfl) (fun _ _ h=>h)
  | @rp Di cs off b o f h1 h2 h3 _ =>
   intro _ y bs ps h _ _
   simp [AV.gp] at h;obtain ⟨rfl,_,_⟩:=h
   have:=(aq.rp (μ:=kP μ ks) (off:=off) b o f h1 h2 h3)
   exact this.mono hS (fun _ _=>rfl) (fun _ _ h=>h)
  | @op Di k i j pl hm =>
   intro e y bs ps h _ _
   subst e
   simp only [AV.gp] at h
   split at h
   ·rename_i n hn
    simp at h;obtain ⟨rfl,_,_⟩:=h
    exact .op pl (AY _ _ _ hn hm)
   ·simp at h;obtain ⟨rfl,_,_⟩:=h
    exact .m9
  | @os Di k off len cap a pl hm h1 h2 h3 =>
   intro e y bs ps h hp hb
   subst e
   simp only [AV.gp] at h
   split at h
   ·rename_i n hn
    simp at h;obtain ⟨rfl,_,_⟩:=h
    exact .os pl (AY _ _ _ hn hm) h1 h2 h3
   ·split at h
    ·rename_i o ho
     split at h
     ·rename_i KX
      simp only [az,ay] at h
      obtain ⟨hy,rfl,rfl⟩:=h
      have hle:=hp.1
      obtain ⟨j9,c,T,gV,cZ⟩:=g.rep.ob k o ho
      rw [hm] at gV;cases gV
      have Uo:y=.sl len fun i=>o.get (off+i):=by
       rw [← hy]
       simp only [df]
      rw [Uo]
      refine .sl pl.cK (off * pl.sz) o.sz (fun i j=>(c[(off+i) * o.sz+j]?).getD undef) ?_ (fun i hi=>cZ.tB _ (by omega)) ?_ ?_ h2
      ·intro hl
       exact ⟨h1 (by omega),hb _ ⟨k,by simp,pl,hm,by omega,rfl⟩⟩
      ·intro i j hi hj
       obtain ⟨v,q1,q2⟩:=cQ cZ (i:=off+i) (by omega) hj
       rw [q1,cZ.sz,← cz,q2];rfl
      ·intro i j c' hi oG
       obtain ⟨v,q1,q2⟩:=cQ cZ (i:=off+i) (by omega) (by have:=(dJ.1 oG).1;rwa [cZ.tB _ (by omega)] at this)
       rw [q1]
       have:=cZ.rep _ j c' v (by omega) oG q1
       rw [KX] at this
       exact aq.mono (S:=S) (S':=S') hS (fun _ _=>rfl) this (fun _ _ h=>h)
     ·cases h
    ·cases h
  | fn h1 h2 _ _ Nv Nw =>
   intro e y bs ps h hp hb
   subst e
   simp only [AV.gp] at h
   split at h
   ·rename_i a b c a' b' c' e1 e2
    simp only [az,ay] at h
    obtain ⟨rfl,rfl,rfl⟩:=h
    obtain ⟨xC,xh⟩:=bj.app hp
    obtain ⟨q1,q2⟩:=lists S' (fun j c v hc hv=>Nv j c v hc hv rfl) e1 xC (fun q hq=>hb q (by obtain ⟨k,hk,r⟩:=hq;exact ⟨k,by simp [hk],r⟩))
    obtain ⟨r1,r2⟩:=lists S' (fun j c v hc hv=>Nw j c v hc hv rfl) e2 xh (fun q hq=>hb q (by obtain ⟨k,hk,r⟩:=hq;exact ⟨k,by simp [hk],r⟩))
    exact .fn (h1.trans q1.symm) (h2.trans r1.symm) q2 r2
   ·cases h
  | when=>intro _ y bs ps h;simp [AV.gp] at h
  | ov=>intro _ y bs ps h;simp [AV.gp] at h
  | B4=>intro _ y bs ps h;simp [AV.gp] at h
  | nq=>intro _ y bs ps h;simp [AV.gp] at h
  | @mp Di k pl hm =>
   intro e y bs ps h _ _
   subst e
   simp only [AV.gp,aL,ay] at h
   obtain ⟨n,hn,rfl,_,_⟩:=h
   exact .mp pl (AY _ _ _ hn hm)
  | bn b hb=>intro _ y bs ps h _ _;simp [AV.gp] at h;obtain ⟨rfl,_,_⟩:=h;exact .bn b hb
  | pt h1 h2 _ =>
   intro _ y bs ps h _ _
   simp [AV.gp] at h;obtain ⟨rfl,_,_⟩:=h
   refine .pt (fun hb=>?_) h2
   have:=h1 hb
   cases this with
   | rp b o f q1 q2 q3 =>
    have:=(aq.rp (μ:=kP μ ks) (off:=0) b o f q1 q2 q3)
    exact this.mono hS (fun _ _=>rfl) (fun _ _ h=>h)
  | nil=>intro _ y bs ps h _ _;simp [AV.gp] at h;obtain ⟨rfl,_,_⟩:=h;exact .nil
  | m9=>intro _ y bs ps h _ _;simp [AV.gp] at h;obtain ⟨rfl,_,_⟩:=h;exact .m9
  | mr=>intro _ y bs ps h;simp [AV.gp] at h
 intro y bs ps h1 h2 h3
 exact key h0 rfl h1 h2 h3
end
end Go.Ab
namespace Go.Ab
structure YC where
 l:Nat
 as:List AV
 k:Nat
 o:Ob
 o':Ob
structure oa where
 ks:List Nat
 same:Bool
 res:AV
 oh:dw
 dec:Nat
 xi:Bool
 y:Option YC
def YE:Option oa→Option YC
 | none=>none
 | some o=>o.y
def YF:Option oa→Nat
 | none=>0
 | some o=>o.dec
def YG:Option oa→AV
 | none=>.m9
 | some o=>o.res
structure R where
 Hm:List Prop
 val:AV
 KY:List Nat
 ml:rO
def JM (P:Program) (g:FuncId):Bool :=
 match P.funcs[g]? with
 | some fn=>fn.body.isSome && !(fn.name == "runtime.NumGoroutine")
 | none=>false
def canon (σ:dw) (ks:List Nat):Nat→List Nat→Option dw
 | _,[]=>some []
 | i,k :: r=>match au σ k,canon σ ks (i+1) r with
  | some o,some t=>some ((i,o.kB (idx ks)) :: t)
  | _,_=>none
def back (ks:List Nat) (nk n:Nat):Option Nat :=
 match ks[n]? with
 | some k=>some k
 | none=>match Nat.blt n (ks.length+16) with
  | true=>some (nk+(n - ks.length))
  | false=>none
def zO (ks:List Nat) (nk:Nat) (eS:dw):Nat→List Nat→rO
 | _,[]=>[]
 | i,k :: r=>(k,(au eS i).map (Ob.kB (back ks nk))) :: zO ks nk eS (i+1) r
def AZ (ks:List Nat) (nk:Nat):dw→rO
 | []=>[]
 | (n,o) :: r=>match Nat.ble ks.length n with
  | true=>(nk+(n - ks.length),some (o.kB (back ks nk))) :: AZ ks nk r
  | false=>AZ ks nk r
def mP:List Nat→Bool
 | []=>true
 | k :: r=>(idx r k).isNone && mP r
def EN (n:Nat):dw→Bool
 | []=>true
 | (k,_) :: r=>Nat.blt k n && EN n r
def Ob.flat (o:Ob):Bool:=o.var && Nat.beq o.len 1 && Nat.ble 1 o.sz && AV.xE (o.get 0)
mutual
def AV.Jp:AV→Bool
 | .atom _ | .op _ _ _ | .os _ _ _ | .mp _ | .bn _ | .nil=>true
 | .agg cs | .tup cs=>AV.NH cs
 | .fn _ a b=>AV.NH a && AV.NH b
 | _=>false
def AV.NH:List AV→Bool
 | []=>true
 | c :: cs=>c.Jp && AV.NH cs
end
theorem EO {cs:List AV} (h:AV.NH cs=true) {j:Nat} {c:AV} (hc:cs[j]?=some c):c.Jp=true:=by
 induction cs generalizing j with
 | nil=>simp at hc
 | cons x xs ih =>
  simp only [AV.NH,bh] at h
  grind
theorem aq.Jp {w:World} {S:Nat→Prop} {μ:Mu} {v:Value} {x:AV} (h:aq w S μ v x):x.Jp=true→∀ w' S',aq w' S' μ v x:=by
 induction h with
 | atom v=>grind [atom]
 | agg h1 _ ih=>grind [agg,EO,AV.Jp]
 | tup h1 _ ih=>grind [tup,EO,AV.Jp]
 | op pl h=>grind [op]
 | os pl h h1 h2 h3=>grind [os]
 | fn h1 h2 _ _ Nv Nw =>
  intro hp w' S'
  simp only [AV.Jp,bh] at hp
  grind [fn,EO]
 | mp pl h=>grind [mp]
 | bn b h=>grind [bn]
 | nil=>exact fun _ _ _=>.nil
 | sl=>grind [AV.Jp]
 | rp=>grind [AV.Jp]
 | when=>grind [AV.Jp]
 | pt=>grind [AV.Jp]
 | ov=>grind [AV.Jp]
 | B4=>grind [AV.Jp]
 | nq=>grind [AV.Jp]
 | m9=>grind [AV.Jp]
 | mr=>grind [AV.Jp]
def tP (o:Ob):Option (List Prop) :=
 match o.flat with
 | true=>some []
 | false=>match o.pr && Nat.ble 1 o.sz with
  | true=>some [∀ i,i < o.len→AV.xE (o.get i)=true]
  | false=>none
def A1 (lone:Bool):dw→Option (List Prop)
 | []=>some []
 | (_,o) :: r=>match lone with
  | true=>some []
  | false=>match tP o,A1 lone r with
   | some p,some q=>some (p ++ q)
   | _,_=>none
mutual
def AV.closed (f:Nat→Option Nat):AV→Bool
 | .op k _ _=>(f k).isSome
 | .os k _ _=>(f k).isSome
 | .mp k=>(f k).isSome
 | .ov _ _ _ _ _ | .B4 _ _ _ | .mr _ _ _=>false
 | .agg cs | .tup cs=>AV.v8 f cs
 | .fn _ a b=>AV.v8 f a && AV.v8 f b
 | .when _ x=>x.closed f
 | .nq _ x=>x.closed f
 | _=>true
def AV.v8 (f:Nat→Option Nat):List AV→Bool
 | []=>true
 | c :: cs=>c.closed f && AV.v8 f cs
end
def Ob.closed (f:Nat→Option Nat) (o:Ob):Bool:=o.pr || (o.var && Nat.beq o.len 1 && AV.v8 f (o.get 0))
def EP:List AV→Bool
 | [.mr _ _ _]=>true
 | _=>false
theorem Hn {f:Nat→Option Nat} {l:List AV} (h:EP l=true):AV.ug f l=l:=by
 unfold EP at h
 split at h
 ·rfl
 ·cases h
def Ch (ks:List Nat) (lone:Bool) (o:Ob):Option (List Prop) :=
 match o.flat || (lone && o.closed (idx ks)) with
 | true=>some []
 | false=>match o.pr with
  | true=>tP o
  | false=>match lone && !o.var with
   | true=>some [∀ i,i < o.len→EP (o.get i)=true]
   | false=>none
def xP (σ:dw) (ks:List Nat) (lone:Bool):List Nat→Option (List Prop)
 | []=>some []
 | k :: r=>match au σ k with
  | some o=>match Ch ks lone o,xP σ ks lone r with
   | some p,some q=>some (p ++ q)
   | _,_=>none
  | none=>none
mutual
theorem ER {f g:Nat→Option Nat} (OD:∀ k i,f k=some i→g i=some k):∀ (x:AV),x.closed f=true→(x.kB f).kB g=x
 | .op k i j,h=>by
  obtain ⟨n,hn⟩:=Option.isSome_iff_exists.1 (by simpa [AV.closed] using h)
  simp [AV.kB,hn,OD k n hn]
 | .os k i j,h=>by
  obtain ⟨n,hn⟩:=Option.isSome_iff_exists.1 (by simpa [AV.closed] using h)
  simp [AV.kB,hn,OD k n hn]
 | .agg cs,h=>by simp only [AV.kB];rw [sx OD cs (by simpa [AV.closed] using h)]
 | .tup cs,h=>by simp only [AV.kB];rw [sx OD cs (by simpa [AV.closed] using h)]
 | .fn q a b,h=>by
  simp only [AV.closed,bh] at h
  simp only [AV.kB];rw [sx OD a h.1,sx OD b h.2]
 | .when b x,h=>by simp only [AV.kB];rw [ER OD x (by simpa [AV.closed] using h)]
 | .nq b x,h=>by simp only [AV.kB];rw [ER OD x (by simpa [AV.closed] using h)]
 | .mp k,h=>by
  obtain ⟨n,hn⟩:=Option.isSome_iff_exists.1 (by simpa [AV.closed] using h)
  simp [AV.kB,hn,OD k n hn]
 | .ov _ _ _ _ _,h=>by simp [AV.closed] at h
 | .B4 _ _ _,h=>by simp [AV.closed] at h
 | .mr _ _ _,h=>by simp [AV.closed] at h
 | .bn _,_=>rfl
 | .pt _ _,_=>rfl
 | .atom _,_=>rfl
 | .sl _ _,_=>rfl
 | .rp _ _,_=>rfl
 | .nil,_=>rfl
 | .m9,_=>rfl
theorem sx {f g:Nat→Option Nat} (OD:∀ k i,f k=some i→g i=some k):∀ (cs:List AV),AV.v8 f cs=true→AV.ug g (AV.ug f cs)=cs
 | [],_=>rfl
 | c :: cs,h=>by
  simp only [AV.v8,bh] at h
  simp only [AV.ug]
  rw [ER OD c h.1,sx OD cs h.2]
end
theorem ES:∀ (ks:List Nat),mP ks=true→∀ (i j k:Nat),ks[i]?=some k→ks[j]?=some k→i=j
 | [],_,i,j,k,h,_=>by simp at h
 | a :: r,h,i,j,k,hi,hj=>by
  simp only [mP,bh] at h
  have none:∀ n:Nat,r[n]?=some a→False:=by
   intro n hn
   have:∀ (l:List Nat) (n:Nat),l[n]?=some a→(idx l a).isSome=true:=by
    intro l
    induction l with
    | nil=>intro n hn;simp at hn
    | cons b l ih =>
     intro n hn
     simp only [idx]
     cases hb:Nat.beq b a with
     | true=>rfl
     | false =>
      cases n with
      | zero=>simp at hn;rw [hn] at hb;simp at hb
      | succ n=>simpa using ih n (by simpa using hn)
   have:=this r n hn
   rw [Option.isNone_iff_eq_none] at h
   rw [h.1] at this
   cases this
  cases i with
  | zero =>
   simp at hi;subst hi
   cases j with
   | zero=>rfl
   | succ j=>exact (none j (by simpa using hj)).elim
  | succ i =>
   cases j with
   | zero=>simp at hj;subst hj;exact (none i (by simpa using hi)).elim
   | succ j=>rw [ES r h.2 i j k (by simpa using hi) (by simpa using hj)]
theorem mm:∀ (ks:List Nat) (k:Nat),idx ks k=none→∀ i:Nat,ks[i]?≠some k
 | [],k,_,i=>by simp
 | a :: r,k,h,i=>by
  simp only [idx] at h
  split at h
  ·cases h
  ·rename_i hb
   have h':idx r k=none:=by simpa using h
   cases i with
   | zero=>intro e;simp_all
   | succ i=>simpa using mm r k h' i
theorem Ho {σ:dw} {ks:List Nat}:∀ (l:List Nat) (i:Nat) (uh:dw),canon σ ks i l=some uh →
  ∀ n,au uh n=if i≤n then ((l[n - i]?).bind (au σ)).map (Ob.kB (idx ks)) else none
 | [],i,uh,h,n=>by grind [canon,au]
 | k :: r,i,uh,h,n=>by
  simp only [canon] at h
  split at h
  ·rename_i o t ho ht
   cases h
   simp only [au]
   by_cases uP:i=n
   ·simp_all
   ·rw [oZ uP]
    show au t n=_
    rw [Ho r (i+1) t ht n]
    grind
  ·cases h
theorem yL {σ:dw} {ks:List Nat}:∀ (l:List Nat) (i:Nat) (uh:dw),canon σ ks i l=some uh→∀ k∈l,∃ o,au σ k=some o
 | [],i,uh,h,k,hk=>by simp at hk
 | a :: r,i,uh,h,k,hk=>by
  simp only [canon] at h
  split at h
  ·rename_i o t ho ht
   rcases kL.1 hk with rfl | hk
   ·exact ⟨o,ho⟩
   ·exact yL r (i+1) t ht k hk
  ·cases h
theorem Ci {ks:List Nat} {nk:Nat} {eS:dw}:∀ (l:List Nat) (i:Nat) (σ:dw) (n:Nat),(∀ a b k:Nat,l[a]?=some k→l[b]?=some k→a=b) →
  au (fA σ (zO ks nk eS i l)) n=match idx l n with
   | some j=>(au eS (i+j)).map (Ob.kB (back ks nk))
   | none=>au σ n
 | [],i,σ,n,_=>by simp [zO,fA,idx]
 | k :: r,i,σ,n,hd=>by
  have VT:∀ a b k:Nat,r[a]?=some k→r[b]?=some k→a=b:=fun a b q ha hb=>by
   have:=hd (a+1) (b+1) q (by simpa using ha) (by simpa using hb)
   omega
  have Yx:idx r k=none:=by
   cases hq:idx r k with
   | none=>rfl
   | some j =>
    have:=nh r k j hq
    have:=hd 0 (j+1) k (by simp) (by simpa using this)
    omega
  simp only [zO]
  have step:au (fA σ ((k,(au eS i).map (Ob.kB (back ks nk))) :: zO ks nk eS (i+1) r)) n=match idx r n with
    | some j=>(au eS (i+1+j)).map (Ob.kB (back ks nk))
    | none=>if k=n then (au eS i).map (Ob.kB (back ks nk)) else au σ n:=by
   cases hs:(au eS i).map (Ob.kB (back ks nk)) with
   | some o =>
    simp only [fA]
    rw [Ci r (i+1) _ n VT,ba]
   | none =>
    simp only [fA]
    rw [Ci r (i+1) _ n VT,fO]
  rw [step]
  simp only [idx]
  by_cases wR:k=n
  ·subst wR
   rw [Yx,rK rfl]
   simp
  ·rw [oZ wR]
   cases hq:idx r n with
   | none=>simp [wR]
   | some j=>simp only [Option.map_some];rw [show i+1+j=i+(j+1) by omega]
def uQ (z:Bool) (bs:List Nat):rO:=match z with
 | true=>bs.map fun k=>(k,none)
 | false=>[]
theorem mn (z:Bool):∀ (bs:List Nat) (σ:dw) (n:Nat),au (fA σ (uQ z bs)) n=if z=true∧n∈bs then none else au σ n:=by
 cases z with
 | false=>grind [uQ,fA]
 | true =>
  intro bs
  induction bs with
  | nil=>grind [uQ,fA]
  | cons k r ih =>
   intro σ n
   have:=ih (uM σ k) n
   simp only [uQ,List.map_cons,fA] at this ⊢
   rw [this,fO]
   by_cases h:k=n
   ·subst h;simp
   ·have h':¬ n=k:=fun e=>h e.symm
    simp [h,h']
theorem gA:∀ (u v:rO) (σ:dw),fA σ (u ++ v)=fA (fA σ u) v
 | [],v,σ=>rfl
 | (k,some o) :: r,v,σ=>by simp only [List.cons_append,fA];exact gA r v _
 | (k,none) :: r,v,σ=>by simp only [List.cons_append,fA];exact gA r v _
def Im (n:Nat):dw→Bool
 | []=>true
 | (k,_) :: r=>Nat.ble n k && Im n r
theorem Hp {n:Nat}:∀ {τ:dw},Im n τ=true→∀ j,j < n→au τ j=none
 | [],_,_,_=>rfl
 | (k,o) :: r,h,j,hj=>by
  simp only [Im,bh] at h
  simp only [au]
  rw [oZ (by have:=Nat.le_of_ble_eq_true h.1;omega)]
  exact Hp h.2 j hj
theorem ET:∀ (σ τ:dw) (n:Nat),au (σ ++ τ) n=match au σ n with
  | some o=>some o
  | none=>au τ n
 | [],τ,n=>rfl
 | (k,o) :: r,τ,n=>by
  simp only [List.cons_append,au]
  split
  ·rfl
  ·exact ET r τ n
def El (P:Program) (ob:FuncId→List AV→dw→Nat→AV→dw→Prop) (nk:Nat) (σ:dw) (f:AV) (args:List AV) (bp:oa):Option R :=
 match f with
 | .fn (.func g) first cap=>match JM P g,AV.qk σ bp.ks (first ++ (args ++ cap)),canon σ bp.ks 0 bp.ks with
  | true,some (as,bs,ps),some uh=>match mP bp.ks && (bs.isEmpty || bp.xi || bp.res.Jp) with
   | true=>match bp.same with
    | true=>match bp.oh with
     | []=>match xP σ bp.ks (bs.isEmpty || bp.xi) bp.ks with
      | some qs=>some ⟨ob g as uh bp.ks.length bp.res uh :: (qs ++ ps),bp.res.kB (back bp.ks nk),bp.ks ++ bs,uQ bp.xi bs⟩
      | none=>none
     | q :: τ=>match bs.isEmpty || bp.xi,xP σ bp.ks true bp.ks,Im bp.ks.length (q :: τ) && EN (bp.ks.length+16) (q :: τ) && mP ((q :: τ).map (·.1)) with
      | true,some qs,true=>some ⟨ob g as uh bp.ks.length bp.res (uh ++ q :: τ) :: (qs ++ ps),bp.res.kB (back bp.ks nk),bp.ks ++ bs,AZ bp.ks nk (q :: τ) ++ uQ bp.xi bs⟩
      | _,_,_=>none
    | false=>match EN (bp.ks.length+16) bp.oh && mP (bp.oh.map (·.1)),A1 (bs.isEmpty || bp.xi) bp.oh with
     | true,some qs=>some ⟨ob g as uh bp.ks.length bp.res bp.oh :: (qs ++ ps),bp.res.kB (back bp.ks nk),bp.ks ++ bs,zO bp.ks nk bp.oh 0 bp.ks ++ (AZ bp.ks nk bp.oh ++ uQ bp.xi bs)⟩
     | _,_=>none
   | false=>none
  | _,_,_=>none
 | _=>none
def EU (P:Program) (nk:Nat) (σ:dw) (f:AV) (args:List AV) (bp:oa):Option R:=El P (Sound P) nk σ f args bp
theorem uR {ks:List Nat} {nk:Nat}:∀ (τ σ:dw) (n:Nat),EN (ks.length+16) τ=true→(n < nk∨nk+16≤n)→au (fA σ (AZ ks nk τ)) n=au σ n
 | [],σ,n,_,_=>rfl
 | (k,o) :: r,σ,n,hl,hn=>by
  simp only [EN,bh] at hl
  have hk:k < ks.length+16:=by
   have:=hl.1
   simp only [Nat.blt,Nat.ble_eq] at this
   exact this
  simp only [AZ]
  split
  ·rename_i hb
   have hb:=Nat.le_of_ble_eq_true hb
   simp only [fA]
   rw [uR r _ n hl.2 hn,ba,if_neg (by omega)]
  ·exact uR r σ n hl.2 hn
theorem JN:∀ (τ:dw) (n:Nat) (o:Ob),au τ n=some o→n∈τ.map (·.1)
 | [],n,o,h=>by simp [au] at h
 | (k,x) :: r,n,o,h=>by
  simp only [au] at h
  split at h
  ·simp_all
  ·exact List.mem_cons_of_mem _ (JN r n o h)
theorem A2 {ks:List Nat} {nk:Nat}:∀ (τ σ:dw) (j:Nat),mP (τ.map (·.1))=true→au (fA σ (AZ ks nk τ)) (nk+j)=match au τ (ks.length+j) with
   | some o=>some (o.kB (back ks nk))
   | none=>au σ (nk+j)
 | [],σ,j,_=>rfl
 | (k,o) :: r,σ,j,hd=>by
  simp only [List.map_cons,mP,bh,Option.isNone_iff_eq_none] at hd
  simp only [AZ,au]
  by_cases hk:k=ks.length+j
  ·subst hk
   rw [rK rfl]
   have GD:au r (ks.length+j)=none:=by
    cases hs:au r (ks.length+j) with
    | none=>rfl
    | some x =>
     obtain ⟨i,hi⟩:=List.getElem?_of_mem (JN r _ x hs)
     grind [mm]
   have YH:Nat.ble ks.length (ks.length+j)=true:=Nat.ble_eq_true_of_le (by omega)
   rw [YH]
   simp only [fA]
   rw [A2 r _ j hd.2,GD]
   simp_all [ba,if_pos]
  ·rw [oZ hk]
   split
   ·rename_i hb
    have hb:=Nat.le_of_ble_eq_true hb
    simp only [fA]
    rw [A2 r _ j hd.2]
    split
    ·rfl
    ·rw [ba,if_neg (by omega)]
   ·exact A2 r σ j hd.2
mutual
theorem NI {σ:dw} {ks:List Nat}:∀ (x y:AV) (bs:List Nat) (ps:List Prop),x.gp σ ks=some (y,bs,ps)→∀ k∈bs,idx ks k=none∧∃ o,au σ k=some o
 | .op k i j,y,bs,ps,h=>by
  simp only [AV.gp] at h
  grind
 | .os k off len,y,bs,ps,h=>by
  simp only [AV.gp] at h
  grind
 | .agg cs,y,bs,ps,h=>by
  simp only [AV.gp,aL] at h
  obtain ⟨⟨a,b,c⟩,h,e⟩:=h
  simp only [ay] at e
  obtain ⟨rfl,rfl,rfl⟩:=e
  exact qo cs a b c h
 | .tup cs,y,bs,ps,h=>by
  simp only [AV.gp,aL] at h
  obtain ⟨⟨a,b,c⟩,h,e⟩:=h
  simp only [ay] at e
  obtain ⟨rfl,rfl,rfl⟩:=e
  exact qo cs a b c h
 | .fn g x z,y,bs,ps,h=>by
  simp only [AV.gp] at h
  split at h
  ·rename_i a b c a' b' c' e1 e2
   simp only [az,ay] at h
   obtain ⟨_,rfl,_⟩:=h
   intro k hk
   rcases List.mem_append.1 hk with hk | hk
   ·exact qo x a b c e1 k hk
   ·exact qo z a' b' c' e2 k hk
  ·cases h
 | .when _ _,y,bs,ps,h=>by simp [AV.gp] at h
 | .ov _ _ _ _ _,y,bs,ps,h=>by simp [AV.gp] at h
 | .B4 _ _ _,y,bs,ps,h=>by simp [AV.gp] at h
 | .nq _ _,y,bs,ps,h=>by simp [AV.gp] at h
 | .mr _ _ _,y,bs,ps,h=>by simp [AV.gp] at h
 | .mp k,y,bs,ps,h=>by
  simp only [AV.gp,aL,ay] at h
  grind
 | .bn _,y,bs,ps,h=>by simp [AV.gp] at h;simp_all
 | .pt _ _,y,bs,ps,h=>by simp [AV.gp] at h;simp_all
 | .atom _,y,bs,ps,h=>by simp [AV.gp] at h;simp_all
 | .sl _ _,y,bs,ps,h=>by simp [AV.gp] at h;simp_all
 | .rp _ _,y,bs,ps,h=>by simp [AV.gp] at h;simp_all
 | .nil,y,bs,ps,h=>by simp [AV.gp] at h;simp_all
 | .m9,y,bs,ps,h=>by simp [AV.gp] at h;simp_all
theorem qo {σ:dw} {ks:List Nat}:∀ (xs ys:List AV) (bs:List Nat) (ps:List Prop),AV.qk σ ks xs=some (ys,bs,ps)→∀ k∈bs,idx ks k=none∧∃ o,au σ k=some o
 | [],ys,bs,ps,h=>by simp [AV.qk] at h;simp_all
 | c :: cs,ys,bs,ps,h=>by
  simp only [AV.qk] at h
  split at h
  ·rename_i a b p a' b' p' e1 e2
   simp only [az,ay] at h
   obtain ⟨_,rfl,_⟩:=h
   intro k hk
   rcases List.mem_append.1 hk with hk | hk
   ·exact NI c a b p e1 k hk
   ·exact qo cs a' b' p' e2 k hk
  ·cases h
end
end Go.Ab
namespace Go.Ab
section
variable {P:Program} {E:Env} {nk:Nat} {σ:dw} {S:Nat→Prop} {μ:Mu} {w:World}
theorem RL.append {vs us:Array Value} {cs ds:List AV} (h:RL w S μ vs cs) (k:RL w S μ us ds):RL w S μ (vs ++ us) (cs ++ ds):=by
 refine ⟨by simp [h.1,k.1],?_⟩
 intro j c v hc hv
 have h1:=h.1
 by_cases hj:j < cs.length
 ·rw [iz hj] at hc
  rw [Array.getElem?_append_left (by omega)] at hv
  exact h.2 j c v hc hv
 ·rw [jH (by omega)] at hc
  rw [Array.getElem?_append_right (by omega),h1] at hv
  exact k.2 _ c v hc hv
theorem RR (g:Good E σ S μ w) {ks:List Nat} {vs:Array Value} {cs ys:List AV} {bs:List Nat} {ps:List Prop} (h:RL w S μ vs cs) (S':Nat→Prop) (hS:∀ b,S b→S' b)
  (hl:AV.qk σ ks cs=some (ys,bs,ps)) (hp:bj ps) (hb:∀ b,xO μ bs b→S' b):RL w S' (kP μ ks) vs ys:=by
 have:=Pb g (ks:=ks) (aq.agg h.1 h.2) S' hS (y:=.agg ys) (bs:=bs) (ps:=ps) (by simp [AV.gp,hl]) hp hb
 cases this with
 | agg h1 h2=>exact ⟨h1,h2⟩
theorem Mo {w':World} {S' AN:Nat→Prop} {dn EG:Mu} {o:Ob} {pl:Place} {c:Array Value} {T:TypeId} (h:gR w' S' dn o pl c T) (hf:o.flat=true) (ho:0 < pl.cap→¬ AN pl.cK) :
  gR w' AN EG o pl c T:=by
 unfold Ob.flat at hf
 simp only [bh] at hf
 have hl:=bO hf.1.1.2
 have Jq:=Nat.le_of_ble_eq_true hf.1.2
 refine { h with out:=ho,rep:=?_,mp:=fun hz=>absurd hz (by omega) }
 intro i j x v hi hx hv
 have:i=0:=by omega
 subst this
 exact (h.rep 0 j x v hi hx hv).flat (uL hf.2 hx) _ _ _
mutual
theorem NJ:∀ (x:AV),x.flat=true→x.pure=true
 | .atom _,_=>rfl
 | .nil,_=>rfl
 | .bn _,_=>rfl
 | .pt _ _,h=>by simp [AV.flat] at h
 | .mp _,h=>by simp [AV.flat] at h
 | .ov _ _ _ _ _,h=>by simp [AV.flat] at h
 | .B4 _ _ _,h=>by simp [AV.flat] at h
 | .nq _ _,h=>by simp [AV.flat] at h
 | .agg cs,h=>qp cs h
 | .tup cs,h=>qp cs h
 | .fn _ a b,h=>by
  simp only [AV.flat,bh] at h
  simp only [AV.pure,bh]
  exact ⟨qp a h.1,qp b h.2⟩
 | .sl _ _,h=>by simp [AV.flat] at h
 | .rp _ _,h=>by simp [AV.flat] at h
 | .op _ _ _,h=>by simp [AV.flat] at h
 | .os _ _ _,h=>by simp [AV.flat] at h
 | .when _ _,h=>by simp [AV.flat] at h
 | .m9,h=>by simp [AV.flat] at h
 | .mr _ _ _,h=>by simp [AV.flat] at h
theorem qp:∀ (cs:List AV),AV.xE cs=true→AV.lS cs=true
 | [],_=>rfl
 | c :: cs,h=>by
  simp only [AV.xE,bh] at h
  simp only [AV.lS,bh]
  exact ⟨NJ c h.1,qp cs h.2⟩
end
mutual
theorem EV {f:Nat→Option Nat}:∀ (x:AV),x.pure=true→x.kB f=x
 | .op _ _ _,h=>by simp [AV.pure] at h
 | .os _ _ _,h=>by simp [AV.pure] at h
 | .mp _,h=>by simp [AV.pure] at h
 | .ov _ _ _ _ _,h=>by simp [AV.pure] at h
 | .B4 _ _ _,h=>by simp [AV.pure] at h
 | .mr _ _ _,h=>by simp [AV.pure] at h
 | .bn _,_=>rfl
 | .pt _ _,_=>rfl
 | .agg cs,h=>by simp only [AV.kB];rw [sy cs h]
 | .tup cs,h=>by simp only [AV.kB];rw [sy cs h]
 | .fn q a b,h=>by
  simp only [AV.pure,bh] at h
  simp only [AV.kB];rw [sy a h.1,sy b h.2]
 | .when b x,h=>by simp only [AV.kB];rw [EV x h]
 | .nq b x,h=>by simp only [AV.kB];rw [EV x h]
 | .atom _,_=>rfl
 | .sl _ _,_=>rfl
 | .rp _ _,_=>rfl
 | .nil,_=>rfl
 | .m9,_=>rfl
theorem sy {f:Nat→Option Nat}:∀ (cs:List AV),AV.lS cs=true→AV.ug f cs=cs
 | [],_=>rfl
 | c :: cs,h=>by
  simp only [AV.lS,bh] at h
  simp only [AV.ug]
  rw [EV c h.1,sy cs h.2]
end
theorem Mp {w':World} {S':Nat→Prop} {dn:Mu} {o o':Ob} {pl:Place} {c:Array Value} {T:TypeId} (h:gR w' S' dn o' pl c T) (z1:o'.sz=o.sz) (z2:o'.len=o.len) (z3:o'.pr=o.pr)
  (hl:o.len=1) (h0:o'.get 0=o.get 0):gR w' S' dn o pl c T:=by
 have q1:∀ i,i < o.len→o.get i=o'.get i:=fun i hi=>by
  simp_all
 refine ⟨h.sz.trans z1,z1 ▸ h.cK,z1 ▸ h.cap,z2 ▸ h.len,h.out,?_,?_,fun hz=>by rw [← h0,← z3];exact h.mp (z1.trans hz)⟩
 ·intro i hi
  rw [q1 i hi,← z1]
  exact h.tB i (by omega)
 ·intro i j x v hi hx hv
  rw [q1 i hi] at hx
  rw [← z3]
  exact h.rep i j x v (by omega) hx (by rw [z1];exact hv)
theorem RU {w':World} {S':Nat→Prop} {dn:Mu} {o o':Ob} {pl:Place} {c:Array Value} {T:TypeId} (h:gR w' S' dn o' pl c T) (z1:o'.sz=o.sz) (z2:o'.len=o.len) (z3:o'.pr=o.pr)
  (KX:o.pr=false) (q1:∀ i,i < o.len→o.get i=o'.get i):gR w' S' dn o pl c T:=by
 refine ⟨h.sz.trans z1,z1 ▸ h.cK,z1 ▸ h.cap,z2 ▸ h.len,h.out,?_,?_,fun hz=>?_⟩
 ·intro i hi
  rw [q1 i hi,← z1]
  exact h.tB i (by omega)
 ·intro i j x v hi hx hv
  rw [q1 i hi] at hx
  rw [← z3]
  exact h.rep i j x v (by omega) hx (by rw [z1];exact hv)
 ·have:=(h.mp (z1.trans hz)).2.2.2.1
  simp_all
theorem EW {w':World} {S' AN:Nat→Prop} {dn EG:Mu} {o:Ob} {pl:Place} {c:Array Value} {T:TypeId} (h:gR w' S' dn o pl c T) {ps:List Prop} (hf:tP o=some ps) (hp:bj ps) (ho:0 < pl.cap→¬ AN pl.cK) :
  gR w' AN EG o pl c T:=by
 unfold tP at hf
 split at hf
 ·grind [Mo]
 ·split at hf
  ·rename_i hb
   cases hf
   simp only [bh] at hb
   have Jq:=Nat.le_of_ble_eq_true hb.2
   refine { h with out:=ho,rep:=?_,mp:=fun hz=>absurd hz (by omega) }
   intro i j x v hi hx hv
   exact (h.rep i j x v hi hx hv).flat (uL (hp.1 i hi) hx) _ _ _
  ·cases hf
theorem A3 {w':World} {S' AN:Nat→Prop} {dn:Mu} {o:Ob} {pl:Place} {c:Array Value} {T:TypeId} (h:gR w' S' dn o pl c T) (hS:∀ b,S' b→AN b) (ho:0 < pl.cap→¬ AN pl.cK):gR w' AN dn o pl c T :=
 { h with
  out:=ho
  rep:=fun i j x v hi hx hv=>aq.mono hS (fun _ _=>rfl) (h.rep i j x v hi hx hv) (fun _ _ h=>h)
  mp:=fun hz=>let ⟨m0,m1,m2,m3,m4⟩:=h.mp hz
   ⟨m0,m1,m2,m3,fun j x v hx hv=>aq.mono hS (fun _ _=>rfl) (m4 j x v hx hv) (fun _ _ h=>h)⟩ }
theorem Mq {w':World} {S' AN:Nat→Prop} {dn EG:Mu} {o:Ob} {pl:Place} {c:Array Value} {T:TypeId} {ks:List Nat} {nk:Nat} {lone:Bool} (h:gR w' S' dn (o.kB (idx ks)) pl c T)
  {ps:List Prop} (Jr:Ch ks lone o=some ps) (hp:bj ps) (hS:lone=true→∀ b,S' b→AN b) (ho:0 < pl.cap→¬ AN pl.cK)
  (hm:∀ k k' pl,back ks nk k=some k'→dn k=some pl→EG k'=some pl):gR w' AN EG o pl c T:=by
 unfold Ch at Jr
 split at Jr
 case h_2 =>
  split at Jr
  ·grind [idx,Ob.kB,EW]
  ·rename_i KX
   split at Jr
   case h_2=>cases Jr
   rename_i hl
   cases Jr
   simp only [bh,Bool.not_eq_true'] at hl
   have h2:=h.kB hm
   refine A3 (RU h2 (by rw [Ob.sM,Ob.sM]) (by grind [Ob.yK]) (by rw [Ob.Cg,Ob.Cg]) KX fun i hi=>?_) (hS hl.1) ho
   have hr:EP (o.get i)=true:=hp.1 i hi
   simp_all [Ob.kB,Hn]
 rename_i hq
 cases hf:o.flat with
 | true =>
  have YI:=hf
  unfold Ob.flat at YI
  simp only [bh] at YI
  have hl:=bO YI.1.1.2
  refine Mo (Mp h (Ob.sM _ _) (Ob.yK _ _) (Ob.Cg _ _) hl ?_) hf ho
  grind [Ob.kB,sy,qp]
 | false =>
  rw [hf,Bool.false_or,bh] at hq
  have hS:=hS hq.1
  have h2:=h.kB hm
  have wU:∀ k i,idx ks k=some i→back ks nk i=some k:=fun k i hk=>by
   grind [back,nh]
  have h3:gR w' S' EG o pl c T:=by
   have hc:=hq.2
   unfold Ob.closed at hc
   cases hp:o.pr with
   | true =>
    grind [idx,back,Ob.kB]
   | false =>
    rw [hp,Bool.false_or] at hc
    simp only [bh] at hc
    refine Mp h2 (by rw [Ob.sM,Ob.sM]) (by grind [Ob.yK]) (by rw [Ob.Cg,Ob.Cg]) (bO hc.1.2) ?_
    simp only [Ob.kB,hp]
    grind [sx]
  exact A3 h3 hS ho
theorem v9 {σ:dw} {ks:List Nat} {lone:Bool}:∀ (l:List Nat) (qs:List Prop),xP σ ks lone l=some qs→bj qs→∀ k∈l,∀ o,au σ k=some o→∃ ps,Ch ks lone o=some ps∧bj ps
 | [],_,_,_,k,hk=>by simp at hk
 | a :: r,qs,h,hq,k,hk=>by
  intro o ho
  simp only [xP] at h
  split at h
  ·rename_i o1 wV
   split at h
   ·rename_i p q h1 h2
    cases h
    obtain ⟨q1,q2⟩:=bj.app hq
    rcases kL.1 hk with rfl | hk
    ·simp_all
    ·exact v9 r q h2 q2 k hk o ho
   ·cases h
  ·cases h
theorem rZ {lone:Bool}:∀ (σ:dw) (qs:List Prop),A1 lone σ=some qs→bj qs→∀ k o,au σ k=some o→lone=true∨∃ ps,tP o=some ps∧bj ps
 | [],_,_,_,k,o,h=>by simp [au] at h
 | (a,x) :: r,qs,h,hq,k,o,hk=>by
  simp only [A1] at h
  split at h
  ·exact .inl rfl
  ·split at h
   ·rename_i p q h1 h2
    cases h
    obtain ⟨q1,q2⟩:=bj.app hq
    simp only [au] at hk
    split at hk
    ·simp_all
    ·exact rZ r q h2 q2 k o hk
   ·cases h
theorem ui {o:Ob} {ps:List Prop} (h:tP o=some ps) (hp:bj ps) (i:Nat):rowOf o i=none:=by
 unfold tP at h
 split at h
 ·simp_all [Ob.flat,bh,xF]
 ·split at h
  ·cases h
   cases hr:rowOf o i with
   | none=>rfl
   | some x =>
    obtain ⟨_,h2,h3⟩:=da hr
    have:=hp.1 i h2
    rw [h3] at this;cases this
  ·cases h
theorem Ip {ks:List Nat} {o:Ob} {ps:List Prop} (h:Ch ks false o=some ps) (hp:bj ps) (i:Nat):rowOf o i=none:=by
 unfold Ch at h
 rw [Bool.false_and,Bool.or_false] at h
 split at h
 ·simp_all [ui,tP,trivial]
 ·split at h
  ·exact ui h hp i
  simp_all
theorem JO (g:Good E σ S μ w) (z7:∀ j,j < 16→μ (nk+j)=none) (tO:E.m0≤nk) {f:AV} {args:List AV} {bp:oa} {r:R} {fv:Value} (hf:aq w S μ fv f) {A4:Array Value} (ha:RL w S μ A4 args)
  (hz:bp.xi=true→∀ b,¬ E.fp b) {ob:FuncId→List AV→dw→Nat→AV→dw→Prop}
  (cZ:∀ gid as bs uh res eS vs,ob gid as uh bp.ks.length res eS→Good (xN w (fun b=>S b∨xO μ bs b) uh (kP μ bp.ks) bp.ks.length) uh (fun b=>S b∨xO μ bs b) (kP μ bp.ks) w→(∀ k,bp.ks.length≤k→kP μ bp.ks k=none) →
   RL w (fun b=>S b∨xO μ bs b) (kP μ bp.ks) vs as→Calls P gid vs w fun e w'=>∃ v S' dn,e=.returned v∧Good (xN w (fun b=>S b∨xO μ bs b) uh (kP μ bp.ks) bp.ks.length) eS S' dn w'∧aq w' S' dn v res)
  (h:El P ob nk σ f args bp=some r) (hp:bj r.Hm) :
  ∃ gid vs,(do let d ← Deferred.ofValue fv A4;invoke d.target d.args:Sem Next).run P w=.ok (.enter gid vs) w ∧
   Calls P gid vs w fun e w'=>∃ v S' dn,e=.returned v∧Ext w S μ w' S' dn∧Good E (fA σ r.ml) S' dn w'∧(∀ k,(k < nk∨nk+16≤k)→μ k=none→dn k=none)∧aq w' S' dn v r.val:=by
 unfold El at h
 split at h
 case h_2=>cases h
 rename_i gid first cap
 split at h
 case h_2=>cases h
 rename_i as bs ps uh EX TM RV
 split at h
 case h_2=>cases h
 rename_i Wn
 rw [bh] at Wn
 obtain ⟨XP,NK⟩:=Wn
 have RX:=ES bp.ks XP
 cases hf with
 | fn f1 f2 f3 f4 =>
 rename_i XQ XR
 refine ⟨gid,XQ ++ A4 ++ XR,?_,?_⟩
 ·unfold JM at EX
  split at EX
  ·rename_i fn Wo
   simp only [bh,Bool.not_eq_true'] at EX
   have hb:¬ fn.body=none:=by intro hh;rw [hh] at EX;simp at EX
   have fZ:¬ fn.name = "runtime.NumGoroutine":=by simpa using EX.2
   simp [Deferred.ofValue,invoke,callFunc,Wo,fZ,hb]
  ·cases EX
 have UD:=qo _ _ _ _ TM
 have RY:=Ho bp.ks 0 uh RV
 simp only [Nat.zero_le,if_true,Nat.sub_zero] at RY
 -- the state in which the callee begins
 have hps:bj ps:=by
  split at h
  ·split at h
   ·split at h
    ·cases h;exact (bj.app hp.2).2
    ·cases h
   ·split at h
    ·cases h;exact (bj.app hp.2).2
    ·cases h
  ·split at h
   ·cases h;exact (bj.app hp.2).2
   ·cases h
 have xj:RL w (fun b=>S b∨xO μ bs b) (kP μ bp.ks) (XQ ++ A4 ++ XR) as:=by
  have XS:RL w S μ (XQ ++ A4 ++ XR) (first ++ (args ++ cap)):=by
   have:=RL.append (w:=w) (S:=S) (μ:=μ) ⟨f1,f3⟩ (RL.append ha ⟨f2,f4⟩)
   rwa [← Array.append_assoc] at this
  exact RR g XS _ (fun _ h=>.inl h) TM hps (fun _ h=>.inr h)
 have gS:∀ k o pl,au σ k=some o→μ k=some pl→0 < pl.cap→pl.cK < w.heap.size:=fun k o pl ho hm hc=>by
  obtain ⟨j9,c,T,gV,cZ⟩:=g.rep.ob k o ho
  rw [hm] at gV;cases gV
  exact gz (cZ.cK hc)
 have Wp:∀ k o pl,au σ k=some o→μ k=some pl→0 < pl.cap→¬ S pl.cK:=fun k o pl ho hm hc=>by
  obtain ⟨j9,c,T,gV,cZ⟩:=g.rep.ob k o ho
  rw [hm] at gV;cases gV
  exact cZ.out hc
 have Dj:∀ i o',au uh i=some o'→∃ k o,bp.ks[i]?=some k∧au σ k=some o∧o'=o.kB (idx bp.ks):=by
  intro i o' h
  rw [RY] at h
  simp only [aL,Option.bind_eq_some_iff] at h
  obtain ⟨o,⟨k,hk,ho⟩,rfl⟩:=h
  exact ⟨k,o,hk,ho,rfl⟩
 have Mr:∀ i j x v,ja w (kP μ bp.ks) uh i j x v→∃ k,bp.ks[i]?=some k∧ja w μ σ k j x v:=by
  rintro i j x v ⟨o',pl,h1,h2,h3,h4⟩
  obtain ⟨k,o,hk,ho,rfl⟩:=Dj i o' h1
  exact ⟨k,hk,o,pl,ho,(qn _ _ _ _).1 h2,by simpa [kP,hk] using h3,h4⟩
 have Pc:∀ b,RO w uh (kP μ bp.ks) b→(∃ (k i:Nat) (o:Ob) (pl:Place),bp.ks[i]?=some k∧au σ k=some o∧μ k=some pl∧0 < pl.cap∧pl.cK=b) ∨
   ∃ (k i j:Nat) (x:Nat×Nat×(Nat→List AV)) (v:Value),bp.ks[i]?=some k∧ja w μ σ k j x v∧ptrTo v b:=by
  rintro b (⟨i,o',pl,hi,hm,hc,hb⟩ | ⟨i,j,x,v,hv,hb⟩)
  ·obtain ⟨k,o,hk,ho,_⟩:=Dj i o' hi
   refine .inl ⟨k,i,o,pl,hk,ho,?_,hc,hb⟩
   simpa [kP,hk] using hm
  ·obtain ⟨k,hk,sJ⟩:=Mr i j x v hv
   exact .inr ⟨k,i,j,x,v,hk,sJ,hb⟩
 have Pd:∀ k i x v b,ja w μ σ k i x v→ptrTo v b→¬ xO μ bs b:=by
  rintro k i x v b hv hb ⟨k',oQ,j9,gV,oG,he⟩
  obtain ⟨_,o2,De⟩:=UD k' oQ
  exact g.mx.obj _ _ _ _ _ hv hb k' o2 j9 De gV oG he
 have g0:Good (xN w (fun b=>S b∨xO μ bs b) uh (kP μ bp.ks) bp.ks.length) uh (fun b=>S b∨xO μ bs b) (kP μ bp.ks) w:=by
  refine ⟨Fr.refl _ _,fun _ h=>h,?_,fun _ h=>.inl h,⟨?_,?_⟩,fun k o pl hk hm hc=>.inl (.inl ⟨k,o,pl,hk,hm,hc,rfl⟩),fun _ _=>rfl,?_⟩
  ·rintro b (hb | ⟨k,hk,pl,hm,hc,rfl⟩)
   ·exact g.S1 b hb
   ·obtain ⟨_,o,ho⟩:=UD k hk
    exact gS k o pl ho hm hc
  ·intro i o' hi
   obtain ⟨k,o,hk,ho,rfl⟩:=Dj i o' hi
   obtain ⟨pl,c,T,hm,cZ⟩:=g.rep.ob k o ho
   refine ⟨pl,c,T,by simp [kP,hk,hm],?_⟩
   have h1:=cZ.kB (f:=idx bp.ks) (dn:=kP μ bp.ks) (fun a b pl ha hb=>AY a b pl ha hb)
   refine h1.ext (w':=w) ⟨aG _,fun _ h=>.inl h,fun _ _=>rfl,fun _ _ h=>h⟩ (fun _=>rfl) ?_
   rintro hc (hS | ⟨k',oQ,j9,gV,oG,he⟩)
   ·exact cZ.out hc hS
   ·obtain ⟨GD,o2,De⟩:=UD k' oQ
    have fZ:k≠k':=fun h=>mm _ _ GD i (h ▸ hk)
    exact g.rep.ne k k' o o2 pl j9 fZ ho De hm gV hc oG he.symm
  ·intro i i' o o' pl j9 fZ hi rr hm gV hc oG
   obtain ⟨k,oo,hk,ho,_⟩:=Dj i o hi
   obtain ⟨k',oo',oQ,vR,_⟩:=Dj i' o' rr
   have Pe:k≠k':=fun h=>fZ (RX i i' k hk (h ▸ oQ))
   exact g.rep.ne k k' oo oo' pl j9 Pe ho vR (by simpa [kP,hk] using hm) (by simpa [kP,oQ] using gV) hc oG
  ·refine g.mx.tr (fun i=>bp.ks.getD i 0) (fun i j x v h=>?_) (fun i j x v i' j' x' v' h h' e=>?_) (fun _ h=>.inl h) (fun _ _=>rfl) (fun i j x v b hv h hb=>?_) (fun i o' pl h1 h2 h3=>?_)
   ·obtain ⟨k,hk,hv⟩:=Mr i j x v h
    show ja w μ σ (bp.ks.getD i 0) j x v
    rw [fE,hk];exact hv
   ·obtain ⟨k,hk,_⟩:=Mr i j x v h
    obtain ⟨k',oQ,_⟩:=Mr i' j' x' v' h'
    have e:bp.ks.getD i 0=bp.ks.getD i' 0:=e
    rw [fE,fE,hk,oQ] at e
    have e:k=k':=e
    exact RX i i' k hk (e ▸ oQ)
   ·obtain ⟨q1,q2,q3,_⟩:=g.mx.cK h hb
    exact ⟨rfl,fun hs=>hs.elim q2 (Pd _ _ _ _ _ h hb),fun _=>.inl (.inr ⟨i,j,x,v,hv,hb⟩)⟩
   ·obtain ⟨k,o,hk,ho,_⟩:=Dj i o' h1
    exact .inl ⟨k,o,pl,ho,by simpa [kP,hk] using h2,h3,rfl⟩
 have Pf:∀ k,bp.ks.length≤k→kP μ bp.ks k=none:=fun k hk=>by simp [kP,oC hk]
 -- behind the call
 have wR:∀ k o,au σ k=some o→k < nk∨nk+16≤k:=by
  intro k o ho
  rcases Nat.lt_or_ge k nk with h1 | h1
  ·exact .inl h1
  ·rcases Nat.lt_or_ge k (nk+16) with h2 | h2
   ·obtain ⟨pl,c,T,hm,_⟩:=g.rep.ob k o ho
    have:=z7 (k - nk) (by omega)
    rw [show nk+(k - nk)=k by omega,hm] at this
    cases this
   ·exact .inr h2
 have fin:∀ (eS:dw) (La:dw),ob gid as uh bp.ks.length bp.res eS →
   (∀ n,idx bp.ks n=none→(n < nk∨nk+16≤n)→au La n=if bp.xi=true∧n∈bs then none else au σ n) →
   (∀ j,j < 16→∀ o,au La (nk+j)=some o→∃ o1,au eS (bp.ks.length+j)=some o1∧o=o1.kB (back bp.ks nk)) →
   (∀ (w':World) (S' AN:Nat→Prop) (dn:Mu),((bs.isEmpty || bp.xi)=true→∀ b,S' b→AN b)→∀ j,j < 16→∀ o1 pl c T,au eS (bp.ks.length+j)=some o1→gR w' S' dn o1 pl c T→(0 < pl.cap→¬ AN pl.cK)→gR w' AN dn o1 pl c T) →
   (∀ (w':World) (S' AN:Nat→Prop) (dn JP:Mu),Good (xN w (fun b=>S b∨xO μ bs b) uh (kP μ bp.ks) bp.ks.length) eS S' dn w'→((bs.isEmpty || bp.xi)=true→∀ b,S' b→AN b) →
    (∀ k k' pl,back bp.ks nk k=some k'→dn k=some pl→JP k'=some pl)→∀ (k i:Nat) (o:Ob) (pl:Place),bp.ks[i]?=some k→au La k=some o→μ k=some pl→(0 < pl.cap→¬ AN pl.cK)→∃ c T,gR w' AN JP o pl c T) →
   (∀ (k i:Nat) (o:Ob),bp.ks[i]?=some k→au La k=some o→(∃ o1,au σ k=some o1)∧∃ o2,au eS i=some o2) →
   (∀ (k i:Nat) (o:Ob),bp.ks[i]?=some k→au La k=some o→∀ j x,rowOf o j=some x→∃ o2,au eS i=some o2∧rowOf o2 j=some x) →
   ((bs.isEmpty || bp.xi)=false→∀ n o,au eS n=some o→∀ i,rowOf o i=none) →
   Calls P gid (XQ ++ A4 ++ XR) w fun e w'=>∃ v S' dn,e=.returned v∧Ext w S μ w' S' dn∧Good E La S' dn w'∧(∀ k,(k < nk∨nk+16≤k)→μ k=none→dn k=none)∧aq w' S' dn v (bp.res.kB (back bp.ks nk)):=by
  intro eS La UE Iq RE Wq YJ RZ Wr UF
  refine (cZ gid as bs uh _ _ _ UE g0 Pf xj).mono ?_
  rintro e w' ⟨v,S',dn,rfl,g',hv⟩
  have JQ:∀ b,b < w.heap.size→(∀ (k i:Nat) (o:Ob) (pl:Place),bp.ks[i]?=some k→au σ k=some o→μ k=some pl→0 < pl.cap→pl.cK≠b) →
    (∀ (k i j:Nat) (x:Nat×Nat×(Nat→List AV)) (v:Value),bp.ks[i]?=some k→ja w μ σ k j x v→¬ ptrTo v b)→w'.heap[b]?=w.heap[b]?:=by
   intro b hb GD YK
   refine g'.fr.cK b hb fun R0=>?_
   rcases Pc b R0 with ⟨k,i,o,pl,hk,ho,hm,hc,he⟩ | ⟨k,i,j,x,v,hk,hv,he⟩
   ·exact GD k i o pl hk ho hm hc he
   ·exact YK k i j x v hk hv he
  have hSb:∀ b,S b→w'.heap[b]?=w.heap[b]?:=fun b hb=>JQ b (g.S1 b hb) (fun k i o pl hk ho hm hc he=>Wp k o pl ho hm hc (he ▸ hb)) fun k i j x v hk hv he=>(g.mx.cK hv he).2.1 hb
  let JP:Mu:=fun k=>if nk≤k∧k < nk+16 then dn (bp.ks.length+(k - nk)) else μ k
  have EY:∀ k,(k < nk∨nk+16≤k)→JP k=μ k:=fun k hk=>by
   show (if nk≤k∧k < nk+16 then _ else _)=_
   rw [if_neg (by omega)]
  have Ir:∀ j,j < 16→JP (nk+j)=dn (bp.ks.length+j):=fun j hj=>by
   show (if nk≤nk+j∧nk+j < nk+16 then _ else _)=_
   rw [if_pos (by omega)];congr 1;omega
  have R1:∀ k pl,μ k=some pl→JP k=some pl:=by
   intro k pl hk
   have hn:k < nk∨nk+16≤k:=by
    rcases Nat.lt_or_ge k nk with h1 | h1
    ·exact .inl h1
    ·rcases Nat.lt_or_ge k (nk+16) with h2 | h2
     ·have:=z7 (k - nk) (by omega)
      rw [show nk+(k - nk)=k by omega,hk] at this
      cases this
     ·exact .inr h2
   rw [EY k hn];exact hk
  have wU:∀ k k' pl,back bp.ks nk k=some k'→dn k=some pl→JP k'=some pl:=by
   intro k k' pl hk hm
   unfold back at hk
   split at hk
   ·rename_i q hq
    cases hk
    have gS:k < bp.ks.length:=(dJ.1 hq).1
    rw [g'.Eh k gS] at hm
    have:kP μ bp.ks k=some pl:=hm
    refine R1 _ _ ?_
    simpa [kP,show bp.ks[k]?=some _ from hq] using this
   ·rename_i hq
    split at hk
    ·rename_i hb
     cases hk
     have gS:k < bp.ks.length+16:=by
      simp only [Nat.blt,Nat.ble_eq] at hb;exact hb
     have YL:bp.ks.length≤k:=List.getElem?_eq_none_iff.1 hq
     rw [Ir _ (by omega),show bp.ks.length+(k - bp.ks.length)=k by omega];exact hm
    ·cases hk
  let SF:Nat→Prop:=fun b=>S b∨(bp.xi=true∧xO μ bs b)∨(S' b∧w.heap.size≤b)
  have hSF:∀ b,SF b→S' b:=by
   rintro b (h1 | ⟨_,h1⟩ | ⟨h1,_⟩)
   ·exact g'.S0 b (.inl h1)
   ·exact g'.S0 b (.inr h1)
   ·exact h1
  have XT:(bs.isEmpty || bp.xi)=true→∀ b,S' b→SF b:=by
   intro he b hb
   rcases g'.S2 b hb with (h1 | h0) | h1
   ·exact .inl h1
   ·rcases Bool.or_eq_true_iff.1 he with he | he
    ·obtain ⟨k,hk,_⟩:=h0
     rw [List.isEmpty_iff] at he;rw [he] at hk;simp at hk
    ·exact .inr (.inl ⟨he,h0⟩)
   ·exact .inr (.inr ⟨hb,h1⟩)
  have hold:∀ k o,au La k=some o→(k < nk∨nk+16≤k)→∃ o1,au σ k=some o1:=by
   intro k o ho hn
   cases hi:idx bp.ks k with
   | none =>
    rw [Iq k hi hn] at ho
    split at ho
    ·cases ho
    ·exact ⟨o,ho⟩
   | some i=>exact (RZ k i o (nh _ _ _ hi) ho).1
  have hnl:∀ k o,au La k=some o→bp.xi=true→k ∉ bs:=by
   intro k o ho Ox hk
   obtain ⟨GD,o2,De⟩:=UD k hk
   rw [Iq k GD (wR k o2 De),if_pos ⟨Ox,hk⟩] at ho
   cases ho
  have Ms:∀ k o0 o pl,au La k=some o0→au σ k=some o→μ k=some pl→0 < pl.cap→¬ SF pl.cK:=by
   rintro k o0 o pl qQ ho hm hc (h1 | ⟨Ox,k',oQ,j9,gV,oG,he⟩ | ⟨_,h1⟩)
   ·exact Wp k o pl ho hm hc h1
   ·obtain ⟨_,o2,De⟩:=UD k' oQ
    have fZ:k≠k':=fun h=>hnl k o0 qQ Ox (h ▸ oQ)
    exact g.rep.ne k k' o o2 pl j9 fZ ho De hm gV hc oG he.symm
   ·have:=gS k o pl ho hm hc;omega
  -- a new object, as the callee has left it
  have Lb:∀ j,j < 16→∀ o,au La (nk+j)=some o→∃ o1 pl c T,au eS (bp.ks.length+j)=some o1∧o=o1.kB (back bp.ks nk)∧dn (bp.ks.length+j)=some pl∧gR w' S' dn o1 pl c T:=by
   intro j hj o ho
   obtain ⟨o1,h1,h2⟩:=RE j hj o ho
   obtain ⟨pl,c,T,h3,h4⟩:=g'.rep.ob _ o1 h1
   exact ⟨o1,pl,c,T,h1,h2,h3,h4⟩
  have xQ:∀ k,(k < nk∨nk+16≤k)∨∃ j,j < 16∧k=nk+j:=fun k=>by
   rcases Nat.lt_or_ge k nk with h1 | h1
   ·exact .inl (.inl h1)
   ·rcases Nat.lt_or_ge k (nk+16) with h2 | h2
    ·exact .inr ⟨k - nk,by omega,by omega⟩
    ·exact .inl (.inr h2)
  -- the block of a new object is none of the caller's
  have TN:∀ j o1 pl,au eS (bp.ks.length+j)=some o1→dn (bp.ks.length+j)=some pl→0 < pl.cap →
    (∃ (k i:Nat) (o:Ob) (j9:Place),bp.ks[i]?=some k∧au σ k=some o∧μ k=some j9∧0 < j9.cap∧j9.cK=pl.cK) ∨
    (∃ (k i j:Nat) (x:Nat×Nat×(Nat→List AV)) (v:Value),bp.ks[i]?=some k∧ja w μ σ k j x v∧ptrTo v pl.cK)∨w.heap.size≤pl.cK:=by
   intro j o1 pl h1 h2 h3
   rcases g'.own _ o1 pl h1 h2 h3 with h4 | h4
   ·exact (Pc _ h4).elim .inl fun h=>.inr (.inl h)
   ·exact .inr (.inr h4)
  -- new and old ones lie apart
  have Pg:∀ j,j < 16→∀ k o o' pl j9,au La (nk+j)=some o→au La k=some o'→(k < nk∨nk+16≤k)→JP (nk+j)=some pl→JP k=some j9→0 < pl.cap→0 < j9.cap→pl.cK≠j9.cK:=by
   intro j hj k o o' pl j9 ho vR hn hm gV hc oG he
   obtain ⟨o1,AO,c1,T1,h1,h2,h3,h4⟩:=Lb j hj o ho
   rw [Ir j hj,h3] at hm;cases hm
   rw [EY k hn] at gV
   cases hi:idx bp.ks k with
   | some i =>
    have OE:=nh _ _ _ hi
    obtain ⟨_,o2,De⟩:=RZ k i o' OE vR
    have KZ:i < bp.ks.length:=(dJ.1 OE).1
    have AW:dn i=some j9:=by
     rw [g'.Eh i KZ]
     show kP μ bp.ks i=_
     simp [kP,OE,gV]
    exact g'.rep.ne (bp.ks.length+j) i o1 o2 pl j9 (by omega) h1 De h3 AW hc oG he
   | none =>
    obtain ⟨o3,KW⟩:=hold k o' vR hn
    rcases TN j o1 pl h1 h3 hc with ⟨k2,i2,o4,R2,q1,q2,q3,q4,q5⟩ | ⟨k2,i2,j2,x2,v2,q1,q2,q3⟩ | h5
    ·have fZ:k2≠k:=fun h=>mm _ _ hi i2 (h ▸ q1)
     exact g.rep.ne k2 k o4 o3 R2 j9 fZ q2 KW q3 gV q4 oG (q5.trans he)
    ·exact g.mx.obj _ _ _ _ _ q2 q3 k o3 j9 KW gV oG he.symm
    ·have:=gS k o3 j9 KW gV oG
     omega
  have ext:Ext w S μ w' SF JP:=⟨g'.fr.size,fun _ h=>.inl h,hSb,R1⟩
  -- the rows
  have cls:∀ k i x v,ja w' JP La k i x v→(idx bp.ks k=none∧(k < nk∨nk+16≤k)∧ja w μ σ k i x v)∨((bs.isEmpty || bp.xi)=true∧∃ q,back bp.ks nk q=some k∧ja w' dn eS q i x v):=by
   rintro k i x v ⟨o,pl,h1,h2,h3,h4⟩
   have TO:∀ n o2,au eS n=some o2→rowOf o2 i=some x→(bs.isEmpty || bp.xi)=true:=by
    intro n o2 De eJ
    cases Ph:(bs.isEmpty || bp.xi) with
    | true=>rfl
    | false=>rw [UF Ph n o2 De i] at eJ;cases eJ
   rcases xQ k with hn | ⟨j,hj,rfl⟩
   ·cases hi:idx bp.ks k with
    | none =>
     have qQ:=h1
     rw [Iq k hi hn] at qQ
     split at qQ
     ·cases qQ
     rw [EY k hn] at h3
     obtain ⟨rY,c,T,hm,cZ⟩:=g.rep.ob k o qQ
     rw [h3] at hm;cases hm
     refine .inl ⟨rfl,hn,o,pl,qQ,h2,h3,?_⟩
     have hc:0 < pl.cap:=by have:=(da h2).2.1;have:=cZ.len;omega
     rw [← h4]
     refine (qN (JQ _ (gz (cZ.cK hc)) ?_ ?_) _).symm
     ·intro k' i' o' j9 oQ vR gV oG he
      have fZ:k'≠k:=fun h=>mm _ _ hi i' (h ▸ oQ)
      exact g.rep.ne k' k o' o j9 pl fZ vR qQ gV h3 oG hc he
     ·intro k' i' j' x' v' oQ sJ he
      exact g.mx.obj _ _ _ _ _ sJ he k o pl qQ h3 hc rfl
    | some i0 =>
     have OE:=nh _ _ _ hi
     obtain ⟨o2,De,eJ⟩:=Wr k i0 o OE h1 i x h2
     have KZ:i0 < bp.ks.length:=(dJ.1 OE).1
     refine .inr ⟨TO i0 o2 De eJ,i0,by unfold back;rw [OE],o2,pl,De,eJ,?_,h4⟩
     rw [g'.Eh i0 KZ]
     rw [EY k hn] at h3
     show kP μ bp.ks i0=_
     simp [kP,OE,h3]
   ·obtain ⟨o1,q1,q2⟩:=RE j hj o h1
    rw [q2] at h2
    have eJ:=(qn _ _ _ _).1 h2
    refine .inr ⟨TO _ o1 q1 eJ,bp.ks.length+j,?_,o1,pl,q1,eJ,by rw [← Ir j hj];exact h3,h4⟩
    unfold back
    rw [oC (by omega)]
    have:Nat.blt (bp.ks.length+j) (bp.ks.length+16)=true:=by simp only [Nat.blt,Nat.ble_eq];omega
    rw [this]
    simp
  have Ws:∀ k i x v b,ja w μ σ k i x v→ptrTo v b→idx bp.ks k=none→w'.heap[b]?=w.heap[b]?∧¬ SF b:=by
   intro k i x v b hv hb hi
   obtain ⟨q1,q2,q3,_⟩:=g.mx.cK hv hb
   refine ⟨JQ b q1 (fun k' i' o' j9 oQ vR gV oG he=>g.mx.obj _ _ _ _ _ hv hb k' o' j9 vR gV oG he) (fun k' i' j' x' v' oQ sJ he=>?_),?_⟩
   ·obtain ⟨e1,_⟩:=g.mx.two _ _ _ _ _ _ _ _ _ hv sJ hb he
    exact mm _ _ hi i' (e1 ▸ oQ)
   ·rintro (h1 | ⟨_,h1⟩ | ⟨_,h1⟩)
    ·exact q2 h1
    ·exact Pd _ _ _ _ _ hv hb h1
    ·omega
  have Pj:∀ k i x v b,ja w μ σ k i x v→ptrTo v b→idx bp.ks k=none→∀ b',(RO w uh (kP μ bp.ks) b'∨w.heap.size≤b')→b'≠b:=by
   rintro k i x v b hv hb hi b' (h1 | h1) rfl
   ·rcases Pc _ h1 with ⟨k2,i2,o4,R2,q1,q2,q3,q4,q5⟩ | ⟨k2,i2,j2,x2,v2,q1,q2,q3⟩
    ·exact g.mx.obj _ _ _ _ _ hv hb k2 o4 R2 q2 q3 q4 q5
    ·obtain ⟨e1,_⟩:=g.mx.two _ _ _ _ _ _ _ _ _ hv q2 hb q3
     exact mm _ _ hi i2 (e1 ▸ q1)
   ·have:=(g.mx.cK hv hb).1;omega
  have YM:MX E.fp E.w0.heap.size w' SF JP La:=by
   refine ⟨fun k i x v h=>?_,fun k i x v b h hb k' o' j9 h1 h2 h3=>?_,fun k i x v b k' i' x' v' h h' hb tN=>?_⟩
   ·rcases cls k i x v h with ⟨hi,hn,hv⟩ | ⟨Ph,q,hq,hv⟩
    ·exact (g.mx.row _ _ _ _ hv).ext (fun _ h=>.inl h) hSb fun b hb=>let ⟨a1,a2⟩:=Ws _ _ _ _ _ hv hb hi;⟨a1,a2,fun h=>h⟩
    ·refine (g'.mx.row _ _ _ _ hv).ext (XT Ph) (fun _ _=>rfl) fun b hb=>⟨rfl,fun hs=>(g'.mx.cK hv hb).2.1 (hSF b hs),?_⟩
     rintro (h1 | h1)
     ·rcases Pc _ h1 with ⟨k2,i2,o4,R2,q1,q2,q3,q4,q5⟩ | ⟨k2,i2,j2,x2,v2,q1,q2,q3⟩
      ·rw [← q5];exact g.own k2 o4 R2 q2 q3 q4
      ·exact (g.mx.cK q2 q3).2.2.1
     ·exact .inr (eC g.fr.size h1)
   ·rcases cls k i x v h with ⟨hi,hn,hv⟩ | ⟨Ph,q,hq,hv⟩
    ·rcases xQ k' with Il | ⟨j',yM,rfl⟩
     ·obtain ⟨o2,De⟩:=hold k' o' h1 Il
      rw [EY k' Il] at h2
      exact g.mx.obj _ _ _ _ _ hv hb k' o2 j9 De h2 h3
     ·obtain ⟨o1,AO,c1,T1,q1,q2,q3,q4⟩:=Lb j' yM o' h1
      rw [Ir j' yM,q3] at h2;cases h2
      exact Pj _ _ _ _ _ hv hb hi _ (g'.own _ o1 j9 q1 q3 h3)
    ·rcases xQ k' with Il | ⟨j',yM,rfl⟩
     ·rw [EY k' Il] at h2
      cases hi:idx bp.ks k' with
      | some i2 =>
       have OE:=nh _ _ _ hi
       obtain ⟨_,o2,De⟩:=RZ k' i2 o' OE h1
       have KZ:i2 < bp.ks.length:=(dJ.1 OE).1
       have AW:dn i2=some j9:=by
        rw [g'.Eh i2 KZ]
        show kP μ bp.ks i2=_
        simp [kP,OE,h2]
       exact g'.mx.obj _ _ _ _ _ hv hb i2 o2 j9 De AW h3
      | none =>
       obtain ⟨o3,KW⟩:=hold k' o' h1 Il
       intro he
       rcases (g'.mx.cK hv hb).2.2.1 with h4 | h4
       ·rcases Pc _ h4 with ⟨k2,i2,o4,R2,q1,q2,q3,q4,q5⟩ | ⟨k2,i2,j2,x2,v2,q1,q2,q3⟩
        ·have fZ:k2≠k':=fun h=>mm _ _ hi i2 (h ▸ q1)
         exact g.rep.ne k2 k' o4 o3 R2 j9 fZ q2 KW q3 h2 q4 h3 (q5.trans he.symm)
        ·exact g.mx.obj _ _ _ _ _ q2 q3 k' o3 j9 KW h2 h3 he
       ·have:=gS k' o3 j9 KW h2 h3
        have h4:w.heap.size≤b:=h4
        omega
     ·obtain ⟨o1,AO,c1,T1,q1,q2,q3,q4⟩:=Lb j' yM o' h1
      rw [Ir j' yM,q3] at h2;cases h2
      exact g'.mx.obj _ _ _ _ _ hv hb _ o1 j9 q1 q3 h3
   ·rcases cls k i x v h with ⟨hi,hn,hv⟩ | ⟨Ph,q,hq,hv⟩<;>rcases cls k' i' x' v' h' with ⟨rr,Il,sJ⟩ | ⟨ab9,q',NG,sJ⟩
    ·exact g.mx.two _ _ _ _ _ _ _ _ _ hv sJ hb tN
    ·exact (Pj _ _ _ _ _ hv hb hi _ (g'.mx.cK sJ tN).2.2.1 rfl).elim
    ·exact (Pj _ _ _ _ _ sJ tN rr _ (g'.mx.cK hv hb).2.2.1 rfl).elim
    ·obtain ⟨e1,e2⟩:=g'.mx.two _ _ _ _ _ _ _ _ _ hv sJ hb tN
     rw [e1,NG] at hq
     exact ⟨(Option.some.inj hq).symm,e2⟩
  refine ⟨v,SF,JP,rfl,ext,⟨?_,fun b h=>.inl (g.S0 b h),?_,?_,⟨?_,?_⟩,?_,fun k hk=>by rw [EY k (.inl (by omega))];exact g.Eh k hk,YM⟩,fun k hn h=>by rw [EY k hn];exact h,?_⟩
  ·refine ⟨g'.fr.os.trans g.fr.os,g'.fr.tape.trans g.fr.tape,g'.fr.output.trans g.fr.output,eC g.fr.size g'.fr.size,fun b hb YN=>?_⟩
   rw [← g.fr.cK b hb YN]
   refine JQ b (pJ hb g.fr.size) ?_ ?_
   ·intro k i o pl hk ho hm hc he
    rcases g.own k o pl ho hm hc with h1 | h1
    ·exact YN (he ▸ h1)
    ·have:pl.cK=b:=he
     omega
   ·intro k i j x v hk hv he
    rcases (g.mx.cK hv he).2.2.1 with h1 | h1
    ·exact YN h1
    ·omega
  ·rintro b (hb | ⟨_,k,hk,pl,hm,hc,rfl⟩ | ⟨hb,_⟩)
   ·exact pJ (g.S1 b hb) g'.fr.size
   ·obtain ⟨_,o,ho⟩:=UD k hk
    exact pJ (gS k o pl ho hm hc) g'.fr.size
   ·exact g'.S1 b hb
  ·rintro b (hb | ⟨Ox,k,hk,pl,hm,hc,rfl⟩ | ⟨_,hb⟩)
   ·exact g.S2 b hb
   ·obtain ⟨_,o,ho⟩:=UD k hk
    rcases g.own k o pl ho hm hc with h1 | h1
    ·exact (hz Ox _ h1).elim
    ·exact .inr h1
   ·exact .inr (eC g.fr.size hb)
  ·intro k o ho
   rcases xQ k with hn | ⟨j,hj,rfl⟩
   ·cases hi:idx bp.ks k with
    | none =>
     have qQ:=ho
     rw [Iq k hi hn] at ho
     split at ho
     ·cases ho
     obtain ⟨pl,c,T,hm,cZ⟩:=g.rep.ob k o ho
     refine ⟨pl,c,T,R1 _ _ hm,cZ.ext ext ?_ (Ms k o o pl qQ ho hm)⟩
     intro hc
     refine JQ _ (gz (cZ.cK hc)) ?_ (fun k' i' j' x' v' oQ sJ he=>g.mx.obj _ _ _ _ _ sJ he k o pl ho hm hc rfl)
     intro k' i' o' j9 oQ vR gV oG he
     have fZ:k'≠k:=fun h=>mm _ _ hi i' (h ▸ oQ)
     exact g.rep.ne k' k o' o j9 pl fZ vR ho gV hm oG hc he
    | some i =>
     have hk:=nh _ _ _ hi
     obtain ⟨⟨o1,wV⟩,_⟩:=RZ k i o hk ho
     obtain ⟨pl,c,T,hm,_⟩:=g.rep.ob k o1 wV
     obtain ⟨c',T',cZ⟩:=YJ w' S' SF dn JP g' XT wU k i o pl hk ho hm (Ms k o o1 pl ho wV hm)
     exact ⟨pl,c',T',R1 _ _ hm,cZ⟩
   ·obtain ⟨o1,pl,c,T,h1,h2,h3,h4⟩:=Lb j hj o ho
    have h5:=Wq w' S' SF dn XT j hj o1 pl c T h1 h4 (fun hc hb=>h4.out hc (hSF _ hb))
    exact ⟨pl,c,T,by rw [Ir j hj];exact h3,by rw [h2];exact h5.kB wU⟩
  ·intro k k' o o' pl j9 fZ ho vR hm gV hc oG
   rcases xQ k with hn | ⟨j,hj,rfl⟩
   ·rcases xQ k' with Il | ⟨j',yM,rfl⟩
    ·obtain ⟨o1,wV⟩:=hold k o ho hn
     obtain ⟨o2,De⟩:=hold k' o' vR Il
     rw [EY k hn] at hm
     rw [EY k' Il] at gV
     exact g.rep.ne k k' o1 o2 pl j9 fZ wV De hm gV hc oG
    ·exact fun he=>Pg j' yM k o' o j9 pl vR ho hn gV hm oG hc he.symm
   ·rcases xQ k' with Il | ⟨j',yM,rfl⟩
    ·exact Pg j hj k' o o' pl j9 ho vR Il hm gV hc oG
    ·obtain ⟨o1,AO,c1,T1,h1,h2,h3,h4⟩:=Lb j hj o ho
     obtain ⟨o2,rY,c2,T2,k1,k2,k3,k4⟩:=Lb j' yM o' vR
     rw [Ir j hj,h3] at hm;cases hm
     rw [Ir j' yM,k3] at gV;cases gV
     exact g'.rep.ne _ _ o1 o2 pl j9 (by omega) h1 k1 h3 k3 hc oG
  ·intro k o pl ho hm hc
   rcases xQ k with hn | ⟨j,hj,rfl⟩
   ·obtain ⟨o1,wV⟩:=hold k o ho hn
    rw [EY k hn] at hm
    exact g.own k o1 pl wV hm hc
   ·obtain ⟨o1,AO,c1,T1,h1,h2,h3,h4⟩:=Lb j hj o ho
    rw [Ir j hj,h3] at hm;cases hm
    rcases TN j o1 pl h1 h3 hc with ⟨k2,i2,o4,R2,q1,q2,q3,q4,q5⟩ | ⟨k2,i2,j2,x2,v2,q1,q2,q3⟩ | h5
    ·rw [← q5];exact g.own k2 o4 R2 q2 q3 q4
    ·exact (g.mx.cK q2 q3).2.2.1
    ·exact .inr (eC g.fr.size h5)
  ·cases he:(bs.isEmpty || bp.xi) with
   | true=>exact (hv.kB (f:=back bp.ks nk) wU).mono (XT he) (fun _ _=>rfl) (fun _ _ h=>h)
   | false =>
    rw [he,Bool.false_or] at NK
    exact (hv.Jp NK w' SF).kB (f:=back bp.ks nk) wU
 split at h
 ·split at h
  ·split at h
   ·rename_i qs Jr
    cases h
    obtain ⟨hq,_⟩:=bj.app hp.2
    have UG:∀ k i:Nat,bp.ks[i]?=some k→∀ o,au (fA σ (uQ bp.xi bs)) k=some o→au σ k=some o:=fun k i hk o ho=>by
     rw [mn] at ho
     split at ho
     ·cases ho
     ·exact ho
    refine fin uh _ hp.1 (fun n _ _=>mn _ _ _ _) ?_ ?_ ?_ ?_ ?_ ?_
    ·intro j hj o ho
     have ho:au (fA σ (uQ bp.xi bs)) (nk+j)=some o:=ho
     rw [mn] at ho
     split at ho
     ·cases ho
     ·rcases wR _ o ho with h1 | h1<;>omega
    ·intro w' S' AN dn _ j hj o1 pl c T h1
     obtain ⟨k,o,hk,_⟩:=Dj _ o1 h1
     rw [oC (by omega)] at hk;cases hk
    ·intro w' S' AN dn JP g' hS wU k i o pl hk ho hm OF
     have ho:=UG k i hk o ho
     obtain ⟨O6,VU,OA⟩:=v9 _ _ Jr hq k (List.mem_of_getElem? hk) o ho
     have YO:au uh i=some (o.kB (idx bp.ks)):=by rw [RY];simp [hk,ho]
     obtain ⟨rY,c,T,Dx,cZ⟩:=g'.rep.ob i _ YO
     have gS:i < bp.ks.length:=(dJ.1 hk).1
     rw [g'.Eh i gS] at Dx
     have:μ k=some rY:=by simpa [xN,kP,hk] using Dx
     rw [hm] at this;cases this
     exact ⟨c,T,Mq cZ VU OA hS OF wU⟩
    ·intro k i o hk ho
     have ho:=UG k i hk o ho
     exact ⟨⟨o,ho⟩,o.kB (idx bp.ks),by rw [RY];simp [hk,ho]⟩
    ·intro k i o hk ho j x hx
     have ho:=UG k i hk o ho
     exact ⟨o.kB (idx bp.ks),by rw [RY];simp [hk,ho],(qn _ _ _ _).2 hx⟩
    ·intro Ph n o' vR i
     obtain ⟨k,o,hk,ho,rfl⟩:=Dj n o' vR
     obtain ⟨O6,VU,OA⟩:=v9 _ _ Jr hq k (List.mem_of_getElem? hk) o ho
     rw [Ph] at VU
     cases hr:rowOf (o.kB (idx bp.ks)) i with
     | none=>rfl
     | some x =>
      have:=(qn _ _ _ _).1 hr
      rw [Ip VU OA] at this;cases this
   ·cases h
  ·rename_i q τ aca
   split at h
   ·rename_i qs GJ Jr TP
    cases h
    obtain ⟨hq,_⟩:=bj.app hp.2
    simp only [bh] at TP
    obtain ⟨⟨YL,Wt⟩,YP⟩:=TP
    have Mt:∀ k i:Nat,bp.ks[i]?=some k→k < nk∨nk+16≤k:=fun k i hk=>by
     obtain ⟨o,ho⟩:=yL bp.ks 0 uh RV k (List.mem_of_getElem? hk)
     exact wR k o ho
    have UG:∀ k i:Nat,bp.ks[i]?=some k→∀ o,au (fA σ (AZ bp.ks nk (q :: τ) ++ uQ bp.xi bs)) k=some o→au σ k=some o:=fun k i hk o ho=>by
     rw [gA,mn] at ho
     split at ho
     ·cases ho
     ·rw [uR _ _ _ Wt (Mt k i hk)] at ho;exact ho
    have GK:∀ i:Nat,i < bp.ks.length→au (uh ++ q :: τ) i=au uh i:=fun i hi=>by
     rw [ET]
     cases hs:au uh i with
     | some o=>rfl
     | none=>exact Hp YL i hi
    have Wu:∀ j:Nat,au (uh ++ q :: τ) (bp.ks.length+j)=au (q :: τ) (bp.ks.length+j):=fun j=>by
     rw [ET]
     have:au uh (bp.ks.length+j)=none:=by rw [RY];simp
     rw [this]
    refine fin (uh ++ q :: τ) _ hp.1 ?_ ?_ ?_ ?_ ?_ ?_ ?_
    ·intro n hn Pk
     show au (fA σ (AZ bp.ks nk (q :: τ) ++ uQ bp.xi bs)) n=_
     rw [gA,mn,uR _ _ _ Wt Pk]
    ·intro j hj o ho
     have ho:au (fA σ (AZ bp.ks nk (q :: τ) ++ uQ bp.xi bs)) (nk+j)=some o:=ho
     rw [gA,mn] at ho
     split at ho
     ·cases ho
     rw [A2 _ _ _ YP] at ho
     split at ho
     ·rename_i o1 wV
      cases ho
      exact ⟨o1,(Wu j).trans wV,rfl⟩
     ·rcases wR _ o ho with h1 | h1<;>omega
    ·intro w' S' AN dn hS j hj o1 pl c T h1 h2 h3
     exact A3 h2 (hS GJ) h3
    ·intro w' S' AN dn JP g' hS wU k i o pl hk ho hm OF
     have ho:=UG k i hk o ho
     obtain ⟨O6,VU,OA⟩:=v9 _ _ Jr hq k (List.mem_of_getElem? hk) o ho
     have gS:i < bp.ks.length:=(dJ.1 hk).1
     have YO:au (uh ++ q :: τ) i=some (o.kB (idx bp.ks)):=by rw [GK i gS,RY];simp [hk,ho]
     obtain ⟨rY,c,T,Dx,cZ⟩:=g'.rep.ob i _ YO
     rw [g'.Eh i gS] at Dx
     have:μ k=some rY:=by simpa [xN,kP,hk] using Dx
     rw [hm] at this;cases this
     exact ⟨c,T,Mq cZ VU OA (fun _=>hS GJ) OF wU⟩
    ·intro k i o hk ho
     have ho:=UG k i hk o ho
     exact ⟨⟨o,ho⟩,o.kB (idx bp.ks),by rw [GK i (dJ.1 hk).1,RY];simp [hk,ho]⟩
    ·intro k i o hk ho j x hx
     have ho:=UG k i hk o ho
     exact ⟨o.kB (idx bp.ks),by rw [GK i (dJ.1 hk).1,RY];simp [hk,ho],(qn _ _ _ _).2 hx⟩
    ·intro R3
     rw [GJ] at R3;cases R3
   ·cases h
 ·split at h
  ·rename_i qs Jr Ph
   cases h
   obtain ⟨hq,_⟩:=bj.app hp.2
   rw [bh] at Jr
   have Wa:∀ n,au (fA σ (zO bp.ks nk bp.oh 0 bp.ks)) n=match idx bp.ks n with
     | some j=>(au bp.oh (0+j)).map (Ob.kB (back bp.ks nk))
     | none=>au σ n:=fun n=>Ci bp.ks 0 σ n RX
   have YQ:∀ k i:Nat,bp.ks[i]?=some k→idx bp.ks k=some i:=by
    intro k i hk
    cases hi:idx bp.ks k with
    | none=>exact (mm _ _ hi i hk).elim
    | some j=>rw [RX i j k hk (nh _ _ _ hi)]
   have Mt:∀ k i:Nat,bp.ks[i]?=some k→k < nk∨nk+16≤k:=fun k i hk=>by
    obtain ⟨o,ho⟩:=yL bp.ks 0 uh RV k (List.mem_of_getElem? hk)
    exact wR k o ho
   have Pm:∀ k i:Nat,bp.ks[i]?=some k→∀ o,au (fA σ (zO bp.ks nk bp.oh 0 bp.ks ++ (AZ bp.ks nk bp.oh ++ uQ bp.xi bs))) k=some o→(au bp.oh i).map (Ob.kB (back bp.ks nk))=some o:=by
    intro k i hk o ho
    rw [gA,gA,mn] at ho
    split at ho
    ·cases ho
    rw [uR _ _ _ Jr.1 (Mt k i hk),Wa k,YQ k i hk] at ho
    simpa using ho
   refine fin bp.oh _ hp.1 ?_ ?_ ?_ ?_ ?_ ?_ ?_
   ·intro n hn Pk
    show au (fA σ (zO bp.ks nk bp.oh 0 bp.ks ++ (AZ bp.ks nk bp.oh ++ uQ bp.xi bs))) n=_
    rw [gA,gA,mn,uR _ _ _ Jr.1 Pk,Wa n,hn]
   ·intro j hj o ho
    have ho:au (fA σ (zO bp.ks nk bp.oh 0 bp.ks ++ (AZ bp.ks nk bp.oh ++ uQ bp.xi bs))) (nk+j)=some o:=ho
    rw [gA,gA,mn] at ho
    split at ho
    ·cases ho
    rw [A2 _ _ _ Jr.2] at ho
    split at ho
    ·rename_i o1 wV
     cases ho
     exact ⟨o1,wV,rfl⟩
    ·rw [Wa] at ho
     cases hi:idx bp.ks (nk+j) with
     | some i =>
      rcases Mt _ i (nh _ _ _ hi) with h1 | h1<;>omega
     | none =>
      rw [hi] at ho
      rcases wR _ o ho with h1 | h1<;>omega
   ·intro w' S' AN dn hS j hj o1 pl c T h1 h2 h3
    rcases rZ _ _ Ph hq _ o1 h1 with hl | ⟨O6,hf,R0⟩
    ·exact A3 h2 (hS hl) h3
    ·exact EW h2 hf R0 h3
   ·intro w' S' AN dn JP g' hS wU k i o pl hk ho hm OF
    have ho:=Pm k i hk o ho
    simp only [aL] at ho
    obtain ⟨o1,wV,rfl⟩:=ho
    obtain ⟨rY,c,T,Dx,cZ⟩:=g'.rep.ob i _ wV
    have gS:i < bp.ks.length:=(dJ.1 hk).1
    rw [g'.Eh i gS] at Dx
    have:μ k=some rY:=by simpa [xN,kP,hk] using Dx
    rw [hm] at this;cases this
    refine ⟨c,T,?_⟩
    rcases rZ _ _ Ph hq _ o1 wV with hl | ⟨O6,hf,R0⟩
    ·exact (A3 cZ (hS hl) OF).kB wU
    ·exact (EW (EG:=dn) cZ hf R0 OF).kB wU
   ·intro k i o hk ho
    have ho:=Pm k i hk o ho
    simp only [aL] at ho
    obtain ⟨o1,wV,_⟩:=ho
    exact ⟨yL bp.ks 0 uh RV k (List.mem_of_getElem? hk),o1,wV⟩
   ·intro k i o hk ho j x hx
    have ho:=Pm k i hk o ho
    simp only [aL] at ho
    obtain ⟨o1,wV,rfl⟩:=ho
    exact ⟨o1,wV,(qn _ _ _ _).1 hx⟩
   ·intro R3 n o1 wV i
    rcases rZ _ _ Ph hq _ o1 wV with hl | ⟨O6,hf,R0⟩
    ·rw [R3] at hl;cases hl
    ·exact ui hf R0 i
  ·cases h
def UH:List AV→Bool
 | [.atom v]=>match v with
  | .int k _=>match k with
   | .u8=>true
   | _=>false
  | _=>false
 | _=>false
def XU:List AV→Int
 | [.atom v]=>match v with
  | .int _ x=>x
  | _=>0
 | _=>0
def strOf (n:Nat) (g:Nat→List AV):ByteArray:=⟨((List.range n).map fun i=>UInt8.ofNat (XU (g i)).toNat).toArray⟩
theorem R4 {l:List AV} (h:UH l=true):l=[.atom (.int .u8 (XU l))]:=by
 unfold UH at h
 split at h
 ·split at h
  ·split at h
   ·rfl
   ·cases h
  ·cases h
 ·cases h
def yN (P:Program) (σ:dw) (src dst:TypeId) (x:AV):Option (List Prop×AV×List Nat) :=
 match P.underlying src,P.underlying dst with
 | some .string,some (.slice e)=>match P.underlying e,x with
  | some (.int .u8),.atom (.string b)=>some ([],.sl b.size (fun i=>[.atom (.int .u8 (kC b i))]),[])
  | _,_=>none
 | some (.slice e),some .string=>match P.underlying e,uN σ 1 x with
  | some (.int .u8),some (n,g,_,ps,rd)=>some ((∀ i,i < n→UH (g i)=true) :: ps,.atom (.string (strOf n g)),rd)
  | _,_=>none
 | _,_=>none
theorem foldl_push (l:List Int):∀ (r:ByteArray),l.foldl (fun r n=>r.push (UInt8.ofNat n.toNat)) r=⟨r.data ++ (l.map fun n=>UInt8.ofNat n.toNat).toArray⟩:=by
 induction l with
 | nil=>intro r;simp
 | cons b l ih =>
  simp_all
theorem Pn (g:Good E σ S μ w) {src dst:TypeId} {x:AV} {v:Value} (hx:aq w S μ v x) {ps:List Prop} {val:AV} {rd:List Nat} (h:yN P σ src dst x=some (ps,val,rd)) (hp:bj ps) :
  Step P E nk σ S μ w (convert src dst v) val []:=by
 unfold yN at h
 split at h
 ·rename_i e hs hd
  split at h
  ·rename_i b he
   simp only [az,ay] at h
   obtain ⟨rfl,rfl,rfl⟩:=h
   have:=cY hx;subst this
   have lG:=run_bytes_of_string w src dst e b hs hd he
   have ga:=g.drew.Nx (.cells (bytesRow b (grownCap w b.size 0 e)) e ((bytesRow b (grownCap w b.size 0 e)).size,(bytesRow b (grownCap w b.size 0 e)).size+1))
   refine ⟨_,_,_,_,lG,(Ext.drew w S μ).trans ga.1,ga.2,fun _ _ h=>h,?_⟩
   refine .sl w.heap.size 0 1 (fun i _=>.int .u8 (kC b i)) (fun _=>⟨rfl,.inr rfl⟩) (fun i hi=>rfl) ?_ ?_ ?_
   ·intro i j hi hj
    have hj:j=0:=by omega
    subst hj
    have:=World.cell?_alloc_mark w.drew (bytesRow b (grownCap w b.size 0 e)) e ((bytesRow b (grownCap w b.size 0 e)).size,(bytesRow b (grownCap w b.size 0 e)).size+1) i
    simp_all [Nat.zero_add,Nat.mul_one,Nat.add_zero,bytesRow,Array.getElem?_append,kC,ByteArray.getElem_eq_getElem_data,getElem?_pos]
   ·intro i j c hi hc
    cases j with
    | zero=>simp at hc;subst hc;exact .atom _
    | succ j=>simp at hc
   ·simp [grownCap,Question.cut]
  ·cases h
 ·rename_i e hs hd
  split at h
  ·rename_i n gt pr qs Mn he uO
   simp only [az,ay] at h
   obtain ⟨rfl,rfl,rfl⟩:=h
   obtain ⟨hu,sw⟩:=hp
   obtain ⟨news,hn⟩:=xL g (P:=P) hx uO sw
   have hsl:∃ a len cap,v=.slice a len cap:=by
    unfold uN at uO
    split at uO
    ·cases hx;exact ⟨_,_,_,rfl⟩
    ·cases hx;exact ⟨_,_,_,rfl⟩
    ·cases hx;exact ⟨_,_,_,rfl⟩
    ·cases uO
   obtain ⟨a,len,cap,rfl⟩:=hsl
   have hlen:len=n:=by
    have:=hn.len w
    simpa [Builtin.lenOf] using this
   subst hlen
   have TL:news=((List.range len).map fun i=>Value.int .u8 (XU (gt i))):=by
    have rM:news.length=len:=by simpa using hn.size
    apply List.ext_getElem?
    intro i
    by_cases hi:i < len
    ·have h1:news[i]?=some (news[i]'(by omega)):=pG _
     have hg:=R4 (hu i hi)
     have h2:=hn.rep i 0 _ _ hi (by rw [hg];rfl) (by simpa only [Nat.mul_one,Nat.add_zero] using h1)
     grind [cY]
    ·simp_all
   have YR:(((List.range len).map fun i=>XU (gt i)).foldl (fun r n=>r.push (UInt8.ofNat n.toNat)) ByteArray.empty)=strOf len gt:=by
    rw [foldl_push]
    have h0:ByteArray.empty.data=#[]:=rfl
    rw [h0];simp [strOf]
   refine Step.pure g (v:=.string (strOf len gt)) ?_ (.atom _)
   rw [run_convert_bytes_string w src dst e a len cap hs he hd]
   cases a with
   | none =>
    have:len=0:=by
     rcases Nat.eq_zero_or_pos len with h0 | h0
     ·exact h0
     ·have:=hn.cells w rfl
      simp_all [Builtin.firstCells,congrArg,List.length]
    subst this
    rfl
   | some a =>
    rw [← YR]
    refine run_bytesToString w a len cap _ ?_
    have:=hn.cells w rfl
    grind [Builtin.firstCells,Function.comp_def]
  ·cases h
 ·cases h
open Go.MapKept
def zP (P:Program) (kt:TypeId) (a b:AV):Option Bool :=
 match a,b with
 | .atom a,.atom b=>match a,b with
  | .string s,.string t=>some (lF s t)
  | .int k x,.int k' y=>match decide (k=k') with
   | true=>some (x == y)
   | false=>none
  | _,_=>none
 | .agg ys,.agg xs=>match Nat.beq ys.length xs.length with
  | true=>Cb P 64 kt (.agg xs) (.agg ys)
  | false=>none
 | _,_=>none
def look (P:Program) (kt:TypeId):List AV→AV→Option (Option AV)
 | k :: v :: r,x=>match zP P kt k x with
  | some true=>some (some v)
  | some false=>look P kt r x
  | none=>none
 | [_],_=>none
 | [],_=>some none
def Is (P:Program) (kt:TypeId):List AV→AV→AV→Option (List AV)
 | k :: v :: r,x,y=>match zP P kt k x with
  | some true=>some (k :: y :: r)
  | some false=>(Is P kt r x y).map fun l=>k :: v :: l
  | none=>none
 | [_],_,_=>none
 | [],x,y=>some [x,y]
def allI (k:IntKind):List AV→Bool
 | []=>true
 | .atom (.int k' _) :: r=>match decide (k'=k) with
  | true=>allI k r
  | false=>false
 | _ :: _=>false
def kf (P:Program) (d:TypeDesc) (x:AV):Bool :=
 match d,x with
 | .string,.atom v=>match v with
  | .string _=>true
  | _=>false
 | .int k,.atom v=>match v with
  | .int k' _=>decide (k'=k)
  | _=>false
 | .array n e,.agg xs=>match P.underlying e,tD P e with
  | some (.int k),some m=>Nat.beq m 1 && Nat.beq xs.length n && allI k xs
  | _,_=>false
 | _,_=>false
def uj (R:Value→AV→Prop):List MapEntry→List AV→Prop
 | [],[]=>True
 | e :: es,k :: v :: cs=>R e.key k∧R e.val v∧uj R es cs
 | _,_=>False
theorem Lc (c:Array Value) (i:Nat) (hi:i < c.size / 2):(gY c)[i]?=some ⟨c[2 * i]?.getD undef,c[2 * i+1]?.getD undef,i⟩:=by
 simp [gY,hi]
theorem xR (c:Array Value):(gY c).size=c.size / 2:=by simp [gY]
theorem Mv {R:Value→AV→Prop} {c:Array Value} {cs:List AV} (h1:c.size % 2=0) (h2:c.size=cs.length) (h3:∀ (j:Nat) x v,cs[j]?=some x→c[j]?=some v→R v x):uj R (gY c).toList cs:=by
 have key:∀ (n o:Nat),2 * (o+n)=c.size→uj R ((List.range' o n).map fun i=>(⟨c[2 * i]?.getD undef,c[2 * i+1]?.getD undef,i⟩:MapEntry)) (cs.drop (2 * o)):=by
  intro n
  induction n with
  | zero=>intro o h;rw [List.drop_of_length_le (by omega)];trivial
  | succ n ih =>
   intro o h
   have e1:2 * o < cs.length:=by omega
   have e2:2 * o+1 < cs.length:=by omega
   rw [List.range'_succ,List.map_cons,List.drop_eq_getElem_cons e1,List.drop_eq_getElem_cons e2]
   have d1:c[2 * o]?=some c[2 * o]:=jG _
   have d2:c[2 * o+1]?=some c[2 * o+1]:=jG _
   have XO:=ih (o+1) (by omega)
   rw [show 2 * (o+1)=2 * o+1+1 by omega] at XO
   refine ⟨?_,?_,XO⟩
   ·grind
   grind
 have:=key (c.size / 2) 0 (by omega)
 have e:(gY c).toList=(List.range' 0 (c.size / 2)).map fun i=>(⟨c[2 * i]?.getD undef,c[2 * i+1]?.getD undef,i⟩:MapEntry):=by
  unfold gY
  rw [Array.toList_map,Array.toList_range,List.range_eq_range']
 rw [e];exact this
theorem Mw (a b:ByteArray):(a == b)=lF a b:=by
 have hl:∀ x:ByteArray,x.toList=x.data.toList:=fun x=>ByteArray.toList_eq x
 rw [Bool.eq_iff_iff,bytes_beq]
 unfold lF
 rw [hl,hl,beq_iff_eq]
 constructor
 ·rintro rfl;rfl
 ·intro h
  cases a;simp_all
theorem wa {d:TypeDesc} {kt:TypeId} {kv ev:Value} {v:Value} {k:AV} {b:Bool} (hx:kf P d (.atom v)=true) {w w':World} {S S':Nat→Prop} {μ dn:Mu} (h1:aq w S μ kv (.atom v)) (h2:aq w' S' dn ev k) (h:zP P kt k (.atom v)=some b) :
  IsKey d kv∧Instr.sameNow d kv ev=some b∧(b=true→ev=kv):=by
 have:=cY h1;subst this
 cases k with
 | atom u =>
  have:=cY h2;subst this
  cases d<;>cases kv<;>simp [kf] at hx
  ·rename_i k0 k' n
   subst hx
   cases ev<;>simp [zP] at h
   rename_i ka a
   by_cases hk:ka=k'
   ·subst hk
    rw [decide_eq_true rfl] at h
    simp only [az] at h
    subst h
    refine ⟨rfl,?_,?_⟩
    ·simp only [Instr.sameNow,if_true]
     grind
    simp
   simp_all
  ·cases ev<;>simp [zP] at h
   rename_i s a
   subst h
   refine ⟨trivial,?_,?_⟩
   ·simp only [Instr.sameNow,Mw]
    congr 1
    unfold lF;grind
   ·intro hb
    rw [← Mw,bytes_beq] at hb
    rw [hb]
 | _=>simp [zP] at h
theorem JR {d:TypeDesc} {kv v:Value} (hx:kf P d (.atom v)=true) {w:World} {S:Nat→Prop} {μ:Mu} (h1:aq w S μ kv (.atom v)):IsKey d kv:=by
 have:=cY h1;subst this
 cases d<;>cases kv<;>simp [kf] at hx
 ·exact hx
 ·trivial
theorem yO {d:TypeDesc} {xs:List AV} (hx:kf P d (.agg xs)=true):∃ n e k,d=.array n e∧P.underlying e=some (.int k)∧tD P e=some 1∧xs.length=n∧allI k xs=true:=by
 cases d<;>simp [kf] at hx
 rename_i n e
 split at hx
 ·rename_i k m h1 h2
  simp only [bh] at hx
  have hm:=bO hx.1.1
  subst hm
  exact ⟨n,e,k,rfl,h1,h2,bO hx.1.2,hx.2⟩
 ·cases hx
theorem Mx {k:IntKind}:∀ {xs:List AV},allI k xs=true→∀ i,i < xs.length→∃ a,xs[i]?=some (.atom (.int k a))
 | [],_,i,h=>by simp at h
 | .atom (.int k' a) :: r,h,i,hi=>by
  unfold allI at h
  split at h
  ·rename_i hk
   have hk:=qC hk
   subst hk
   cases i with
   | zero=>exact ⟨a,rfl⟩
   | succ i=>simpa using Mx h i (by simpa using hi)
  ·cases h
theorem A5 {k:IntKind} {xs:List AV} (h:allI k xs=true) {w:World} {S:Nat→Prop} {μ:Mu} {kv:Value} (hr:aq w S μ kv (.agg xs)):∃ vs:Array Value,kv=.agg vs∧vs.size=xs.length∧∀ i,i < xs.length→∃ a,xs[i]?=some (.atom (.int k a))∧vs[i]?=some (.int k a):=by
 obtain ⟨vs,rfl,h1,h2⟩:=nL hr
 refine ⟨vs,rfl,h1,fun i hi=>?_⟩
 obtain ⟨a,ha⟩:=Mx h i hi
 have hv:vs[i]?=some vs[i]:=jG _
 have:=cY (h2 i _ _ ha hv)
 exact ⟨a,ha,by rw [hv,this]⟩
theorem yP {k:IntKind}:∀ {xs:List AV},allI k xs=true→AV.lS xs=true
 | [],_=>rfl
 | .atom (.int k' a) :: r,h=>by
  unfold allI at h
  split at h
  ·simpa [AV.lS,AV.pure] using yP h
  ·cases h
theorem Hq {d:TypeDesc} {kt:TypeId} {kv xv:Value} (hx:kf P d (.atom xv)=true) {w w':World} {S S':Nat→Prop} {μ dn:Mu} (h1:aq w S μ kv (.atom xv)):∀ (es:List MapEntry) (cs:List AV) (i:Nat) (r:Option AV),uj (aq w' S' dn) es cs→look P kt cs (.atom xv)=some r →
  (r=none∧Instr.findNow d kv es i=some none)∨∃ (j:Nat) (e:MapEntry) (v:AV),r=some v∧Instr.findNow d kv es i=some (some (i+j,e.val))∧aq w' S' dn e.val v
 | [],[],i,r,_,h=>by simp only [look,az] at h;exact .inl ⟨h.symm,rfl⟩
 | e :: es,k :: v :: cs,i,r,hR,h=>by
  obtain ⟨r1,r2,r3⟩:=hR
  simp only [look] at h
  split at h
  ·rename_i hq
   cases h
   obtain ⟨_,q2,_⟩:=wa hx h1 r1 hq
   exact .inr ⟨0,e,v,rfl,by simp [Instr.findNow,q2],r2⟩
  ·rename_i hq
   obtain ⟨_,q2,_⟩:=wa hx h1 r1 hq
   rcases Hq hx h1 es cs (i+1) r r3 h with ⟨a,b⟩ | ⟨j,e',v',a,b,c⟩
   ·grind [Instr.findNow]
   ·exact .inr ⟨j+1,e',v',a,by grind [Instr.findNow],c⟩
  ·cases h
 | [],_ :: _,_,_,hR,_=>by simp [uj] at hR
 | _ :: _,[],_,_,hR,_=>by simp [uj] at hR
 | _ :: _,[_],_,_,hR,_=>by simp [uj] at hR
theorem JS {d:TypeDesc} {kt:TypeId} {kv xv:Value} {y:AV} (hx:kf P d (.atom xv)=true) {w w':World} {S S':Nat→Prop} {μ dn:Mu} (h1:aq w S μ kv (.atom xv)):∀ (es:List MapEntry) (cs:List AV) (i:Nat) (Hr:List AV),uj (aq w' S' dn) es cs→Is P kt cs (.atom xv) y=some Hr →
  (Instr.findNow d kv es i=some none∧Hr=cs ++ [.atom xv,y])∨∃ (j:Nat) (e:MapEntry),Instr.findNow d kv es i=some (some (i+j,e.val))∧es[j]?=some e∧e.key=kv∧Hr=cs.set (2 * j+1) y
 | [],[],i,Hr,_,h=>by simp only [Is,az] at h;exact .inl ⟨rfl,h.symm⟩
 | e :: es,k :: v :: cs,i,Hr,hR,h=>by
  obtain ⟨r1,r2,r3⟩:=hR
  simp only [Is] at h
  split at h
  ·rename_i hq
   cases h
   obtain ⟨_,q2,q3⟩:=wa hx h1 r1 hq
   exact .inr ⟨0,e,by simp [Instr.findNow,q2],rfl,q3 rfl,rfl⟩
  ·rename_i hq
   obtain ⟨_,q2,_⟩:=wa hx h1 r1 hq
   simp only [aL] at h
   obtain ⟨l,hl,rfl⟩:=h
   rcases JS hx h1 es cs (i+1) l r3 hl with ⟨a,b⟩ | ⟨j,e',a,b,c,q⟩
   ·grind [Instr.findNow]
   ·exact .inr ⟨j+1,e',by grind [Instr.findNow],by simpa using b,c,by grind⟩
  ·cases h
 | [],_ :: _,_,_,hR,_=>by simp [uj] at hR
 | _ :: _,[],_,_,hR,_=>by simp [uj] at hR
 | _ :: _,[_],_,_,hR,_=>by simp [uj] at hR
theorem Po {e:TypeId} {k:IntKind} (hu:P.underlying e=some (.int k)):∀ (D n i:Nat) (xs ys:List AV),zL P D e 1 xs ys i n=some true→∀ j,i≤j→j < i+n→xs[j]?=ys[j]?∧(xs[j]?).isSome=true:=by
 intro D
 induction D with
 | zero =>
  grind [zL]
 | succ D ih =>
  intro n i xs ys h j h1 h2
  cases n with
  | zero=>omega
  | succ n =>
   simp only [zL,Nat.mul_one] at h
   split at h
   ·rename_i a c _ ha hc
    split at h
    ·rename_i p q hp hq
     simp only [az,bh] at h
     obtain ⟨rfl,rfl⟩:=h
     by_cases hj:j=i
     ·subst hj
      have cell:∀ (l:List AV) (z:AV),kb P e l j=some z→l[j]?=some z:=fun l z hz=>by
       grind [kb]
      rw [cell _ _ ha,cell _ _ hc]
      cases D with
      | zero=>simp [Cb] at hp
      | succ D =>
       simp only [Cb,hu] at hp
       grind
     ·exact ih n (i+1) xs ys hq j (by omega) (by omega)
    ·cases h
   ·cases h
theorem yQ {d:TypeDesc} {kt:TypeId} (hd:P.underlying kt=some d) {xs:List AV} (hx:kf P d (.agg xs)=true) {w:World} {S:Nat→Prop} {kv ev:Value} {k:AV} {b:Bool} (h1:aq w S iL kv (.agg xs)) (h2:aq w S iL ev k) (h:zP P kt k (.agg xs)=some b) :
  (Op.equal kt kv ev).run P w=.ok b w∧(b=true→ev=kv):=by
 cases k with
 | agg ys =>
  unfold zP at h
  simp only at h
  split at h
  ·rename_i hl
   have hl:=bO hl
   refine ⟨(JC 64).1 Op.maxDepth kt _ _ _ _ _ (by decide) h1 h2 h,fun hb=>?_⟩
   subst hb
   obtain ⟨n,e,kk,rfl,hu,hs,hn,xj⟩:=yO hx
   obtain ⟨vs,rfl,GH,Dy⟩:=A5 xj h1
   obtain ⟨us,rfl,NA,JD⟩:=nL h2
   simp only [Cb,hd,hs] at h
   have sK:=Po hu _ _ _ _ _ h
   congr 1
   apply Array.ext
   ·omega
   ·intro i hi1 TQ
    have hi:i < xs.length:=by omega
    obtain ⟨a,UI,Rr⟩:=Dy i hi
    obtain ⟨hq,_⟩:=sK i (Nat.zero_le _) (by omega)
    rw [UI] at hq
    have:=cY (JD i _ us[i] hq.symm (jG _))
    rw [this]
    rw [jG TQ] at Rr
    exact (Option.some.inj Rr).symm
  ·cases h
 | _=>simp [zP] at h
theorem JT {d:TypeDesc} {kt:TypeId} (hd:P.underlying kt=some d) {xs:List AV} (hx:kf P d (.agg xs)=true) {w:World} {S:Nat→Prop} {kv:Value} (h1:aq w S iL kv (.agg xs)):∀ (es:List MapEntry) (cs:List AV) (i:Nat) (r:Option AV),uj (aq w S iL) es cs→look P kt cs (.agg xs)=some r →
  (r=none∧(Instr.findAsking kt kv es i).run P w=.ok none w)∨∃ (j:Nat) (e:MapEntry) (v:AV),r=some v∧(Instr.findAsking kt kv es i).run P w=.ok (some (i+j,e.val)) w∧aq w S iL e.val v
 | [],[],i,r,_,h=>by simp_all [look,az,Instr.findAsking]
 | e :: es,k :: v :: cs,i,r,hR,h=>by
  obtain ⟨r1,r2,r3⟩:=hR
  simp only [look] at h
  split at h
  ·rename_i hq
   cases h
   obtain ⟨q2,_⟩:=yQ hd hx h1 r1 hq
   exact .inr ⟨0,e,v,rfl,by simp [Instr.findAsking,q2,Result.andThen],r2⟩
  ·rename_i hq
   obtain ⟨q2,_⟩:=yQ hd hx h1 r1 hq
   rcases JT hd hx h1 es cs (i+1) r r3 h with ⟨a,b⟩ | ⟨j,e',v',a,b,c⟩
   ·simp_all [Instr.findAsking,Result.andThen]
   ·exact .inr ⟨j+1,e',v',a,by simp [Instr.findAsking,q2,Result.andThen,b];omega,c⟩
  ·cases h
 | [],_ :: _,_,_,hR,_=>by simp [uj] at hR
 | _ :: _,[],_,_,hR,_=>by simp [uj] at hR
 | _ :: _,[_],_,_,hR,_=>by simp [uj] at hR
theorem My {d:TypeDesc} {kt:TypeId} (hd:P.underlying kt=some d) {xs:List AV} {y:AV} (hx:kf P d (.agg xs)=true) {w:World} {S:Nat→Prop} {kv:Value} (h1:aq w S iL kv (.agg xs)):∀ (es:List MapEntry) (cs:List AV) (i:Nat) (Hr:List AV),uj (aq w S iL) es cs→Is P kt cs (.agg xs) y=some Hr →
  ((Instr.findAsking kt kv es i).run P w=.ok none w∧Hr=cs ++ [.agg xs,y])∨∃ (j:Nat) (e:MapEntry),(Instr.findAsking kt kv es i).run P w=.ok (some (i+j,e.val)) w∧es[j]?=some e∧e.key=kv∧Hr=cs.set (2 * j+1) y
 | [],[],i,Hr,_,h=>by simp_all [Is,az,Instr.findAsking]
 | e :: es,k :: v :: cs,i,Hr,hR,h=>by
  obtain ⟨r1,r2,r3⟩:=hR
  simp only [Is] at h
  split at h
  ·rename_i hq
   cases h
   obtain ⟨q2,q3⟩:=yQ hd hx h1 r1 hq
   exact .inr ⟨0,e,by simp [Instr.findAsking,q2,Result.andThen],rfl,q3 rfl,rfl⟩
  ·rename_i hq
   obtain ⟨q2,_⟩:=yQ hd hx h1 r1 hq
   simp only [aL] at h
   obtain ⟨l,hl,rfl⟩:=h
   rcases My hd hx h1 es cs (i+1) l r3 hl with ⟨a,b⟩ | ⟨j,e',a,b,c,q⟩
   ·simp_all [Instr.findAsking,Result.andThen]
   ·exact .inr ⟨j+1,e',by simp [Instr.findAsking,q2,Result.andThen,a];omega,by simpa using b,c,by grind⟩
  ·cases h
 | [],_ :: _,_,_,hR,_=>by simp [uj] at hR
 | _ :: _,[],_,_,hR,_=>by simp [uj] at hR
 | _ :: _,[_],_,_,hR,_=>by simp [uj] at hR
theorem A6 {kt:TypeId} {n:Nat} {e:TypeId} (hd:P.underlying kt=some (.array n e)) {w:World} {vs:Array Value} {es:List MapEntry} {a:Option (Nat×Value)} (h:(Instr.findAsking kt (.agg vs) es 0).run P w=.ok a w):(Instr.findKey kt (.agg vs) es).run P w=.ok a w:=by
 cases es with
 | nil =>
  simp_all [Instr.findAsking,Instr.findKey,run_underlying,Result.andThen,Instr.findNow]
 | cons z es=>simp_all [Instr.findKey,run_underlying,Result.andThen,Instr.findNow,Instr.sameNow]
theorem Pp {d:TypeDesc} {kt:TypeId} (hd:P.underlying kt=some d) {x:AV} (hx:kf P d x=true) {w:World} {S:Nat→Prop} {μ:Mu} {kv:Value} (h1:aq w S μ kv x) {es:List MapEntry} {cs:List AV} {r:Option AV} (hR:uj (aq w S iL) es cs) (h:look P kt cs x=some r) :
  (r=none∧(Instr.findKey kt kv es).run P w=.ok none w)∨∃ (j:Nat) (e:MapEntry) (v:AV),r=some v∧(Instr.findKey kt kv es).run P w=.ok (some (j,e.val)) w∧aq w S iL e.val v:=by
 cases x with
 | atom xv =>
  rcases Hq hx h1 es cs 0 r hR h with ⟨a,b⟩ | ⟨j,e,v,a,b,c⟩
  ·grind [run_findKey]
  ·exact .inr ⟨j,e,v,a,by simp_all [Nat.zero_add,run_findKey],c⟩
 | agg xs =>
  obtain ⟨n,e,k,rfl,_,_,_,xj⟩:=yO hx
  have Rs:aq w S iL kv (.agg xs):=h1.pure (yP xj) iL
  obtain ⟨vs,rfl,_,_⟩:=A5 xj Rs
  rcases JT hd hx Rs es cs 0 r hR h with ⟨a,b⟩ | ⟨j,e,v,a,b,c⟩
  ·grind [A6]
  ·exact .inr ⟨j,e,v,a,by rw [Nat.zero_add] at b;exact A6 hd b,c⟩
 | _=>grind [kf]
theorem R5 {d:TypeDesc} {kt:TypeId} (hd:P.underlying kt=some d) {x y:AV} (hx:kf P d x=true) {w:World} {S:Nat→Prop} {μ:Mu} {kv:Value} (h1:aq w S μ kv x) {es:List MapEntry} {cs Hr:List AV} (hR:uj (aq w S iL) es cs) (h:Is P kt cs x y=some Hr) :
  ((Instr.findKey kt kv es).run P w=.ok none w∧Hr=cs ++ [x,y])∨∃ (j:Nat) (e:MapEntry),(Instr.findKey kt kv es).run P w=.ok (some (j,e.val)) w∧es[j]?=some e∧e.key=kv∧Hr=cs.set (2 * j+1) y:=by
 cases x with
 | atom xv =>
  rcases JS hx h1 (y:=y) es cs 0 Hr hR h with ⟨a,b⟩ | ⟨j,e,a,b⟩
  ·grind [run_findKey]
  ·exact .inr ⟨j,e,by simp_all [Nat.zero_add,run_findKey],b⟩
 | agg xs =>
  obtain ⟨n,e,k,rfl,_,_,_,xj⟩:=yO hx
  have Rs:aq w S iL kv (.agg xs):=h1.pure (yP xj) iL
  obtain ⟨vs,rfl,_,_⟩:=A5 xj Rs
  rcases My hd hx Rs (y:=y) es cs 0 Hr hR h with ⟨a,b⟩ | ⟨j,e,a,b⟩
  ·grind [A6]
  ·exact .inr ⟨j,e,by rw [Nat.zero_add] at a;exact A6 hd a,b⟩
 | _=>grind [kf]
theorem Pq {d:TypeDesc} {x:AV} (hx:kf P d x=true):x.pure=true:=by
 cases x with
 | atom xv=>rfl
 | agg xs=>grind [yO,AV.pure,yP]
 | _=>grind [kf]
theorem Hs {d:TypeDesc} {kt:TypeId} (hd:P.underlying kt=some d) {x:AV} (hx:kf P d x=true) {w:World} {S:Nat→Prop} {μ:Mu} {kv:Value} (h1:aq w S μ kv x) (b:Bool):(Instr.checkKey b 10000 kt kv).run P w=.ok () w:=by
 cases x with
 | atom xv=>grind [run_checkKey,JR]
 | agg xs =>
  obtain ⟨n,e,k,rfl,hu,hs,hn,xj⟩:=yO hx
  obtain ⟨vs,rfl,GH,Dy⟩:=A5 xj h1
  obtain ⟨us,hus,NA,JD⟩:=nL h1
  cases hus
  have loop:∀ (m i:Nat),i+m=n→(forIn (m:=Sem) (List.range' i m) PUnit.unit fun i _=>do
    let z ← sizeOf e
    let q ← part e vs (i * z)
    Instr.checkKey b 9999 e q
    pure (ForInStep.yield PUnit.unit)).run P w=.ok PUnit.unit w:=by
   intro m
   induction m with
   | zero=>intro i _;simp
   | succ m ih =>
    intro i him
    have hi:i < xs.length:=by omega
    obtain ⟨a,UI,Rr⟩:=Dy i hi
    have hc:kb P e xs i=some (.atom (.int k a)):=by
     unfold kb
     rw [hu,hs]
     exact UI
    obtain ⟨v,r1,r2⟩:=kc GH JD hc (fun n' Il=>by grind)
    have:=cY r2;subst this
    have hck:(Instr.checkKey b 9999 e (.int k a)).run P w=.ok () w:=run_checkKey hu (show IsKey (.int k) (.int k a) from rfl) b 9998
    rw [List.range'_succ,List.forIn_cons]
    simp only [bH,eI hs,Nat.mul_one,r1,hck,cX]
    simpa using ih (i+1) (by omega)
  unfold Instr.checkKey
  simp only [bH,run_underlying hd,cX]
  simp_all
 | _=>grind [kf]
theorem NL {d:TypeDesc} {x:AV} (hx:kf P d x=true) {w:World} {S:Nat→Prop} {μ:Mu} {kv:Value} (h1:aq w S μ kv x):(Instr.keyThatStays kv kv).run P w=.ok kv w:=by
 cases x with
 | atom xv=>exact run_keyThatStays (JR hx h1)
 | agg xs =>
  obtain ⟨n,e,k,rfl,hu,hs,hn,xj⟩:=yO hx
  obtain ⟨vs,rfl,GH,Dy⟩:=A5 xj h1
  have:Instr.sameBits 10000 (.agg vs) (.agg vs)=true:=by
   have hz:∀ l:List Value,(∀ v,v∈l→∃ a,v=.int k a)→(l.zip l).all (fun (x,y)=>Instr.sameBits 9999 x y)=true:=by
    intro l
    induction l with
    | nil=>intro _;rfl
    | cons a l ih =>
     intro h
     obtain ⟨z,rfl⟩:=h a (.head _)
     simp only [List.zip_cons_cons,List.all_cons,bh]
     exact ⟨by simp [Instr.sameBits],ih fun v hv=>h v (.tail _ hv)⟩
   simp only [Instr.sameBits,beq_self_eq_true,Bool.true_and]
   refine hz _ fun v hv=>?_
   obtain ⟨i,hi,rfl⟩:=List.getElem_of_mem hv
   have hi:i < vs.size:=by simpa using hi
   obtain ⟨a,_,ha⟩:=Dy i (by omega)
   rw [jG hi] at ha
   exact ⟨a,by simpa using Option.some.inj ha⟩
  simp [Instr.keyThatStays,this]
 | _=>cases d<;>simp [kf] at hx
theorem JU (c:Array Value) (h:c.size % 2=0) (a b:Value):gY ((c.push a).push b)=(gY c).push ⟨a,b,c.size / 2⟩:=by
 apply Array.ext
 ·simp [gY];omega
 ·intro i h1 h2
  have hs:i < (c.size+1+1) / 2:=by simpa [gY] using h1
  by_cases hi:i < c.size / 2
  ·rw [Array.getElem_push_lt (by rw [xR];exact hi)]
   have e1:2 * i < c.size:=by omega
   have e2:2 * i+1 < c.size:=by omega
   simp [gY,Array.getElem?_push,e1,e2,Nat.ne_of_lt e1,Nat.ne_of_lt e2,show ¬ 2 * i=c.size+1 by omega,show ¬ 2 * i+1=c.size+1 by omega]
  ·have:i=c.size / 2:=by omega
   subst this
   have e1:2 * (c.size / 2)=c.size:=by omega
   simp [gY,Array.getElem_push,Array.getElem?_push,e1]
theorem Ld (c:Array Value) (j:Nat) (e:MapEntry) (he:(gY c)[j]?=some e) (v:Value):gY (c.setIfInBounds (2 * j+1) v)=(gY c).modify j fun q=>{ q with key:=e.key,val:=v }:=by
 have hj:j < c.size / 2:=by
  have:=(Array.getElem?_eq_some_iff.1 he).1
  rwa [xR] at this
 rw [Lc c j hj] at he
 cases he
 apply Array.ext
 ·simp [gY]
 ·intro i h1 h2
  have hi:i < c.size / 2:=by simpa [gY] using h1
  rw [Array.getElem_modify]
  by_cases UJ:j=i
  ·subst UJ
   simp [gY,Array.getElem?_setIfInBounds,show ¬ 2 * j+1=2 * j by omega,show 2 * j+1 < c.size by omega]
  ·rw [if_neg UJ]
   simp [gY,Array.getElem?_setIfInBounds,show ¬ 2 * j+1=2 * i by omega,show ¬ 2 * j=2 * i by omega,UJ]
def uS (P:Program) (σ:dw) (t:TypeId) (m x:AV) (ok:Bool) (bp:oa):Option (List Prop×AV×List Nat) :=
 match m,P.underlying t with
 | .mp k,some (.map kt et)=>match P.underlying kt,au σ k,rN P et with
  | some d,some o,some z=>match kf P d x && Nat.beq o.sz 0 with
   | true=>match ok with
    | false=>some ([(look P kt (o.get 0) x).map (fun r=>r.getD (ofConst z))=some bp.res],bp.res,[k])
    | true=>some ([(look P kt (o.get 0) x).map (fun r=>AV.tup [r.getD (ofConst z),.atom (.bool r.isSome)])=some bp.res],bp.res,[k])
   | false=>none
  | _,_,_=>none
 | _,_=>none
def uT (P:Program) (σ:dw) (t:TypeId) (m x y:AV) (bp:oa):Option (List Prop×rO×List Nat) :=
 match m,P.underlying t,bp.res with
 | .mp k,some (.map kt _),.tup cs=>match P.underlying kt,au σ k with
  | some d,some o=>match kf P d x && Nat.beq o.sz 0 && Nat.beq o.len 0 && y.pure with
   | true=>some ([Is P kt (o.get 0) x y=some cs],[(k,some ⟨o.var,o.sz,o.len,true,fun _=>cs⟩)],[k])
   | false=>none
  | _,_=>none
 | _,_,_=>none
theorem Ht (g:Good E σ S μ w) {k:Nat} {o:Ob} (ho:au σ k=some o) (hz:o.sz=0) {v:Value} (hv:aq w S μ v (.mp k)) :
  ∃ pl c T,μ k=some pl∧gR w S μ o pl c T∧v=.map (some pl.cK):=by
 obtain ⟨pl,c,T,hm,cZ⟩:=g.rep.ob k o ho
 cases hv with
 | mp j9 gV=>grind
theorem NM (g:Good E σ S μ w) {t:TypeId} {m x:AV} {ok:Bool} {bp:oa} {vm vx:Value} (hm:aq w S μ vm m) (hx:aq w S μ vx x) {ps:List Prop} {val:AV} {rd:List Nat}
  (h:uS P σ t m x ok bp=some (ps,val,rd)) (hp:bj ps):∃ v,(Instr.lookup t vm vx ok).run P w=.ok v w∧aq w S μ v val:=by
 unfold uS at h
 split at h
 ·rename_i k kt et ht
  split at h
  ·rename_i d o z hd ho hz
   split at h
   ·rename_i hb
    simp only [bh] at hb
    have OG:=bO hb.2
    obtain ⟨pl,c,T,uf,cZ,rfl⟩:=Ht g ho OG hm
    obtain ⟨hc,m1,m2,m3,m4⟩:=cZ.mp OG
    have JV:w.heap[pl.cK]?=some (.map (gY c) (c.size / 2)):=(cZ.cK hc).trans (by rw [zY OG])
    have UK:=Mv m1 m2 m4
    have Pr:=fun b=>Hs hd hb.1 hx b
    have main:∀ r,look P kt (o.get 0) x=some r→∃ v,aq w S μ v (r.getD (ofConst z))∧(Instr.lookup t (.map (some pl.cK)) vx ok).run P w=.ok (if ok then .tuple #[v,.bool r.isSome] else v) w:=by
     intro r hr
     rcases Pp hd hb.1 hx UK hr with ⟨rfl,q⟩ | ⟨j,e,v,rfl,q1,q2⟩
     ·refine ⟨z,He w S μ z,?_⟩
      simp [Instr.lookup,run_underlying ht,Go.MapKept.run_getObj_map JV,Pr,q,Hf hz,Result.andThen]
     ·refine ⟨e.val,iQ (pr:=true) q2,?_⟩
      simp [Instr.lookup,run_underlying ht,Go.MapKept.run_getObj_map JV,Pr,q1,Result.andThen]
    split at h
    ·simp only [az,ay] at h
     obtain ⟨rfl,rfl,rfl⟩:=h
     obtain ⟨xC,_⟩:=hp
     simp only [aL] at xC
     obtain ⟨r,hr,eJ⟩:=xC
     obtain ⟨v,h1,h2⟩:=main r hr
     exact ⟨v,by simpa using h2,by rw [← eJ];exact h1⟩
    ·simp only [az,ay] at h
     obtain ⟨rfl,rfl,rfl⟩:=h
     obtain ⟨xC,_⟩:=hp
     simp only [aL] at xC
     obtain ⟨r,hr,eJ⟩:=xC
     obtain ⟨v,h1,h2⟩:=main r hr
     refine ⟨.tuple #[v,.bool r.isSome],by simpa using h2,?_⟩
     rw [← eJ]
     refine .tup rfl fun j c v' hc hv=>?_
     match j with
     | 0=>simp at hc hv;subst hc hv;exact h1
     | 1=>simp at hc hv;subst hc hv;exact .atom _
     | j+2=>simp at hc
   ·cases h
  ·cases h
 ·cases h
theorem Hu (g:Good E σ S μ w) {t:TypeId} {m x y:AV} {bp:oa} {vm vx vy:Value} (hm:aq w S μ vm m) (hx:aq w S μ vx x) (hy:aq w S μ vy y) {ps:List Prop} {ml:rO} {rd:List Nat}
  (h:uT P σ t m x y bp=some (ps,ml,rd)) (hp:bj ps):∃ w',(Instr.mapUpdate t vm vx vy).run P w=.ok () w'∧Ext w S μ w' S μ∧Good E (fA σ ml) S μ w':=by
 unfold uT at h
 split at h
 ·rename_i k kt et cs ht NK
  split at h
  ·rename_i d o hd ho
   split at h
   ·rename_i hb
    simp only [az,ay] at h
    obtain ⟨rfl,rfl,rfl⟩:=h
    simp only [bh] at hb
    obtain ⟨⟨⟨rL,o5⟩,Oz⟩,RK⟩:=hb
    have OG:=bO o5
    have JF:=bO Oz
    obtain ⟨xC,_⟩:=hp
    obtain ⟨pl,c,T,uf,cZ,rfl⟩:=Ht g ho OG hm
    obtain ⟨hc,m1,m2,m3,m4⟩:=cZ.mp OG
    have JV:w.heap[pl.cK]?=some (.map (gY c) (c.size / 2)):=(cZ.cK hc).trans (by rw [zY OG])
    have UK:=Mv m1 m2 m4
    have Pr:=fun b=>Hs hd rL hx b
    have Wv:=NL rL hx
    have hxp:x.pure=true:=Pq rL
    -- the block that is written
    have fin:∀ (c':Array Value),c'.size % 2=0→c'.size=cs.length→(∀ (j:Nat) x v,cs[j]?=some x→c'[j]?=some v→aq w S iL v x) →
      (Instr.mapUpdate t (.map (some pl.cK)) vx vy).run P w=.ok () { w with heap:=w.heap.setIfInBounds pl.cK (.map (gY c') (c'.size / 2)) } →
      ∃ w',(Instr.mapUpdate t (.map (some pl.cK)) vx vy).run P w=.ok () w'∧Ext w S μ w' S μ∧Good E (fA σ [(k,some ⟨o.var,o.sz,o.len,true,fun _=>cs⟩)]) S μ w':=by
     intro c' e1 e2 e3 lG
     refine ⟨_,lG,?_⟩
     have NN:=heap_set (o':=.map (gY c') (c'.size / 2)) JV
     refine g.RC (w':={ w with heap:=w.heap.setIfInBounds pl.cK (.map (gY c') (c'.size / 2)) }) ho uf hc cZ rfl rfl rfl (by simp) (fun b hb=>NN.2 b hb) ⟨o.var,o.sz,o.len,true,fun _=>cs⟩ (pN fun i hi=>absurd hi (by show ¬ i < o.len;omega)) (fun ex=>⟨c',T,cZ.sz,fun _=>?_,?_,by simp_all,cZ.out,fun i hi=>absurd hi (by show ¬ i < o.len;omega),fun i j x v hi=>absurd hi (by show ¬ i < o.len;omega),fun _=>⟨hc,e1,e2,rfl,fun j x v hx hv=>(e3 j x v hx hv).mono ex.H9 ex.cK (fun _ _ h=>h)⟩⟩)
     ·grind [zX,zY]
     ·simp_all
    rcases R5 hd rL hx (y:=y) UK xC with ⟨q1,q2⟩ | ⟨j,e,q1,q2,q3,q4⟩
    ·refine fin ((c.push vx).push vy) (by simp;omega) (by rw [q2];simp;omega) ?_ ?_
     ·intro j x' v' wT sJ
      rw [q2] at wT
      by_cases hj:j < c.size
      ·grind
      ·rw [jH (by omega)] at wT
       by_cases XL:j=c.size
       ·subst XL
        rw [show c.size - (o.get 0).length=0 by omega] at wT
        rw [Array.getElem?_push,if_neg (by simp),Array.getElem?_push,if_pos rfl] at sJ
        simp at wT sJ
        subst wT sJ
        exact hx.pure hxp iL
       ·by_cases hj1:j=c.size+1
        ·subst hj1
         rw [show c.size+1 - (o.get 0).length=1 by omega] at wT
         rw [Array.getElem?_push,if_pos (by simp)] at sJ
         simp at wT sJ
         subst wT sJ
         exact hy.pure RK iL
        ·rw [oC (by simp;omega)] at wT;cases wT
     ·rw [JU c m1]
      have e:((c.push vx).push vy).size / 2=c.size / 2+1:=by simp;omega
      rw [e]
      simp [Instr.mapUpdate,run_underlying ht,Go.MapKept.run_getObj_map JV,Pr,q1,Go.MapKept.run_setObj_map _ JV,Result.andThen]
    ·have VV:(gY c)[j]?=some e:=by simpa using q2
     have hj:j < c.size / 2:=by
      have:=(Array.getElem?_eq_some_iff.1 VV).1
      rwa [xR] at this
     refine fin (c.setIfInBounds (2 * j+1) vy) (by simpa using m1) (by rw [q4];simpa using m2) ?_ ?_
     ·intro i x' v' wT sJ
      rw [q4,List.getElem?_set] at wT
      rw [Array.getElem?_setIfInBounds] at sJ
      by_cases hi:2 * j+1=i
      ·subst hi
       rw [if_pos rfl,if_pos (by omega)] at wT
       rw [if_pos rfl,if_pos (by omega)] at sJ
       simp at wT sJ
       subst wT sJ
       exact hy.pure RK iL
      ·rw [if_neg hi] at wT sJ
       exact m4 i x' v' wT sJ
     ·rw [Ld c j e VV vy]
      simp [Instr.mapUpdate,run_underlying ht,Go.MapKept.run_getObj_map JV,Pr,q1,VV,q3,Wv,Go.MapKept.run_setObj_map _ JV,Result.andThen]
   ·cases h
  ·cases h
 ·cases h
theorem Lf (g:Good E σ S μ w) (z7:∀ j,j < 16→μ (nk+j)=none) (tO:E.m0≤nk) {f:AV} {args:List AV} {bp:oa} {r:R} {fv:Value} (hf:aq w S μ fv f) {A4:Array Value} (ha:RL w S μ A4 args)
  (hz:bp.xi=true→∀ b,¬ E.fp b) (h:EU P nk σ f args bp=some r) (hp:bj r.Hm) :
  ∃ gid vs,(do let d ← Deferred.ofValue fv A4;invoke d.target d.args:Sem Next).run P w=.ok (.enter gid vs) w ∧
   Calls P gid vs w fun e w'=>∃ v S' dn,e=.returned v∧Ext w S μ w' S' dn∧Good E (fA σ r.ml) S' dn w'∧(∀ k,(k < nk∨nk+16≤k)→μ k=none→dn k=none)∧aq w' S' dn v r.val :=
 JO (ob:=Sound P) g z7 tO hf ha hz (fun _ _ _ _ _ _ vs hs g0 hn xj=>hs w _ _ vs g0 hn xj) h hp
end
end Go.Ab
