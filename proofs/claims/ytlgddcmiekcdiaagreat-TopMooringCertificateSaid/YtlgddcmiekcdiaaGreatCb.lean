/- Abstract values over the heap of the machine, and functions read off its code (part 2). No conditions. -/
import Derived.Test.YtlgddcmiekcdiaaGreatCa
import Derived.Laws.IdiomStrings
import Derived.MapKept
import Derived.Carry
set_option linter.unusedVariables false
set_option linter.unusedSimpArgs false
namespace Go.Ab
def SA (w:World) (σ:dD) (μ:Mu) (b:Nat):Prop:=(∃ k o pl,au σ k=some o∧μ k=some pl∧0 < pl.cap∧pl.cQ=b)∨∃ k i x v,je w μ σ k i x v∧ptrTo v b
def yl (w:World) (S:Nat→Prop) (σ:dD) (μ:Mu) (m:Nat):Env:=⟨w,S,SA w σ μ,μ,m⟩
def Sound (P:Program) (f:FuncId) (args:List AV) (σ:dD) (m:Nat) (res:AV) (eV:dD):Prop :=
 ∀ (w:World) (S:Nat→Prop) (μ:Mu) (vs:Array Value),Good (yl w S σ μ m) σ S μ w→(∀ k,m≤k→μ k=none)→RL w S μ vs args →
  Calls P f vs w fun e w'=>∃ v S' dy,e=.returned v∧Good (yl w S σ μ m) eV S' dy w'∧ar w' S' dy v res
section
variable {E:Env} {nk:Nat} {σ:dD} {S:Nat→Prop} {μ:Mu} {w:World}
theorem je.of (g:Good E σ S μ w) {k i:Nat} {o:Ob} {x:Nat×Nat×(Nat→List AV)} (ho:au σ k=some o) (hr:rowOf o i=some x) {pl:Place} (hm:μ k=some pl):∃ v,je w μ σ k i x v:=by
 obtain ⟨h1,h2,h3⟩:=di hr
 obtain ⟨kn,c,T,gZ,dh⟩:=g.rep.ob k o ho
 rw [hm] at gZ;cases gZ
 have hl:=dh.ub i h2
 rw [h3] at hl
 obtain ⟨v,q1,q2⟩:=da dh (i:=i) (j:=0) h2 (by simp at hl;omega)
 exact ⟨v,o,pl,ho,hr,hm,by rw [dh.sz];simpa using q2⟩
theorem gX.PR {o:Ob} {pl:Place} {c:Array Value} {T:TypeId} {dy:Mu} (h:gX w S μ o pl c T) (hv:o.sz≠0) (hμ:∀ k p,μ k=some p→dy k=some p) (i:Nat) (cs:List AV) (hl:cs.length=o.sz)
  (hc:∀ j x v,i < o.len→cs[j]?=some x→c[i * o.sz+j]?=some v→ar w S dy v x):gX w S dy ⟨false,o.sz,o.len,false,fun m=>if m=i then cs else o.get m⟩ pl c T:=by
 refine ⟨h.sz,h.cQ,h.cap,h.len,h.out,fun m hm=>?_,fun m j x v hm hx tn=>?_,fun hz=>absurd hz hv⟩
 ·show (if m=i then cs else o.get m).length=o.sz
  split
  ·exact hl
  ·exact h.ub m hm
 ·have Zr:(if m=i then cs else o.get m)[j]?=some x:=hx
  show ar w S dy v x
  by_cases Bp:m=i
  ·grind
  ·rw [if_neg Bp] at Zr
   exact (iX (h.rep m j x v hm Zr tn)).mono (fun _ h=>h) (fun _ _=>rfl) hμ
theorem Good.opn (g:Good E σ S μ w) (hk:μ nk=none) (uu:E.m0≤nk) {k i:Nat} {o:Ob} {x:Nat×Nat×(Nat→List AV)} (ho:au σ k=some o) (hr:rowOf o i=some x) :
  ∃ q:Place,Ext w S μ w S (ca μ nk q)∧Good E (sset (sset σ k ⟨false,o.sz,o.len,false,fun m=>if m=i then [.os nk 0 x.2.1] else o.get m⟩) nk ⟨false,x.1,x.2.1,true,x.2.2⟩) S (ca μ nk q) w:=by
 obtain ⟨Bq,hi,qB⟩:=di hr
 obtain ⟨pl,c,T,hm,dh⟩:=g.rep.ob k o ho
 have xu:k≠nk:=fun h=>by simp_all
 have su:o.sz=1:=by have:=dh.ub i hi;rw [qB] at this;simpa using this.symm
 obtain ⟨v,hv⟩:=je.of g ho hr hm
 obtain ⟨a,cap,rfl,h1,h2,h3⟩:=g.mx.row _ _ _ _ hv
 -- the place of the row
 have hq:∃ q:Place,q.sz=x.1∧cap=q.cap∧(0 < cap→a=some ⟨q.cQ,0,none⟩)∧(0 < q.cap→0 < cap)∧(∃ c' T',gX w S iW ⟨false,x.1,x.2.1,true,x.2.2⟩ q c' T')∧(0 < q.cap→E.fp q.cQ∨E.w0.heap.size≤q.cQ):=by
  rcases Nat.eq_zero_or_pos cap with hc | hc
  ·refine ⟨⟨0,0,x.1⟩,rfl,hc,fun h=>by omega,fun h=>absurd h (wE _),⟨#[],0,rfl,fun h=>absurd h (wE _),by simp,by show x.2.1≤0;omega,fun h=>absurd h (wE _),fun j hj=>absurd hj (by show ¬ j < x.2.1;omega),fun j l y u hj=>absurd hj (by show ¬ j < x.2.1;omega),fun hz=>absurd hz (by simp_all)⟩,fun h=>absurd h (wE _)⟩
  ·grind
 obtain ⟨q,q1,q2,q3,q4,⟨c',T',q5⟩,q6⟩:=hq
 have Sc:∀ n p,μ n=some p→ca μ nk q n=some p:=fun n p h=>by
  grind [ca]
 have L7:0 < q.cap→ptrTo (.slice a x.2.1 cap) q.cQ:=fun h=>⟨_,_,by rw [q3 (q4 h)],q4 h⟩
 have ext:Ext w S μ w S (ca μ nk q):=⟨az _,fun _ h=>h,fun _ _=>rfl,Sc⟩
 let o':Ob:=⟨false,o.sz,o.len,false,fun m=>if m=i then [.os nk 0 x.2.1] else o.get m⟩
 let oq:Ob:=⟨false,x.1,x.2.1,true,x.2.2⟩
 have Kl:∀ n y,au (sset (sset σ k o') nk oq) n=some y→(n=nk∧y=oq)∨(n≠nk∧n=k∧y=o')∨(n≠nk∧n≠k∧au σ n=some y):=by
  intro n y h
  rw [bj] at h
  by_cases hn:nk=n
  ·simp_all
  ·rw [if_neg hn,bj] at h
   grind
 have Km:∀ n p,n≠nk→ca μ nk q n=some p→μ n=some p:=fun n p hn h=>by simp_all [ca,if_neg]
 have SB:∀ p,ca μ nk q nk=some p→p=q:=fun p h=>by unfold ca at h;simp_all
 have hold:∀ n y,au (sset (sset σ k o') nk oq) n=some y→n≠nk→∃ y',au σ n=some y':=fun n y h hn=>by
  grind
 refine ⟨q,ext,⟨g.fr,g.S0,g.S1,g.S2,⟨fun n y h=>?_,fun n n' y y' p p' fx h h' hp ta hc oU=>?_⟩,fun n y p h hp hc=>?_,fun n hn=>?_,?_⟩⟩
 ·rcases Kl n y h with ⟨rfl,rfl⟩ | ⟨hn,rfl,rfl⟩ | ⟨hn,hn2,h⟩
  ·refine ⟨q,c',T',by simp [ca],q5.sz,q5.cQ,q5.cap,q5.len,q5.out,q5.ub,fun j l y u hj hy hu=>q5.rep j l y u hj hy hu,fun hz=>absurd hz (by grind)⟩
  ·refine ⟨pl,c,T,Sc _ _ hm,dh.PR (by omega) Sc i [.os nk 0 x.2.1] (by rw [su];rfl) fun j y u _ hy hu=>?_⟩
   cases j with
   | succ j=>simp at hy
   | zero =>
    simp at hy
    subst hy
    obtain ⟨o2,p2,b1,b2,b3,b4⟩:=hv
    rw [ho] at b1;cases b1
    rw [hm] at b3;cases b3
    have DH:c[i * o.sz+0]?=some (.slice a x.2.1 cap):=by
     have:=cell_of_row w pl.cQ (i * pl.sz) _ _ _ ((dh.cQ (by have:=dh.len;omega)).trans (congrArg some (fO (by omega) c T)))
     rw [this,dh.sz] at b4
     exact b4
    rw [DH] at hu;cases hu
    exact .os q (by simp [ca]) (fun hc=>by rw [q3 hc];simp) h1 (by omega)
  ·obtain ⟨p,c2,T2,DZ,PN⟩:=g.rep.ob n y h
   exact ⟨p,c2,T2,Sc _ _ DZ,PN.ext ext (fun _=>rfl) PN.out⟩
 ·by_cases hn:n=nk<;>by_cases I4:n'=nk
  ·exact absurd (hn.trans I4.symm) fx
  ·subst hn
   cases SB p hp
   obtain ⟨y2,Hb⟩:=hold n' y' h' I4
   exact fun e=>g.mx.obj _ _ _ _ _ hv (L7 hc) n' y2 p' Hb (Km _ _ I4 ta) oU e.symm
  ·subst I4
   cases SB p' ta
   obtain ⟨y2,Hb⟩:=hold n y h hn
   exact g.mx.obj _ _ _ _ _ hv (L7 oU) n y2 p Hb (Km _ _ hn hp) hc
  ·obtain ⟨y2,Hb⟩:=hold n y h hn
   obtain ⟨Zs,Vf⟩:=hold n' y' h' I4
   exact g.rep.ne n n' y2 Zs p p' fx Hb Vf (Km _ _ hn hp) (Km _ _ I4 ta) hc oU
 ·by_cases hn:n=nk
  ·subst hn
   cases SB p hp
   exact q6 hc
  ·obtain ⟨y2,Hb⟩:=hold n y h hn
   exact g.own n y2 p Hb (Km _ _ hn hp) hc
 ·unfold ca;rw [if_neg (by omega)];exact g.EO n hn
 ·have key:∀ n j y u,je w (ca μ nk q) (sset (sset σ k o') nk oq) n j y u→je w μ σ n j y u∧¬ (n=k∧j=i):=by
   rintro n j y u ⟨o2,p2,b1,b2,b3,b4⟩
   rcases Kl n o2 b1 with ⟨rfl,rfl⟩ | ⟨hn,rfl,rfl⟩ | ⟨hn,hn2,h⟩
   ·rw [h2.2 j] at b2;cases b2
   ·obtain ⟨_,e2,e3⟩:=di b2
    have e3:(if j=i then [AV.os nk 0 x.2.1] else o.get j)=[.mr y.1 y.2.1 y.2.2]:=e3
    split at e3
    ·cases e3
    ·rename_i Pg
     exact ⟨⟨o,p2,ho,k5 Bq e2 e3,Km _ _ hn b3,b4⟩,fun h=>Pg h.2⟩
   ·exact ⟨⟨o2,p2,h,b2,Km _ _ hn b3,b4⟩,fun h=>hn2 h.1⟩
  refine ⟨fun n j y u h=>g.mx.row _ _ _ _ (key n j y u h).1,fun n j y u b h hb n' y' p' h1 h2 h3 he=>?_,fun n j y u b n' j' y' u' h h' hb ur=>g.mx.two _ _ _ _ _ _ _ _ _ (key _ _ _ _ h).1 (key _ _ _ _ h').1 hb ur⟩
  obtain ⟨tn,fx⟩:=key n j y u h
  by_cases hn:n'=nk
  ·subst hn
   cases SB p' h2
   obtain ⟨e1,e2⟩:=g.mx.two _ _ _ _ _ _ _ _ _ tn hv hb (he ▸ L7 h3)
   exact fx ⟨e1,e2⟩
  ·obtain ⟨y2,Hb⟩:=hold n' y' h1 hn
   exact g.mx.obj _ _ _ _ _ tn hb n' y2 p' Hb (Km _ _ hn h2) h3 he
theorem Good.cls (g:Good E σ S μ w) {k q i:Nat} {o oq:Ob} (ho:au σ k=some o) (Vg:au σ q=some oq) (hkq:k≠q) (Bq:o.var=false) (hvq:oq.var=false) (Ph:oq.pr=true) (hsq:1≤oq.sz)
  (hi:i < o.len) (qB:o.get i=[.os q 0 oq.len]) (Ha:∀ j,rowOf oq j=none) :
  Good E (sset (vw σ q) k ⟨false,o.sz,o.len,false,fun m=>if m=i then [.mr oq.sz oq.len oq.get] else o.get m⟩) S μ w:=by
 obtain ⟨pl,c,T,hm,dh⟩:=g.rep.ob k o ho
 obtain ⟨pq,cq,Tq,W7,PS⟩:=g.rep.ob q oq Vg
 have su:o.sz=1:=by have:=dh.ub i hi;rw [qB] at this;simpa using this.symm
 let o':Ob:=⟨false,o.sz,o.len,false,fun m=>if m=i then [.mr oq.sz oq.len oq.get] else o.get m⟩
 have Kl:∀ n y,au (sset (vw σ q) k o') n=some y→n≠q∧((n=k∧y=o')∨(n≠k∧au σ n=some y)):=by
  intro n y h
  rw [bj] at h
  by_cases hn:k=n
  ·simp_all
  ·rw [if_neg hn,fT] at h
   grind
 have hold:∀ n y,au (sset (vw σ q) k o') n=some y→n≠q∧∃ y',au σ n=some y':=fun n y h=>by
  grind
 -- the cell that names the row
 have DH:∃ a cap,c[i * o.sz+0]?=some (.slice a oq.len cap)∧w.cell? ⟨pl.cQ,i * pl.sz,none⟩=some (.slice a oq.len cap)∧oq.len≤cap∧cap≤pq.cap∧(0 < cap→a=some ⟨pq.cQ,0,none⟩):=by
  obtain ⟨u,b1,b2⟩:=da dh (i:=i) (j:=0) hi (by omega)
  have:=iX (dh.rep i 0 (.os q 0 oq.len) u hi (by rw [qB];rfl) b1)
  cases this with
  | os kn gZ e1 e2 e3 =>
   rename_i cap a
   rw [W7] at gZ;cases gZ
   exact ⟨a,cap,b1,by rw [dh.sz];simpa using b2,e2,by omega,fun h=>by rw [e1 h];simp⟩
 obtain ⟨a,cap,d1,d2,d3,d4,d5⟩:=DH
 have wG:Ka E.fp E.w0.heap.size w S (.slice a oq.len cap) (oq.sz,oq.len,oq.get):=by
  refine ⟨a,cap,rfl,d3,⟨hsq,fun j=>?_⟩,fun hc=>⟨pq.cQ,cq,Tq,d5 hc,⟨rfl,fun _=>?_,?_,d3,fun _=>PS.out (by omega),PS.ub,fun j l y u hj hy hu=>?_,fun hz=>absurd hz (by show oq.sz≠0;omega)⟩,g.own q oq pq Vg W7 (by omega)⟩⟩
  ·cases hr:rowOf ⟨false,oq.sz,oq.len,true,oq.get⟩ j with
   | none=>rfl
   | some y =>
    obtain ⟨_,r2,r3⟩:=di hr
    have:=k5 hvq r2 r3
    simp_all
  ·exact PS.cQ (by omega)
  ·exact eZ (dS _ d4) PS.cap
  ·have:=PS.rep j l y u hj hy hu
   simp_all
 have key:∀ n j y u,je w μ (sset (vw σ q) k o') n j y u→(je w μ σ n j y u∧¬ (n=k∧j=i))∨(n=k∧j=i∧y=(oq.sz,oq.len,oq.get)∧u=.slice a oq.len cap):=by
  rintro n j y u ⟨o2,p2,b1,b2,b3,b4⟩
  obtain ⟨h0,⟨rfl,rfl⟩ | ⟨hn,h1⟩⟩:=Kl n o2 b1
  ·rw [hm] at b3;cases b3
   obtain ⟨_,e2,e3⟩:=di b2
   have e4:(if j=i then [AV.mr oq.sz oq.len oq.get] else o.get j)=[.mr y.1 y.2.1 y.2.2]:=e3
   clear e3
   by_cases Pg:j=i
   ·simp_all
   ·rw [if_neg Pg] at e4
    have e3:=e4
    exact .inl ⟨⟨o,pl,ho,k5 Bq e2 e3,hm,b4⟩,fun h=>Pg h.2⟩
  ·exact .inl ⟨⟨o2,p2,h1,b2,b3,b4⟩,fun h=>hn h.1⟩
 have L7:∀ b,ptrTo (.slice a oq.len cap) b→pq.cQ=b∧0 < pq.cap:=by
  rintro b ⟨l,cp,e,hc⟩
  injection e with e1 e2 e3
  subst e3
  rw [d5 hc] at e1
  injection e1 with e1
  injection e1 with e1
  exact ⟨e1,by omega⟩
 refine ⟨g.fr,g.S0,g.S1,g.S2,⟨fun n y h=>?_,fun n n' y y' p p' fx h h' hp ta hc oU=>?_⟩,fun n y p h hp hc=>?_,g.EO,?_⟩
 ·obtain ⟨h0,⟨rfl,rfl⟩ | ⟨hn,h1⟩⟩:=Kl n y h
  ·exact ⟨pl,c,T,hm,dh.PR (by omega) (fun _ _ h=>h) i _ (by rw [su];rfl) fun j y u _ hy hu=>by
    cases j with
    | zero=>simp at hy;subst hy;exact .mr
    | succ j=>simp at hy⟩
  ·exact g.rep.ob n y h1
 ·obtain ⟨_,y2,Hb⟩:=hold n y h
  obtain ⟨_,Zs,Vf⟩:=hold n' y' h'
  exact g.rep.ne n n' y2 Zs p p' fx Hb Vf hp ta hc oU
 ·obtain ⟨_,y2,Hb⟩:=hold n y h
  exact g.own n y2 p Hb hp hc
 ·refine ⟨fun n j y u h=>?_,fun n j y u b h hb n' y' p' h1 h2 h3 he=>?_,fun n j y u b n' j' y' u' h h' hb ur=>?_⟩
  ·rcases key n j y u h with ⟨h,_⟩ | ⟨_,_,rfl,rfl⟩
   ·exact g.mx.row _ _ _ _ h
   ·exact wG
  ·obtain ⟨hnq,y2,Hb⟩:=hold n' y' h1
   rcases key n j y u h with ⟨h,_⟩ | ⟨_,_,rfl,rfl⟩
   ·exact g.mx.obj _ _ _ _ _ h hb n' y2 p' Hb h2 h3 he
   ·obtain ⟨e1,e2⟩:=L7 b hb
    exact g.rep.ne n' q y2 oq p' pq hnq Hb Vg h2 W7 h3 e2 (he.trans e1.symm)
  ·rcases key n j y u h with ⟨h,_⟩ | ⟨n1,j1,rfl,rfl⟩<;>rcases key n' j' y' u' h' with ⟨h',_⟩ | ⟨n2,j2,rfl,rfl⟩
   ·exact g.mx.two _ _ _ _ _ _ _ _ _ h h' hb ur
   ·obtain ⟨e1,e2⟩:=L7 b ur
    exact (g.mx.obj _ _ _ _ _ h hb q oq pq Vg W7 e2 e1).elim
   ·obtain ⟨e1,e2⟩:=L7 b hb
    exact (g.mx.obj _ _ _ _ _ h' ur q oq pq Vg W7 e2 e1).elim
   ·exact ⟨n1.trans n2.symm,j1.trans j2.symm⟩
end
mutual
def AV.kN (f:Nat→Option Nat):AV→AV
 | .op k i j=>match f k with
  | some k'=>.op k' i j
  | none=>.mH
 | .os k off len=>match f k with
  | some k'=>.os k' off len
  | none=>.mH
 | .agg cs=>.agg (AV.uO f cs)
 | .tup cs=>.tup (AV.uO f cs)
 | .fn g a b=>.fn g (AV.uO f a) (AV.uO f b)
 | .when b x=>.when b (x.kN f)
 | .mp k=>match f k with
  | some k'=>.mp k'
  | none=>.mH
 | .bn n=>.bn n
 | .pt b cs=>.pt b cs
 | .atom v=>.atom v
 | .sl n g=>.sl n g
 | .rp c o=>.rp c o
 | .ov _ _ _ _ _=>.mH
 | .Cq _ _ _=>.mH
 | .nq st x=>.nq st (x.kN f)
 | .nil=>.nil
 | .mH=>.mH
 | .mr sz n g=>.mr sz n g
def AV.uO (f:Nat→Option Nat):List AV→List AV
 | []=>[]
 | c :: cs=>c.kN f :: AV.uO f cs
end
theorem wQ (f:Nat→Option Nat) (cs:List AV):AV.uO f cs=cs.map (·.kN f):=by
 induction cs with
 | nil=>rfl
 | cons c cs ih=>simp [AV.uO,ih]
theorem ar.kN {w:World} {S:Nat→Prop} {μ:Mu} {v:Value} {x:AV} (h:ar w S μ v x) :
  ∀ {dy:Mu} {f:Nat→Option Nat},(∀ k k' pl,f k=some k'→μ k=some pl→dy k'=some pl)→ar w S dy v (x.kN f):=by
 induction h with
 | atom v=>exact fun _=>.atom v
 | agg h1 h2 ih =>
  intro dy f hf
  simp only [AV.kN,wQ]
  refine .agg (by simp [h1]) fun j c v hc hv=>?_
  grind
 | tup h1 h2 ih =>
  intro dy f hf
  simp only [AV.kN,wQ]
  refine .tup (by simp [h1]) fun j c v hc hv=>?_
  grind
 | sl b off sz f h1 h2 h3 h4 h5 _=>exact fun _=>.sl b off sz f h1 h2 h3 h4 h5
 | rp b o f h1 h2 h3 _=>exact fun _=>.rp b o f h1 h2 h3
 | @op μ k i j pl h =>
  grind [AV.kN,op,mH]
 | @os μ k off len cap a pl h h1 h2 h3 =>
  grind [AV.kN,os,mH]
 | fn h1 h2 _ _ Ok Ol =>
  intro dy f hf
  simp only [AV.kN,wQ]
  refine .fn (by simp [h1]) (by simp [h2]) (fun j c v hc hv=>?_) (fun j c v hc hv=>?_)
  ·grind
  grind
 | when _ hu ih=>exact fun hf=>.when (fun hb=>ih hb hf) hu
 | @mp μ k pl h =>
  grind [AV.kN,mp,mH]
 | bn b h=>exact fun _=>.bn b h
 | pt h1 h2 _ =>
  intro dy f hf
  exact .pt (fun hb=>by have:=h1 hb;cases this with
   | rp b o f q1 q2 q3=>exact .rp b o f q1 q2 q3) h2
 | ov=>exact fun _=>.mH
 | Cq=>exact fun _=>.mH
 | nq _ h1 h2 ih=>exact fun hf=>.nq (ih hf) h1 h2
 | nil=>exact fun _=>.nil
 | mH=>exact fun _=>.mH
 | mr=>exact fun _=>.mr
def Ob.kN (f:Nat→Option Nat) (o:Ob):Ob :=
 match o.pr with
 | true=>o
 | false=>{ o with get:=fun i=>AV.uO f (o.get i) }
theorem Ob.tu (f:Nat→Option Nat) (o:Ob):(o.kN f).sz=o.sz:=by grind [Ob.kN]
theorem Ob.zg (f:Nat→Option Nat) (o:Ob):(o.kN f).len=o.len:=by grind [Ob.kN]
theorem Ob.CB (f:Nat→Option Nat) (o:Ob):(o.kN f).pr=o.pr:=by grind [Ob.kN]
theorem PT {f:Nat→Option Nat} {cs:List AV} {sz n:Nat} {g:Nat→List AV} (h:AV.uO f cs=[.mr sz n g]):cs=[.mr sz n g]:=by
 cases cs with
 | nil=>cases h
 | cons c cs =>
  cases cs with
  | cons d ds=>simp [AV.uO] at h
  | nil =>
   simp only [AV.uO,List.cons.injEq,and_true] at h
   cases c with
   | op=>grind [AV.kN]
   | os=>grind [AV.kN]
   | mp=>grind [AV.kN]
   | mr=>simpa [AV.kN] using h
   | _=>cases h
theorem qC (f:Nat→Option Nat) (o:Ob) (i:Nat) (x:Nat×Nat×(Nat→List AV)):rowOf (o.kN f) i=some x↔rowOf o i=some x:=by
 unfold Ob.kN
 split
 ·exact Iff.rfl
 ·constructor
  ·intro h
   obtain ⟨h1,h2,h3⟩:=di h
   grind [k5,PT]
  ·intro h
   obtain ⟨h1,h2,h3⟩:=di h
   exact k5 h1 h2 (by show AV.uO f (o.get i)=_;rw [h3];rfl)
theorem gX.kN {w:World} {S:Nat→Prop} {μ dy:Mu} {o:Ob} {pl:Place} {c:Array Value} {T:TypeId} (h:gX w S μ o pl c T) {f:Nat→Option Nat}
  (hf:∀ k k' pl,f k=some k'→μ k=some pl→dy k'=some pl):gX w S dy (o.kN f) pl c T:=by
 refine ⟨(Ob.tu f o).symm ▸ h.sz,(Ob.tu f o).symm ▸ h.cQ,(Ob.tu f o).symm ▸ h.cap,(Ob.zg f o).symm ▸ h.len,h.out,?_,?_,fun hz=>?_⟩
 rotate_left 2
 ·rw [Ob.tu] at hz
  obtain ⟨h0,h1,h2,h3,h4⟩:=h.mp hz
  grind [Ob.kN]
 ·intro i hi
  rw [Ob.zg] at hi
  rw [Ob.tu,← h.ub i hi]
  grind [Ob.kN,wQ]
 ·intro i j x v hi hx hv
  rw [Ob.zg] at hi
  rw [Ob.tu] at hv
  rw [Ob.CB]
  unfold Ob.kN at hx
  split at hx
  ·rename_i hp
   have:=h.rep i j x v hi hx hv
   simp_all
  ·rename_i hp
   simp only [wQ,List.getElem?_map,aK] at hx
   obtain ⟨y,hy,rfl⟩:=hx
   have:=h.rep i j y v hi hy hv
   rw [hp] at this ⊢
   exact this.kN hf
def idx:List Nat→Nat→Option Nat
 | [],_=>none
 | a :: r,k=>match Nat.beq a k with
  | true=>some 0
  | false=>(idx r k).map (·+1)
theorem nz:∀ (ks:List Nat) (k i:Nat),idx ks k=some i→ks[i]?=some k
 | [],k,i,h=>by simp [idx] at h
 | a :: r,k,i,h=>by
  simp only [idx] at h
  split at h
  ·rename_i hb
   cases h
   simp [bW hb]
  ·simp only [aK] at h
   obtain ⟨i',rN,rfl⟩:=h
   simpa using nz r k i' rN
mutual
def AV.gu (σ:dD) (ks:List Nat):AV→Option (AV×List Nat×List Prop)
 | .op k i j=>match idx ks k with
  | some n=>some (.op n i j,[],[])
  | none=>some (.mH,[],[])
 | .os k off len=>match idx ks k with
  | some n=>some (.os n off len,[],[])
  | none=>match au σ k with
   | some o=>match o.pr with
    | true=>some (.sl len (fun i=>o.get (bC off i)),[k],[off+len≤o.len])
    | false=>none
   | none=>none
 | .agg cs=>(AV.qy σ ks cs).map fun (a,b,c)=>(.agg a,b,c)
 | .tup cs=>(AV.qy σ ks cs).map fun (a,b,c)=>(.tup a,b,c)
 | .fn g x y=>match AV.qy σ ks x,AV.qy σ ks y with
  | some (a,b,c),some (a',b',c')=>some (.fn g a a',b ++ b',c ++ c')
  | _,_=>none
 | .when _ _=>none
 | .ov _ _ _ _ _=>none
 | .Cq _ _ _=>none
 | .nq _ _=>none
 | .mp k=>(idx ks k).map fun n=>(.mp n,[],[])
 | .bn n=>some (.bn n,[],[])
 | .pt b cs=>some (.pt b cs,[],[])
 | .atom v=>some (.atom v,[],[])
 | .sl n g=>some (.sl n g,[],[])
 | .rp c o=>some (.rp c o,[],[])
 | .nil=>some (.nil,[],[])
 | .mH=>some (.mH,[],[])
 | .mr _ _ _=>none
def AV.qy (σ:dD) (ks:List Nat):List AV→Option (List AV×List Nat×List Prop)
 | []=>some ([],[],[])
 | c :: cs=>match c.gu σ ks,AV.qy σ ks cs with
  | some (a,b,p),some (a',b',p')=>some (a :: a',b ++ b',p ++ p')
  | _,_=>none
end
def k7 (μ:Mu) (ks:List Nat):Mu:=fun i=>(ks[i]?).bind μ
def ym (μ:Mu) (bs:List Nat) (b:Nat):Prop:=∃ k∈bs,∃ pl,μ k=some pl∧0 < pl.cap∧pl.cQ=b
theorem Br {μ:Mu} {ks:List Nat}:∀ k i pl,idx ks k=some i→μ k=some pl→k7 μ ks i=some pl:=by
 intro k i pl h hm
 simp [k7,nz ks k i h,hm]
section
variable {P:Program} {E:Env} {nk:Nat} {σ:dD} {S:Nat→Prop} {μ:Mu} {w:World}
theorem PU (g:Good E σ S μ w) {ks:List Nat} {v:Value} {x:AV} (h:ar w S μ v x):∀ (S':Nat→Prop),(∀ b,S b→S' b)→∀ {y:AV} {bs:List Nat} {ps:List Prop},
  x.gu σ ks=some (y,bs,ps)→bq ps→(∀ b,ym μ bs b→S' b)→ar w S' (k7 μ ks) v y:=by
 have lists:∀ {μ:Mu} {vs:Array Value} {cs:List AV} (S':Nat→Prop),
   (∀ (j:Nat) (c:AV) (v:Value),cs[j]?=some c→vs[j]?=some v→∀ {y:AV} {bs:List Nat} {ps:List Prop},c.gu σ ks=some (y,bs,ps)→bq ps→(∀ b,ym μ bs b→S' b)→ar w S' (k7 μ ks) v y) →
   ∀ {ys:List AV} {bs:List Nat} {ps:List Prop},AV.qy σ ks cs=some (ys,bs,ps)→bq ps→(∀ b,ym μ bs b→S' b) →
   ys.length=cs.length∧∀ (j:Nat) (c:AV) (v:Value),ys[j]?=some c→vs[j]?=some v→ar w S' (k7 μ ks) v c:=by
  intro μ vs cs S' h
  have gen:∀ (cs:List AV) (o:Nat),(∀ (j:Nat) (c:AV) (v:Value),cs[j]?=some c→vs[o+j]?=some v→∀ {y:AV} {bs:List Nat} {ps:List Prop},c.gu σ ks=some (y,bs,ps)→bq ps→(∀ b,ym μ bs b→S' b)→ar w S' (k7 μ ks) v y) →
   ∀ {ys:List AV} {bs:List Nat} {ps:List Prop},AV.qy σ ks cs=some (ys,bs,ps)→bq ps→(∀ b,ym μ bs b→S' b) →
   ys.length=cs.length∧∀ (j:Nat) (c:AV) (v:Value),ys[j]?=some c→vs[o+j]?=some v→ar w S' (k7 μ ks) v c:=by
   intro cs
   induction cs with
   | nil =>
    intro o _ ys bs ps h _ _
    simp [AV.qy] at h
    simp_all
   | cons c cs ih =>
    intro o hh ys bs ps h hp hb
    simp only [AV.qy] at h
    split at h
    ·rename_i a b p a' b' p' h1 h2
     simp only [aD,aA] at h
     obtain ⟨rfl,rfl,rfl⟩:=h
     obtain ⟨x8,xN⟩:=bq.app hp
     have YG:=ih (o+1) (fun j c v hc hv=>hh (j+1) c v (by simpa using hc) (by grind)) h2 xN (fun q hq=>hb q (by obtain ⟨k,hk,r⟩:=hq;exact ⟨k,by simp [hk],r⟩))
     refine ⟨by simp [YG.1],?_⟩
     intro j c' v hc hv
     cases j with
     | zero =>
      simp at hc;subst hc
      exact hh 0 c v (by simp) hv h1 x8 (fun q hq=>hb q (by obtain ⟨k,hk,r⟩:=hq;exact ⟨k,by simp [hk],r⟩))
     | succ j=>grind
    ·cases h
  intro ys bs ps h1 h2 h3
  have:=gen cs 0 (fun j c v hc hv=>h j c v hc (by simpa using hv)) h1 h2 h3
  exact ⟨this.1,fun j c v hc hv=>this.2 j c v hc (by simpa using hv)⟩
 intro S' hS
 have h0:=h
 clear h
 have key:∀ {DJ:Mu} {v:Value} {x:AV},ar w S DJ v x→DJ=μ→∀ {y:AV} {bs:List Nat} {ps:List Prop},x.gu σ ks=some (y,bs,ps)→bq ps→(∀ b,ym μ bs b→S' b)→ar w S' (k7 μ ks) v y:=by
  intro DJ v x h
  induction h with
  | atom v=>intro _ y bs ps h _ _;simp [AV.gu] at h;obtain ⟨rfl,_,_⟩:=h;exact .atom v
  | agg h1 h2 ih =>
   intro e y bs ps h hp hb
   subst e
   simp only [AV.gu,aK] at h
   obtain ⟨⟨a,b,c⟩,h,e⟩:=h
   simp only [aA] at e
   obtain ⟨rfl,rfl,rfl⟩:=e
   obtain ⟨q1,q2⟩:=lists S' (fun j c v hc hv=>ih j c v hc hv rfl) h hp hb
   exact .agg (h1.trans q1.symm) q2
  | tup h1 h2 ih =>
   intro e y bs ps h hp hb
   subst e
   simp only [AV.gu,aK] at h
   obtain ⟨⟨a,b,c⟩,h,e⟩:=h
   simp only [aA] at e
   obtain ⟨rfl,rfl,rfl⟩:=e
   obtain ⟨q1,q2⟩:=lists S' (fun j c v hc hv=>ih j c v hc hv rfl) h hp hb
   exact .tup (h1.trans q1.symm) q2
  | @sl DJ a len cap get b off sz f h1 h2 h3 h4 h5 _ =>
   intro _ y bs ps h _ _
   simp [AV.gu] at h;obtain ⟨rfl,_,_⟩:=h
   have:=(ar.sl (μ:=k7 μ ks) b off sz f h1 h2 h3 h4 h5)
   exact this.mono hS (fun _ _=>rfl) (fun _ _ h=>h)
  | @rp DJ cs off b o f h1 h2 h3 _ =>
   intro _ y bs ps h _ _
   simp [AV.gu] at h;obtain ⟨rfl,_,_⟩:=h
   have:=(ar.rp (μ:=k7 μ ks) (off:=off) b o f h1 h2 h3)
   exact this.mono hS (fun _ _=>rfl) (fun _ _ h=>h)
  | @op DJ k i j pl hm =>
   intro e y bs ps h _ _
   subst e
   simp only [AV.gu] at h
   split at h
   ·rename_i n hn
    simp at h;obtain ⟨rfl,_,_⟩:=h
    exact .op pl (Br _ _ _ hn hm)
   ·simp at h;obtain ⟨rfl,_,_⟩:=h
    exact .mH
  | @os DJ k off len cap a pl hm h1 h2 h3 =>
   intro e y bs ps h hp hb
   subst e
   simp only [AV.gu] at h
   split at h
   ·rename_i n hn
    simp at h;obtain ⟨rfl,_,_⟩:=h
    exact .os pl (Br _ _ _ hn hm) h1 h2 h3
   ·split at h
    ·rename_i o ho
     split at h
     ·rename_i LS
      simp only [aD,aA] at h
      obtain ⟨hy,rfl,rfl⟩:=h
      have hle:=hp.1
      obtain ⟨kn,c,T,gZ,dh⟩:=g.rep.ob k o ho
      rw [hm] at gZ;cases gZ
      have U3:y=.sl len fun i=>o.get (off+i):=by
       rw [← hy]
       simp only [dp]
      rw [U3]
      refine .sl pl.cQ (off * pl.sz) o.sz (fun i j=>(c[(off+i) * o.sz+j]?).getD undef) ?_ (fun i hi=>dh.ub _ (by omega)) ?_ ?_ h2
      ·intro hl
       exact ⟨h1 (by omega),hb _ ⟨k,by simp,pl,hm,by omega,rfl⟩⟩
      ·intro i j hi hj
       obtain ⟨v,q1,q2⟩:=da dh (i:=off+i) (by omega) hj
       rw [q1,dh.sz,← cD,q2];rfl
      ·intro i j c' hi oU
       obtain ⟨v,q1,q2⟩:=da dh (i:=off+i) (by omega) (by have:=(dU.1 oU).1;rwa [dh.ub _ (by omega)] at this)
       rw [q1]
       have:=dh.rep _ j c' v (by omega) oU q1
       rw [LS] at this
       exact ar.mono (S:=S) (S':=S') hS (fun _ _=>rfl) this (fun _ _ h=>h)
     ·cases h
    ·cases h
  | fn h1 h2 _ _ Ok Ol =>
   intro e y bs ps h hp hb
   subst e
   simp only [AV.gu] at h
   split at h
   ·rename_i a b c a' b' c' e1 e2
    simp only [aD,aA] at h
    obtain ⟨rfl,rfl,rfl⟩:=h
    obtain ⟨x8,xN⟩:=bq.app hp
    obtain ⟨q1,q2⟩:=lists S' (fun j c v hc hv=>Ok j c v hc hv rfl) e1 x8 (fun q hq=>hb q (by obtain ⟨k,hk,r⟩:=hq;exact ⟨k,by simp [hk],r⟩))
    obtain ⟨r1,r2⟩:=lists S' (fun j c v hc hv=>Ol j c v hc hv rfl) e2 xN (fun q hq=>hb q (by obtain ⟨k,hk,r⟩:=hq;exact ⟨k,by simp [hk],r⟩))
    exact .fn (h1.trans q1.symm) (h2.trans r1.symm) q2 r2
   ·cases h
  | when=>intro _ y bs ps h;simp [AV.gu] at h
  | ov=>intro _ y bs ps h;simp [AV.gu] at h
  | Cq=>intro _ y bs ps h;simp [AV.gu] at h
  | nq=>intro _ y bs ps h;simp [AV.gu] at h
  | @mp DJ k pl hm =>
   intro e y bs ps h _ _
   subst e
   simp only [AV.gu,aK,aA] at h
   obtain ⟨n,hn,rfl,_,_⟩:=h
   exact .mp pl (Br _ _ _ hn hm)
  | bn b hb=>intro _ y bs ps h _ _;simp [AV.gu] at h;obtain ⟨rfl,_,_⟩:=h;exact .bn b hb
  | pt h1 h2 _ =>
   intro _ y bs ps h _ _
   simp [AV.gu] at h;obtain ⟨rfl,_,_⟩:=h
   refine .pt (fun hb=>?_) h2
   have:=h1 hb
   cases this with
   | rp b o f q1 q2 q3 =>
    have:=(ar.rp (μ:=k7 μ ks) (off:=0) b o f q1 q2 q3)
    exact this.mono hS (fun _ _=>rfl) (fun _ _ h=>h)
  | nil=>intro _ y bs ps h _ _;simp [AV.gu] at h;obtain ⟨rfl,_,_⟩:=h;exact .nil
  | mH=>intro _ y bs ps h _ _;simp [AV.gu] at h;obtain ⟨rfl,_,_⟩:=h;exact .mH
  | mr=>intro _ y bs ps h;simp [AV.gu] at h
 intro y bs ps h1 h2 h3
 exact key h0 rfl h1 h2 h3
end
end Go.Ab
namespace Go.Ab
structure YC where
 l:Nat
 as:List AV
 k:Nat
 o:Ob
 o':Ob
structure ow where
 ks:List Nat
 same:Bool
 res:AV
 oA:dD
 dec:Nat
 xO:Bool
 y:Option YC
def Zt:Option ow→Option YC
 | none=>none
 | some o=>o.y
def Zu:Option ow→Nat
 | none=>0
 | some o=>o.dec
def Zv:Option ow→AV
 | none=>.mH
 | some o=>o.res
structure R where
 HR:List Prop
 val:AV
 LU:List Nat
 mF:sx
def Kn (P:Program) (g:FuncId):Bool :=
 match P.funcs[g]? with
 | some fn=>fn.body.isSome && !(fn.name == "runtime.NumGoroutine")
 | none=>false
def canon (σ:dD) (ks:List Nat):Nat→List Nat→Option dD
 | _,[]=>some []
 | i,k :: r=>match au σ k,canon σ ks (i+1) r with
  | some o,some t=>some ((i,o.kN (idx ks)) :: t)
  | _,_=>none
def back (ks:List Nat) (nk n:Nat):Option Nat :=
 match ks[n]? with
 | some k=>some k
 | none=>match Nat.blt n (ks.length+16) with
  | true=>some (nk+(n - ks.length))
  | false=>none
def Ai (ks:List Nat) (nk:Nat) (eV:dD):Nat→List Nat→sx
 | _,[]=>[]
 | i,k :: r=>(k,(au eV i).map (Ob.kN (back ks nk))) :: Ai ks nk eV (i+1) r
def Bs (ks:List Nat) (nk:Nat):dD→sx
 | []=>[]
 | (n,o) :: r=>match Nat.ble ks.length n with
  | true=>(nk+(n - ks.length),some (o.kN (back ks nk))) :: Bs ks nk r
  | false=>Bs ks nk r
def na:List Nat→Bool
 | []=>true
 | k :: r=>(idx r k).isNone && na r
def Fm (n:Nat):dD→Bool
 | []=>true
 | (k,_) :: r=>Nat.blt k n && Fm n r
def Ob.flat (o:Ob):Bool:=o.var && Nat.beq o.len 1 && Nat.ble 1 o.sz && AV.yc (o.get 0)
mutual
def AV.J4:AV→Bool
 | .atom _ | .op _ _ _ | .os _ _ _ | .mp _ | .bn _ | .nil=>true
 | .agg cs | .tup cs=>AV.Oy cs
 | .fn _ a b=>AV.Oy a && AV.Oy b
 | _=>false
def AV.Oy:List AV→Bool
 | []=>true
 | c :: cs=>c.J4 && AV.Oy cs
end
theorem Fo {cs:List AV} (h:AV.Oy cs=true) {j:Nat} {c:AV} (hc:cs[j]?=some c):c.J4=true:=by
 induction cs generalizing j with
 | nil=>simp at hc
 | cons x xs ih =>
  simp only [AV.Oy,bp] at h
  grind
theorem ar.J4 {w:World} {S:Nat→Prop} {μ:Mu} {v:Value} {x:AV} (h:ar w S μ v x):x.J4=true→∀ w' S',ar w' S' μ v x:=by
 induction h with
 | atom v=>grind [atom]
 | agg h1 _ ih=>grind [agg,Fo,AV.J4]
 | tup h1 _ ih=>grind [tup,Fo,AV.J4]
 | op pl h=>grind [op]
 | os pl h h1 h2 h3=>grind [os]
 | fn h1 h2 _ _ Ok Ol =>
  intro hp w' S'
  simp only [AV.J4,bp] at hp
  grind [fn,Fo]
 | mp pl h=>grind [mp]
 | bn b h=>grind [bn]
 | nil=>exact fun _ _ _=>.nil
 | sl=>grind [AV.J4]
 | rp=>grind [AV.J4]
 | when=>grind [AV.J4]
 | pt=>grind [AV.J4]
 | ov=>grind [AV.J4]
 | Cq=>grind [AV.J4]
 | nq=>grind [AV.J4]
 | mH=>grind [AV.J4]
 | mr=>grind [AV.J4]
def uv (o:Ob):Option (List Prop) :=
 match o.flat with
 | true=>some []
 | false=>match o.pr && Nat.ble 1 o.sz with
  | true=>some [∀ i,i < o.len→AV.yc (o.get i)=true]
  | false=>none
def Bt (lone:Bool):dD→Option (List Prop)
 | []=>some []
 | (_,o) :: r=>match lone with
  | true=>some []
  | false=>match uv o,Bt lone r with
   | some p,some q=>some (p ++ q)
   | _,_=>none
mutual
def AV.closed (f:Nat→Option Nat):AV→Bool
 | .op k _ _=>(f k).isSome
 | .os k _ _=>(f k).isSome
 | .mp k=>(f k).isSome
 | .ov _ _ _ _ _ | .Cq _ _ _ | .mr _ _ _=>false
 | .agg cs | .tup cs=>AV.wR f cs
 | .fn _ a b=>AV.wR f a && AV.wR f b
 | .when _ x=>x.closed f
 | .nq _ x=>x.closed f
 | _=>true
def AV.wR (f:Nat→Option Nat):List AV→Bool
 | []=>true
 | c :: cs=>c.closed f && AV.wR f cs
end
def Ob.closed (f:Nat→Option Nat) (o:Ob):Bool:=o.pr || (o.var && Nat.beq o.len 1 && AV.wR f (o.get 0))
def Fp:List AV→Bool
 | [.mr _ _ _]=>true
 | _=>false
theorem HS {f:Nat→Option Nat} {l:List AV} (h:Fp l=true):AV.uO f l=l:=by
 unfold Fp at h
 split at h
 ·rfl
 ·cases h
def CC (ks:List Nat) (lone:Bool) (o:Ob):Option (List Prop) :=
 match o.flat || (lone && o.closed (idx ks)) with
 | true=>some []
 | false=>match o.pr with
  | true=>uv o
  | false=>match lone && !o.var with
   | true=>some [∀ i,i < o.len→Fp (o.get i)=true]
   | false=>none
def yn (σ:dD) (ks:List Nat) (lone:Bool):List Nat→Option (List Prop)
 | []=>some []
 | k :: r=>match au σ k with
  | some o=>match CC ks lone o,yn σ ks lone r with
   | some p,some q=>some (p ++ q)
   | _,_=>none
  | none=>none
mutual
theorem Fq {f g:Nat→Option Nat} (Pj:∀ k i,f k=some i→g i=some k):∀ (x:AV),x.closed f=true→(x.kN f).kN g=x
 | .op k i j,h=>by
  obtain ⟨n,hn⟩:=Option.isSome_iff_exists.1 (by simpa [AV.closed] using h)
  simp [AV.kN,hn,Pj k n hn]
 | .os k i j,h=>by
  obtain ⟨n,hn⟩:=Option.isSome_iff_exists.1 (by simpa [AV.closed] using h)
  simp [AV.kN,hn,Pj k n hn]
 | .agg cs,h=>by simp only [AV.kN];rw [tc Pj cs (by simpa [AV.closed] using h)]
 | .tup cs,h=>by simp only [AV.kN];rw [tc Pj cs (by simpa [AV.closed] using h)]
 | .fn q a b,h=>by
  simp only [AV.closed,bp] at h
  simp only [AV.kN];rw [tc Pj a h.1,tc Pj b h.2]
 | .when b x,h=>by simp only [AV.kN];rw [Fq Pj x (by simpa [AV.closed] using h)]
 | .nq b x,h=>by simp only [AV.kN];rw [Fq Pj x (by simpa [AV.closed] using h)]
 | .mp k,h=>by
  obtain ⟨n,hn⟩:=Option.isSome_iff_exists.1 (by simpa [AV.closed] using h)
  simp [AV.kN,hn,Pj k n hn]
 | .ov _ _ _ _ _,h=>by simp [AV.closed] at h
 | .Cq _ _ _,h=>by simp [AV.closed] at h
 | .mr _ _ _,h=>by simp [AV.closed] at h
 | .bn _,_=>rfl
 | .pt _ _,_=>rfl
 | .atom _,_=>rfl
 | .sl _ _,_=>rfl
 | .rp _ _,_=>rfl
 | .nil,_=>rfl
 | .mH,_=>rfl
theorem tc {f g:Nat→Option Nat} (Pj:∀ k i,f k=some i→g i=some k):∀ (cs:List AV),AV.wR f cs=true→AV.uO g (AV.uO f cs)=cs
 | [],_=>rfl
 | c :: cs,h=>by
  simp only [AV.wR,bp] at h
  simp only [AV.uO]
  rw [Fq Pj c h.1,tc Pj cs h.2]
end
theorem Fs:∀ (ks:List Nat),na ks=true→∀ (i j k:Nat),ks[i]?=some k→ks[j]?=some k→i=j
 | [],_,i,j,k,h,_=>by simp at h
 | a :: r,h,i,j,k,hi,hj=>by
  simp only [na,bp] at h
  have none:∀ n:Nat,r[n]?=some a→False:=by
   intro n hn
   have:∀ (l:List Nat) (n:Nat),l[n]?=some a→(idx l a).isSome=true:=by
    intro l
    induction l with
    | nil=>intro n hn;simp at hn
    | cons b l ih =>
     intro n hn
     simp only [idx]
     cases hb:Nat.beq b a with
     | true=>rfl
     | false =>
      cases n with
      | zero=>simp at hn;rw [hn] at hb;simp at hb
      | succ n=>simpa using ih n (by simpa using hn)
   have:=this r n hn
   rw [Option.isNone_iff_eq_none] at h
   rw [h.1] at this
   cases this
  cases i with
  | zero =>
   simp at hi;subst hi
   cases j with
   | zero=>rfl
   | succ j=>exact (none j (by simpa using hj)).elim
  | succ i =>
   cases j with
   | zero=>simp at hj;subst hj;exact (none i (by simpa using hi)).elim
   | succ j=>rw [Fs r h.2 i j k (by simpa using hi) (by simpa using hj)]
theorem mJ:∀ (ks:List Nat) (k:Nat),idx ks k=none→∀ i:Nat,ks[i]?≠some k
 | [],k,_,i=>by simp
 | a :: r,k,h,i=>by
  simp only [idx] at h
  split at h
  ·cases h
  ·rename_i hb
   have h':idx r k=none:=by simpa using h
   cases i with
   | zero=>intro e;simp_all
   | succ i=>simpa using mJ r k h' i
theorem HT {σ:dD} {ks:List Nat}:∀ (l:List Nat) (i:Nat) (uP:dD),canon σ ks i l=some uP →
  ∀ n,au uP n=if i≤n then ((l[n - i]?).bind (au σ)).map (Ob.kN (idx ks)) else none
 | [],i,uP,h,n=>by grind [canon,au]
 | k :: r,i,uP,h,n=>by
  simp only [canon] at h
  split at h
  ·rename_i o t ho ht
   cases h
   simp only [au]
   by_cases zZ:i=n
   ·simp_all
   ·rw [pA zZ]
    show au t n=_
    rw [HT r (i+1) t ht n]
    grind
  ·cases h
theorem zh {σ:dD} {ks:List Nat}:∀ (l:List Nat) (i:Nat) (uP:dD),canon σ ks i l=some uP→∀ k∈l,∃ o,au σ k=some o
 | [],i,uP,h,k,hk=>by simp at hk
 | a :: r,i,uP,h,k,hk=>by
  simp only [canon] at h
  split at h
  ·rename_i o t ho ht
   rcases kI.1 hk with rfl | hk
   ·exact ⟨o,ho⟩
   ·exact zh r (i+1) t ht k hk
  ·cases h
theorem CD {ks:List Nat} {nk:Nat} {eV:dD}:∀ (l:List Nat) (i:Nat) (σ:dD) (n:Nat),(∀ a b k:Nat,l[a]?=some k→l[b]?=some k→a=b) →
  au (fI σ (Ai ks nk eV i l)) n=match idx l n with
   | some j=>(au eV (i+j)).map (Ob.kN (back ks nk))
   | none=>au σ n
 | [],i,σ,n,_=>by simp [Ai,fI,idx]
 | k :: r,i,σ,n,hd=>by
  have WB:∀ a b k:Nat,r[a]?=some k→r[b]?=some k→a=b:=fun a b q ha hb=>by
   have:=hd (a+1) (b+1) q (by simpa using ha) (by simpa using hb)
   omega
  have Zn:idx r k=none:=by
   cases hq:idx r k with
   | none=>rfl
   | some j =>
    have:=nz r k j hq
    have:=hd 0 (j+1) k (by simp) (by simpa using this)
    omega
  simp only [Ai]
  have step:au (fI σ ((k,(au eV i).map (Ob.kN (back ks nk))) :: Ai ks nk eV (i+1) r)) n=match idx r n with
    | some j=>(au eV (i+1+j)).map (Ob.kN (back ks nk))
    | none=>if k=n then (au eV i).map (Ob.kN (back ks nk)) else au σ n:=by
   cases hs:(au eV i).map (Ob.kN (back ks nk)) with
   | some o =>
    simp only [fI]
    rw [CD r (i+1) _ n WB,bj]
   | none =>
    simp only [fI]
    rw [CD r (i+1) _ n WB,fT]
  rw [step]
  simp only [idx]
  by_cases xu:k=n
  ·subst xu
   rw [Zn,sq rfl]
   simp
  ·rw [pA xu]
   cases hq:idx r n with
   | none=>simp [xu]
   | some j=>simp only [Option.map_some];rw [show i+1+j=i+(j+1) by omega]
def vB (z:Bool) (bs:List Nat):sx:=match z with
 | true=>bs.map fun k=>(k,none)
 | false=>[]
theorem mK (z:Bool):∀ (bs:List Nat) (σ:dD) (n:Nat),au (fI σ (vB z bs)) n=if z=true∧n∈bs then none else au σ n:=by
 cases z with
 | false=>grind [vB,fI]
 | true =>
  intro bs
  induction bs with
  | nil=>grind [vB,fI]
  | cons k r ih =>
   intro σ n
   have:=ih (vw σ k) n
   simp only [vB,List.map_cons,fI] at this ⊢
   rw [this,fT]
   by_cases h:k=n
   ·subst h;simp
   ·have h':¬ n=k:=fun e=>h e.symm
    simp [h,h']
theorem gD:∀ (u v:sx) (σ:dD),fI σ (u ++ v)=fI (fI σ u) v
 | [],v,σ=>rfl
 | (k,some o) :: r,v,σ=>by simp only [List.cons_append,fI];exact gD r v _
 | (k,none) :: r,v,σ=>by simp only [List.cons_append,fI];exact gD r v _
def I5 (n:Nat):dD→Bool
 | []=>true
 | (k,_) :: r=>Nat.ble n k && I5 n r
theorem HU {n:Nat}:∀ {τ:dD},I5 n τ=true→∀ j,j < n→au τ j=none
 | [],_,_,_=>rfl
 | (k,o) :: r,h,j,hj=>by
  simp only [I5,bp] at h
  simp only [au]
  rw [pA (by have:=Nat.le_of_ble_eq_true h.1;omega)]
  exact HU h.2 j hj
theorem Ft:∀ (σ τ:dD) (n:Nat),au (σ ++ τ) n=match au σ n with
  | some o=>some o
  | none=>au τ n
 | [],τ,n=>rfl
 | (k,o) :: r,τ,n=>by
  simp only [List.cons_append,au]
  split
  ·rfl
  ·exact Ft r τ n
def ET (P:Program) (ob:FuncId→List AV→dD→Nat→AV→dD→Prop) (nk:Nat) (σ:dD) (f:AV) (args:List AV) (bw:ow):Option R :=
 match f with
 | .fn (.func g) first cap=>match Kn P g,AV.qy σ bw.ks (first ++ (args ++ cap)),canon σ bw.ks 0 bw.ks with
  | true,some (as,bs,ps),some uP=>match na bw.ks && (bs.isEmpty || bw.xO || bw.res.J4) with
   | true=>match bw.same with
    | true=>match bw.oA with
     | []=>match yn σ bw.ks (bs.isEmpty || bw.xO) bw.ks with
      | some qs=>some ⟨ob g as uP bw.ks.length bw.res uP :: (qs ++ ps),bw.res.kN (back bw.ks nk),bw.ks ++ bs,vB bw.xO bs⟩
      | none=>none
     | q :: τ=>match bs.isEmpty || bw.xO,yn σ bw.ks true bw.ks,I5 bw.ks.length (q :: τ) && Fm (bw.ks.length+16) (q :: τ) && na ((q :: τ).map (·.1)) with
      | true,some qs,true=>some ⟨ob g as uP bw.ks.length bw.res (uP ++ q :: τ) :: (qs ++ ps),bw.res.kN (back bw.ks nk),bw.ks ++ bs,Bs bw.ks nk (q :: τ) ++ vB bw.xO bs⟩
      | _,_,_=>none
    | false=>match Fm (bw.ks.length+16) bw.oA && na (bw.oA.map (·.1)),Bt (bs.isEmpty || bw.xO) bw.oA with
     | true,some qs=>some ⟨ob g as uP bw.ks.length bw.res bw.oA :: (qs ++ ps),bw.res.kN (back bw.ks nk),bw.ks ++ bs,Ai bw.ks nk bw.oA 0 bw.ks ++ (Bs bw.ks nk bw.oA ++ vB bw.xO bs)⟩
     | _,_=>none
   | false=>none
  | _,_,_=>none
 | _=>none
def Fu (P:Program) (nk:Nat) (σ:dD) (f:AV) (args:List AV) (bw:ow):Option R:=ET P (Sound P) nk σ f args bw
theorem vC {ks:List Nat} {nk:Nat}:∀ (τ σ:dD) (n:Nat),Fm (ks.length+16) τ=true→(n < nk∨nk+16≤n)→au (fI σ (Bs ks nk τ)) n=au σ n
 | [],σ,n,_,_=>rfl
 | (k,o) :: r,σ,n,hl,hn=>by
  simp only [Fm,bp] at hl
  have hk:k < ks.length+16:=by
   have:=hl.1
   simp only [Nat.blt,Nat.ble_eq] at this
   exact this
  simp only [Bs]
  split
  ·rename_i hb
   have hb:=Nat.le_of_ble_eq_true hb
   simp only [fI]
   rw [vC r _ n hl.2 hn,bj,if_neg (by omega)]
  ·exact vC r σ n hl.2 hn
theorem Ko:∀ (τ:dD) (n:Nat) (o:Ob),au τ n=some o→n∈τ.map (·.1)
 | [],n,o,h=>by simp [au] at h
 | (k,x) :: r,n,o,h=>by
  simp only [au] at h
  split at h
  ·simp_all
  ·exact List.mem_cons_of_mem _ (Ko r n o h)
theorem Bu {ks:List Nat} {nk:Nat}:∀ (τ σ:dD) (j:Nat),na (τ.map (·.1))=true→au (fI σ (Bs ks nk τ)) (nk+j)=match au τ (ks.length+j) with
   | some o=>some (o.kN (back ks nk))
   | none=>au σ (nk+j)
 | [],σ,j,_=>rfl
 | (k,o) :: r,σ,j,hd=>by
  simp only [List.map_cons,na,bp,Option.isNone_iff_eq_none] at hd
  simp only [Bs,au]
  by_cases hk:k=ks.length+j
  ·subst hk
   rw [sq rfl]
   have Ha:au r (ks.length+j)=none:=by
    cases hs:au r (ks.length+j) with
    | none=>rfl
    | some x =>
     obtain ⟨i,hi⟩:=List.getElem?_of_mem (Ko r _ x hs)
     grind [mJ]
   have Zw:Nat.ble ks.length (ks.length+j)=true:=Nat.ble_eq_true_of_le (by omega)
   rw [Zw]
   simp only [fI]
   rw [Bu r _ j hd.2,Ha]
   simp_all [bj,if_pos]
  ·rw [pA hk]
   split
   ·rename_i hb
    have hb:=Nat.le_of_ble_eq_true hb
    simp only [fI]
    rw [Bu r _ j hd.2]
    split
    ·rfl
    ·rw [bj,if_neg (by omega)]
   ·exact Bu r σ j hd.2
mutual
theorem Oz {σ:dD} {ks:List Nat}:∀ (x y:AV) (bs:List Nat) (ps:List Prop),x.gu σ ks=some (y,bs,ps)→∀ k∈bs,idx ks k=none∧∃ o,au σ k=some o
 | .op k i j,y,bs,ps,h=>by
  simp only [AV.gu] at h
  grind
 | .os k off len,y,bs,ps,h=>by
  simp only [AV.gu] at h
  grind
 | .agg cs,y,bs,ps,h=>by
  simp only [AV.gu,aK] at h
  obtain ⟨⟨a,b,c⟩,h,e⟩:=h
  simp only [aA] at e
  obtain ⟨rfl,rfl,rfl⟩:=e
  exact qD cs a b c h
 | .tup cs,y,bs,ps,h=>by
  simp only [AV.gu,aK] at h
  obtain ⟨⟨a,b,c⟩,h,e⟩:=h
  simp only [aA] at e
  obtain ⟨rfl,rfl,rfl⟩:=e
  exact qD cs a b c h
 | .fn g x z,y,bs,ps,h=>by
  simp only [AV.gu] at h
  split at h
  ·rename_i a b c a' b' c' e1 e2
   simp only [aD,aA] at h
   obtain ⟨_,rfl,_⟩:=h
   intro k hk
   rcases List.mem_append.1 hk with hk | hk
   ·exact qD x a b c e1 k hk
   ·exact qD z a' b' c' e2 k hk
  ·cases h
 | .when _ _,y,bs,ps,h=>by simp [AV.gu] at h
 | .ov _ _ _ _ _,y,bs,ps,h=>by simp [AV.gu] at h
 | .Cq _ _ _,y,bs,ps,h=>by simp [AV.gu] at h
 | .nq _ _,y,bs,ps,h=>by simp [AV.gu] at h
 | .mr _ _ _,y,bs,ps,h=>by simp [AV.gu] at h
 | .mp k,y,bs,ps,h=>by
  simp only [AV.gu,aK,aA] at h
  grind
 | .bn _,y,bs,ps,h=>by simp [AV.gu] at h;simp_all
 | .pt _ _,y,bs,ps,h=>by simp [AV.gu] at h;simp_all
 | .atom _,y,bs,ps,h=>by simp [AV.gu] at h;simp_all
 | .sl _ _,y,bs,ps,h=>by simp [AV.gu] at h;simp_all
 | .rp _ _,y,bs,ps,h=>by simp [AV.gu] at h;simp_all
 | .nil,y,bs,ps,h=>by simp [AV.gu] at h;simp_all
 | .mH,y,bs,ps,h=>by simp [AV.gu] at h;simp_all
theorem qD {σ:dD} {ks:List Nat}:∀ (xs ys:List AV) (bs:List Nat) (ps:List Prop),AV.qy σ ks xs=some (ys,bs,ps)→∀ k∈bs,idx ks k=none∧∃ o,au σ k=some o
 | [],ys,bs,ps,h=>by simp [AV.qy] at h;simp_all
 | c :: cs,ys,bs,ps,h=>by
  simp only [AV.qy] at h
  split at h
  ·rename_i a b p a' b' p' e1 e2
   simp only [aD,aA] at h
   obtain ⟨_,rfl,_⟩:=h
   intro k hk
   rcases List.mem_append.1 hk with hk | hk
   ·exact Oz c a b p e1 k hk
   ·exact qD cs a' b' p' e2 k hk
  ·cases h
end
end Go.Ab
namespace Go.Ab
section
variable {P:Program} {E:Env} {nk:Nat} {σ:dD} {S:Nat→Prop} {μ:Mu} {w:World}
theorem RL.append {vs us:Array Value} {cs ds:List AV} (h:RL w S μ vs cs) (k:RL w S μ us ds):RL w S μ (vs ++ us) (cs ++ ds):=by
 refine ⟨by simp [h.1,k.1],?_⟩
 intro j c v hc hv
 have h1:=h.1
 by_cases hj:j < cs.length
 ·rw [iH hj] at hc
  rw [Array.getElem?_append_left (by omega)] at hv
  exact h.2 j c v hc hv
 ·rw [jS (by omega)] at hc
  rw [Array.getElem?_append_right (by omega),h1] at hv
  exact k.2 _ c v hc hv
theorem SC (g:Good E σ S μ w) {ks:List Nat} {vs:Array Value} {cs ys:List AV} {bs:List Nat} {ps:List Prop} (h:RL w S μ vs cs) (S':Nat→Prop) (hS:∀ b,S b→S' b)
  (hl:AV.qy σ ks cs=some (ys,bs,ps)) (hp:bq ps) (hb:∀ b,ym μ bs b→S' b):RL w S' (k7 μ ks) vs ys:=by
 have:=PU g (ks:=ks) (ar.agg h.1 h.2) S' hS (y:=.agg ys) (bs:=bs) (ps:=ps) (by simp [AV.gu,hl]) hp hb
 cases this with
 | agg h1 h2=>exact ⟨h1,h2⟩
theorem Nd {w':World} {S' Bi:Nat→Prop} {dy Ff:Mu} {o:Ob} {pl:Place} {c:Array Value} {T:TypeId} (h:gX w' S' dy o pl c T) (hf:o.flat=true) (ho:0 < pl.cap→¬ Bi pl.cQ) :
  gX w' Bi Ff o pl c T:=by
 unfold Ob.flat at hf
 simp only [bp] at hf
 have hl:=bW hf.1.1.2
 have SD:=Nat.le_of_ble_eq_true hf.1.2
 refine { h with out:=ho,rep:=?_,mp:=fun hz=>absurd hz (by omega) }
 intro i j x v hi hx hv
 have:i=0:=by omega
 subst this
 exact (h.rep 0 j x v hi hx hv).flat (vv hf.2 hx) _ _ _
mutual
theorem OA:∀ (x:AV),x.flat=true→x.pure=true
 | .atom _,_=>rfl
 | .nil,_=>rfl
 | .bn _,_=>rfl
 | .pt _ _,h=>by simp [AV.flat] at h
 | .mp _,h=>by simp [AV.flat] at h
 | .ov _ _ _ _ _,h=>by simp [AV.flat] at h
 | .Cq _ _ _,h=>by simp [AV.flat] at h
 | .nq _ _,h=>by simp [AV.flat] at h
 | .agg cs,h=>qE cs h
 | .tup cs,h=>qE cs h
 | .fn _ a b,h=>by
  simp only [AV.flat,bp] at h
  simp only [AV.pure,bp]
  exact ⟨qE a h.1,qE b h.2⟩
 | .sl _ _,h=>by simp [AV.flat] at h
 | .rp _ _,h=>by simp [AV.flat] at h
 | .op _ _ _,h=>by simp [AV.flat] at h
 | .os _ _ _,h=>by simp [AV.flat] at h
 | .when _ _,h=>by simp [AV.flat] at h
 | .mH,h=>by simp [AV.flat] at h
 | .mr _ _ _,h=>by simp [AV.flat] at h
theorem qE:∀ (cs:List AV),AV.yc cs=true→AV.l8 cs=true
 | [],_=>rfl
 | c :: cs,h=>by
  simp only [AV.yc,bp] at h
  simp only [AV.l8,bp]
  exact ⟨OA c h.1,qE cs h.2⟩
end
mutual
theorem Fv {f:Nat→Option Nat}:∀ (x:AV),x.pure=true→x.kN f=x
 | .op _ _ _,h=>by simp [AV.pure] at h
 | .os _ _ _,h=>by simp [AV.pure] at h
 | .mp _,h=>by simp [AV.pure] at h
 | .ov _ _ _ _ _,h=>by simp [AV.pure] at h
 | .Cq _ _ _,h=>by simp [AV.pure] at h
 | .mr _ _ _,h=>by simp [AV.pure] at h
 | .bn _,_=>rfl
 | .pt _ _,_=>rfl
 | .agg cs,h=>by simp only [AV.kN];rw [td cs h]
 | .tup cs,h=>by simp only [AV.kN];rw [td cs h]
 | .fn q a b,h=>by
  simp only [AV.pure,bp] at h
  simp only [AV.kN];rw [td a h.1,td b h.2]
 | .when b x,h=>by simp only [AV.kN];rw [Fv x h]
 | .nq b x,h=>by simp only [AV.kN];rw [Fv x h]
 | .atom _,_=>rfl
 | .sl _ _,_=>rfl
 | .rp _ _,_=>rfl
 | .nil,_=>rfl
 | .mH,_=>rfl
theorem td {f:Nat→Option Nat}:∀ (cs:List AV),AV.l8 cs=true→AV.uO f cs=cs
 | [],_=>rfl
 | c :: cs,h=>by
  simp only [AV.l8,bp] at h
  simp only [AV.uO]
  rw [Fv c h.1,td cs h.2]
end
theorem Nf {w':World} {S':Nat→Prop} {dy:Mu} {o o':Ob} {pl:Place} {c:Array Value} {T:TypeId} (h:gX w' S' dy o' pl c T) (z1:o'.sz=o.sz) (z2:o'.len=o.len) (z3:o'.pr=o.pr)
  (hl:o.len=1) (h0:o'.get 0=o.get 0):gX w' S' dy o pl c T:=by
 have q1:∀ i,i < o.len→o.get i=o'.get i:=fun i hi=>by
  simp_all
 refine ⟨h.sz.trans z1,z1 ▸ h.cQ,z1 ▸ h.cap,z2 ▸ h.len,h.out,?_,?_,fun hz=>by rw [← h0,← z3];exact h.mp (z1.trans hz)⟩
 ·intro i hi
  rw [q1 i hi,← z1]
  exact h.ub i (by omega)
 ·intro i j x v hi hx hv
  rw [q1 i hi] at hx
  rw [← z3]
  exact h.rep i j x v (by omega) hx (by rw [z1];exact hv)
theorem SE {w':World} {S':Nat→Prop} {dy:Mu} {o o':Ob} {pl:Place} {c:Array Value} {T:TypeId} (h:gX w' S' dy o' pl c T) (z1:o'.sz=o.sz) (z2:o'.len=o.len) (z3:o'.pr=o.pr)
  (LS:o.pr=false) (q1:∀ i,i < o.len→o.get i=o'.get i):gX w' S' dy o pl c T:=by
 refine ⟨h.sz.trans z1,z1 ▸ h.cQ,z1 ▸ h.cap,z2 ▸ h.len,h.out,?_,?_,fun hz=>?_⟩
 ·intro i hi
  rw [q1 i hi,← z1]
  exact h.ub i (by omega)
 ·intro i j x v hi hx hv
  rw [q1 i hi] at hx
  rw [← z3]
  exact h.rep i j x v (by omega) hx (by rw [z1];exact hv)
 ·have:=(h.mp (z1.trans hz)).2.2.2.1
  simp_all
theorem Fw {w':World} {S' Bi:Nat→Prop} {dy Ff:Mu} {o:Ob} {pl:Place} {c:Array Value} {T:TypeId} (h:gX w' S' dy o pl c T) {ps:List Prop} (hf:uv o=some ps) (hp:bq ps) (ho:0 < pl.cap→¬ Bi pl.cQ) :
  gX w' Bi Ff o pl c T:=by
 unfold uv at hf
 split at hf
 ·grind [Nd]
 ·split at hf
  ·rename_i hb
   cases hf
   simp only [bp] at hb
   have SD:=Nat.le_of_ble_eq_true hb.2
   refine { h with out:=ho,rep:=?_,mp:=fun hz=>absurd hz (by omega) }
   intro i j x v hi hx hv
   exact (h.rep i j x v hi hx hv).flat (vv (hp.1 i hi) hx) _ _ _
  ·cases hf
theorem Bv {w':World} {S' Bi:Nat→Prop} {dy:Mu} {o:Ob} {pl:Place} {c:Array Value} {T:TypeId} (h:gX w' S' dy o pl c T) (hS:∀ b,S' b→Bi b) (ho:0 < pl.cap→¬ Bi pl.cQ):gX w' Bi dy o pl c T :=
 { h with
  out:=ho
  rep:=fun i j x v hi hx hv=>ar.mono hS (fun _ _=>rfl) (h.rep i j x v hi hx hv) (fun _ _ h=>h)
  mp:=fun hz=>let ⟨m0,m1,m2,m3,m4⟩:=h.mp hz
   ⟨m0,m1,m2,m3,fun j x v hx hv=>ar.mono hS (fun _ _=>rfl) (m4 j x v hx hv) (fun _ _ h=>h)⟩ }
theorem Ng {w':World} {S' Bi:Nat→Prop} {dy Ff:Mu} {o:Ob} {pl:Place} {c:Array Value} {T:TypeId} {ks:List Nat} {nk:Nat} {lone:Bool} (h:gX w' S' dy (o.kN (idx ks)) pl c T)
  {ps:List Prop} (J5:CC ks lone o=some ps) (hp:bq ps) (hS:lone=true→∀ b,S' b→Bi b) (ho:0 < pl.cap→¬ Bi pl.cQ)
  (hm:∀ k k' pl,back ks nk k=some k'→dy k=some pl→Ff k'=some pl):gX w' Bi Ff o pl c T:=by
 unfold CC at J5
 split at J5
 case h_2 =>
  split at J5
  ·grind [idx,Ob.kN,Fw]
  ·rename_i LS
   split at J5
   case h_2=>cases J5
   rename_i hl
   cases J5
   simp only [bp,Bool.not_eq_true'] at hl
   have h2:=h.kN hm
   refine Bv (SE h2 (by rw [Ob.tu,Ob.tu]) (by grind [Ob.zg]) (by rw [Ob.CB,Ob.CB]) LS fun i hi=>?_) (hS hl.1) ho
   have hr:Fp (o.get i)=true:=hp.1 i hi
   simp_all [Ob.kN,HS]
 rename_i hq
 cases hf:o.flat with
 | true =>
  have Zx:=hf
  unfold Ob.flat at Zx
  simp only [bp] at Zx
  have hl:=bW Zx.1.1.2
  refine Nd (Nf h (Ob.tu _ _) (Ob.zg _ _) (Ob.CB _ _) hl ?_) hf ho
  grind [Ob.kN,td,qE]
 | false =>
  rw [hf,Bool.false_or,bp] at hq
  have hS:=hS hq.1
  have h2:=h.kN hm
  have xx:∀ k i,idx ks k=some i→back ks nk i=some k:=fun k i hk=>by
   grind [back,nz]
  have h3:gX w' S' Ff o pl c T:=by
   have hc:=hq.2
   unfold Ob.closed at hc
   cases hp:o.pr with
   | true =>
    grind [idx,back,Ob.kN]
   | false =>
    rw [hp,Bool.false_or] at hc
    simp only [bp] at hc
    refine Nf h2 (by rw [Ob.tu,Ob.tu]) (by grind [Ob.zg]) (by rw [Ob.CB,Ob.CB]) (bW hc.1.2) ?_
    simp only [Ob.kN,hp]
    grind [tc]
  exact Bv h3 hS ho
theorem wT {σ:dD} {ks:List Nat} {lone:Bool}:∀ (l:List Nat) (qs:List Prop),yn σ ks lone l=some qs→bq qs→∀ k∈l,∀ o,au σ k=some o→∃ ps,CC ks lone o=some ps∧bq ps
 | [],_,_,_,k,hk=>by simp at hk
 | a :: r,qs,h,hq,k,hk=>by
  intro o ho
  simp only [yn] at h
  split at h
  ·rename_i o1 xy
   split at h
   ·rename_i p q h1 h2
    cases h
    obtain ⟨q1,q2⟩:=bq.app hq
    rcases kI.1 hk with rfl | hk
    ·simp_all
    ·exact wT r q h2 q2 k hk o ho
   ·cases h
  ·cases h
theorem sJ {lone:Bool}:∀ (σ:dD) (qs:List Prop),Bt lone σ=some qs→bq qs→∀ k o,au σ k=some o→lone=true∨∃ ps,uv o=some ps∧bq ps
 | [],_,_,_,k,o,h=>by simp [au] at h
 | (a,x) :: r,qs,h,hq,k,o,hk=>by
  simp only [Bt] at h
  split at h
  ·exact .inl rfl
  ·split at h
   ·rename_i p q h1 h2
    cases h
    obtain ⟨q1,q2⟩:=bq.app hq
    simp only [au] at hk
    split at hk
    ·simp_all
    ·exact sJ r q h2 q2 k o hk
   ·cases h
theorem uQ {o:Ob} {ps:List Prop} (h:uv o=some ps) (hp:bq ps) (i:Nat):rowOf o i=none:=by
 unfold uv at h
 split at h
 ·simp_all [Ob.flat,bp,yd]
 ·split at h
  ·cases h
   cases hr:rowOf o i with
   | none=>rfl
   | some x =>
    obtain ⟨_,h2,h3⟩:=di hr
    have:=hp.1 i h2
    rw [h3] at this;cases this
  ·cases h
theorem I6 {ks:List Nat} {o:Ob} {ps:List Prop} (h:CC ks false o=some ps) (hp:bq ps) (i:Nat):rowOf o i=none:=by
 unfold CC at h
 rw [Bool.false_and,Bool.or_false] at h
 split at h
 ·simp_all [uQ,uv,trivial]
 ·split at h
  ·exact uQ h hp i
  simp_all
theorem Kp (g:Good E σ S μ w) (Ax:∀ j,j < 16→μ (nk+j)=none) (uu:E.m0≤nk) {f:AV} {args:List AV} {bw:ow} {r:R} {fv:Value} (hf:ar w S μ fv f) {Bw:Array Value} (ha:RL w S μ Bw args)
  (hz:bw.xO=true→∀ b,¬ E.fp b) {ob:FuncId→List AV→dD→Nat→AV→dD→Prop}
  (dh:∀ gid as bs uP res eV vs,ob gid as uP bw.ks.length res eV→Good (yl w (fun b=>S b∨ym μ bs b) uP (k7 μ bw.ks) bw.ks.length) uP (fun b=>S b∨ym μ bs b) (k7 μ bw.ks) w→(∀ k,bw.ks.length≤k→k7 μ bw.ks k=none) →
   RL w (fun b=>S b∨ym μ bs b) (k7 μ bw.ks) vs as→Calls P gid vs w fun e w'=>∃ v S' dy,e=.returned v∧Good (yl w (fun b=>S b∨ym μ bs b) uP (k7 μ bw.ks) bw.ks.length) eV S' dy w'∧ar w' S' dy v res)
  (h:ET P ob nk σ f args bw=some r) (hp:bq r.HR) :
  ∃ gid vs,(do let d ← Deferred.ofValue fv Bw;invoke d.target d.args:Sem Next).run P w=.ok (.enter gid vs) w ∧
   Calls P gid vs w fun e w'=>∃ v S' dy,e=.returned v∧Ext w S μ w' S' dy∧Good E (fI σ r.mF) S' dy w'∧(∀ k,(k < nk∨nk+16≤k)→μ k=none→dy k=none)∧ar w' S' dy v r.val:=by
 unfold ET at h
 split at h
 case h_2=>cases h
 rename_i gid first cap
 split at h
 case h_2=>cases h
 rename_i as bs ps uP Fx Uv SG
 split at h
 case h_2=>cases h
 rename_i W8
 rw [bp] at W8
 obtain ⟨YH,OB⟩:=W8
 have SH:=Fs bw.ks YH
 cases hf with
 | fn f1 f2 f3 f4 =>
 rename_i YI YJ
 refine ⟨gid,YI ++ Bw ++ YJ,?_,?_⟩
 ·unfold Kn at Fx
  split at Fx
  ·rename_i fn W9
   simp only [bp,Bool.not_eq_true'] at Fx
   have hb:¬ fn.body=none:=by intro hh;rw [hh] at Fx;simp at Fx
   have fx:¬ fn.name = "runtime.NumGoroutine":=by simpa using Fx.2
   simp [Deferred.ofValue,invoke,callFunc,W9,fx,hb]
  ·cases Fx
 have Vh:=qD _ _ _ _ Uv
 have SI:=HT bw.ks 0 uP SG
 simp only [Nat.zero_le,if_true,Nat.sub_zero] at SI
 -- the state in which the callee begins
 have hps:bq ps:=by
  split at h
  ·split at h
   ·split at h
    ·cases h;exact (bq.app hp.2).2
    ·cases h
   ·split at h
    ·cases h;exact (bq.app hp.2).2
    ·cases h
  ·split at h
   ·cases h;exact (bq.app hp.2).2
   ·cases h
 have xP:RL w (fun b=>S b∨ym μ bs b) (k7 μ bw.ks) (YI ++ Bw ++ YJ) as:=by
  have YK:RL w S μ (YI ++ Bw ++ YJ) (first ++ (args ++ cap)):=by
   have:=RL.append (w:=w) (S:=S) (μ:=μ) ⟨f1,f3⟩ (RL.append ha ⟨f2,f4⟩)
   rwa [← Array.append_assoc] at this
  exact SC g YK _ (fun _ h=>.inl h) Uv hps (fun _ h=>.inr h)
 have gY:∀ k o pl,au σ k=some o→μ k=some pl→0 < pl.cap→pl.cQ < w.heap.size:=fun k o pl ho hm hc=>by
  obtain ⟨kn,c,T,gZ,dh⟩:=g.rep.ob k o ho
  rw [hm] at gZ;cases gZ
  exact gC (dh.cQ hc)
 have Xa:∀ k o pl,au σ k=some o→μ k=some pl→0 < pl.cap→¬ S pl.cQ:=fun k o pl ho hm hc=>by
  obtain ⟨kn,c,T,gZ,dh⟩:=g.rep.ob k o ho
  rw [hm] at gZ;cases gZ
  exact dh.out hc
 have DK:∀ i o',au uP i=some o'→∃ k o,bw.ks[i]?=some k∧au σ k=some o∧o'=o.kN (idx bw.ks):=by
  intro i o' h
  rw [SI] at h
  simp only [aK,Option.bind_eq_some_iff] at h
  obtain ⟨o,⟨k,hk,ho⟩,rfl⟩:=h
  exact ⟨k,o,hk,ho,rfl⟩
 have Nh:∀ i j x v,je w (k7 μ bw.ks) uP i j x v→∃ k,bw.ks[i]?=some k∧je w μ σ k j x v:=by
  rintro i j x v ⟨o',pl,h1,h2,h3,h4⟩
  obtain ⟨k,o,hk,ho,rfl⟩:=DK i o' h1
  exact ⟨k,hk,o,pl,ho,(qC _ _ _ _).1 h2,by simpa [k7,hk] using h3,h4⟩
 have PV:∀ b,SA w uP (k7 μ bw.ks) b→(∃ (k i:Nat) (o:Ob) (pl:Place),bw.ks[i]?=some k∧au σ k=some o∧μ k=some pl∧0 < pl.cap∧pl.cQ=b) ∨
   ∃ (k i j:Nat) (x:Nat×Nat×(Nat→List AV)) (v:Value),bw.ks[i]?=some k∧je w μ σ k j x v∧ptrTo v b:=by
  rintro b (⟨i,o',pl,hi,hm,hc,hb⟩ | ⟨i,j,x,v,hv,hb⟩)
  ·obtain ⟨k,o,hk,ho,_⟩:=DK i o' hi
   refine .inl ⟨k,i,o,pl,hk,ho,?_,hc,hb⟩
   simpa [k7,hk] using hm
  ·obtain ⟨k,hk,tn⟩:=Nh i j x v hv
   exact .inr ⟨k,i,j,x,v,hk,tn,hb⟩
 have PW:∀ k i x v b,je w μ σ k i x v→ptrTo v b→¬ ym μ bs b:=by
  rintro k i x v b hv hb ⟨k',ph,kn,gZ,oU,he⟩
  obtain ⟨_,o2,DF⟩:=Vh k' ph
  exact g.mx.obj _ _ _ _ _ hv hb k' o2 kn DF gZ oU he
 have g0:Good (yl w (fun b=>S b∨ym μ bs b) uP (k7 μ bw.ks) bw.ks.length) uP (fun b=>S b∨ym μ bs b) (k7 μ bw.ks) w:=by
  refine ⟨Fr.refl _ _,fun _ h=>h,?_,fun _ h=>.inl h,⟨?_,?_⟩,fun k o pl hk hm hc=>.inl (.inl ⟨k,o,pl,hk,hm,hc,rfl⟩),fun _ _=>rfl,?_⟩
  ·rintro b (hb | ⟨k,hk,pl,hm,hc,rfl⟩)
   ·exact g.S1 b hb
   ·obtain ⟨_,o,ho⟩:=Vh k hk
    exact gY k o pl ho hm hc
  ·intro i o' hi
   obtain ⟨k,o,hk,ho,rfl⟩:=DK i o' hi
   obtain ⟨pl,c,T,hm,dh⟩:=g.rep.ob k o ho
   refine ⟨pl,c,T,by simp [k7,hk,hm],?_⟩
   have h1:=dh.kN (f:=idx bw.ks) (dy:=k7 μ bw.ks) (fun a b pl ha hb=>Br a b pl ha hb)
   refine h1.ext (w':=w) ⟨az _,fun _ h=>.inl h,fun _ _=>rfl,fun _ _ h=>h⟩ (fun _=>rfl) ?_
   rintro hc (hS | ⟨k',ph,kn,gZ,oU,he⟩)
   ·exact dh.out hc hS
   ·obtain ⟨Ha,o2,DF⟩:=Vh k' ph
    have fx:k≠k':=fun h=>mJ _ _ Ha i (h ▸ hk)
    exact g.rep.ne k k' o o2 pl kn fx ho DF hm gZ hc oU he.symm
  ·intro i i' o o' pl kn fx hi rN hm gZ hc oU
   obtain ⟨k,oo,hk,ho,_⟩:=DK i o hi
   obtain ⟨k',oo',ph,wA,_⟩:=DK i' o' rN
   have PX:k≠k':=fun h=>fx (SH i i' k hk (h ▸ ph))
   exact g.rep.ne k k' oo oo' pl kn PX ho wA (by simpa [k7,hk] using hm) (by simpa [k7,ph] using gZ) hc oU
  ·refine g.mx.tr (fun i=>bw.ks.getD i 0) (fun i j x v h=>?_) (fun i j x v i' j' x' v' h h' e=>?_) (fun _ h=>.inl h) (fun _ _=>rfl) (fun i j x v b hv h hb=>?_) (fun i o' pl h1 h2 h3=>?_)
   ·obtain ⟨k,hk,hv⟩:=Nh i j x v h
    show je w μ σ (bw.ks.getD i 0) j x v
    rw [fB,hk];exact hv
   ·obtain ⟨k,hk,_⟩:=Nh i j x v h
    obtain ⟨k',ph,_⟩:=Nh i' j' x' v' h'
    have e:bw.ks.getD i 0=bw.ks.getD i' 0:=e
    rw [fB,fB,hk,ph] at e
    have e:k=k':=e
    exact SH i i' k hk (e ▸ ph)
   ·obtain ⟨q1,q2,q3,_⟩:=g.mx.cQ h hb
    exact ⟨rfl,fun hs=>hs.elim q2 (PW _ _ _ _ _ h hb),fun _=>.inl (.inr ⟨i,j,x,v,hv,hb⟩)⟩
   ·obtain ⟨k,o,hk,ho,_⟩:=DK i o' h1
    exact .inl ⟨k,o,pl,ho,by simpa [k7,hk] using h2,h3,rfl⟩
 have PY:∀ k,bw.ks.length≤k→k7 μ bw.ks k=none:=fun k hk=>by simp [k7,oP hk]
 -- behind the call
 have xu:∀ k o,au σ k=some o→k < nk∨nk+16≤k:=by
  intro k o ho
  rcases Nat.lt_or_ge k nk with h1 | h1
  ·exact .inl h1
  ·rcases Nat.lt_or_ge k (nk+16) with h2 | h2
   ·obtain ⟨pl,c,T,hm,_⟩:=g.rep.ob k o ho
    have:=Ax (k - nk) (by omega)
    rw [show nk+(k - nk)=k by omega,hm] at this
    cases this
   ·exact .inr h2
 have fin:∀ (eV:dD) (L8:dD),ob gid as uP bw.ks.length bw.res eV →
   (∀ n,idx bw.ks n=none→(n < nk∨nk+16≤n)→au L8 n=if bw.xO=true∧n∈bs then none else au σ n) →
   (∀ j,j < 16→∀ o,au L8 (nk+j)=some o→∃ o1,au eV (bw.ks.length+j)=some o1∧o=o1.kN (back bw.ks nk)) →
   (∀ (w':World) (S' Bi:Nat→Prop) (dy:Mu),((bs.isEmpty || bw.xO)=true→∀ b,S' b→Bi b)→∀ j,j < 16→∀ o1 pl c T,au eV (bw.ks.length+j)=some o1→gX w' S' dy o1 pl c T→(0 < pl.cap→¬ Bi pl.cQ)→gX w' Bi dy o1 pl c T) →
   (∀ (w':World) (S' Bi:Nat→Prop) (dy Kq:Mu),Good (yl w (fun b=>S b∨ym μ bs b) uP (k7 μ bw.ks) bw.ks.length) eV S' dy w'→((bs.isEmpty || bw.xO)=true→∀ b,S' b→Bi b) →
    (∀ k k' pl,back bw.ks nk k=some k'→dy k=some pl→Kq k'=some pl)→∀ (k i:Nat) (o:Ob) (pl:Place),bw.ks[i]?=some k→au L8 k=some o→μ k=some pl→(0 < pl.cap→¬ Bi pl.cQ)→∃ c T,gX w' Bi Kq o pl c T) →
   (∀ (k i:Nat) (o:Ob),bw.ks[i]?=some k→au L8 k=some o→(∃ o1,au σ k=some o1)∧∃ o2,au eV i=some o2) →
   (∀ (k i:Nat) (o:Ob),bw.ks[i]?=some k→au L8 k=some o→∀ j x,rowOf o j=some x→∃ o2,au eV i=some o2∧rowOf o2 j=some x) →
   ((bs.isEmpty || bw.xO)=false→∀ n o,au eV n=some o→∀ i,rowOf o i=none) →
   Calls P gid (YI ++ Bw ++ YJ) w fun e w'=>∃ v S' dy,e=.returned v∧Ext w S μ w' S' dy∧Good E L8 S' dy w'∧(∀ k,(k < nk∨nk+16≤k)→μ k=none→dy k=none)∧ar w' S' dy v (bw.res.kN (back bw.ks nk)):=by
  intro eV L8 Vi I7 Sq Xb Zy SJ Xc Vj
  refine (dh gid as bs uP _ _ _ Vi g0 PY xP).mono ?_
  rintro e w' ⟨v,S',dy,rfl,g',hv⟩
  have Kr:∀ b,b < w.heap.size→(∀ (k i:Nat) (o:Ob) (pl:Place),bw.ks[i]?=some k→au σ k=some o→μ k=some pl→0 < pl.cap→pl.cQ≠b) →
    (∀ (k i j:Nat) (x:Nat×Nat×(Nat→List AV)) (v:Value),bw.ks[i]?=some k→je w μ σ k j x v→¬ ptrTo v b)→w'.heap[b]?=w.heap[b]?:=by
   intro b hb Ha Zz
   refine g'.fr.cQ b hb fun SK=>?_
   rcases PV b SK with ⟨k,i,o,pl,hk,ho,hm,hc,he⟩ | ⟨k,i,j,x,v,hk,hv,he⟩
   ·exact Ha k i o pl hk ho hm hc he
   ·exact Zz k i j x v hk hv he
  have hSb:∀ b,S b→w'.heap[b]?=w.heap[b]?:=fun b hb=>Kr b (g.S1 b hb) (fun k i o pl hk ho hm hc he=>Xa k o pl ho hm hc (he ▸ hb)) fun k i j x v hk hv he=>(g.mx.cQ hv he).2.1 hb
  let Kq:Mu:=fun k=>if nk≤k∧k < nk+16 then dy (bw.ks.length+(k - nk)) else μ k
  have Fy:∀ k,(k < nk∨nk+16≤k)→Kq k=μ k:=fun k hk=>by
   show (if nk≤k∧k < nk+16 then _ else _)=_
   rw [if_neg (by omega)]
  have I8:∀ j,j < 16→Kq (nk+j)=dy (bw.ks.length+j):=fun j hj=>by
   show (if nk≤nk+j∧nk+j < nk+16 then _ else _)=_
   rw [if_pos (by omega)];congr 1;omega
  have SL:∀ k pl,μ k=some pl→Kq k=some pl:=by
   intro k pl hk
   have hn:k < nk∨nk+16≤k:=by
    rcases Nat.lt_or_ge k nk with h1 | h1
    ·exact .inl h1
    ·rcases Nat.lt_or_ge k (nk+16) with h2 | h2
     ·have:=Ax (k - nk) (by omega)
      rw [show nk+(k - nk)=k by omega,hk] at this
      cases this
     ·exact .inr h2
   rw [Fy k hn];exact hk
  have xx:∀ k k' pl,back bw.ks nk k=some k'→dy k=some pl→Kq k'=some pl:=by
   intro k k' pl hk hm
   unfold back at hk
   split at hk
   ·rename_i q hq
    cases hk
    have gY:k < bw.ks.length:=(dU.1 hq).1
    rw [g'.EO k gY] at hm
    have:k7 μ bw.ks k=some pl:=hm
    refine SL _ _ ?_
    simpa [k7,show bw.ks[k]?=some _ from hq] using this
   ·rename_i hq
    split at hk
    ·rename_i hb
     cases hk
     have gY:k < bw.ks.length+16:=by
      simp only [Nat.blt,Nat.ble_eq] at hb;exact hb
     have ZA:bw.ks.length≤k:=List.getElem?_eq_none_iff.1 hq
     rw [I8 _ (by omega),show bw.ks.length+(k - bw.ks.length)=k by omega];exact hm
    ·cases hk
  let SF:Nat→Prop:=fun b=>S b∨(bw.xO=true∧ym μ bs b)∨(S' b∧w.heap.size≤b)
  have hSF:∀ b,SF b→S' b:=by
   rintro b (h1 | ⟨_,h1⟩ | ⟨h1,_⟩)
   ·exact g'.S0 b (.inl h1)
   ·exact g'.S0 b (.inr h1)
   ·exact h1
  have Uw:(bs.isEmpty || bw.xO)=true→∀ b,S' b→SF b:=by
   intro he b hb
   rcases g'.S2 b hb with (h1 | h0) | h1
   ·exact .inl h1
   ·rcases Bool.or_eq_true_iff.1 he with he | he
    ·obtain ⟨k,hk,_⟩:=h0
     rw [List.isEmpty_iff] at he;rw [he] at hk;simp at hk
    ·exact .inr (.inl ⟨he,h0⟩)
   ·exact .inr (.inr ⟨hb,h1⟩)
  have hold:∀ k o,au L8 k=some o→(k < nk∨nk+16≤k)→∃ o1,au σ k=some o1:=by
   intro k o ho hn
   cases hi:idx bw.ks k with
   | none =>
    rw [I7 k hi hn] at ho
    split at ho
    ·cases ho
    ·exact ⟨o,ho⟩
   | some i=>exact (SJ k i o (nz _ _ _ hi) ho).1
  have hnl:∀ k o,au L8 k=some o→bw.xO=true→k ∉ bs:=by
   intro k o ho Pc hk
   obtain ⟨Ha,o2,DF⟩:=Vh k hk
   rw [I7 k Ha (xu k o2 DF),if_pos ⟨Pc,hk⟩] at ho
   cases ho
  have Ni:∀ k o0 o pl,au L8 k=some o0→au σ k=some o→μ k=some pl→0 < pl.cap→¬ SF pl.cQ:=by
   rintro k o0 o pl ri ho hm hc (h1 | ⟨Pc,k',ph,kn,gZ,oU,he⟩ | ⟨_,h1⟩)
   ·exact Xa k o pl ho hm hc h1
   ·obtain ⟨_,o2,DF⟩:=Vh k' ph
    have fx:k≠k':=fun h=>hnl k o0 ri Pc (h ▸ ph)
    exact g.rep.ne k k' o o2 pl kn fx ho DF hm gZ hc oU he.symm
   ·have:=gY k o pl ho hm hc;omega
  -- a new object, as the callee has left it
  have L9:∀ j,j < 16→∀ o,au L8 (nk+j)=some o→∃ o1 pl c T,au eV (bw.ks.length+j)=some o1∧o=o1.kN (back bw.ks nk)∧dy (bw.ks.length+j)=some pl∧gX w' S' dy o1 pl c T:=by
   intro j hj o ho
   obtain ⟨o1,h1,h2⟩:=Sq j hj o ho
   obtain ⟨pl,c,T,h3,h4⟩:=g'.rep.ob _ o1 h1
   exact ⟨o1,pl,c,T,h1,h2,h3,h4⟩
  have yp:∀ k,(k < nk∨nk+16≤k)∨∃ j,j < 16∧k=nk+j:=fun k=>by
   rcases Nat.lt_or_ge k nk with h1 | h1
   ·exact .inl (.inl h1)
   ·rcases Nat.lt_or_ge k (nk+16) with h2 | h2
    ·exact .inr ⟨k - nk,by omega,by omega⟩
    ·exact .inl (.inr h2)
  -- the block of a new object is none of the caller's
  have Ux:∀ j o1 pl,au eV (bw.ks.length+j)=some o1→dy (bw.ks.length+j)=some pl→0 < pl.cap →
    (∃ (k i:Nat) (o:Ob) (kn:Place),bw.ks[i]?=some k∧au σ k=some o∧μ k=some kn∧0 < kn.cap∧kn.cQ=pl.cQ) ∨
    (∃ (k i j:Nat) (x:Nat×Nat×(Nat→List AV)) (v:Value),bw.ks[i]?=some k∧je w μ σ k j x v∧ptrTo v pl.cQ)∨w.heap.size≤pl.cQ:=by
   intro j o1 pl h1 h2 h3
   rcases g'.own _ o1 pl h1 h2 h3 with h4 | h4
   ·exact (PV _ h4).elim .inl fun h=>.inr (.inl h)
   ·exact .inr (.inr h4)
  -- new and old ones lie apart
  have PZ:∀ j,j < 16→∀ k o o' pl kn,au L8 (nk+j)=some o→au L8 k=some o'→(k < nk∨nk+16≤k)→Kq (nk+j)=some pl→Kq k=some kn→0 < pl.cap→0 < kn.cap→pl.cQ≠kn.cQ:=by
   intro j hj k o o' pl kn ho wA hn hm gZ hc oU he
   obtain ⟨o1,Bj,c1,T1,h1,h2,h3,h4⟩:=L9 j hj o ho
   rw [I8 j hj,h3] at hm;cases hm
   rw [Fy k hn] at gZ
   cases hi:idx bw.ks k with
   | some i =>
    have Pk:=nz _ _ _ hi
    obtain ⟨_,o2,DF⟩:=SJ k i o' Pk wA
    have LV:i < bw.ks.length:=(dU.1 Pk).1
    have Bp:dy i=some kn:=by
     rw [g'.EO i LV]
     show k7 μ bw.ks i=_
     simp [k7,Pk,gZ]
    exact g'.rep.ne (bw.ks.length+j) i o1 o2 pl kn (by omega) h1 DF h3 Bp hc oU he
   | none =>
    obtain ⟨o3,LR⟩:=hold k o' wA hn
    rcases Ux j o1 pl h1 h3 hc with ⟨k2,i2,o4,SN,q1,q2,q3,q4,q5⟩ | ⟨k2,i2,j2,x2,v2,q1,q2,q3⟩ | h5
    ·have fx:k2≠k:=fun h=>mJ _ _ hi i2 (h ▸ q1)
     exact g.rep.ne k2 k o4 o3 SN kn fx q2 LR q3 gZ q4 oU (q5.trans he)
    ·exact g.mx.obj _ _ _ _ _ q2 q3 k o3 kn LR gZ oU he.symm
    ·have:=gY k o3 kn LR gZ oU
     omega
  have ext:Ext w S μ w' SF Kq:=⟨g'.fr.size,fun _ h=>.inl h,hSb,SL⟩
  -- the rows
  have cls:∀ k i x v,je w' Kq L8 k i x v→(idx bw.ks k=none∧(k < nk∨nk+16≤k)∧je w μ σ k i x v)∨((bs.isEmpty || bw.xO)=true∧∃ q,back bw.ks nk q=some k∧je w' dy eV q i x v):=by
   rintro k i x v ⟨o,pl,h1,h2,h3,h4⟩
   have Uy:∀ n o2,au eV n=some o2→rowOf o2 i=some x→(bs.isEmpty || bw.xO)=true:=by
    intro n o2 DF eX
    cases P0:(bs.isEmpty || bw.xO) with
    | true=>rfl
    | false=>rw [Vj P0 n o2 DF i] at eX;cases eX
   rcases yp k with hn | ⟨j,hj,rfl⟩
   ·cases hi:idx bw.ks k with
    | none =>
     have ri:=h1
     rw [I7 k hi hn] at ri
     split at ri
     ·cases ri
     rw [Fy k hn] at h3
     obtain ⟨sI,c,T,hm,dh⟩:=g.rep.ob k o ri
     rw [h3] at hm;cases hm
     refine .inl ⟨rfl,hn,o,pl,ri,h2,h3,?_⟩
     have hc:0 < pl.cap:=by have:=(di h2).2.1;have:=dh.len;omega
     rw [← h4]
     refine (rf (Kr _ (gC (dh.cQ hc)) ?_ ?_) _).symm
     ·intro k' i' o' kn ph wA gZ oU he
      have fx:k'≠k:=fun h=>mJ _ _ hi i' (h ▸ ph)
      exact g.rep.ne k' k o' o kn pl fx wA ri gZ h3 oU hc he
     ·intro k' i' j' x' v' ph tn he
      exact g.mx.obj _ _ _ _ _ tn he k o pl ri h3 hc rfl
    | some i0 =>
     have Pk:=nz _ _ _ hi
     obtain ⟨o2,DF,eX⟩:=Xc k i0 o Pk h1 i x h2
     have LV:i0 < bw.ks.length:=(dU.1 Pk).1
     refine .inr ⟨Uy i0 o2 DF eX,i0,by unfold back;rw [Pk],o2,pl,DF,eX,?_,h4⟩
     rw [g'.EO i0 LV]
     rw [Fy k hn] at h3
     show k7 μ bw.ks i0=_
     simp [k7,Pk,h3]
   ·obtain ⟨o1,q1,q2⟩:=Sq j hj o h1
    rw [q2] at h2
    have eX:=(qC _ _ _ _).1 h2
    refine .inr ⟨Uy _ o1 q1 eX,bw.ks.length+j,?_,o1,pl,q1,eX,by rw [← I8 j hj];exact h3,h4⟩
    unfold back
    rw [oP (by omega)]
    have:Nat.blt (bw.ks.length+j) (bw.ks.length+16)=true:=by simp only [Nat.blt,Nat.ble_eq];omega
    rw [this]
    simp
  have Xd:∀ k i x v b,je w μ σ k i x v→ptrTo v b→idx bw.ks k=none→w'.heap[b]?=w.heap[b]?∧¬ SF b:=by
   intro k i x v b hv hb hi
   obtain ⟨q1,q2,q3,_⟩:=g.mx.cQ hv hb
   refine ⟨Kr b q1 (fun k' i' o' kn ph wA gZ oU he=>g.mx.obj _ _ _ _ _ hv hb k' o' kn wA gZ oU he) (fun k' i' j' x' v' ph tn he=>?_),?_⟩
   ·obtain ⟨e1,_⟩:=g.mx.two _ _ _ _ _ _ _ _ _ hv tn hb he
    exact mJ _ _ hi i' (e1 ▸ ph)
   ·rintro (h1 | ⟨_,h1⟩ | ⟨_,h1⟩)
    ·exact q2 h1
    ·exact PW _ _ _ _ _ hv hb h1
    ·omega
  have P1:∀ k i x v b,je w μ σ k i x v→ptrTo v b→idx bw.ks k=none→∀ b',(SA w uP (k7 μ bw.ks) b'∨w.heap.size≤b')→b'≠b:=by
   rintro k i x v b hv hb hi b' (h1 | h1) rfl
   ·rcases PV _ h1 with ⟨k2,i2,o4,SN,q1,q2,q3,q4,q5⟩ | ⟨k2,i2,j2,x2,v2,q1,q2,q3⟩
    ·exact g.mx.obj _ _ _ _ _ hv hb k2 o4 SN q2 q3 q4 q5
    ·obtain ⟨e1,_⟩:=g.mx.two _ _ _ _ _ _ _ _ _ hv q2 hb q3
     exact mJ _ _ hi i2 (e1 ▸ q1)
   ·have:=(g.mx.cQ hv hb).1;omega
  have ZC:MX E.fp E.w0.heap.size w' SF Kq L8:=by
   refine ⟨fun k i x v h=>?_,fun k i x v b h hb k' o' kn h1 h2 h3=>?_,fun k i x v b k' i' x' v' h h' hb ur=>?_⟩
   ·rcases cls k i x v h with ⟨hi,hn,hv⟩ | ⟨P0,q,hq,hv⟩
    ·exact (g.mx.row _ _ _ _ hv).ext (fun _ h=>.inl h) hSb fun b hb=>let ⟨a1,a2⟩:=Xd _ _ _ _ _ hv hb hi;⟨a1,a2,fun h=>h⟩
    ·refine (g'.mx.row _ _ _ _ hv).ext (Uw P0) (fun _ _=>rfl) fun b hb=>⟨rfl,fun hs=>(g'.mx.cQ hv hb).2.1 (hSF b hs),?_⟩
     rintro (h1 | h1)
     ·rcases PV _ h1 with ⟨k2,i2,o4,SN,q1,q2,q3,q4,q5⟩ | ⟨k2,i2,j2,x2,v2,q1,q2,q3⟩
      ·rw [← q5];exact g.own k2 o4 SN q2 q3 q4
      ·exact (g.mx.cQ q2 q3).2.2.1
     ·exact .inr (eZ g.fr.size h1)
   ·rcases cls k i x v h with ⟨hi,hn,hv⟩ | ⟨P0,q,hq,hv⟩
    ·rcases yp k' with I4 | ⟨j',zk,rfl⟩
     ·obtain ⟨o2,DF⟩:=hold k' o' h1 I4
      rw [Fy k' I4] at h2
      exact g.mx.obj _ _ _ _ _ hv hb k' o2 kn DF h2 h3
     ·obtain ⟨o1,Bj,c1,T1,q1,q2,q3,q4⟩:=L9 j' zk o' h1
      rw [I8 j' zk,q3] at h2;cases h2
      exact P1 _ _ _ _ _ hv hb hi _ (g'.own _ o1 kn q1 q3 h3)
    ·rcases yp k' with I4 | ⟨j',zk,rfl⟩
     ·rw [Fy k' I4] at h2
      cases hi:idx bw.ks k' with
      | some i2 =>
       have Pk:=nz _ _ _ hi
       obtain ⟨_,o2,DF⟩:=SJ k' i2 o' Pk h1
       have LV:i2 < bw.ks.length:=(dU.1 Pk).1
       have Bp:dy i2=some kn:=by
        rw [g'.EO i2 LV]
        show k7 μ bw.ks i2=_
        simp [k7,Pk,h2]
       exact g'.mx.obj _ _ _ _ _ hv hb i2 o2 kn DF Bp h3
      | none =>
       obtain ⟨o3,LR⟩:=hold k' o' h1 I4
       intro he
       rcases (g'.mx.cQ hv hb).2.2.1 with h4 | h4
       ·rcases PV _ h4 with ⟨k2,i2,o4,SN,q1,q2,q3,q4,q5⟩ | ⟨k2,i2,j2,x2,v2,q1,q2,q3⟩
        ·have fx:k2≠k':=fun h=>mJ _ _ hi i2 (h ▸ q1)
         exact g.rep.ne k2 k' o4 o3 SN kn fx q2 LR q3 h2 q4 h3 (q5.trans he.symm)
        ·exact g.mx.obj _ _ _ _ _ q2 q3 k' o3 kn LR h2 h3 he
       ·have:=gY k' o3 kn LR h2 h3
        have h4:w.heap.size≤b:=h4
        omega
     ·obtain ⟨o1,Bj,c1,T1,q1,q2,q3,q4⟩:=L9 j' zk o' h1
      rw [I8 j' zk,q3] at h2;cases h2
      exact g'.mx.obj _ _ _ _ _ hv hb _ o1 kn q1 q3 h3
   ·rcases cls k i x v h with ⟨hi,hn,hv⟩ | ⟨P0,q,hq,hv⟩<;>rcases cls k' i' x' v' h' with ⟨rN,I4,tn⟩ | ⟨acZ,q',Ox,tn⟩
    ·exact g.mx.two _ _ _ _ _ _ _ _ _ hv tn hb ur
    ·exact (P1 _ _ _ _ _ hv hb hi _ (g'.mx.cQ tn ur).2.2.1 rfl).elim
    ·exact (P1 _ _ _ _ _ tn ur rN _ (g'.mx.cQ hv hb).2.2.1 rfl).elim
    ·obtain ⟨e1,e2⟩:=g'.mx.two _ _ _ _ _ _ _ _ _ hv tn hb ur
     rw [e1,Ox] at hq
     exact ⟨(Option.some.inj hq).symm,e2⟩
  refine ⟨v,SF,Kq,rfl,ext,⟨?_,fun b h=>.inl (g.S0 b h),?_,?_,⟨?_,?_⟩,?_,fun k hk=>by rw [Fy k (.inl (by omega))];exact g.EO k hk,ZC⟩,fun k hn h=>by rw [Fy k hn];exact h,?_⟩
  ·refine ⟨g'.fr.os.trans g.fr.os,g'.fr.tape.trans g.fr.tape,g'.fr.output.trans g.fr.output,eZ g.fr.size g'.fr.size,fun b hb ZD=>?_⟩
   rw [← g.fr.cQ b hb ZD]
   refine Kr b (pV hb g.fr.size) ?_ ?_
   ·intro k i o pl hk ho hm hc he
    rcases g.own k o pl ho hm hc with h1 | h1
    ·exact ZD (he ▸ h1)
    ·have:pl.cQ=b:=he
     omega
   ·intro k i j x v hk hv he
    rcases (g.mx.cQ hv he).2.2.1 with h1 | h1
    ·exact ZD h1
    ·omega
  ·rintro b (hb | ⟨_,k,hk,pl,hm,hc,rfl⟩ | ⟨hb,_⟩)
   ·exact pV (g.S1 b hb) g'.fr.size
   ·obtain ⟨_,o,ho⟩:=Vh k hk
    exact pV (gY k o pl ho hm hc) g'.fr.size
   ·exact g'.S1 b hb
  ·rintro b (hb | ⟨Pc,k,hk,pl,hm,hc,rfl⟩ | ⟨_,hb⟩)
   ·exact g.S2 b hb
   ·obtain ⟨_,o,ho⟩:=Vh k hk
    rcases g.own k o pl ho hm hc with h1 | h1
    ·exact (hz Pc _ h1).elim
    ·exact .inr h1
   ·exact .inr (eZ g.fr.size hb)
  ·intro k o ho
   rcases yp k with hn | ⟨j,hj,rfl⟩
   ·cases hi:idx bw.ks k with
    | none =>
     have ri:=ho
     rw [I7 k hi hn] at ho
     split at ho
     ·cases ho
     obtain ⟨pl,c,T,hm,dh⟩:=g.rep.ob k o ho
     refine ⟨pl,c,T,SL _ _ hm,dh.ext ext ?_ (Ni k o o pl ri ho hm)⟩
     intro hc
     refine Kr _ (gC (dh.cQ hc)) ?_ (fun k' i' j' x' v' ph tn he=>g.mx.obj _ _ _ _ _ tn he k o pl ho hm hc rfl)
     intro k' i' o' kn ph wA gZ oU he
     have fx:k'≠k:=fun h=>mJ _ _ hi i' (h ▸ ph)
     exact g.rep.ne k' k o' o kn pl fx wA ho gZ hm oU hc he
    | some i =>
     have hk:=nz _ _ _ hi
     obtain ⟨⟨o1,xy⟩,_⟩:=SJ k i o hk ho
     obtain ⟨pl,c,T,hm,_⟩:=g.rep.ob k o1 xy
     obtain ⟨c',T',dh⟩:=Zy w' S' SF dy Kq g' Uw xx k i o pl hk ho hm (Ni k o o1 pl ho xy hm)
     exact ⟨pl,c',T',SL _ _ hm,dh⟩
   ·obtain ⟨o1,pl,c,T,h1,h2,h3,h4⟩:=L9 j hj o ho
    have h5:=Xb w' S' SF dy Uw j hj o1 pl c T h1 h4 (fun hc hb=>h4.out hc (hSF _ hb))
    exact ⟨pl,c,T,by rw [I8 j hj];exact h3,by rw [h2];exact h5.kN xx⟩
  ·intro k k' o o' pl kn fx ho wA hm gZ hc oU
   rcases yp k with hn | ⟨j,hj,rfl⟩
   ·rcases yp k' with I4 | ⟨j',zk,rfl⟩
    ·obtain ⟨o1,xy⟩:=hold k o ho hn
     obtain ⟨o2,DF⟩:=hold k' o' wA I4
     rw [Fy k hn] at hm
     rw [Fy k' I4] at gZ
     exact g.rep.ne k k' o1 o2 pl kn fx xy DF hm gZ hc oU
    ·exact fun he=>PZ j' zk k o' o kn pl wA ho hn gZ hm oU hc he.symm
   ·rcases yp k' with I4 | ⟨j',zk,rfl⟩
    ·exact PZ j hj k' o o' pl kn ho wA I4 hm gZ hc oU
    ·obtain ⟨o1,Bj,c1,T1,h1,h2,h3,h4⟩:=L9 j hj o ho
     obtain ⟨o2,sI,c2,T2,k1,k2,k3,k4⟩:=L9 j' zk o' wA
     rw [I8 j hj,h3] at hm;cases hm
     rw [I8 j' zk,k3] at gZ;cases gZ
     exact g'.rep.ne _ _ o1 o2 pl kn (by omega) h1 k1 h3 k3 hc oU
  ·intro k o pl ho hm hc
   rcases yp k with hn | ⟨j,hj,rfl⟩
   ·obtain ⟨o1,xy⟩:=hold k o ho hn
    rw [Fy k hn] at hm
    exact g.own k o1 pl xy hm hc
   ·obtain ⟨o1,Bj,c1,T1,h1,h2,h3,h4⟩:=L9 j hj o ho
    rw [I8 j hj,h3] at hm;cases hm
    rcases Ux j o1 pl h1 h3 hc with ⟨k2,i2,o4,SN,q1,q2,q3,q4,q5⟩ | ⟨k2,i2,j2,x2,v2,q1,q2,q3⟩ | h5
    ·rw [← q5];exact g.own k2 o4 SN q2 q3 q4
    ·exact (g.mx.cQ q2 q3).2.2.1
    ·exact .inr (eZ g.fr.size h5)
  ·cases he:(bs.isEmpty || bw.xO) with
   | true=>exact (hv.kN (f:=back bw.ks nk) xx).mono (Uw he) (fun _ _=>rfl) (fun _ _ h=>h)
   | false =>
    rw [he,Bool.false_or] at OB
    exact (hv.J4 OB w' SF).kN (f:=back bw.ks nk) xx
 split at h
 ·split at h
  ·split at h
   ·rename_i qs J5
    cases h
    obtain ⟨hq,_⟩:=bq.app hp.2
    have Vk:∀ k i:Nat,bw.ks[i]?=some k→∀ o,au (fI σ (vB bw.xO bs)) k=some o→au σ k=some o:=fun k i hk o ho=>by
     rw [mK] at ho
     split at ho
     ·cases ho
     ·exact ho
    refine fin uP _ hp.1 (fun n _ _=>mK _ _ _ _) ?_ ?_ ?_ ?_ ?_ ?_
    ·intro j hj o ho
     have ho:au (fI σ (vB bw.xO bs)) (nk+j)=some o:=ho
     rw [mK] at ho
     split at ho
     ·cases ho
     ·rcases xu _ o ho with h1 | h1<;>omega
    ·intro w' S' Bi dy _ j hj o1 pl c T h1
     obtain ⟨k,o,hk,_⟩:=DK _ o1 h1
     rw [oP (by omega)] at hk;cases hk
    ·intro w' S' Bi dy Kq g' hS xx k i o pl hk ho hm Pm
     have ho:=Vk k i hk o ho
     obtain ⟨PO,WC,Pf⟩:=wT _ _ J5 hq k (List.mem_of_getElem? hk) o ho
     have ZE:au uP i=some (o.kN (idx bw.ks)):=by rw [SI];simp [hk,ho]
     obtain ⟨sI,c,T,DZ,dh⟩:=g'.rep.ob i _ ZE
     have gY:i < bw.ks.length:=(dU.1 hk).1
     rw [g'.EO i gY] at DZ
     have:μ k=some sI:=by simpa [yl,k7,hk] using DZ
     rw [hm] at this;cases this
     exact ⟨c,T,Ng dh WC Pf hS Pm xx⟩
    ·intro k i o hk ho
     have ho:=Vk k i hk o ho
     exact ⟨⟨o,ho⟩,o.kN (idx bw.ks),by rw [SI];simp [hk,ho]⟩
    ·intro k i o hk ho j x hx
     have ho:=Vk k i hk o ho
     exact ⟨o.kN (idx bw.ks),by rw [SI];simp [hk,ho],(qC _ _ _ _).2 hx⟩
    ·intro P0 n o' wA i
     obtain ⟨k,o,hk,ho,rfl⟩:=DK n o' wA
     obtain ⟨PO,WC,Pf⟩:=wT _ _ J5 hq k (List.mem_of_getElem? hk) o ho
     rw [P0] at WC
     cases hr:rowOf (o.kN (idx bw.ks)) i with
     | none=>rfl
     | some x =>
      have:=(qC _ _ _ _).1 hr
      rw [I6 WC Pf] at this;cases this
   ·cases h
  ·rename_i q τ ac0
   split at h
   ·rename_i qs Hg J5 Uz
    cases h
    obtain ⟨hq,_⟩:=bq.app hp.2
    simp only [bp] at Uz
    obtain ⟨⟨ZA,Xe⟩,ZF⟩:=Uz
    have Nj:∀ k i:Nat,bw.ks[i]?=some k→k < nk∨nk+16≤k:=fun k i hk=>by
     obtain ⟨o,ho⟩:=zh bw.ks 0 uP SG k (List.mem_of_getElem? hk)
     exact xu k o ho
    have Vk:∀ k i:Nat,bw.ks[i]?=some k→∀ o,au (fI σ (Bs bw.ks nk (q :: τ) ++ vB bw.xO bs)) k=some o→au σ k=some o:=fun k i hk o ho=>by
     rw [gD,mK] at ho
     split at ho
     ·cases ho
     ·rw [vC _ _ _ Xe (Nj k i hk)] at ho;exact ho
    have Hh:∀ i:Nat,i < bw.ks.length→au (uP ++ q :: τ) i=au uP i:=fun i hi=>by
     rw [Ft]
     cases hs:au uP i with
     | some o=>rfl
     | none=>exact HU ZA i hi
    have Xf:∀ j:Nat,au (uP ++ q :: τ) (bw.ks.length+j)=au (q :: τ) (bw.ks.length+j):=fun j=>by
     rw [Ft]
     have:au uP (bw.ks.length+j)=none:=by rw [SI];simp
     rw [this]
    refine fin (uP ++ q :: τ) _ hp.1 ?_ ?_ ?_ ?_ ?_ ?_ ?_
    ·intro n hn P2
     show au (fI σ (Bs bw.ks nk (q :: τ) ++ vB bw.xO bs)) n=_
     rw [gD,mK,vC _ _ _ Xe P2]
    ·intro j hj o ho
     have ho:au (fI σ (Bs bw.ks nk (q :: τ) ++ vB bw.xO bs)) (nk+j)=some o:=ho
     rw [gD,mK] at ho
     split at ho
     ·cases ho
     rw [Bu _ _ _ ZF] at ho
     split at ho
     ·rename_i o1 xy
      cases ho
      exact ⟨o1,(Xf j).trans xy,rfl⟩
     ·rcases xu _ o ho with h1 | h1<;>omega
    ·intro w' S' Bi dy hS j hj o1 pl c T h1 h2 h3
     exact Bv h2 (hS Hg) h3
    ·intro w' S' Bi dy Kq g' hS xx k i o pl hk ho hm Pm
     have ho:=Vk k i hk o ho
     obtain ⟨PO,WC,Pf⟩:=wT _ _ J5 hq k (List.mem_of_getElem? hk) o ho
     have gY:i < bw.ks.length:=(dU.1 hk).1
     have ZE:au (uP ++ q :: τ) i=some (o.kN (idx bw.ks)):=by rw [Hh i gY,SI];simp [hk,ho]
     obtain ⟨sI,c,T,DZ,dh⟩:=g'.rep.ob i _ ZE
     rw [g'.EO i gY] at DZ
     have:μ k=some sI:=by simpa [yl,k7,hk] using DZ
     rw [hm] at this;cases this
     exact ⟨c,T,Ng dh WC Pf (fun _=>hS Hg) Pm xx⟩
    ·intro k i o hk ho
     have ho:=Vk k i hk o ho
     exact ⟨⟨o,ho⟩,o.kN (idx bw.ks),by rw [Hh i (dU.1 hk).1,SI];simp [hk,ho]⟩
    ·intro k i o hk ho j x hx
     have ho:=Vk k i hk o ho
     exact ⟨o.kN (idx bw.ks),by rw [Hh i (dU.1 hk).1,SI];simp [hk,ho],(qC _ _ _ _).2 hx⟩
    ·intro SO
     rw [Hg] at SO;cases SO
   ·cases h
 ·split at h
  ·rename_i qs J5 P0
   cases h
   obtain ⟨hq,_⟩:=bq.app hp.2
   rw [bp] at J5
   have WU:∀ n,au (fI σ (Ai bw.ks nk bw.oA 0 bw.ks)) n=match idx bw.ks n with
     | some j=>(au bw.oA (0+j)).map (Ob.kN (back bw.ks nk))
     | none=>au σ n:=fun n=>CD bw.ks 0 σ n SH
   have ZG:∀ k i:Nat,bw.ks[i]?=some k→idx bw.ks k=some i:=by
    intro k i hk
    cases hi:idx bw.ks k with
    | none=>exact (mJ _ _ hi i hk).elim
    | some j=>rw [SH i j k hk (nz _ _ _ hi)]
   have Nj:∀ k i:Nat,bw.ks[i]?=some k→k < nk∨nk+16≤k:=fun k i hk=>by
    obtain ⟨o,ho⟩:=zh bw.ks 0 uP SG k (List.mem_of_getElem? hk)
    exact xu k o ho
   have P3:∀ k i:Nat,bw.ks[i]?=some k→∀ o,au (fI σ (Ai bw.ks nk bw.oA 0 bw.ks ++ (Bs bw.ks nk bw.oA ++ vB bw.xO bs))) k=some o→(au bw.oA i).map (Ob.kN (back bw.ks nk))=some o:=by
    intro k i hk o ho
    rw [gD,gD,mK] at ho
    split at ho
    ·cases ho
    rw [vC _ _ _ J5.1 (Nj k i hk),WU k,ZG k i hk] at ho
    simpa using ho
   refine fin bw.oA _ hp.1 ?_ ?_ ?_ ?_ ?_ ?_ ?_
   ·intro n hn P2
    show au (fI σ (Ai bw.ks nk bw.oA 0 bw.ks ++ (Bs bw.ks nk bw.oA ++ vB bw.xO bs))) n=_
    rw [gD,gD,mK,vC _ _ _ J5.1 P2,WU n,hn]
   ·intro j hj o ho
    have ho:au (fI σ (Ai bw.ks nk bw.oA 0 bw.ks ++ (Bs bw.ks nk bw.oA ++ vB bw.xO bs))) (nk+j)=some o:=ho
    rw [gD,gD,mK] at ho
    split at ho
    ·cases ho
    rw [Bu _ _ _ J5.2] at ho
    split at ho
    ·rename_i o1 xy
     cases ho
     exact ⟨o1,xy,rfl⟩
    ·rw [WU] at ho
     cases hi:idx bw.ks (nk+j) with
     | some i =>
      rcases Nj _ i (nz _ _ _ hi) with h1 | h1<;>omega
     | none =>
      rw [hi] at ho
      rcases xu _ o ho with h1 | h1<;>omega
   ·intro w' S' Bi dy hS j hj o1 pl c T h1 h2 h3
    rcases sJ _ _ P0 hq _ o1 h1 with hl | ⟨PO,hf,SK⟩
    ·exact Bv h2 (hS hl) h3
    ·exact Fw h2 hf SK h3
   ·intro w' S' Bi dy Kq g' hS xx k i o pl hk ho hm Pm
    have ho:=P3 k i hk o ho
    simp only [aK] at ho
    obtain ⟨o1,xy,rfl⟩:=ho
    obtain ⟨sI,c,T,DZ,dh⟩:=g'.rep.ob i _ xy
    have gY:i < bw.ks.length:=(dU.1 hk).1
    rw [g'.EO i gY] at DZ
    have:μ k=some sI:=by simpa [yl,k7,hk] using DZ
    rw [hm] at this;cases this
    refine ⟨c,T,?_⟩
    rcases sJ _ _ P0 hq _ o1 xy with hl | ⟨PO,hf,SK⟩
    ·exact (Bv dh (hS hl) Pm).kN xx
    ·exact (Fw (Ff:=dy) dh hf SK Pm).kN xx
   ·intro k i o hk ho
    have ho:=P3 k i hk o ho
    simp only [aK] at ho
    obtain ⟨o1,xy,_⟩:=ho
    exact ⟨zh bw.ks 0 uP SG k (List.mem_of_getElem? hk),o1,xy⟩
   ·intro k i o hk ho j x hx
    have ho:=P3 k i hk o ho
    simp only [aK] at ho
    obtain ⟨o1,xy,rfl⟩:=ho
    exact ⟨o1,xy,(qC _ _ _ _).1 hx⟩
   ·intro SO n o1 xy i
    rcases sJ _ _ P0 hq _ o1 xy with hl | ⟨PO,hf,SK⟩
    ·rw [SO] at hl;cases hl
    ·exact uQ hf SK i
  ·cases h
def Vl:List AV→Bool
 | [.atom v]=>match v with
  | .int k _=>match k with
   | .u8=>true
   | _=>false
  | _=>false
 | _=>false
def YL:List AV→Int
 | [.atom v]=>match v with
  | .int _ x=>x
  | _=>0
 | _=>0
def strOf (n:Nat) (g:Nat→List AV):ByteArray:=⟨((List.range n).map fun i=>UInt8.ofNat (YL (g i)).toNat).toArray⟩
theorem SP {l:List AV} (h:Vl l=true):l=[.atom (.int .u8 (YL l))]:=by
 unfold Vl at h
 split at h
 ·split at h
  ·split at h
   ·rfl
   ·cases h
  ·cases h
 ·cases h
def zl (P:Program) (σ:dD) (src dst:TypeId) (x:AV):Option (List Prop×AV×List Nat) :=
 match P.underlying src,P.underlying dst with
 | some .string,some (.slice e)=>match P.underlying e,x with
  | some (.int .u8),.atom (.string b)=>some ([],.sl b.size (fun i=>[.atom (.int .u8 (jI b i))]),[])
  | _,_=>none
 | some (.slice e),some .string=>match P.underlying e,vz σ 1 x with
  | some (.int .u8),some (n,g,_,ps,rd)=>some ((∀ i,i < n→Vl (g i)=true) :: ps,.atom (.string (strOf n g)),rd)
  | _,_=>none
 | _,_=>none
theorem foldl_push (l:List Int):∀ (r:ByteArray),l.foldl (fun r n=>r.push (UInt8.ofNat n.toNat)) r=⟨r.data ++ (l.map fun n=>UInt8.ofNat n.toNat).toArray⟩:=by
 induction l with
 | nil=>intro r;simp
 | cons b l ih =>
  simp_all
theorem P4 (g:Good E σ S μ w) {src dst:TypeId} {x:AV} {v:Value} (hx:ar w S μ v x) {ps:List Prop} {val:AV} {rd:List Nat} (h:zl P σ src dst x=some (ps,val,rd)) (hp:bq ps) :
  Step P E nk σ S μ w (convert src dst v) val []:=by
 unfold zl at h
 split at h
 ·rename_i e hs hd
  split at h
  ·rename_i b he
   simp only [aD,aA] at h
   obtain ⟨rfl,rfl,rfl⟩:=h
   have:=dg hx;subst this
   have lV:=run_bytes_of_string w src dst e b hs hd he
   have ga:=g.drew.Om (.cells (bytesRow b (grownCap w b.size 0 e)) e ((bytesRow b (grownCap w b.size 0 e)).size,(bytesRow b (grownCap w b.size 0 e)).size+1))
   refine ⟨_,_,_,_,lV,(Ext.drew w S μ).trans ga.1,ga.2,fun _ _ h=>h,?_⟩
   refine .sl w.heap.size 0 1 (fun i _=>.int .u8 (jI b i)) (fun _=>⟨rfl,.inr rfl⟩) (fun i hi=>rfl) ?_ ?_ ?_
   ·intro i j hi hj
    have hj:j=0:=by omega
    subst hj
    have:=World.cell?_alloc_mark w.drew (bytesRow b (grownCap w b.size 0 e)) e ((bytesRow b (grownCap w b.size 0 e)).size,(bytesRow b (grownCap w b.size 0 e)).size+1) i
    simp_all [Nat.zero_add,Nat.mul_one,Nat.add_zero,bytesRow,Array.getElem?_append,jI,ByteArray.getElem_eq_getElem_data,getElem?_pos]
   ·intro i j c hi hc
    cases j with
    | zero=>simp at hc;subst hc;exact .atom _
    | succ j=>simp at hc
   ·simp [grownCap,Question.cut]
  ·cases h
 ·rename_i e hs hd
  split at h
  ·rename_i n gt pr qs Nc he vA
   simp only [aD,aA] at h
   obtain ⟨rfl,rfl,rfl⟩:=h
   obtain ⟨hu,ta⟩:=hp
   obtain ⟨news,hn⟩:=yj g (P:=P) hx vA ta
   have hsl:∃ a len cap,v=.slice a len cap:=by
    unfold vz at vA
    split at vA
    ·cases hx;exact ⟨_,_,_,rfl⟩
    ·cases hx;exact ⟨_,_,_,rfl⟩
    ·cases hx;exact ⟨_,_,_,rfl⟩
    ·cases vA
   obtain ⟨a,len,cap,rfl⟩:=hsl
   have hlen:len=n:=by
    have:=hn.len w
    simpa [Builtin.lenOf] using this
   subst hlen
   have Uu:news=((List.range len).map fun i=>Value.int .u8 (YL (gt i))):=by
    have su:news.length=len:=by simpa using hn.size
    apply List.ext_getElem?
    intro i
    by_cases hi:i < len
    ·have h1:news[i]?=some (news[i]'(by omega)):=pT _
     have hg:=SP (hu i hi)
     have h2:=hn.rep i 0 _ _ hi (by rw [hg];rfl) (by simpa only [Nat.mul_one,Nat.add_zero] using h1)
     grind [dg]
    ·simp_all
   have ZH:(((List.range len).map fun i=>YL (gt i)).foldl (fun r n=>r.push (UInt8.ofNat n.toNat)) ByteArray.empty)=strOf len gt:=by
    rw [foldl_push]
    have h0:ByteArray.empty.data=#[]:=rfl
    rw [h0];simp [strOf]
   refine Step.pure g (v:=.string (strOf len gt)) ?_ (.atom _)
   rw [run_convert_bytes_string w src dst e a len cap hs he hd]
   cases a with
   | none =>
    have:len=0:=by
     rcases Nat.eq_zero_or_pos len with h0 | h0
     ·exact h0
     ·have:=hn.cells w rfl
      simp_all [Builtin.firstCells,congrArg,List.length]
    subst this
    rfl
   | some a =>
    rw [← ZH]
    refine run_bytesToString w a len cap _ ?_
    have:=hn.cells w rfl
    grind [Builtin.firstCells,Function.comp_def]
  ·cases h
 ·cases h
open Go.MapKept
def Aj (P:Program) (kt:TypeId) (a b:AV):Option Bool :=
 match a,b with
 | .atom a,.atom b=>match a,b with
  | .string s,.string t=>some (lU s t)
  | .int k x,.int k' y=>match decide (k=k') with
   | true=>some (x == y)
   | false=>none
  | _,_=>none
 | .agg ys,.agg xs=>match Nat.beq ys.length xs.length with
  | true=>Cw P 64 kt (.agg xs) (.agg ys)
  | false=>none
 | _,_=>none
def look (P:Program) (kt:TypeId):List AV→AV→Option (Option AV)
 | k :: v :: r,x=>match Aj P kt k x with
  | some true=>some (some v)
  | some false=>look P kt r x
  | none=>none
 | [_],_=>none
 | [],_=>some none
def I9 (P:Program) (kt:TypeId):List AV→AV→AV→Option (List AV)
 | k :: v :: r,x,y=>match Aj P kt k x with
  | some true=>some (k :: y :: r)
  | some false=>(I9 P kt r x y).map fun l=>k :: v :: l
  | none=>none
 | [_],_,_=>none
 | [],x,y=>some [x,y]
def allI (k:IntKind):List AV→Bool
 | []=>true
 | .atom (.int k' _) :: r=>match decide (k'=k) with
  | true=>allI k r
  | false=>false
 | _ :: _=>false
def kz (P:Program) (d:TypeDesc) (x:AV):Bool :=
 match d,x with
 | .string,.atom v=>match v with
  | .string _=>true
  | _=>false
 | .int k,.atom v=>match v with
  | .int k' _=>decide (k'=k)
  | _=>false
 | .array n e,.agg xs=>match P.underlying e,ud P e with
  | some (.int k),some m=>Nat.beq m 1 && Nat.beq xs.length n && allI k xs
  | _,_=>false
 | _,_=>false
def uR (R:Value→AV→Prop):List MapEntry→List AV→Prop
 | [],[]=>True
 | e :: es,k :: v :: cs=>R e.key k∧R e.val v∧uR R es cs
 | _,_=>False
theorem Ma (c:Array Value) (i:Nat) (hi:i < c.size / 2):(g9 c)[i]?=some ⟨c[2 * i]?.getD undef,c[2 * i+1]?.getD undef,i⟩:=by
 simp [g9,hi]
theorem yq (c:Array Value):(g9 c).size=c.size / 2:=by simp [g9]
theorem Nk {R:Value→AV→Prop} {c:Array Value} {cs:List AV} (h1:c.size % 2=0) (h2:c.size=cs.length) (h3:∀ (j:Nat) x v,cs[j]?=some x→c[j]?=some v→R v x):uR R (g9 c).toList cs:=by
 have key:∀ (n o:Nat),2 * (o+n)=c.size→uR R ((List.range' o n).map fun i=>(⟨c[2 * i]?.getD undef,c[2 * i+1]?.getD undef,i⟩:MapEntry)) (cs.drop (2 * o)):=by
  intro n
  induction n with
  | zero=>intro o h;rw [List.drop_of_length_le (by omega)];trivial
  | succ n ih =>
   intro o h
   have e1:2 * o < cs.length:=by omega
   have e2:2 * o+1 < cs.length:=by omega
   rw [List.range'_succ,List.map_cons,List.drop_eq_getElem_cons e1,List.drop_eq_getElem_cons e2]
   have d1:c[2 * o]?=some c[2 * o]:=jR _
   have d2:c[2 * o+1]?=some c[2 * o+1]:=jR _
   have YG:=ih (o+1) (by omega)
   rw [show 2 * (o+1)=2 * o+1+1 by omega] at YG
   refine ⟨?_,?_,YG⟩
   ·grind
   grind
 have:=key (c.size / 2) 0 (by omega)
 have e:(g9 c).toList=(List.range' 0 (c.size / 2)).map fun i=>(⟨c[2 * i]?.getD undef,c[2 * i+1]?.getD undef,i⟩:MapEntry):=by
  unfold g9
  rw [Array.toList_map,Array.toList_range,List.range_eq_range']
 rw [e];exact this
theorem Nl (a b:ByteArray):(a == b)=lU a b:=by
 have hl:∀ x:ByteArray,x.toList=x.data.toList:=fun x=>ByteArray.toList_eq x
 rw [Bool.eq_iff_iff,bytes_beq]
 unfold lU
 rw [hl,hl,beq_iff_eq]
 constructor
 ·rintro rfl;rfl
 ·intro h
  cases a;simp_all
theorem wU {d:TypeDesc} {kt:TypeId} {kv ev:Value} {v:Value} {k:AV} {b:Bool} (hx:kz P d (.atom v)=true) {w w':World} {S S':Nat→Prop} {μ dy:Mu} (h1:ar w S μ kv (.atom v)) (h2:ar w' S' dy ev k) (h:Aj P kt k (.atom v)=some b) :
  IsKey d kv∧Instr.sameNow d kv ev=some b∧(b=true→ev=kv):=by
 have:=dg h1;subst this
 cases k with
 | atom u =>
  have:=dg h2;subst this
  cases d<;>cases kv<;>simp [kz] at hx
  ·rename_i k0 k' n
   subst hx
   cases ev<;>simp [Aj] at h
   rename_i ka a
   by_cases hk:ka=k'
   ·subst hk
    rw [decide_eq_true rfl] at h
    simp only [aD] at h
    subst h
    refine ⟨rfl,?_,?_⟩
    ·simp only [Instr.sameNow,if_true]
     grind
    simp
   simp_all
  ·cases ev<;>simp [Aj] at h
   rename_i s a
   subst h
   refine ⟨trivial,?_,?_⟩
   ·simp only [Instr.sameNow,Nl]
    congr 1
    unfold lU;grind
   ·intro hb
    rw [← Nl,bytes_beq] at hb
    rw [hb]
 | _=>simp [Aj] at h
theorem Ks {d:TypeDesc} {kv v:Value} (hx:kz P d (.atom v)=true) {w:World} {S:Nat→Prop} {μ:Mu} (h1:ar w S μ kv (.atom v)):IsKey d kv:=by
 have:=dg h1;subst this
 cases d<;>cases kv<;>simp [kz] at hx
 ·exact hx
 ·trivial
theorem zo {d:TypeDesc} {xs:List AV} (hx:kz P d (.agg xs)=true):∃ n e k,d=.array n e∧P.underlying e=some (.int k)∧ud P e=some 1∧xs.length=n∧allI k xs=true:=by
 cases d<;>simp [kz] at hx
 rename_i n e
 split at hx
 ·rename_i k m h1 h2
  simp only [bp] at hx
  have hm:=bW hx.1.1
  subst hm
  exact ⟨n,e,k,rfl,h1,h2,bW hx.1.2,hx.2⟩
 ·cases hx
theorem Nm {k:IntKind}:∀ {xs:List AV},allI k xs=true→∀ i,i < xs.length→∃ a,xs[i]?=some (.atom (.int k a))
 | [],_,i,h=>by simp at h
 | .atom (.int k' a) :: r,h,i,hi=>by
  unfold allI at h
  split at h
  ·rename_i hk
   have hk:=qS hk
   subst hk
   cases i with
   | zero=>exact ⟨a,rfl⟩
   | succ i=>simpa using Nm h i (by simpa using hi)
  ·cases h
theorem Bx {k:IntKind} {xs:List AV} (h:allI k xs=true) {w:World} {S:Nat→Prop} {μ:Mu} {kv:Value} (hr:ar w S μ kv (.agg xs)):∃ vs:Array Value,kv=.agg vs∧vs.size=xs.length∧∀ i,i < xs.length→∃ a,xs[i]?=some (.atom (.int k a))∧vs[i]?=some (.int k a):=by
 obtain ⟨vs,rfl,h1,h2⟩:=n4 hr
 refine ⟨vs,rfl,h1,fun i hi=>?_⟩
 obtain ⟨a,ha⟩:=Nm h i hi
 have hv:vs[i]?=some vs[i]:=jR _
 have:=dg (h2 i _ _ ha hv)
 exact ⟨a,ha,by rw [hv,this]⟩
theorem zp {k:IntKind}:∀ {xs:List AV},allI k xs=true→AV.l8 xs=true
 | [],_=>rfl
 | .atom (.int k' a) :: r,h=>by
  unfold allI at h
  split at h
  ·simpa [AV.l8,AV.pure] using zp h
  ·cases h
theorem HV {d:TypeDesc} {kt:TypeId} {kv xv:Value} (hx:kz P d (.atom xv)=true) {w w':World} {S S':Nat→Prop} {μ dy:Mu} (h1:ar w S μ kv (.atom xv)):∀ (es:List MapEntry) (cs:List AV) (i:Nat) (r:Option AV),uR (ar w' S' dy) es cs→look P kt cs (.atom xv)=some r →
  (r=none∧Instr.findNow d kv es i=some none)∨∃ (j:Nat) (e:MapEntry) (v:AV),r=some v∧Instr.findNow d kv es i=some (some (i+j,e.val))∧ar w' S' dy e.val v
 | [],[],i,r,_,h=>by simp only [look,aD] at h;exact .inl ⟨h.symm,rfl⟩
 | e :: es,k :: v :: cs,i,r,hR,h=>by
  obtain ⟨r1,r2,r3⟩:=hR
  simp only [look] at h
  split at h
  ·rename_i hq
   cases h
   obtain ⟨_,q2,_⟩:=wU hx h1 r1 hq
   exact .inr ⟨0,e,v,rfl,by simp [Instr.findNow,q2],r2⟩
  ·rename_i hq
   obtain ⟨_,q2,_⟩:=wU hx h1 r1 hq
   rcases HV hx h1 es cs (i+1) r r3 h with ⟨a,b⟩ | ⟨j,e',v',a,b,c⟩
   ·grind [Instr.findNow]
   ·exact .inr ⟨j+1,e',v',a,by grind [Instr.findNow],c⟩
  ·cases h
 | [],_ :: _,_,_,hR,_=>by simp [uR] at hR
 | _ :: _,[],_,_,hR,_=>by simp [uR] at hR
 | _ :: _,[_],_,_,hR,_=>by simp [uR] at hR
theorem Kt {d:TypeDesc} {kt:TypeId} {kv xv:Value} {y:AV} (hx:kz P d (.atom xv)=true) {w w':World} {S S':Nat→Prop} {μ dy:Mu} (h1:ar w S μ kv (.atom xv)):∀ (es:List MapEntry) (cs:List AV) (i:Nat) (HW:List AV),uR (ar w' S' dy) es cs→I9 P kt cs (.atom xv) y=some HW →
  (Instr.findNow d kv es i=some none∧HW=cs ++ [.atom xv,y])∨∃ (j:Nat) (e:MapEntry),Instr.findNow d kv es i=some (some (i+j,e.val))∧es[j]?=some e∧e.key=kv∧HW=cs.set (2 * j+1) y
 | [],[],i,HW,_,h=>by simp only [I9,aD] at h;exact .inl ⟨rfl,h.symm⟩
 | e :: es,k :: v :: cs,i,HW,hR,h=>by
  obtain ⟨r1,r2,r3⟩:=hR
  simp only [I9] at h
  split at h
  ·rename_i hq
   cases h
   obtain ⟨_,q2,q3⟩:=wU hx h1 r1 hq
   exact .inr ⟨0,e,by simp [Instr.findNow,q2],rfl,q3 rfl,rfl⟩
  ·rename_i hq
   obtain ⟨_,q2,_⟩:=wU hx h1 r1 hq
   simp only [aK] at h
   obtain ⟨l,hl,rfl⟩:=h
   rcases Kt hx h1 es cs (i+1) l r3 hl with ⟨a,b⟩ | ⟨j,e',a,b,c,q⟩
   ·grind [Instr.findNow]
   ·exact .inr ⟨j+1,e',by grind [Instr.findNow],by simpa using b,c,by grind⟩
  ·cases h
 | [],_ :: _,_,_,hR,_=>by simp [uR] at hR
 | _ :: _,[],_,_,hR,_=>by simp [uR] at hR
 | _ :: _,[_],_,_,hR,_=>by simp [uR] at hR
theorem P5 {e:TypeId} {k:IntKind} (hu:P.underlying e=some (.int k)):∀ (D n i:Nat) (xs ys:List AV),Af P D e 1 xs ys i n=some true→∀ j,i≤j→j < i+n→xs[j]?=ys[j]?∧(xs[j]?).isSome=true:=by
 intro D
 induction D with
 | zero =>
  grind [Af]
 | succ D ih =>
  intro n i xs ys h j h1 h2
  cases n with
  | zero=>omega
  | succ n =>
   simp only [Af,Nat.mul_one] at h
   split at h
   ·rename_i a c _ ha hc
    split at h
    ·rename_i p q hp hq
     simp only [aD,bp] at h
     obtain ⟨rfl,rfl⟩:=h
     by_cases hj:j=i
     ·subst hj
      have cell:∀ (l:List AV) (z:AV),ko P e l j=some z→l[j]?=some z:=fun l z hz=>by
       grind [ko]
      rw [cell _ _ ha,cell _ _ hc]
      cases D with
      | zero=>simp [Cw] at hp
      | succ D =>
       simp only [Cw,hu] at hp
       grind
     ·exact ih n (i+1) xs ys hq j (by omega) (by omega)
    ·cases h
   ·cases h
theorem zs {d:TypeDesc} {kt:TypeId} (hd:P.underlying kt=some d) {xs:List AV} (hx:kz P d (.agg xs)=true) {w:World} {S:Nat→Prop} {kv ev:Value} {k:AV} {b:Bool} (h1:ar w S iW kv (.agg xs)) (h2:ar w S iW ev k) (h:Aj P kt k (.agg xs)=some b) :
  (Op.equal kt kv ev).run P w=.ok b w∧(b=true→ev=kv):=by
 cases k with
 | agg ys =>
  unfold Aj at h
  simp only at h
  split at h
  ·rename_i hl
   have hl:=bW hl
   refine ⟨(Kd 64).1 Op.maxDepth kt _ _ _ _ _ (by decide) h1 h2 h,fun hb=>?_⟩
   subst hb
   obtain ⟨n,e,kk,rfl,hu,hs,hn,xP⟩:=zo hx
   obtain ⟨vs,rfl,He,D1⟩:=Bx xP h1
   obtain ⟨us,rfl,Oq,Ke⟩:=n4 h2
   simp only [Cw,hd,hs] at h
   have tp:=P5 hu _ _ _ _ _ h
   congr 1
   apply Array.ext
   ·omega
   ·intro i hi1 UA
    have hi:i < xs.length:=by omega
    obtain ⟨a,Vm,Se⟩:=D1 i hi
    obtain ⟨hq,_⟩:=tp i (Nat.zero_le _) (by omega)
    rw [Vm] at hq
    have:=dg (Ke i _ us[i] hq.symm (jR _))
    rw [this]
    rw [jR UA] at Se
    exact (Option.some.inj Se).symm
  ·cases h
 | _=>simp [Aj] at h
theorem Ku {d:TypeDesc} {kt:TypeId} (hd:P.underlying kt=some d) {xs:List AV} (hx:kz P d (.agg xs)=true) {w:World} {S:Nat→Prop} {kv:Value} (h1:ar w S iW kv (.agg xs)):∀ (es:List MapEntry) (cs:List AV) (i:Nat) (r:Option AV),uR (ar w S iW) es cs→look P kt cs (.agg xs)=some r →
  (r=none∧(Instr.findAsking kt kv es i).run P w=.ok none w)∨∃ (j:Nat) (e:MapEntry) (v:AV),r=some v∧(Instr.findAsking kt kv es i).run P w=.ok (some (i+j,e.val)) w∧ar w S iW e.val v
 | [],[],i,r,_,h=>by simp_all [look,aD,Instr.findAsking]
 | e :: es,k :: v :: cs,i,r,hR,h=>by
  obtain ⟨r1,r2,r3⟩:=hR
  simp only [look] at h
  split at h
  ·rename_i hq
   cases h
   obtain ⟨q2,_⟩:=zs hd hx h1 r1 hq
   exact .inr ⟨0,e,v,rfl,by simp [Instr.findAsking,q2,Result.andThen],r2⟩
  ·rename_i hq
   obtain ⟨q2,_⟩:=zs hd hx h1 r1 hq
   rcases Ku hd hx h1 es cs (i+1) r r3 h with ⟨a,b⟩ | ⟨j,e',v',a,b,c⟩
   ·simp_all [Instr.findAsking,Result.andThen]
   ·exact .inr ⟨j+1,e',v',a,by simp [Instr.findAsking,q2,Result.andThen,b];omega,c⟩
  ·cases h
 | [],_ :: _,_,_,hR,_=>by simp [uR] at hR
 | _ :: _,[],_,_,hR,_=>by simp [uR] at hR
 | _ :: _,[_],_,_,hR,_=>by simp [uR] at hR
theorem Nn {d:TypeDesc} {kt:TypeId} (hd:P.underlying kt=some d) {xs:List AV} {y:AV} (hx:kz P d (.agg xs)=true) {w:World} {S:Nat→Prop} {kv:Value} (h1:ar w S iW kv (.agg xs)):∀ (es:List MapEntry) (cs:List AV) (i:Nat) (HW:List AV),uR (ar w S iW) es cs→I9 P kt cs (.agg xs) y=some HW →
  ((Instr.findAsking kt kv es i).run P w=.ok none w∧HW=cs ++ [.agg xs,y])∨∃ (j:Nat) (e:MapEntry),(Instr.findAsking kt kv es i).run P w=.ok (some (i+j,e.val)) w∧es[j]?=some e∧e.key=kv∧HW=cs.set (2 * j+1) y
 | [],[],i,HW,_,h=>by simp_all [I9,aD,Instr.findAsking]
 | e :: es,k :: v :: cs,i,HW,hR,h=>by
  obtain ⟨r1,r2,r3⟩:=hR
  simp only [I9] at h
  split at h
  ·rename_i hq
   cases h
   obtain ⟨q2,q3⟩:=zs hd hx h1 r1 hq
   exact .inr ⟨0,e,by simp [Instr.findAsking,q2,Result.andThen],rfl,q3 rfl,rfl⟩
  ·rename_i hq
   obtain ⟨q2,_⟩:=zs hd hx h1 r1 hq
   simp only [aK] at h
   obtain ⟨l,hl,rfl⟩:=h
   rcases Nn hd hx h1 es cs (i+1) l r3 hl with ⟨a,b⟩ | ⟨j,e',a,b,c,q⟩
   ·simp_all [Instr.findAsking,Result.andThen]
   ·exact .inr ⟨j+1,e',by simp [Instr.findAsking,q2,Result.andThen,a];omega,by simpa using b,c,by grind⟩
  ·cases h
 | [],_ :: _,_,_,hR,_=>by simp [uR] at hR
 | _ :: _,[],_,_,hR,_=>by simp [uR] at hR
 | _ :: _,[_],_,_,hR,_=>by simp [uR] at hR
theorem Bz {kt:TypeId} {n:Nat} {e:TypeId} (hd:P.underlying kt=some (.array n e)) {w:World} {vs:Array Value} {es:List MapEntry} {a:Option (Nat×Value)} (h:(Instr.findAsking kt (.agg vs) es 0).run P w=.ok a w):(Instr.findKey kt (.agg vs) es).run P w=.ok a w:=by
 cases es with
 | nil =>
  simp_all [Instr.findAsking,Instr.findKey,run_underlying,Result.andThen,Instr.findNow]
 | cons z es=>simp_all [Instr.findKey,run_underlying,Result.andThen,Instr.findNow,Instr.sameNow]
theorem P6 {d:TypeDesc} {kt:TypeId} (hd:P.underlying kt=some d) {x:AV} (hx:kz P d x=true) {w:World} {S:Nat→Prop} {μ:Mu} {kv:Value} (h1:ar w S μ kv x) {es:List MapEntry} {cs:List AV} {r:Option AV} (hR:uR (ar w S iW) es cs) (h:look P kt cs x=some r) :
  (r=none∧(Instr.findKey kt kv es).run P w=.ok none w)∨∃ (j:Nat) (e:MapEntry) (v:AV),r=some v∧(Instr.findKey kt kv es).run P w=.ok (some (j,e.val)) w∧ar w S iW e.val v:=by
 cases x with
 | atom xv =>
  rcases HV hx h1 es cs 0 r hR h with ⟨a,b⟩ | ⟨j,e,v,a,b,c⟩
  ·grind [run_findKey]
  ·exact .inr ⟨j,e,v,a,by simp_all [Nat.zero_add,run_findKey],c⟩
 | agg xs =>
  obtain ⟨n,e,k,rfl,_,_,_,xP⟩:=zo hx
  have Sf:ar w S iW kv (.agg xs):=h1.pure (zp xP) iW
  obtain ⟨vs,rfl,_,_⟩:=Bx xP Sf
  rcases Ku hd hx Sf es cs 0 r hR h with ⟨a,b⟩ | ⟨j,e,v,a,b,c⟩
  ·grind [Bz]
  ·exact .inr ⟨j,e,v,a,by rw [Nat.zero_add] at b;exact Bz hd b,c⟩
 | _=>grind [kz]
theorem SQ {d:TypeDesc} {kt:TypeId} (hd:P.underlying kt=some d) {x y:AV} (hx:kz P d x=true) {w:World} {S:Nat→Prop} {μ:Mu} {kv:Value} (h1:ar w S μ kv x) {es:List MapEntry} {cs HW:List AV} (hR:uR (ar w S iW) es cs) (h:I9 P kt cs x y=some HW) :
  ((Instr.findKey kt kv es).run P w=.ok none w∧HW=cs ++ [x,y])∨∃ (j:Nat) (e:MapEntry),(Instr.findKey kt kv es).run P w=.ok (some (j,e.val)) w∧es[j]?=some e∧e.key=kv∧HW=cs.set (2 * j+1) y:=by
 cases x with
 | atom xv =>
  rcases Kt hx h1 (y:=y) es cs 0 HW hR h with ⟨a,b⟩ | ⟨j,e,a,b⟩
  ·grind [run_findKey]
  ·exact .inr ⟨j,e,by simp_all [Nat.zero_add,run_findKey],b⟩
 | agg xs =>
  obtain ⟨n,e,k,rfl,_,_,_,xP⟩:=zo hx
  have Sf:ar w S iW kv (.agg xs):=h1.pure (zp xP) iW
  obtain ⟨vs,rfl,_,_⟩:=Bx xP Sf
  rcases Nn hd hx Sf (y:=y) es cs 0 HW hR h with ⟨a,b⟩ | ⟨j,e,a,b⟩
  ·grind [Bz]
  ·exact .inr ⟨j,e,by rw [Nat.zero_add] at a;exact Bz hd a,b⟩
 | _=>grind [kz]
theorem P7 {d:TypeDesc} {x:AV} (hx:kz P d x=true):x.pure=true:=by
 cases x with
 | atom xv=>rfl
 | agg xs=>grind [zo,AV.pure,zp]
 | _=>grind [kz]
theorem HX {d:TypeDesc} {kt:TypeId} (hd:P.underlying kt=some d) {x:AV} (hx:kz P d x=true) {w:World} {S:Nat→Prop} {μ:Mu} {kv:Value} (h1:ar w S μ kv x) (b:Bool):(Instr.checkKey b 10000 kt kv).run P w=.ok () w:=by
 cases x with
 | atom xv=>grind [run_checkKey,Ks]
 | agg xs =>
  obtain ⟨n,e,k,rfl,hu,hs,hn,xP⟩:=zo hx
  obtain ⟨vs,rfl,He,D1⟩:=Bx xP h1
  obtain ⟨us,hus,Oq,Ke⟩:=n4 h1
  cases hus
  have loop:∀ (m i:Nat),i+m=n→(forIn (m:=Sem) (List.range' i m) PUnit.unit fun i _=>do
    let z ← sizeOf e
    let q ← part e vs (i * z)
    Instr.checkKey b 9999 e q
    pure (ForInStep.yield PUnit.unit)).run P w=.ok PUnit.unit w:=by
   intro m
   induction m with
   | zero=>intro i _;simp
   | succ m ih =>
    intro i him
    have hi:i < xs.length:=by omega
    obtain ⟨a,Vm,Se⟩:=D1 i hi
    have hc:ko P e xs i=some (.atom (.int k a)):=by
     unfold ko
     rw [hu,hs]
     exact Vm
    obtain ⟨v,r1,r2⟩:=kr He Ke hc (fun n' I4=>by grind)
    have:=dg r2;subst this
    have hck:(Instr.checkKey b 9999 e (.int k a)).run P w=.ok () w:=run_checkKey hu (show IsKey (.int k) (.int k a) from rfl) b 9998
    rw [List.range'_succ,List.forIn_cons]
    simp only [bN,eO hs,Nat.mul_one,r1,hck,df]
    simpa using ih (i+1) (by omega)
  unfold Instr.checkKey
  simp only [bN,run_underlying hd,df]
  simp_all
 | _=>grind [kz]
theorem OC {d:TypeDesc} {x:AV} (hx:kz P d x=true) {w:World} {S:Nat→Prop} {μ:Mu} {kv:Value} (h1:ar w S μ kv x):(Instr.keyThatStays kv kv).run P w=.ok kv w:=by
 cases x with
 | atom xv=>exact run_keyThatStays (Ks hx h1)
 | agg xs =>
  obtain ⟨n,e,k,rfl,hu,hs,hn,xP⟩:=zo hx
  obtain ⟨vs,rfl,He,D1⟩:=Bx xP h1
  have:Instr.sameBits 10000 (.agg vs) (.agg vs)=true:=by
   have hz:∀ l:List Value,(∀ v,v∈l→∃ a,v=.int k a)→(l.zip l).all (fun (x,y)=>Instr.sameBits 9999 x y)=true:=by
    intro l
    induction l with
    | nil=>intro _;rfl
    | cons a l ih =>
     intro h
     obtain ⟨z,rfl⟩:=h a (.head _)
     simp only [List.zip_cons_cons,List.all_cons,bp]
     exact ⟨by simp [Instr.sameBits],ih fun v hv=>h v (.tail _ hv)⟩
   simp only [Instr.sameBits,beq_self_eq_true,Bool.true_and]
   refine hz _ fun v hv=>?_
   obtain ⟨i,hi,rfl⟩:=List.getElem_of_mem hv
   have hi:i < vs.size:=by simpa using hi
   obtain ⟨a,_,ha⟩:=D1 i (by omega)
   rw [jR hi] at ha
   exact ⟨a,by simpa using Option.some.inj ha⟩
  simp [Instr.keyThatStays,this]
 | _=>cases d<;>simp [kz] at hx
theorem Kv (c:Array Value) (h:c.size % 2=0) (a b:Value):g9 ((c.push a).push b)=(g9 c).push ⟨a,b,c.size / 2⟩:=by
 apply Array.ext
 ·simp [g9];omega
 ·intro i h1 h2
  have hs:i < (c.size+1+1) / 2:=by simpa [g9] using h1
  by_cases hi:i < c.size / 2
  ·rw [Array.getElem_push_lt (by rw [yq];exact hi)]
   have e1:2 * i < c.size:=by omega
   have e2:2 * i+1 < c.size:=by omega
   simp [g9,Array.getElem?_push,e1,e2,Nat.ne_of_lt e1,Nat.ne_of_lt e2,show ¬ 2 * i=c.size+1 by omega,show ¬ 2 * i+1=c.size+1 by omega]
  ·have:i=c.size / 2:=by omega
   subst this
   have e1:2 * (c.size / 2)=c.size:=by omega
   simp [g9,Array.getElem_push,Array.getElem?_push,e1]
theorem Mb (c:Array Value) (j:Nat) (e:MapEntry) (he:(g9 c)[j]?=some e) (v:Value):g9 (c.setIfInBounds (2 * j+1) v)=(g9 c).modify j fun q=>{ q with key:=e.key,val:=v }:=by
 have hj:j < c.size / 2:=by
  have:=(Array.getElem?_eq_some_iff.1 he).1
  rwa [yq] at this
 rw [Ma c j hj] at he
 cases he
 apply Array.ext
 ·simp [g9]
 ·intro i h1 h2
  have hi:i < c.size / 2:=by simpa [g9] using h1
  rw [Array.getElem_modify]
  by_cases Vn:j=i
  ·subst Vn
   simp [g9,Array.getElem?_setIfInBounds,show ¬ 2 * j+1=2 * j by omega,show 2 * j+1 < c.size by omega]
  ·rw [if_neg Vn]
   simp [g9,Array.getElem?_setIfInBounds,show ¬ 2 * j+1=2 * i by omega,show ¬ 2 * j=2 * i by omega,Vn]
def vD (P:Program) (σ:dD) (t:TypeId) (m x:AV) (ok:Bool) (bw:ow):Option (List Prop×AV×List Nat) :=
 match m,P.underlying t with
 | .mp k,some (.map kt et)=>match P.underlying kt,au σ k,sw P et with
  | some d,some o,some z=>match kz P d x && Nat.beq o.sz 0 with
   | true=>match ok with
    | false=>some ([(look P kt (o.get 0) x).map (fun r=>r.getD (ofConst z))=some bw.res],bw.res,[k])
    | true=>some ([(look P kt (o.get 0) x).map (fun r=>AV.tup [r.getD (ofConst z),.atom (.bool r.isSome)])=some bw.res],bw.res,[k])
   | false=>none
  | _,_,_=>none
 | _,_=>none
def vE (P:Program) (σ:dD) (t:TypeId) (m x y:AV) (bw:ow):Option (List Prop×sx×List Nat) :=
 match m,P.underlying t,bw.res with
 | .mp k,some (.map kt _),.tup cs=>match P.underlying kt,au σ k with
  | some d,some o=>match kz P d x && Nat.beq o.sz 0 && Nat.beq o.len 0 && y.pure with
   | true=>some ([I9 P kt (o.get 0) x y=some cs],[(k,some ⟨o.var,o.sz,o.len,true,fun _=>cs⟩)],[k])
   | false=>none
  | _,_=>none
 | _,_,_=>none
theorem HY (g:Good E σ S μ w) {k:Nat} {o:Ob} (ho:au σ k=some o) (hz:o.sz=0) {v:Value} (hv:ar w S μ v (.mp k)) :
  ∃ pl c T,μ k=some pl∧gX w S μ o pl c T∧v=.map (some pl.cQ):=by
 obtain ⟨pl,c,T,hm,dh⟩:=g.rep.ob k o ho
 cases hv with
 | mp kn gZ=>grind
theorem OD (g:Good E σ S μ w) {t:TypeId} {m x:AV} {ok:Bool} {bw:ow} {vm vx:Value} (hm:ar w S μ vm m) (hx:ar w S μ vx x) {ps:List Prop} {val:AV} {rd:List Nat}
  (h:vD P σ t m x ok bw=some (ps,val,rd)) (hp:bq ps):∃ v,(Instr.lookup t vm vx ok).run P w=.ok v w∧ar w S μ v val:=by
 unfold vD at h
 split at h
 ·rename_i k kt et ht
  split at h
  ·rename_i d o z hd ho hz
   split at h
   ·rename_i hb
    simp only [bp] at hb
    have Pn:=bW hb.2
    obtain ⟨pl,c,T,uN,dh,rfl⟩:=HY g ho Pn hm
    obtain ⟨hc,m1,m2,m3,m4⟩:=dh.mp Pn
    have Kw:w.heap[pl.cQ]?=some (.map (g9 c) (c.size / 2)):=(dh.cQ hc).trans (by rw [Ar Pn])
    have Vo:=Nk m1 m2 m4
    have P8:=fun b=>HX hd hb.1 hx b
    have main:∀ r,look P kt (o.get 0) x=some r→∃ v,ar w S μ v (r.getD (ofConst z))∧(Instr.lookup t (.map (some pl.cQ)) vx ok).run P w=.ok (if ok then .tuple #[v,.bool r.isSome] else v) w:=by
     intro r hr
     rcases P6 hd hb.1 hx Vo hr with ⟨rfl,q⟩ | ⟨j,e,v,rfl,q1,q2⟩
     ·refine ⟨z,HJ w S μ z,?_⟩
      simp [Instr.lookup,run_underlying ht,Go.MapKept.run_getObj_map Kw,P8,q,HK hz,Result.andThen]
     ·refine ⟨e.val,iX (pr:=true) q2,?_⟩
      simp [Instr.lookup,run_underlying ht,Go.MapKept.run_getObj_map Kw,P8,q1,Result.andThen]
    split at h
    ·simp only [aD,aA] at h
     obtain ⟨rfl,rfl,rfl⟩:=h
     obtain ⟨x8,_⟩:=hp
     simp only [aK] at x8
     obtain ⟨r,hr,eX⟩:=x8
     obtain ⟨v,h1,h2⟩:=main r hr
     exact ⟨v,by simpa using h2,by rw [← eX];exact h1⟩
    ·simp only [aD,aA] at h
     obtain ⟨rfl,rfl,rfl⟩:=h
     obtain ⟨x8,_⟩:=hp
     simp only [aK] at x8
     obtain ⟨r,hr,eX⟩:=x8
     obtain ⟨v,h1,h2⟩:=main r hr
     refine ⟨.tuple #[v,.bool r.isSome],by simpa using h2,?_⟩
     rw [← eX]
     refine .tup rfl fun j c v' hc hv=>?_
     match j with
     | 0=>simp at hc hv;subst hc hv;exact h1
     | 1=>simp at hc hv;subst hc hv;exact .atom _
     | j+2=>simp at hc
   ·cases h
  ·cases h
 ·cases h
theorem HZ (g:Good E σ S μ w) {t:TypeId} {m x y:AV} {bw:ow} {vm vx vy:Value} (hm:ar w S μ vm m) (hx:ar w S μ vx x) (hy:ar w S μ vy y) {ps:List Prop} {mF:sx} {rd:List Nat}
  (h:vE P σ t m x y bw=some (ps,mF,rd)) (hp:bq ps):∃ w',(Instr.mapUpdate t vm vx vy).run P w=.ok () w'∧Ext w S μ w' S μ∧Good E (fI σ mF) S μ w':=by
 unfold vE at h
 split at h
 ·rename_i k kt et cs ht OB
  split at h
  ·rename_i d o hd ho
   split at h
   ·rename_i hb
    simp only [aD,aA] at h
    obtain ⟨rfl,rfl,rfl⟩:=h
    simp only [bp] at hb
    obtain ⟨⟨⟨ss,pB⟩,Pe⟩,Sx⟩:=hb
    have Pn:=bW pB
    have Kg:=bW Pe
    obtain ⟨x8,_⟩:=hp
    obtain ⟨pl,c,T,uN,dh,rfl⟩:=HY g ho Pn hm
    obtain ⟨hc,m1,m2,m3,m4⟩:=dh.mp Pn
    have Kw:w.heap[pl.cQ]?=some (.map (g9 c) (c.size / 2)):=(dh.cQ hc).trans (by rw [Ar Pn])
    have Vo:=Nk m1 m2 m4
    have P8:=fun b=>HX hd ss hx b
    have Xg:=OC ss hx
    have hxp:x.pure=true:=P7 ss
    -- the block that is written
    have fin:∀ (c':Array Value),c'.size % 2=0→c'.size=cs.length→(∀ (j:Nat) x v,cs[j]?=some x→c'[j]?=some v→ar w S iW v x) →
      (Instr.mapUpdate t (.map (some pl.cQ)) vx vy).run P w=.ok () { w with heap:=w.heap.setIfInBounds pl.cQ (.map (g9 c') (c'.size / 2)) } →
      ∃ w',(Instr.mapUpdate t (.map (some pl.cQ)) vx vy).run P w=.ok () w'∧Ext w S μ w' S μ∧Good E (fI σ [(k,some ⟨o.var,o.sz,o.len,true,fun _=>cs⟩)]) S μ w':=by
     intro c' e1 e2 e3 lV
     refine ⟨_,lV,?_⟩
     have OE:=heap_set (o':=.map (g9 c') (c'.size / 2)) Kw
     refine g.Sp (w':={ w with heap:=w.heap.setIfInBounds pl.cQ (.map (g9 c') (c'.size / 2)) }) ho uN hc dh rfl rfl rfl (by simp) (fun b hb=>OE.2 b hb) ⟨o.var,o.sz,o.len,true,fun _=>cs⟩ (pZ fun i hi=>absurd hi (by show ¬ i < o.len;omega)) (fun ex=>⟨c',T,dh.sz,fun _=>?_,?_,by simp_all,dh.out,fun i hi=>absurd hi (by show ¬ i < o.len;omega),fun i j x v hi=>absurd hi (by show ¬ i < o.len;omega),fun _=>⟨hc,e1,e2,rfl,fun j x v hx hv=>(e3 j x v hx hv).mono ex.IU ex.cQ (fun _ _ h=>h)⟩⟩)
     ·grind [Aq,Ar]
     ·simp_all
    rcases SQ hd ss hx (y:=y) Vo x8 with ⟨q1,q2⟩ | ⟨j,e,q1,q2,q3,q4⟩
    ·refine fin ((c.push vx).push vy) (by simp;omega) (by rw [q2];simp;omega) ?_ ?_
     ·intro j x' v' xw tn
      rw [q2] at xw
      by_cases hj:j < c.size
      ·grind
      ·rw [jS (by omega)] at xw
       by_cases YD:j=c.size
       ·subst YD
        rw [show c.size - (o.get 0).length=0 by omega] at xw
        rw [Array.getElem?_push,if_neg (by simp),Array.getElem?_push,if_pos rfl] at tn
        simp at xw tn
        subst xw tn
        exact hx.pure hxp iW
       ·by_cases hj1:j=c.size+1
        ·subst hj1
         rw [show c.size+1 - (o.get 0).length=1 by omega] at xw
         rw [Array.getElem?_push,if_pos (by simp)] at tn
         simp at xw tn
         subst xw tn
         exact hy.pure Sx iW
        ·rw [oP (by simp;omega)] at xw;cases xw
     ·rw [Kv c m1]
      have e:((c.push vx).push vy).size / 2=c.size / 2+1:=by simp;omega
      rw [e]
      simp [Instr.mapUpdate,run_underlying ht,Go.MapKept.run_getObj_map Kw,P8,q1,Go.MapKept.run_setObj_map _ Kw,Result.andThen]
    ·have WD:(g9 c)[j]?=some e:=by simpa using q2
     have hj:j < c.size / 2:=by
      have:=(Array.getElem?_eq_some_iff.1 WD).1
      rwa [yq] at this
     refine fin (c.setIfInBounds (2 * j+1) vy) (by simpa using m1) (by rw [q4];simpa using m2) ?_ ?_
     ·intro i x' v' xw tn
      rw [q4,List.getElem?_set] at xw
      rw [Array.getElem?_setIfInBounds] at tn
      by_cases hi:2 * j+1=i
      ·subst hi
       rw [if_pos rfl,if_pos (by omega)] at xw
       rw [if_pos rfl,if_pos (by omega)] at tn
       simp at xw tn
       subst xw tn
       exact hy.pure Sx iW
      ·rw [if_neg hi] at xw tn
       exact m4 i x' v' xw tn
     ·rw [Mb c j e WD vy]
      simp [Instr.mapUpdate,run_underlying ht,Go.MapKept.run_getObj_map Kw,P8,q1,WD,q3,Xg,Go.MapKept.run_setObj_map _ Kw,Result.andThen]
   ·cases h
  ·cases h
 ·cases h
theorem Mc (g:Good E σ S μ w) (Ax:∀ j,j < 16→μ (nk+j)=none) (uu:E.m0≤nk) {f:AV} {args:List AV} {bw:ow} {r:R} {fv:Value} (hf:ar w S μ fv f) {Bw:Array Value} (ha:RL w S μ Bw args)
  (hz:bw.xO=true→∀ b,¬ E.fp b) (h:Fu P nk σ f args bw=some r) (hp:bq r.HR) :
  ∃ gid vs,(do let d ← Deferred.ofValue fv Bw;invoke d.target d.args:Sem Next).run P w=.ok (.enter gid vs) w ∧
   Calls P gid vs w fun e w'=>∃ v S' dy,e=.returned v∧Ext w S μ w' S' dy∧Good E (fI σ r.mF) S' dy w'∧(∀ k,(k < nk∨nk+16≤k)→μ k=none→dy k=none)∧ar w' S' dy v r.val :=
 Kp (ob:=Sound P) g Ax uu hf ha hz (fun _ _ _ _ _ _ vs hs g0 hn xP=>hs w _ _ vs g0 hn xP) h hp
end
end Go.Ab
