/- Abstract values over the heap of the machine, and functions read off its code (part 2). No conditions. -/
import Derived.Test.YtkejjbiabpdhjaaGreatCa
import Derived.Laws.IdiomStrings
import Derived.MapKept
import Derived.Carry
set_option linter.unusedVariables false
set_option linter.unusedSimpArgs false
namespace Go.Ab
def ZG (w:World) (σ:fe) (μ:Mu) (b:Nat):Prop:=(∃ k o pl,ay σ k=some o/\μ k=some pl/\0 < pl.cap/\pl.df=b)\/∃ k i x v,kj w μ σ k i x v/\ptrTo v b
def zW (w:World) (S:Nat->Prop) (σ:fe) (μ:Mu) (m:Nat):Env:=⟨w,S,ZG w σ μ,μ,m⟩
def Sound (P:Program) (f:FuncId) (a:List AV) (σ:fe) (m:Nat) (res:AV) (b:fe):Prop :=
 ∀ (w:World) (S:Nat->Prop) (μ:Mu) (vs:Array Value),Good (zW w S σ μ m) σ S μ w->(∀ k,m<=k->μ k=none)->RL w S μ vs a ->
  Calls P f vs w fun e w'=>∃ v S' ey,e=.returned v/\Good (zW w S σ μ m) b S' ey w'/\av w' S' ey v res
section
variable {E:Env} {nk:Nat} {σ:fe} {S:Nat->Prop} {μ:Mu} {w:World}
theorem kj.of (g:Good E σ S μ w) {k i:Nat} {o:Ob} {x:Nat×Nat×(Nat->List AV)} (b:ay σ k=some o) (d:rowOf o i=some x) {pl:Place} (hm:μ k=some pl):∃ v,kj w μ σ k i x v:=by
 obtain ⟨h1,h2,h3⟩:=dS d;obtain ⟨lL,c,T,e,a⟩:=g.rep.ob k o b;rw [hm] at e;cases e;have f:=a.zF i h2;rw [h3] at f;obtain ⟨v,l,h⟩:=dg a (i:=i) (j:=0) h2 (by simp at f;omega);exact ⟨v,o,pl,b,d,hm,by rw [a.sz];simpa using h⟩
theorem kg.afC {o:Ob} {pl:Place} {c:Array Value} {T:TypeId} {ey:Mu} (h:kg w S μ o pl c T) (d:o.sz≠0) (b:∀ k p,μ k=some p->ey k=some p) (i:Nat) (cs:List AV) (e:cs.length=o.sz)
  (q:∀ j x v,i < o.len->cs[j]?=some x->c[i * o.sz+j]?=some v->av w S ey v x):kg w S ey ⟨false,o.sz,o.len,false,fun m=>if m=i then cs else o.get m⟩ pl c T:=by
 refine ⟨h.sz,h.df,h.cap,h.len,h.out,fun m hm=>?_,fun m j x v hm f g=>?_,fun l=>absurd l d⟩
 ·show (if m=i then cs else o.get m).length=o.sz;split
  ·exact e
  ·exact h.zF m hm
 ·have a:(if m=i then cs else o.get m)[j]?=some x:=f;show av w S ey v x
  by_cases n:m=i
  ·grind
  ·rw [if_neg n] at a;exact (ln (h.rep m j x v hm a g)).mono (fun _ h=>h) (fun _ _=>rfl) b
theorem Good.opn (g:Good E σ S μ w) (hk:μ nk=none) (td:E.m0<=nk) {k i:Nat} {o:Ob} {x:Nat×Nat×(Nat->List AV)} (R:ay σ k=some o) (hr:rowOf o i=some x) :
  ∃ q:Place,Ext w S μ w S (di μ nk q)/\Good E (sset (sset σ k ⟨false,o.sz,o.len,false,fun m=>if m=i then [.os nk 0 x.2.1] else o.get m⟩) nk ⟨false,x.1,x.2.1,true,x.2.2⟩) S (di μ nk q) w:=by
 obtain ⟨Ik,hi,tk⟩:=dS hr;obtain ⟨pl,c,T,hm,I⟩:=g.rep.ob k o R;have E6:k≠nk:=fun h=>by simp_all
 have rK:o.sz=1:=by have:=I.zF i hi;rw [tk] at this;simpa using this.symm
 obtain ⟨v,J⟩:=kj.of g R hr hm;obtain ⟨a,cap,rfl,h1,h2,h3⟩:=g.mx.row _ _ _ _ J
 -- the place of the row
 have hq:∃ q:Place,q.sz=x.1/\cap=q.cap/\(0 < cap->a=some ⟨q.df,0,none⟩)/\(0 < q.cap->0 < cap)/\(∃ c' T',kg w S kf ⟨false,x.1,x.2.1,true,x.2.2⟩ q c' T')/\(0 < q.cap->E.fp q.df\/E.w0.heap.size<=q.df):=by
  rcases Nat.eq_zero_or_pos cap with r | r
  ·refine ⟨⟨0,0,x.1⟩,rfl,r,fun h=>ad,fun h=>absurd h (yS _),⟨#[],0,rfl,fun h=>absurd h (yS _),ao,by show x.2.1<=0;omega,fun h=>absurd h (yS _),fun j K=>absurd K (by show ¬ j < x.2.1;omega),fun j l y u K=>absurd K (by show ¬ j < x.2.1;omega),fun hz=>absurd hz (by simp_all)⟩,fun h=>absurd h (yS _)⟩
  ·grind
 obtain ⟨q,q1,q2,q3,q4,⟨c',T',C⟩,q6⟩:=hq;have U:∀ n p,μ n=some p->di μ nk q n=some p:=fun n p h=>by
  grind [di]
 have ZH:0 < q.cap->ptrTo (.slice a x.2.1 cap) q.df:=fun h=>⟨_,_,by rw [q3 (q4 h)],q4 h⟩;have ext:Ext w S μ w S (di μ nk q):=⟨aV _,fun _ h=>h,fun _ _=>rfl,U⟩
 let o':Ob:=⟨false,o.sz,o.len,false,fun m=>if m=i then [.os nk 0 x.2.1] else o.get m⟩
 let V:Ob:=⟨false,x.1,x.2.1,true,x.2.2⟩
 have F5:∀ n y,ay (sset (sset σ k o') nk V) n=some y->(n=nk/\y=V)\/(n≠nk/\n=k/\y=o')\/(n≠nk/\n≠k/\ay σ n=some y):=by
  intro n y h;rw [bz] at h
  by_cases d:nk=n
  ·simp_all
  ·rw [if_neg d,bz] at h;grind
 have B:∀ n p,n≠nk->di μ nk q n=some p->μ n=some p:=fun n p d h=>by simp_all [di,if_neg]
 have t:∀ p,di μ nk q nk=some p->p=q:=fun p h=>by unfold di at h;simp_all
 have f:∀ n y,ay (sset (sset σ k o') nk V) n=some y->n≠nk->∃ D,ay σ n=some D:=fun n y h d=>by
  grind
 refine ⟨q,ext,⟨g.fr,g.S0,g.S1,g.S2,⟨fun n y h=>?_,fun n s y D p F W h X G ue r oH=>?_⟩,fun n y p h G r=>?_,fun n d=>?_,?_⟩⟩
 ·rcases F5 n y h with ⟨rfl,rfl⟩ | ⟨d,rfl,rfl⟩ | ⟨d,L,h⟩
  ·refine ⟨q,c',T',by simp [di],C.sz,C.df,C.cap,C.len,C.out,C.zF,fun j l y u K M Y=>C.rep j l y u K M Y,fun hz=>absurd hz (by grind)⟩
  ·refine ⟨pl,c,T,U _ _ hm,I.afC ad U i [.os nk 0 x.2.1] (by rw [rK];rfl) fun j y u _ M Y=>?_⟩;cases j with
   | succ j=>simp at M
   | zero =>
    simp at M;subst M;obtain ⟨o2,p2,Z,N,O,P⟩:=J;rw [R] at Z;cases Z;rw [hm] at O;cases O;have yM:c[i * o.sz+0]?=some (.slice a x.2.1 cap):=by
     have:=cell_of_row w pl.df (i * pl.sz) _ _ _ ((I.df (by have:=I.len;omega)).trans (congrArg some (jf ad c T)));rw [this,I.sz] at P;exact P
    rw [yM] at Y;cases Y;exact .os q (by simp [di]) (fun r=>by rw [q3 r];simp) h1 ad
  ·obtain ⟨p,c2,T2,HD,Of⟩:=g.rep.ob n y h;exact ⟨p,c2,T2,U _ _ HD,Of.ext ext (fun _=>rfl) Of.out⟩
 ·by_cases d:n=nk<;>by_cases H:s=nk
  ·exact absurd (d.trans H.symm) W
  ·subst d;cases t p G;obtain ⟨z,A⟩:=f s D X H;exact fun e=>g.mx.obj _ _ _ _ _ J (ZH r) s z F A (B _ _ H ue) oH e.symm
  ·subst H;cases t F ue;obtain ⟨z,A⟩:=f n y h d;exact g.mx.obj _ _ _ _ _ J (ZH oH) n z p A (B _ _ d G) r
  ·obtain ⟨z,A⟩:=f n y h d;obtain ⟨y2',ZJ⟩:=f s D X H;exact g.rep.ne n s z y2' p F W A ZJ (B _ _ d G) (B _ _ H ue) r oH
 ·by_cases d:n=nk
  ·subst d;cases t p G;exact q6 r
  ·obtain ⟨z,A⟩:=f n y h d;exact g.own n z p A (B _ _ d G) r
 ·unfold di;rw [if_neg ad];exact g.Lm n d
 ·have key:∀ n j y u,kj w (di μ nk q) (sset (sset σ k o') nk V) n j y u->kj w μ σ n j y u/\¬ (n=k/\j=i):=by
   rintro n j y u ⟨o2,p2,Z,N,O,P⟩;rcases F5 n o2 Z with ⟨rfl,rfl⟩ | ⟨d,rfl,rfl⟩ | ⟨d,L,h⟩
   ·rw [h2.2 j] at N;cases N
   ·obtain ⟨_,e2,Q⟩:=dS N;have Q:(if j=i then [AV.os nk 0 x.2.1] else o.get j)=[.mr y.1 y.2.1 y.2.2]:=Q;split at Q
    ·cases Q
    ·rename_i Ix;exact ⟨⟨o,p2,R,nL Ik e2 Q,B _ _ d O,P⟩,fun h=>Ix h.2⟩
   ·exact ⟨⟨o2,p2,h,N,B _ _ d O,P⟩,fun h=>L h.1⟩
  refine ⟨fun n j y u h=>g.mx.row _ _ _ _ (key n j y u h).1,fun n j y u b h hb s D F h1 h2 h3 he=>?_,fun n j y u b s j' D u' h X hb zG=>g.mx.two _ _ _ _ _ _ _ _ _ (key _ _ _ _ h).1 (key _ _ _ _ X).1 hb zG⟩;obtain ⟨xz,W⟩:=key n j y u h
  by_cases d:s=nk
  ·subst d;cases t F h2;obtain ⟨e1,e2⟩:=g.mx.two _ _ _ _ _ _ _ _ _ xz J hb (he ▸ ZH h3);exact W ⟨e1,e2⟩
  ·obtain ⟨z,A⟩:=f s D h1 d;exact g.mx.obj _ _ _ _ _ xz hb s z F A (B _ _ d h2) h3 he
theorem Good.cls (g:Good E σ S μ w) {k q i:Nat} {o d:Ob} (Z:ay σ k=some o) (s:ay σ q=some d) (hkq:k≠q) (Ik:o.var=false) (P:d.var=false) (ZK:d.pr=true) (Q:1<=d.sz)
  (hi:i < o.len) (tk:o.get i=[.os q 0 d.len]) (Oh:∀ j,rowOf d j=none) :
  Good E (sset (wE σ q) k ⟨false,o.sz,o.len,false,fun m=>if m=i then [.mr d.sz d.len d.get] else o.get m⟩) S μ w:=by
 obtain ⟨pl,c,T,hm,J⟩:=g.rep.ob k o Z;obtain ⟨z,cq,Tq,t,v⟩:=g.rep.ob q d s;have rK:o.sz=1:=by have:=J.zF i hi;rw [tk] at this;simpa using this.symm
 let o':Ob:=⟨false,o.sz,o.len,false,fun m=>if m=i then [.mr d.sz d.len d.get] else o.get m⟩
 have F5:∀ n y,ay (sset (wE σ q) k o') n=some y->n≠q/\((n=k/\y=o')\/(n≠k/\ay σ n=some y)):=by
  intro n y h;rw [bz] at h
  by_cases L:k=n
  ·simp_all
  ·rw [if_neg L,iE] at h;grind
 have f:∀ n y,ay (sset (wE σ q) k o') n=some y->n≠q/\∃ B,ay σ n=some B:=fun n y h=>by
  grind
 -- the cell that names the row
 have yM:∃ a cap,c[i * o.sz+0]?=some (.slice a d.len cap)/\w.cell? ⟨pl.df,i * pl.sz,none⟩=some (.slice a d.len cap)/\d.len<=cap/\cap<=z.cap/\(0 < cap->a=some ⟨z.df,0,none⟩):=by
  obtain ⟨u,M,N⟩:=dg J (i:=i) (j:=0) hi ad;have:=ln (J.rep i 0 (.os q 0 d.len) u hi (by rw [tk];rfl) M);cases this with
  | os lL iq r x C =>
   rename_i cap a;rw [t] at iq;cases iq;exact ⟨a,cap,M,by rw [J.sz];simpa using N,x,ad,fun h=>by rw [r h];simp⟩
 obtain ⟨a,cap,d1,d2,d3,d4,d5⟩:=yM;have x6:Xl E.fp E.w0.heap.size w S (.slice a d.len cap) (d.sz,d.len,d.get):=by
  refine ⟨a,cap,rfl,d3,⟨Q,fun j=>?_⟩,fun D=>⟨z.df,cq,Tq,d5 D,⟨rfl,fun _=>?_,?_,d3,fun _=>v.out ad,v.zF,fun j l y u hj K hu=>?_,fun hz=>absurd hz (by show d.sz≠0;omega)⟩,g.own q d z s t ad⟩⟩
  ·cases hr:rowOf ⟨false,d.sz,d.len,true,d.get⟩ j with
   | none=>rfl
   | some y =>
    obtain ⟨_,r2,r3⟩:=dS hr;have:=nL P r2 r3;simp_all
  ·exact v.df ad
  ·exact gG (fy _ d4) v.cap
  ·have:=v.rep j l y u hj K hu;simp_all
 have key:∀ n j y u,kj w μ (sset (wE σ q) k o') n j y u->(kj w μ σ n j y u/\¬ (n=k/\j=i))\/(n=k/\j=i/\y=(d.sz,d.len,d.get)/\u=.slice a d.len cap):=by
  rintro n j y u ⟨o2,p2,M,N,R,b4⟩;obtain ⟨h0,⟨rfl,rfl⟩ | ⟨L,h1⟩⟩:=F5 n o2 M
  ·rw [hm] at R;cases R;obtain ⟨_,x,C⟩:=dS N;have e4:(if j=i then [AV.mr d.sz d.len d.get] else o.get j)=[.mr y.1 y.2.1 y.2.2]:=C;clear C
   by_cases Ix:j=i
   ·simp_all
   ·rw [if_neg Ix] at e4;have C:=e4;exact .inl ⟨⟨o,pl,Z,nL Ik x C,hm,b4⟩,fun h=>Ix h.2⟩
  ·exact .inl ⟨⟨o2,p2,h1,N,R,b4⟩,fun h=>L h.1⟩
 have U:∀ b,ptrTo (.slice a d.len cap) b->z.df=b/\0 < z.cap:=by
  rintro b ⟨l,cp,e,D⟩;injection e with r x C
  subst C;rw [d5 D] at r;injection r with r
  injection r with r
  exact ⟨r,ad⟩
 refine ⟨g.fr,g.S0,g.S1,g.S2,⟨fun n y h=>?_,fun n A y B p O gU h F V ue D oH=>?_⟩,fun n y p h V D=>?_,g.Lm,?_⟩
 ·obtain ⟨h0,⟨rfl,rfl⟩ | ⟨L,h1⟩⟩:=F5 n y h
  ·exact ⟨pl,c,T,hm,J.afC ad (fun _ _ h=>h) i _ (by rw [rK];rfl) fun j y u _ K hu=>by
    cases j with
    | zero=>simp at K;subst K;exact .mr
    | succ j=>simp at K⟩
  ·exact g.rep.ob n y h1
 ·obtain ⟨_,G,H⟩:=f n y h;obtain ⟨_,W,ZJ⟩:=f A B F;exact g.rep.ne n A G W p O gU H ZJ V ue D oH
 ·obtain ⟨_,G,H⟩:=f n y h;exact g.own n G p H V D
 ·refine ⟨fun n j y u h=>?_,fun n j y u b h I A B O h1 h2 h3 he=>?_,fun n j y u b A j' B u' h F I X=>?_⟩
  ·rcases key n j y u h with ⟨h,_⟩ | ⟨_,_,rfl,rfl⟩
   ·exact g.mx.row _ _ _ _ h
   ·exact x6
  ·obtain ⟨Y,G,H⟩:=f A B h1;rcases key n j y u h with ⟨h,_⟩ | ⟨_,_,rfl,rfl⟩
   ·exact g.mx.obj _ _ _ _ _ h I A G O H h2 h3 he
   ·obtain ⟨r,x⟩:=U b I;exact g.rep.ne A q G d O z Y H s h2 t h3 x (he.trans r.symm)
  ·rcases key n j y u h with ⟨h,_⟩ | ⟨n1,j1,rfl,rfl⟩<;>rcases key A j' B u' F with ⟨F,_⟩ | ⟨n2,j2,rfl,rfl⟩
   ·exact g.mx.two _ _ _ _ _ _ _ _ _ h F I X
   ·obtain ⟨r,x⟩:=U b X;exact (g.mx.obj _ _ _ _ _ h I q d z s t x r).elim
   ·obtain ⟨r,x⟩:=U b I;exact (g.mx.obj _ _ _ _ _ F X q d z s t x r).elim
   ·exact ⟨n1.trans n2.symm,j1.trans j2.symm⟩
end
mutual
def AV.nR (f:Nat->Option Nat):AV->AV
 | .op k i j=>match f k with
  | some k'=>.op k' i j
  | none=>.il
 | .os k off len=>match f k with
  | some k'=>.os k' off len
  | none=>.il
 | .agg cs=>.agg (AV.BJ f cs)
 | .tup cs=>.tup (AV.BJ f cs)
 | .fn g a b=>.fn g (AV.BJ f a) (AV.BJ f b)
 | .when b x=>.when b (x.nR f)
 | .mp k=>match f k with
  | some k'=>.mp k'
  | none=>.il
 | .bn n=>.bn n
 | .pt b cs=>.pt b cs
 | .atom v=>.atom v
 | .sl n g=>.sl n g
 | .rp c o=>.rp c o
 | .ov _ _ _ _ _=>.il
 | .Ll _ _ _=>.il
 | .nq st x=>.nq st (x.nR f)
 | .nil=>.nil
 | .il=>.il
 | .mr sz n g=>.mr sz n g
def AV.BJ (f:Nat->Option Nat):List AV->List AV
 | []=>[]
 | c :: cs=>c.nR f :: AV.BJ f cs
end
theorem DZ (f:Nat->Option Nat) (cs:List AV):AV.BJ f cs=cs.map (·.nR f):=by
 induction cs with
 | nil=>rfl
 | cons c cs a=>simp [AV.BJ,a]
theorem av.nR {w:World} {S:Nat->Prop} {μ:Mu} {v:Value} {x:AV} (h:av w S μ v x) :
  ∀ {ey:Mu} {f:Nat->Option Nat},(∀ k k' pl,f k=some k'->μ k=some pl->ey k'=some pl)->av w S ey v (x.nR f):=by
 induction h with
 | atom v=>exact fun _=>.atom v
 | agg h1 h2 e =>
  intro ey f d;simp only [AV.nR,DZ];refine .agg (by simp [h1]) fun j c v g l=>?_;grind
 | tup h1 h2 e =>
  intro ey f d;simp only [AV.nR,DZ];refine .tup (by simp [h1]) fun j c v g l=>?_;grind
 | sl b off sz f h1 h2 h3 h4 n _=>exact fun _=>.sl b off sz f h1 h2 h3 h4 n
 | rp b o f h1 h2 h3 _=>exact fun _=>.rp b o f h1 h2 h3
 | @op μ k i j pl h =>
  grind [AV.nR,op,il]
 | @os μ k off len cap a pl h h1 h2 h3 =>
  grind [AV.nR,os,il]
 | fn h1 h2 _ _ p q =>
  intro ey f d;simp only [AV.nR,DZ];refine .fn (by simp [h1]) (by simp [h2]) (fun j c v g l=>?_) (fun j c v g l=>?_)
  ·grind
  grind
 | when _ r e=>exact fun d=>.when (fun m=>e m d) r
 | @mp μ k pl h =>
  grind [AV.nR,mp,il]
 | bn b h=>exact fun _=>.bn b h
 | pt h1 h2 _ =>
  intro ey f d;exact .pt (fun m=>by have:=h1 m;cases this with
   | rp b o f s t u=>exact .rp b o f s t u) h2
 | ov=>exact fun _=>.il
 | Ll=>exact fun _=>.il
 | nq _ h1 h2 e=>exact fun d=>.nq (e d) h1 h2
 | nil=>exact fun _=>.nil
 | il=>exact fun _=>.il
 | mr=>exact fun _=>.mr
def Ob.nR (f:Nat->Option Nat) (o:Ob):Ob :=
 match o.pr with
 | true=>o
 | false=>{ o with get:=fun i=>AV.BJ f (o.get i) }
theorem Ob.zX (f:Nat->Option Nat) (o:Ob):(o.nR f).sz=o.sz:=by grind [Ob.nR]
theorem Ob.HI (f:Nat->Option Nat) (o:Ob):(o.nR f).len=o.len:=by grind [Ob.nR]
theorem Ob.LF (f:Nat->Option Nat) (o:Ob):(o.nR f).pr=o.pr:=by grind [Ob.nR]
theorem afE {f:Nat->Option Nat} {cs:List AV} {sz n:Nat} {g:Nat->List AV} (h:AV.BJ f cs=[.mr sz n g]):cs=[.mr sz n g]:=by
 cases cs with
 | nil=>cases h
 | cons c cs =>
  cases cs with
  | cons d ds=>simp [AV.BJ] at h
  | nil =>
   simp only [AV.BJ,List.cons.injEq,and_true] at h;cases c with
   | op=>grind [AV.nR]
   | os=>grind [AV.nR]
   | mp=>grind [AV.nR]
   | mr=>simpa [AV.nR] using h
   | _=>cases h
theorem wP (f:Nat->Option Nat) (o:Ob) (i:Nat) (x:Nat×Nat×(Nat->List AV)):rowOf (o.nR f) i=some x↔rowOf o i=some x:=by
 unfold Ob.nR;split
 ·exact Iff.rfl
 ·constructor
  ·intro h;obtain ⟨h1,h2,h3⟩:=dS h;grind [nL,afE]
  ·intro h;obtain ⟨h1,h2,h3⟩:=dS h;exact nL h1 h2 (by show AV.BJ f (o.get i)=_;rw [h3];rfl)
theorem kg.nR {w:World} {S:Nat->Prop} {μ ey:Mu} {o:Ob} {pl:Place} {c:Array Value} {T:TypeId} (h:kg w S μ o pl c T) {f:Nat->Option Nat}
  (g:∀ k k' pl,f k=some k'->μ k=some pl->ey k'=some pl):kg w S ey (o.nR f) pl c T:=by
 refine ⟨(Ob.zX f o).symm ▸ h.sz,(Ob.zX f o).symm ▸ h.df,(Ob.zX f o).symm ▸ h.cap,(Ob.HI f o).symm ▸ h.len,h.out,?_,?_,fun d=>?_⟩
 rotate_left 2
 ·rw [Ob.zX] at d;obtain ⟨m,h1,h2,h3,h4⟩:=h.mp d;grind [Ob.nR]
 ·intro i hi;rw [Ob.HI] at hi;rw [Ob.zX,<- h.zF i hi];grind [Ob.nR,DZ]
 ·intro i j x v hi a b;rw [Ob.HI] at hi;rw [Ob.zX] at b;rw [Ob.LF];unfold Ob.nR at a;split at a
  ·rename_i e;have:=h.rep i j x v hi a b;simp_all
  ·rename_i e;simp only [DZ,List.getElem?_map,a4] at a;obtain ⟨y,l,rfl⟩:=a;have:=h.rep i j y v hi l b;rw [e] at this ⊢;exact this.nR g
def idx:List Nat->Nat->Option Nat
 | [],_=>none
 | a :: r,k=>match Nat.beq a k with
  | true=>some 0
  | false=>(idx r k).map (·+1)
theorem rO:∀ (ks:List Nat) (k i:Nat),idx ks k=some i->ks[i]?=some k
 | [],k,i,h=>by simp [idx] at h
 | a :: r,k,i,h=>by
  simp only [idx] at h;split at h
  ·rename_i b;cases h;simp [bZ b]
  ·simp only [a4] at h;obtain ⟨i',c,rfl⟩:=h;simpa using rO r k i' c
mutual
def AV.jQ (σ:fe) (ks:List Nat):AV->Option (AV×List Nat×List Prop)
 | .op k i j=>match idx ks k with
  | some n=>some (.op n i j,[],[])
  | none=>some (.il,[],[])
 | .os k off len=>match idx ks k with
  | some n=>some (.os n off len,[],[])
  | none=>match ay σ k with
   | some o=>match o.pr with
    | true=>some (.sl len (fun i=>o.get (da off i)),[k],[off+len<=o.len])
    | false=>none
   | none=>none
 | .agg cs=>(AV.wH σ ks cs).map fun (a,b,c)=>(.agg a,b,c)
 | .tup cs=>(AV.wH σ ks cs).map fun (a,b,c)=>(.tup a,b,c)
 | .fn g x y=>match AV.wH σ ks x,AV.wH σ ks y with
  | some (a,b,c),some (d,e,f)=>some (.fn g a d,b ++ e,c ++ f)
  | _,_=>none
 | .when _ _=>none
 | .ov _ _ _ _ _=>none
 | .Ll _ _ _=>none
 | .nq _ _=>none
 | .mp k=>(idx ks k).map fun n=>(.mp n,[],[])
 | .bn n=>some (.bn n,[],[])
 | .pt b cs=>some (.pt b cs,[],[])
 | .atom v=>some (.atom v,[],[])
 | .sl n g=>some (.sl n g,[],[])
 | .rp c o=>some (.rp c o,[],[])
 | .nil=>some (.nil,[],[])
 | .il=>some (.il,[],[])
 | .mr _ _ _=>none
def AV.wH (σ:fe) (ks:List Nat):List AV->Option (List AV×List Nat×List Prop)
 | []=>some ([],[],[])
 | c :: cs=>match c.jQ σ ks,AV.wH σ ks cs with
  | some (a,b,p),some (d,e,f)=>some (a :: d,b ++ e,p ++ f)
  | _,_=>none
end
def ot (μ:Mu) (ks:List Nat):Mu:=fun i=>(ks[i]?).bind μ
def F6 (μ:Mu) (bs:List Nat) (b:Nat):Prop:=∃ k∈bs,∃ pl,μ k=some pl/\0 < pl.cap/\pl.df=b
theorem F7 {μ:Mu} {ks:List Nat}:∀ k i pl,idx ks k=some i->μ k=some pl->ot μ ks i=some pl:=by
 intro k i pl h hm;simp [ot,rO ks k i h,hm]
section
variable {P:Program} {E:Env} {nk:Nat} {σ:fe} {S:Nat->Prop} {μ:Mu} {w:World}
theorem afF (g:Good E σ S μ w) {ks:List Nat} {v:Value} {x:AV} (h:av w S μ v x):∀ (S':Nat->Prop),(∀ b,S b->S' b)->∀ {y:AV} {bs:List Nat} {ps:List Prop},
  x.jQ σ ks=some (y,bs,ps)->bg ps->(∀ b,F6 μ bs b->S' b)->av w S' (ot μ ks) v y:=by
 have lists:∀ {μ:Mu} {vs:Array Value} {cs:List AV} (S':Nat->Prop),
   (∀ (j:Nat) (c:AV) (v:Value),cs[j]?=some c->vs[j]?=some v->∀ {y:AV} {bs:List Nat} {ps:List Prop},c.jQ σ ks=some (y,bs,ps)->bg ps->(∀ b,F6 μ bs b->S' b)->av w S' (ot μ ks) v y) ->
   ∀ {ys:List AV} {bs:List Nat} {ps:List Prop},AV.wH σ ks cs=some (ys,bs,ps)->bg ps->(∀ b,F6 μ bs b->S' b) ->
   ys.length=cs.length/\∀ (j:Nat) (c:AV) (v:Value),ys[j]?=some c->vs[j]?=some v->av w S' (ot μ ks) v c:=by
  intro μ vs cs S' h;have gen:∀ (cs:List AV) (o:Nat),(∀ (j:Nat) (c:AV) (v:Value),cs[j]?=some c->vs[o+j]?=some v->∀ {y:AV} {bs:List Nat} {ps:List Prop},c.jQ σ ks=some (y,bs,ps)->bg ps->(∀ b,F6 μ bs b->S' b)->av w S' (ot μ ks) v y) ->
   ∀ {ys:List AV} {bs:List Nat} {ps:List Prop},AV.wH σ ks cs=some (ys,bs,ps)->bg ps->(∀ b,F6 μ bs b->S' b) ->
   ys.length=cs.length/\∀ (j:Nat) (c:AV) (v:Value),ys[j]?=some c->vs[o+j]?=some v->av w S' (ot μ ks) v c:=by
   intro cs
   induction cs with
   | nil =>
    intro o _ ys bs ps h _ _;simp [AV.wH] at h;simp_all
   | cons c cs D =>
    intro o O ys bs ps h u l;simp only [AV.wH] at h;split at h
    ·rename_i a b p R U p' h1 h2;simp only [aX,aQ] at h;obtain ⟨rfl,rfl,rfl⟩:=h;obtain ⟨H,I⟩:=bg.app u;have J:=D (o+1) (fun j c v d m=>O (j+1) c v (by simpa using d) (by grind)) h2 I (fun q A=>l q (by obtain ⟨k,B,r⟩:=A;exact ⟨k,by simp [B],r⟩));refine ⟨by simp [J.1],?_⟩;intro j K v d m;cases j with
     | zero =>
      simp at d;subst d;exact O 0 c v ao m h1 H (fun q A=>l q (by obtain ⟨k,B,r⟩:=A;exact ⟨k,by simp [B],r⟩))
     | succ j=>grind
    ·cases h
  intro ys bs ps h1 h2 h3;have:=gen cs 0 (fun j c v d m=>h j c v d (by simpa using m)) h1 h2 h3;exact ⟨this.1,fun j c v d m=>this.2 j c v d (by simpa using m)⟩
 intro S' G;have V:=h;clear h;have key:∀ {z:Mu} {v:Value} {x:AV},av w S z v x->z=μ->∀ {y:AV} {bs:List Nat} {ps:List Prop},x.jQ σ ks=some (y,bs,ps)->bg ps->(∀ b,F6 μ bs b->S' b)->av w S' (ot μ ks) v y:=by
  intro z v x h
  induction h with
  | atom v=>intro _ y bs ps h _ _;simp [AV.jQ] at h;obtain ⟨rfl,_,_⟩:=h;exact .atom v
  | agg h1 h2 D =>
   intro e y bs ps h u l;subst e;simp only [AV.jQ,a4] at h;obtain ⟨⟨a,b,c⟩,h,e⟩:=h;simp only [aQ] at e;obtain ⟨rfl,rfl,rfl⟩:=e;obtain ⟨s,t⟩:=lists S' (fun j c v d m=>D j c v d m rfl) h u l;exact .agg (h1.trans s.symm) t
  | tup h1 h2 D =>
   intro e y bs ps h u l;subst e;simp only [AV.jQ,a4] at h;obtain ⟨⟨a,b,c⟩,h,e⟩:=h;simp only [aQ] at e;obtain ⟨rfl,rfl,rfl⟩:=e;obtain ⟨s,t⟩:=lists S' (fun j c v d m=>D j c v d m rfl) h u l;exact .tup (h1.trans s.symm) t
  | @sl z a len cap get b off sz f h1 h2 h3 h4 W _ =>
   intro _ y bs ps h _ _;simp [AV.jQ] at h;obtain ⟨rfl,_,_⟩:=h;have:=(av.sl (μ:=ot μ ks) b off sz f h1 h2 h3 h4 W);exact this.mono G (fun _ _=>rfl) (fun _ _ h=>h)
  | @rp z cs off b o f h1 h2 h3 _ =>
   intro _ y bs ps h _ _;simp [AV.jQ] at h;obtain ⟨rfl,_,_⟩:=h;have:=(av.rp (μ:=ot μ ks) (off:=off) b o f h1 h2 h3);exact this.mono G (fun _ _=>rfl) (fun _ _ h=>h)
  | @op z k i j pl hm =>
   intro e y bs ps h _ _;subst e;simp only [AV.jQ] at h;split at h
   ·rename_i n F;simp at h;obtain ⟨rfl,_,_⟩:=h;exact .op pl (F7 _ _ _ F hm)
   ·simp at h;obtain ⟨rfl,_,_⟩:=h;exact .il
  | @os z k off len cap a pl hm h1 h2 h3 =>
   intro e y bs ps h u l;subst e;simp only [AV.jQ] at h;split at h
   ·rename_i n F;simp at h;obtain ⟨rfl,_,_⟩:=h;exact .os pl (F7 _ _ _ F hm) h1 h2 h3
   ·split at h
    ·rename_i o X;split at h
     ·rename_i Y;simp only [aX,aQ] at h;obtain ⟨Z,rfl,rfl⟩:=h;have hle:=u.1;obtain ⟨lL,c,T,P,C⟩:=g.rep.ob k o X;rw [hm] at P;cases P;have L:y=.sl len fun i=>o.get (off+i):=by
       rw [<- Z];simp only [fk]
      rw [L];refine .sl pl.df (off * pl.sz) o.sz (fun i j=>(c[(off+i) * o.sz+j]?).getD undef) ?_ (fun i hi=>C.zF _ ad) ?_ ?_ h2
      ·intro hl;exact ⟨h1 ad,l _ ⟨k,ao,pl,hm,ad,rfl⟩⟩
      ·intro i j hi hj;obtain ⟨v,s,t⟩:=dg C (i:=off+i) ad hj;rw [s,C.sz,<- dq,t];rfl
      ·intro i j K hi Q;obtain ⟨v,s,t⟩:=dg C (i:=off+i) ad (by have:=(eK.1 Q).1;rwa [C.zF _ ad] at this);rw [s];have:=C.rep _ j K v ad Q s;rw [Y] at this;exact av.mono (S:=S) (S':=S') G (fun _ _=>rfl) this (fun _ _ h=>h)
     ·cases h
    ·cases h
  | fn h1 h2 _ _ M N =>
   intro e y bs ps h u l;subst e;simp only [AV.jQ] at h;split at h
   ·rename_i a b c R U K e1 e2;simp only [aX,aQ] at h;obtain ⟨rfl,rfl,rfl⟩:=h;obtain ⟨H,I⟩:=bg.app u;obtain ⟨s,t⟩:=lists S' (fun j c v d m=>M j c v d m rfl) e1 H (fun q A=>l q (by obtain ⟨k,B,r⟩:=A;exact ⟨k,by simp [B],r⟩));obtain ⟨r1,r2⟩:=lists S' (fun j c v d m=>N j c v d m rfl) e2 I (fun q A=>l q (by obtain ⟨k,B,r⟩:=A;exact ⟨k,by simp [B],r⟩));exact .fn (h1.trans s.symm) (h2.trans r1.symm) t r2
   ·cases h
  | when=>intro _ y bs ps h;simp [AV.jQ] at h
  | ov=>intro _ y bs ps h;simp [AV.jQ] at h
  | Ll=>intro _ y bs ps h;simp [AV.jQ] at h
  | nq=>intro _ y bs ps h;simp [AV.jQ] at h
  | @mp z k pl hm =>
   intro e y bs ps h _ _;subst e;simp only [AV.jQ,a4,aQ] at h;obtain ⟨n,F,rfl,_,_⟩:=h;exact .mp pl (F7 _ _ _ F hm)
  | bn b l=>intro _ y bs ps h _ _;simp [AV.jQ] at h;obtain ⟨rfl,_,_⟩:=h;exact .bn b l
  | pt h1 h2 _ =>
   intro _ y bs ps h _ _;simp [AV.jQ] at h;obtain ⟨rfl,_,_⟩:=h;refine .pt (fun l=>?_) h2;have:=h1 l;cases this with
   | rp b o f s t q3 =>
    have:=(av.rp (μ:=ot μ ks) (off:=0) b o f s t q3);exact this.mono G (fun _ _=>rfl) (fun _ _ h=>h)
  | nil=>intro _ y bs ps h _ _;simp [AV.jQ] at h;obtain ⟨rfl,_,_⟩:=h;exact .nil
  | il=>intro _ y bs ps h _ _;simp [AV.jQ] at h;obtain ⟨rfl,_,_⟩:=h;exact .il
  | mr=>intro _ y bs ps h;simp [AV.jQ] at h
 intro y bs ps h1 h2 h3;exact key V rfl h1 h2 h3
end
end Go.Ab
namespace Go.Ab
structure YC where
 l:Nat
 as:List AV
 k:Nat
 o:Ob
 o':Ob
structure qE where
 ks:List Nat
 same:Bool
 res:AV
 mg:fe
 dec:Nat
 E8:Bool
 y:Option YC
def ar9:Option qE->Option YC
 | none=>none
 | some o=>o.y
def asa:Option qE->Nat
 | none=>0
 | some o=>o.dec
def asb:Option qE->AV
 | none=>.il
 | some o=>o.res
structure R where
 SY:List Prop
 val:AV
 Xe:List Nat
 pD:x8
def Xy (P:Program) (g:FuncId):Bool :=
 match P.funcs[g]? with
 | some fn=>fn.body.isSome && !(fn.name == "runtime.NumGoroutine")
 | none=>false
def canon (σ:fe) (ks:List Nat):Nat->List Nat->Option fe
 | _,[]=>some []
 | i,k :: r=>match ay σ k,canon σ ks (i+1) r with
  | some o,some t=>some ((i,o.nR (idx ks)) :: t)
  | _,_=>none
def back (ks:List Nat) (nk n:Nat):Option Nat :=
 match ks[n]? with
 | some k=>some k
 | none=>match Nat.blt n (ks.length+16) with
  | true=>some (nk+(n - ks.length))
  | false=>none
def Iy (ks:List Nat) (nk:Nat) (a:fe):Nat->List Nat->x8
 | _,[]=>[]
 | i,k :: r=>(k,(ay a i).map (Ob.nR (back ks nk))) :: Iy ks nk a (i+1) r
def Kc (ks:List Nat) (nk:Nat):fe->x8
 | []=>[]
 | (n,o) :: r=>match Nat.ble ks.length n with
  | true=>(nk+(n - ks.length),some (o.nR (back ks nk))) :: Kc ks nk r
  | false=>Kc ks nk r
def q0:List Nat->Bool
 | []=>true
 | k :: r=>(idx r k).isNone && q0 r
def PG (n:Nat):fe->Bool
 | []=>true
 | (k,_) :: r=>Nat.blt k n && PG n r
def Ob.flat (o:Ob):Bool:=o.var && Nat.beq o.len 1 && Nat.ble 1 o.sz && AV.E5 (o.get 0)
mutual
def AV.Xf:AV->Bool
 | .atom _ | .op _ _ _ | .os _ _ _ | .mp _ | .bn _ | .nil=>true
 | .agg cs | .tup cs=>AV.adS cs
 | .fn _ a b=>AV.adS a && AV.adS b
 | _=>false
def AV.adS:List AV->Bool
 | []=>true
 | c :: cs=>c.Xf && AV.adS cs
end
theorem PH {cs:List AV} (h:AV.adS cs=true) {j:Nat} {c:AV} (a:cs[j]?=some c):c.Xf=true:=by
 induction cs generalizing j with
 | nil=>simp at a
 | cons x xs b =>
  simp only [AV.adS,bd] at h;grind
theorem av.Xf {w:World} {S:Nat->Prop} {μ:Mu} {v:Value} {x:AV} (h:av w S μ v x):x.Xf=true->∀ w' S',av w' S' μ v x:=by
 induction h with
 | atom v=>grind [atom]
 | agg h1 _ a=>grind [agg,PH,AV.Xf]
 | tup h1 _ a=>grind [tup,PH,AV.Xf]
 | op pl h=>grind [op]
 | os pl h h1 h2 h3=>grind [os]
 | fn h1 h2 _ _ c d =>
  intro e w' S';simp only [AV.Xf,bd] at e;grind [fn,PH]
 | mp pl h=>grind [mp]
 | bn b h=>grind [bn]
 | nil=>exact fun _ _ _=>.nil
 | sl=>grind [AV.Xf]
 | rp=>grind [AV.Xf]
 | when=>grind [AV.Xf]
 | pt=>grind [AV.Xf]
 | ov=>grind [AV.Xf]
 | Ll=>grind [AV.Xf]
 | nq=>grind [AV.Xf]
 | il=>grind [AV.Xf]
 | mr=>grind [AV.Xf]
def Bg (o:Ob):Option (List Prop) :=
 match o.flat with
 | true=>some []
 | false=>match o.pr && Nat.ble 1 o.sz with
  | true=>some [∀ i,i < o.len->AV.E5 (o.get i)=true]
  | false=>none
def Kd (lone:Bool):fe->Option (List Prop)
 | []=>some []
 | (_,o) :: r=>match lone with
  | true=>some []
  | false=>match Bg o,Kd lone r with
   | some p,some q=>some (p ++ q)
   | _,_=>none
mutual
def AV.closed (f:Nat->Option Nat):AV->Bool
 | .op k _ _=>(f k).isSome
 | .os k _ _=>(f k).isSome
 | .mp k=>(f k).isSome
 | .ov _ _ _ _ _ | .Ll _ _ _ | .mr _ _ _=>false
 | .agg cs | .tup cs=>AV.D2 f cs
 | .fn _ a b=>AV.D2 f a && AV.D2 f b
 | .when _ x=>x.closed f
 | .nq _ x=>x.closed f
 | _=>true
def AV.D2 (f:Nat->Option Nat):List AV->Bool
 | []=>true
 | c :: cs=>c.closed f && AV.D2 f cs
end
def Ob.closed (f:Nat->Option Nat) (o:Ob):Bool:=o.pr || (o.var && Nat.beq o.len 1 && AV.D2 f (o.get 0))
def dA:List AV->Bool
 | [.mr _ _ _]=>true
 | _=>false
theorem TI {f:Nat->Option Nat} {l:List AV} (h:dA l=true):AV.BJ f l=l:=by
 unfold dA at h;split at h
 ·rfl
 ·cases h
def LG (ks:List Nat) (lone:Bool) (o:Ob):Option (List Prop) :=
 match o.flat || (lone && o.closed (idx ks)) with
 | true=>some []
 | false=>match o.pr with
  | true=>Bg o
  | false=>match lone && !o.var with
   | true=>some [∀ i,i < o.len->dA (o.get i)=true]
   | false=>none
def F8 (σ:fe) (ks:List Nat) (lone:Bool):List Nat->Option (List Prop)
 | []=>some []
 | k :: r=>match ay σ k with
  | some o=>match LG ks lone o,F8 σ ks lone r with
   | some p,some q=>some (p ++ q)
   | _,_=>none
  | none=>none
mutual
theorem PJ {f g:Nat->Option Nat} (c:∀ k i,f k=some i->g i=some k):∀ (x:AV),x.closed f=true->(x.nR f).nR g=x
 | .op k i j,h=>by
  obtain ⟨n,d⟩:=Option.isSome_iff_exists.1 (by simpa [AV.closed] using h);simp [AV.nR,d,c k n d]
 | .os k i j,h=>by
  obtain ⟨n,d⟩:=Option.isSome_iff_exists.1 (by simpa [AV.closed] using h);simp [AV.nR,d,c k n d]
 | .agg cs,h=>by simp only [AV.nR];rw [zI c cs (by simpa [AV.closed] using h)]
 | .tup cs,h=>by simp only [AV.nR];rw [zI c cs (by simpa [AV.closed] using h)]
 | .fn q a b,h=>by
  simp only [AV.closed,bd] at h;simp only [AV.nR];rw [zI c a h.1,zI c b h.2]
 | .when b x,h=>by simp only [AV.nR];rw [PJ c x (by simpa [AV.closed] using h)]
 | .nq b x,h=>by simp only [AV.nR];rw [PJ c x (by simpa [AV.closed] using h)]
 | .mp k,h=>by
  obtain ⟨n,d⟩:=Option.isSome_iff_exists.1 (by simpa [AV.closed] using h);simp [AV.nR,d,c k n d]
 | .ov _ _ _ _ _,h=>by simp [AV.closed] at h
 | .Ll _ _ _,h=>by simp [AV.closed] at h
 | .mr _ _ _,h=>by simp [AV.closed] at h
 | .bn _,_=>rfl
 | .pt _ _,_=>rfl
 | .atom _,_=>rfl
 | .sl _ _,_=>rfl
 | .rp _ _,_=>rfl
 | .nil,_=>rfl
 | .il,_=>rfl
theorem zI {f g:Nat->Option Nat} (a:∀ k i,f k=some i->g i=some k):∀ (cs:List AV),AV.D2 f cs=true->AV.BJ g (AV.BJ f cs)=cs
 | [],_=>rfl
 | c :: cs,h=>by
  simp only [AV.D2,bd] at h;simp only [AV.BJ];rw [PJ a c h.1,zI a cs h.2]
end
theorem PK:∀ (ks:List Nat),q0 ks=true->∀ (i j k:Nat),ks[i]?=some k->ks[j]?=some k->i=j
 | [],_,i,j,k,h,_=>by simp at h
 | a :: r,h,i,j,k,hi,d=>by
  simp only [q0,bd] at h;have none:∀ n:Nat,r[n]?=some a->False:=by
   intro n c;have:∀ (l:List Nat) (n:Nat),l[n]?=some a->(idx l a).isSome=true:=by
    intro l
    induction l with
    | nil=>intro n c;simp at c
    | cons b l f =>
     intro n c;simp only [idx];cases e:Nat.beq b a with
     | true=>rfl
     | false =>
      cases n with
      | zero=>simp at c;rw [c] at e;simp at e
      | succ n=>simpa using f n (by simpa using c)
   have:=this r n c;rw [Option.isNone_iff_eq_none] at h;rw [h.1] at this;cases this
  cases i with
  | zero =>
   simp at hi;subst hi;cases j with
   | zero=>rfl
   | succ j=>exact (none j (by simpa using d)).elim
  | succ i =>
   cases j with
   | zero=>simp at d;subst d;exact (none i (by simpa using hi)).elim
   | succ j=>rw [PK r h.2 i j k (by simpa using hi) (by simpa using d)]
theorem qG:∀ (ks:List Nat) (k:Nat),idx ks k=none->∀ i:Nat,ks[i]?≠some k
 | [],k,_,i=>ao
 | a :: r,k,h,i=>by
  simp only [idx] at h;split at h
  ·cases h
  ·rename_i c;have b:idx r k=none:=by simpa using h
   cases i with
   | zero=>intro e;simp_all
   | succ i=>simpa using qG r k b i
theorem TJ {σ:fe} {ks:List Nat}:∀ (l:List Nat) (i:Nat) (a:fe),canon σ ks i l=some a ->
  ∀ n,ay a n=if i<=n then ((l[n - i]?).bind (ay σ)).map (Ob.nR (idx ks)) else none
 | [],i,a,h,n=>by grind [canon,ay]
 | k :: r,i,a,h,n=>by
  simp only [canon] at h;split at h
  ·rename_i o t d b;cases h;simp only [ay]
   by_cases c:i=n
   ·simp_all
   ·rw [rL c];show ay t n=_;rw [TJ r (i+1) t b n];grind
  ·cases h
theorem HJ {σ:fe} {ks:List Nat}:∀ (l:List Nat) (i:Nat) (c:fe),canon σ ks i l=some c->∀ k∈l,∃ o,ay σ k=some o
 | [],i,c,h,k,b=>by simp at b
 | a :: r,i,c,h,k,b=>by
  simp only [canon] at h;split at h
  ·rename_i o t d e;rcases kY.1 b with rfl | b
   ·exact ⟨o,d⟩
   ·exact HJ r (i+1) t e k b
  ·cases h
theorem LH {ks:List Nat} {nk:Nat} {c:fe}:∀ (l:List Nat) (i:Nat) (σ:fe) (n:Nat),(∀ a b k:Nat,l[a]?=some k->l[b]?=some k->a=b) ->
  ay (iC σ (Iy ks nk c i l)) n=match idx l n with
   | some j=>(ay c (i+j)).map (Ob.nR (back ks nk))
   | none=>ay σ n
 | [],i,σ,n,_=>by simp [Iy,iC,idx]
 | k :: r,i,σ,n,g=>by
  have d:∀ a b k:Nat,r[a]?=some k->r[b]?=some k->a=b:=fun a b q m p=>by
   have:=g (a+1) (b+1) q (by simpa using m) (by simpa using p);omega
  have e:idx r k=none:=by
   cases h:idx r k with
   | none=>rfl
   | some j =>
    have:=rO r k j h;have:=g 0 (j+1) k ao (by simpa using this);omega
  simp only [Iy];have step:ay (iC σ ((k,(ay c i).map (Ob.nR (back ks nk))) :: Iy ks nk c (i+1) r)) n=match idx r n with
    | some j=>(ay c (i+1+j)).map (Ob.nR (back ks nk))
    | none=>if k=n then (ay c i).map (Ob.nR (back ks nk)) else ay σ n:=by
   cases s:(ay c i).map (Ob.nR (back ks nk)) with
   | some o =>
    simp only [iC];rw [LH r (i+1) _ n d,bz]
   | none =>
    simp only [iC];rw [LH r (i+1) _ n d,iE]
  rw [step];simp only [idx]
  by_cases f:k=n
  ·subst f;rw [e,uQ rfl];simp
  ·rw [rL f];cases h:idx r n with
   | none=>simp [f]
   | some j=>simp only [Option.map_some];rw [show i+1+j=i+(j+1) by omega]
def CC (z:Bool) (bs:List Nat):x8:=match z with
 | true=>bs.map fun k=>(k,none)
 | false=>[]
theorem qH (z:Bool):∀ (bs:List Nat) (σ:fe) (n:Nat),ay (iC σ (CC z bs)) n=if z=true/\n∈bs then none else ay σ n:=by
 cases z with
 | false=>grind [CC,iC]
 | true =>
  intro bs
  induction bs with
  | nil=>grind [CC,iC]
  | cons k r a =>
   intro σ n;have:=a (wE σ k) n;simp only [CC,List.map_cons,iC] at this ⊢;rw [this,iE]
   by_cases h:k=n
   ·subst h;simp
   ·have b:¬ n=k:=fun e=>h e.symm;simp [h,b]
theorem jV:∀ (u v:x8) (σ:fe),iC σ (u ++ v)=iC (iC σ u) v
 | [],v,σ=>rfl
 | (k,some o) :: r,v,σ=>by simp only [List.cons_append,iC];exact jV r v _
 | (k,none) :: r,v,σ=>by simp only [List.cons_append,iC];exact jV r v _
def UP (n:Nat):fe->Bool
 | []=>true
 | (k,_) :: r=>Nat.ble n k && UP n r
theorem TK {n:Nat}:∀ {a:fe},UP n a=true->∀ j,j < n->ay a j=none
 | [],_,_,_=>rfl
 | (k,o) :: r,h,j,b=>by
  simp only [UP,bd] at h;simp only [ay];rw [rL (by have:=Nat.le_of_ble_eq_true h.1;omega)];exact TK h.2 j b
theorem PL:∀ (σ a:fe) (n:Nat),ay (σ ++ a) n=match ay σ n with
  | some o=>some o
  | none=>ay a n
 | [],a,n=>rfl
 | (k,o) :: r,a,n=>by
  simp only [List.cons_append,ay];split
  ·rfl
  ·exact PL r a n
def Ke (P:Program) (ob:FuncId->List AV->fe->Nat->AV->fe->Prop) (nk:Nat) (σ:fe) (f:AV) (b:List AV) (a:qE):Option R :=
 match f with
 | .fn (.func g) first cap=>match Xy P g,AV.wH σ a.ks (first ++ (b ++ cap)),canon σ a.ks 0 a.ks with
  | true,some (as,bs,ps),some c=>match q0 a.ks && (bs.isEmpty || a.E8 || a.res.Xf) with
   | true=>match a.same with
    | true=>match a.mg with
     | []=>match F8 σ a.ks (bs.isEmpty || a.E8) a.ks with
      | some d=>some ⟨ob g as c a.ks.length a.res c :: (d ++ ps),a.res.nR (back a.ks nk),a.ks ++ bs,CC a.E8 bs⟩
      | none=>none
     | q :: e=>match bs.isEmpty || a.E8,F8 σ a.ks true a.ks,UP a.ks.length (q :: e) && PG (a.ks.length+16) (q :: e) && q0 ((q :: e).map (·.1)) with
      | true,some d,true=>some ⟨ob g as c a.ks.length a.res (c ++ q :: e) :: (d ++ ps),a.res.nR (back a.ks nk),a.ks ++ bs,Kc a.ks nk (q :: e) ++ CC a.E8 bs⟩
      | _,_,_=>none
    | false=>match PG (a.ks.length+16) a.mg && q0 (a.mg.map (·.1)),Kd (bs.isEmpty || a.E8) a.mg with
     | true,some d=>some ⟨ob g as c a.ks.length a.res a.mg :: (d ++ ps),a.res.nR (back a.ks nk),a.ks ++ bs,Iy a.ks nk a.mg 0 a.ks ++ (Kc a.ks nk a.mg ++ CC a.E8 bs)⟩
     | _,_=>none
   | false=>none
  | _,_,_=>none
 | _=>none
def PM (P:Program) (nk:Nat) (σ:fe) (f:AV) (a:List AV) (b:qE):Option R:=Ke P (Sound P) nk σ f a b
theorem CD {ks:List Nat} {nk:Nat}:∀ (b σ:fe) (n:Nat),PG (ks.length+16) b=true->(n < nk\/nk+16<=n)->ay (iC σ (Kc ks nk b)) n=ay σ n
 | [],σ,n,_,_=>rfl
 | (k,o) :: r,σ,n,a,c=>by
  simp only [PG,bd] at a;have e:k < ks.length+16:=by
   have:=a.1;simp only [Nat.blt,Nat.ble_eq] at this;exact this
  simp only [Kc];split
  ·rename_i d;have d:=Nat.le_of_ble_eq_true d;simp only [iC];rw [CD r _ n a.2 c,bz,if_neg ad]
  ·exact CD r σ n a.2 c
theorem Xz:∀ (a:fe) (n:Nat) (o:Ob),ay a n=some o->n∈a.map (·.1)
 | [],n,o,h=>by simp [ay] at h
 | (k,x) :: r,n,o,h=>by
  simp only [ay] at h;split at h
  ·simp_all
  ·exact List.mem_cons_of_mem _ (Xz r n o h)
theorem Kf {ks:List Nat} {nk:Nat}:∀ (b σ:fe) (j:Nat),q0 (b.map (·.1))=true->ay (iC σ (Kc ks nk b)) (nk+j)=match ay b (ks.length+j) with
   | some o=>some (o.nR (back ks nk))
   | none=>ay σ (nk+j)
 | [],σ,j,_=>rfl
 | (k,o) :: r,σ,j,a=>by
  simp only [List.map_cons,q0,bd,Option.isNone_iff_eq_none] at a;simp only [Kc,ay]
  by_cases d:k=ks.length+j
  ·subst d;rw [uQ rfl];have f:ay r (ks.length+j)=none:=by
    cases g:ay r (ks.length+j) with
    | none=>rfl
    | some x =>
     obtain ⟨i,hi⟩:=List.getElem?_of_mem (Xz r _ x g);grind [qG]
   have c:Nat.ble ks.length (ks.length+j)=true:=Nat.ble_eq_true_of_le ad;rw [c];simp only [iC];rw [Kf r _ j a.2,f];simp_all [bz,if_pos]
  ·rw [rL d];split
   ·rename_i e;have e:=Nat.le_of_ble_eq_true e;simp only [iC];rw [Kf r _ j a.2];split
    ·rfl
    ·rw [bz,if_neg ad]
   ·exact Kf r σ j a.2
mutual
theorem adT {σ:fe} {ks:List Nat}:∀ (x y:AV) (bs:List Nat) (ps:List Prop),x.jQ σ ks=some (y,bs,ps)->∀ k∈bs,idx ks k=none/\∃ o,ay σ k=some o
 | .op k i j,y,bs,ps,h=>by
  simp only [AV.jQ] at h;grind
 | .os k off len,y,bs,ps,h=>by
  simp only [AV.jQ] at h;grind
 | .agg cs,y,bs,ps,h=>by
  simp only [AV.jQ,a4] at h;obtain ⟨⟨a,b,c⟩,h,e⟩:=h;simp only [aQ] at e;obtain ⟨rfl,rfl,rfl⟩:=e;exact wQ cs a b c h
 | .tup cs,y,bs,ps,h=>by
  simp only [AV.jQ,a4] at h;obtain ⟨⟨a,b,c⟩,h,e⟩:=h;simp only [aQ] at e;obtain ⟨rfl,rfl,rfl⟩:=e;exact wQ cs a b c h
 | .fn g x z,y,bs,ps,h=>by
  simp only [AV.jQ] at h;split at h
  ·rename_i a b c f l m n p;simp only [aX,aQ] at h;obtain ⟨_,rfl,_⟩:=h;intro k d;rcases List.mem_append.1 d with d | d
   ·exact wQ x a b c n k d
   ·exact wQ z f l m p k d
  ·cases h
 | .when _ _,y,bs,ps,h=>by simp [AV.jQ] at h
 | .ov _ _ _ _ _,y,bs,ps,h=>by simp [AV.jQ] at h
 | .Ll _ _ _,y,bs,ps,h=>by simp [AV.jQ] at h
 | .nq _ _,y,bs,ps,h=>by simp [AV.jQ] at h
 | .mr _ _ _,y,bs,ps,h=>by simp [AV.jQ] at h
 | .mp k,y,bs,ps,h=>by
  simp only [AV.jQ,a4,aQ] at h;grind
 | .bn _,y,bs,ps,h=>by simp [AV.jQ] at h;simp_all
 | .pt _ _,y,bs,ps,h=>by simp [AV.jQ] at h;simp_all
 | .atom _,y,bs,ps,h=>by simp [AV.jQ] at h;simp_all
 | .sl _ _,y,bs,ps,h=>by simp [AV.jQ] at h;simp_all
 | .rp _ _,y,bs,ps,h=>by simp [AV.jQ] at h;simp_all
 | .nil,y,bs,ps,h=>by simp [AV.jQ] at h;simp_all
 | .il,y,bs,ps,h=>by simp [AV.jQ] at h;simp_all
theorem wQ {σ:fe} {ks:List Nat}:∀ (xs ys:List AV) (bs:List Nat) (ps:List Prop),AV.wH σ ks xs=some (ys,bs,ps)->∀ k∈bs,idx ks k=none/\∃ o,ay σ k=some o
 | [],ys,bs,ps,h=>by simp [AV.wH] at h;simp_all
 | c :: cs,ys,bs,ps,h=>by
  simp only [AV.wH] at h;split at h
  ·rename_i a b p e f g i j;simp only [aX,aQ] at h;obtain ⟨_,rfl,_⟩:=h;intro k d;rcases List.mem_append.1 d with d | d
   ·exact adT c a b p i k d
   ·exact wQ cs e f g j k d
  ·cases h
end
end Go.Ab
namespace Go.Ab
section
variable {P:Program} {E:Env} {nk:Nat} {σ:fe} {S:Nat->Prop} {μ:Mu} {w:World}
theorem RL.append {vs d:Array Value} {cs ds:List AV} (h:RL w S μ vs cs) (k:RL w S μ d ds):RL w S μ (vs ++ d) (cs ++ ds):=by
 refine ⟨by simp [h.1,k.1],?_⟩;intro j c v a b;have h1:=h.1
 by_cases e:j < cs.length
 ·rw [lx e] at a;rw [Array.getElem?_append_left ad] at b;exact h.2 j c v a b
 ·rw [og ad] at a;rw [Array.getElem?_append_right ad,h1] at b;exact k.2 _ c v a b
theorem akt (g:Good E σ S μ w) {ks:List Nat} {vs:Array Value} {cs ys:List AV} {bs:List Nat} {ps:List Prop} (h:RL w S μ vs cs) (S':Nat->Prop) (a:∀ b,S b->S' b)
  (c:AV.wH σ ks cs=some (ys,bs,ps)) (d:bg ps) (e:∀ b,F6 μ bs b->S' b):RL w S' (ot μ ks) vs ys:=by
 have:=afF g (ks:=ks) (av.agg h.1 h.2) S' a (y:=.agg ys) (bs:=bs) (ps:=ps) (by simp [AV.jQ,c]) d e;cases this with
 | agg h1 h2=>exact ⟨h1,h2⟩
theorem ab4 {w':World} {S' b:Nat->Prop} {ey Pz:Mu} {o:Ob} {pl:Place} {c:Array Value} {T:TypeId} (h:kg w' S' ey o pl c T) (a:o.flat=true) (e:0 < pl.cap->¬ b pl.df) :
  kg w' b Pz o pl c T:=by
 unfold Ob.flat at a;simp only [bd] at a;have l:=bZ a.1.1.2;have f:=Nat.le_of_ble_eq_true a.1.2;refine { h with out:=e,rep:=?_,mp:=fun g=>absurd g ad };intro i j x v hi d k;have:i=0:=ad;subst this;exact (h.rep 0 j x v hi d k).flat (Cz a.2 d) _ _ _
mutual
theorem adU:∀ (x:AV),x.flat=true->x.pure=true
 | .atom _,_=>rfl
 | .nil,_=>rfl
 | .bn _,_=>rfl
 | .pt _ _,h=>by simp [AV.flat] at h
 | .mp _,h=>by simp [AV.flat] at h
 | .ov _ _ _ _ _,h=>by simp [AV.flat] at h
 | .Ll _ _ _,h=>by simp [AV.flat] at h
 | .nq _ _,h=>by simp [AV.flat] at h
 | .agg cs,h=>wR cs h
 | .tup cs,h=>wR cs h
 | .fn _ a b,h=>by
  simp only [AV.flat,bd] at h;simp only [AV.pure,bd];exact ⟨wR a h.1,wR b h.2⟩
 | .sl _ _,h=>by simp [AV.flat] at h
 | .rp _ _,h=>by simp [AV.flat] at h
 | .op _ _ _,h=>by simp [AV.flat] at h
 | .os _ _ _,h=>by simp [AV.flat] at h
 | .when _ _,h=>by simp [AV.flat] at h
 | .il,h=>by simp [AV.flat] at h
 | .mr _ _ _,h=>by simp [AV.flat] at h
theorem wR:∀ (cs:List AV),AV.E5 cs=true->AV.pX cs=true
 | [],_=>rfl
 | c :: cs,h=>by
  simp only [AV.E5,bd] at h;simp only [AV.pX,bd];exact ⟨adU c h.1,wR cs h.2⟩
end
mutual
theorem PN {f:Nat->Option Nat}:∀ (x:AV),x.pure=true->x.nR f=x
 | .op _ _ _,h=>by simp [AV.pure] at h
 | .os _ _ _,h=>by simp [AV.pure] at h
 | .mp _,h=>by simp [AV.pure] at h
 | .ov _ _ _ _ _,h=>by simp [AV.pure] at h
 | .Ll _ _ _,h=>by simp [AV.pure] at h
 | .mr _ _ _,h=>by simp [AV.pure] at h
 | .bn _,_=>rfl
 | .pt _ _,_=>rfl
 | .agg cs,h=>by simp only [AV.nR];rw [zJ cs h]
 | .tup cs,h=>by simp only [AV.nR];rw [zJ cs h]
 | .fn q a b,h=>by
  simp only [AV.pure,bd] at h;simp only [AV.nR];rw [zJ a h.1,zJ b h.2]
 | .when b x,h=>by simp only [AV.nR];rw [PN x h]
 | .nq b x,h=>by simp only [AV.nR];rw [PN x h]
 | .atom _,_=>rfl
 | .sl _ _,_=>rfl
 | .rp _ _,_=>rfl
 | .nil,_=>rfl
 | .il,_=>rfl
theorem zJ {f:Nat->Option Nat}:∀ (cs:List AV),AV.pX cs=true->AV.BJ f cs=cs
 | [],_=>rfl
 | c :: cs,h=>by
  simp only [AV.pX,bd] at h;simp only [AV.BJ];rw [PN c h.1,zJ cs h.2]
end
theorem ab5 {w':World} {S':Nat->Prop} {ey:Mu} {o o':Ob} {pl:Place} {c:Array Value} {T:TypeId} (h:kg w' S' ey o' pl c T) (z1:o'.sz=o.sz) (e:o'.len=o.len) (a:o'.pr=o.pr)
  (l:o.len=1) (f:o'.get 0=o.get 0):kg w' S' ey o pl c T:=by
 have b:∀ i,i < o.len->o.get i=o'.get i:=fun i hi=>by
  simp_all
 refine ⟨h.sz.trans z1,z1 ▸ h.df,z1 ▸ h.cap,e ▸ h.len,h.out,?_,?_,fun g=>by rw [<- f,<- a];exact h.mp (z1.trans g)⟩
 ·intro i hi;rw [b i hi,<- z1];exact h.zF i ad
 ·intro i j x v hi d k;rw [b i hi] at d;rw [<- a];exact h.rep i j x v ad d (by rw [z1];exact k)
theorem aku {w':World} {S':Nat->Prop} {ey:Mu} {o o':Ob} {pl:Place} {c:Array Value} {T:TypeId} (h:kg w' S' ey o' pl c T) (z1:o'.sz=o.sz) (d:o'.len=o.len) (e:o'.pr=o.pr)
  (k:o.pr=false) (a:∀ i,i < o.len->o.get i=o'.get i):kg w' S' ey o pl c T:=by
 refine ⟨h.sz.trans z1,z1 ▸ h.df,z1 ▸ h.cap,d ▸ h.len,h.out,?_,?_,fun f=>?_⟩
 ·intro i hi;rw [a i hi,<- z1];exact h.zF i ad
 ·intro i j x v hi b g;rw [a i hi] at b;rw [<- e];exact h.rep i j x v ad b (by rw [z1];exact g)
 ·have:=(h.mp (z1.trans f)).2.2.2.1;simp_all
theorem PO {w':World} {S' b:Nat->Prop} {ey Pz:Mu} {o:Ob} {pl:Place} {c:Array Value} {T:TypeId} (h:kg w' S' ey o pl c T) {ps:List Prop} (a:Bg o=some ps) (f:bg ps) (g:0 < pl.cap->¬ b pl.df) :
  kg w' b Pz o pl c T:=by
 unfold Bg at a;split at a
 ·grind [ab4]
 ·split at a
  ·rename_i d;cases a;simp only [bd] at d;have k:=Nat.le_of_ble_eq_true d.2;refine { h with out:=g,rep:=?_,mp:=fun l=>absurd l ad };intro i j x v hi e m;exact (h.rep i j x v hi e m).flat (Cz (f.1 i hi) e) _ _ _
  ·cases a
theorem Kg {w':World} {S' a:Nat->Prop} {ey:Mu} {o:Ob} {pl:Place} {c:Array Value} {T:TypeId} (h:kg w' S' ey o pl c T) (f:∀ b,S' b->a b) (g:0 < pl.cap->¬ a pl.df):kg w' a ey o pl c T :=
 { h with
  out:=g
  rep:=fun i j x v hi d e=>av.mono f (fun _ _=>rfl) (h.rep i j x v hi d e) (fun _ _ h=>h)
  mp:=fun k=>let ⟨m0,m1,l,m3,m⟩:=h.mp k
   ⟨m0,m1,l,m3,fun j x v d e=>av.mono f (fun _ _=>rfl) (m j x v d e) (fun _ _ h=>h)⟩ }
theorem ab6 {w':World} {S' l:Nat->Prop} {ey Pz:Mu} {o:Ob} {pl:Place} {c:Array Value} {T:TypeId} {ks:List Nat} {nk:Nat} {lone:Bool} (h:kg w' S' ey (o.nR (idx ks)) pl c T)
  {ps:List Prop} (d:LG ks lone o=some ps) (e:bg ps) (f:lone=true->∀ b,S' b->l b) (m:0 < pl.cap->¬ l pl.df)
  (hm:∀ k k' pl,back ks nk k=some k'->ey k=some pl->Pz k'=some pl):kg w' l Pz o pl c T:=by
 unfold LG at d;split at d
 case h_2 =>
  split at d
  ·grind [idx,Ob.nR,PO]
  ·rename_i q;split at d
   case h_2=>cases d
   rename_i g;cases d;simp only [bd,Bool.not_eq_true'] at g;have h2:=h.nR hm;refine Kg (aku h2 (by rw [Ob.zX,Ob.zX]) (by grind [Ob.HI]) (by rw [Ob.LF,Ob.LF]) q fun i hi=>?_) (f g.1) m;have r:dA (o.get i)=true:=e.1 i hi;simp_all [Ob.nR,TI]
 rename_i n;cases p:o.flat with
 | true =>
  have a:=p;unfold Ob.flat at a;simp only [bd] at a;have g:=bZ a.1.1.2;refine ab4 (ab5 h (Ob.zX _ _) (Ob.HI _ _) (Ob.LF _ _) g ?_) p m;grind [Ob.nR,zJ,wR]
 | false =>
  rw [p,Bool.false_or,bd] at n;have f:=f n.1;have h2:=h.nR hm;have s:∀ k i,idx ks k=some i->back ks nk i=some k:=fun k i t=>by
   grind [back,rO]
  have h3:kg w' S' Pz o pl c T:=by
   have j:=n.2;unfold Ob.closed at j;cases e:o.pr with
   | true =>
    grind [idx,back,Ob.nR]
   | false =>
    rw [e,Bool.false_or] at j;simp only [bd] at j;refine ab5 h2 (by rw [Ob.zX,Ob.zX]) (by grind [Ob.HI]) (by rw [Ob.LF,Ob.LF]) (bZ j.1.2) ?_;simp only [Ob.nR,e];grind [zI]
  exact Kg h3 f m
theorem D3 {σ:fe} {ks:List Nat} {lone:Bool}:∀ (l:List Nat) (c:List Prop),F8 σ ks lone l=some c->bg c->∀ k∈l,∀ o,ay σ k=some o->∃ ps,LG ks lone o=some ps/\bg ps
 | [],_,_,_,k,b=>by simp at b
 | a :: r,c,h,d,k,b=>by
  intro o e;simp only [F8] at h;split at h
  ·rename_i o1 g;split at h
   ·rename_i p q h1 h2;cases h;obtain ⟨i,f⟩:=bg.app d;rcases kY.1 b with rfl | b
    ·simp_all
    ·exact D3 r q h2 f k b o e
   ·cases h
  ·cases h
theorem yU {lone:Bool}:∀ (σ:fe) (b:List Prop),Kd lone σ=some b->bg b->∀ k o,ay σ k=some o->lone=true\/∃ ps,Bg o=some ps/\bg ps
 | [],_,_,_,k,o,h=>by simp [ay] at h
 | (a,x) :: r,b,h,d,k,o,c=>by
  simp only [Kd] at h;split at h
  ·exact .inl rfl
  ·split at h
   ·rename_i p q h1 h2;cases h;obtain ⟨f,e⟩:=bg.app d;simp only [ay] at c;split at c
    ·simp_all
    ·exact yU r q h2 e k o c
   ·cases h
theorem BK {o:Ob} {ps:List Prop} (h:Bg o=some ps) (a:bg ps) (i:Nat):rowOf o i=none:=by
 unfold Bg at h;split at h
 ·simp_all [Ob.flat,bd,FX]
 ·split at h
  ·cases h;cases b:rowOf o i with
   | none=>rfl
   | some x =>
    obtain ⟨_,h2,h3⟩:=dS b;have:=a.1 i h2;rw [h3] at this;cases this
  ·cases h
theorem UQ {ks:List Nat} {o:Ob} {ps:List Prop} (h:LG ks false o=some ps) (a:bg ps) (i:Nat):rowOf o i=none:=by
 unfold LG at h;rw [Bool.false_and,Bool.or_false] at h;split at h
 ·simp_all [BK,Bg,trivial]
 ·split at h
  ·exact BK h a i
  simp_all
theorem NH (g:Good E σ S μ w) (IU:∀ j,j < 16->μ (nk+j)=none) (td:E.m0<=nk) {f:AV} {args:List AV} {m:qE} {r:R} {fv:Value} (hf:av w S μ fv f) {vargs:Array Value} (ha:RL w S μ vargs args)
  (hz:m.E8=true->∀ b,¬ E.fp b) {ob:FuncId->List AV->fe->Nat->AV->fe->Prop}
  (I:∀ M as bs C res fo vs,ob M as C m.ks.length res fo->Good (zW w (fun b=>S b\/F6 μ bs b) C (ot μ m.ks) m.ks.length) C (fun b=>S b\/F6 μ bs b) (ot μ m.ks) w->(∀ k,m.ks.length<=k->ot μ m.ks k=none) ->
   RL w (fun b=>S b\/F6 μ bs b) (ot μ m.ks) vs as->Calls P M vs w fun e w'=>∃ v S' ey,e=.returned v/\Good (zW w (fun b=>S b\/F6 μ bs b) C (ot μ m.ks) m.ks.length) fo S' ey w'/\av w' S' ey v res)
  (h:Ke P ob nk σ f args m=some r) (hp:bg r.SY) :
  ∃ M vs,(do let d <- Deferred.ofValue fv vargs;invoke d.target d.args:Sem Next).run P w=.ok (.enter M vs) w /\
   Calls P M vs w fun e w'=>∃ v S' ey,e=.returned v/\Ext w S μ w' S' ey/\Good E (iC σ r.pD) S' ey w'/\(∀ k,(k < nk\/nk+16<=k)->μ k=none->ey k=none)/\av w' S' ey v r.val:=by
 unfold Ke at h;split at h
 case h_2=>cases h
 rename_i M first cap
 split at h
 case h_2=>cases h
 rename_i as bs ps C PQ ame akv;split at h
 case h_2=>cases h
 rename_i apC;rw [bd] at apC;obtain ⟨hnd,adV⟩:=apC;have akx:=PK m.ks hnd;cases hf with
 | fn f1 f2 f3 f4 =>
 rename_i fvs cvs;refine ⟨M,fvs ++ vargs ++ cvs,?_,?_⟩
 ·unfold Xy at PQ;split at PQ
  ·rename_i fn hfn;simp only [bd,Bool.not_eq_true'] at PQ;have s:¬ fn.body=none:=by intro hh;rw [hh] at PQ;simp at PQ
   have Z:¬ fn.name = "runtime.NumGoroutine":=by simpa using PQ.2
   simp [Deferred.ofValue,invoke,callFunc,hfn,Z,s]
  ·cases PQ
 have hlk:=wQ _ _ _ _ ame;have U:=TJ m.ks 0 C akv;simp only [Nat.zero_le,if_true,Nat.sub_zero] at U
 -- the state in which the callee begins
 have hps:bg ps:=by
  split at h
  ·split at h
   ·split at h
    ·cases h;exact (bg.app hp.2).2
    ·cases h
   ·split at h
    ·cases h;exact (bg.app hp.2).2
    ·cases h
  ·split at h
   ·cases h;exact (bg.app hp.2).2
   ·cases h
 have rH:RL w (fun b=>S b\/F6 μ bs b) (ot μ m.ks) (fvs ++ vargs ++ cvs) as:=by
  have hrl:RL w S μ (fvs ++ vargs ++ cvs) (first ++ (args ++ cap)):=by
   have:=RL.append (w:=w) (S:=S) (μ:=μ) ⟨f1,f3⟩ (RL.append ha ⟨f2,f4⟩);rwa [<- Array.append_assoc] at this
  exact akt g hrl _ (fun _ h=>.inl h) ame hps (fun _ h=>.inr h)
 have jA:∀ k o pl,ay σ k=some o->μ k=some pl->0 < pl.cap->pl.df < w.heap.size:=fun k o pl l hm t=>by
  obtain ⟨lL,c,T,z,I⟩:=g.rep.ob k o l;rw [hm] at z;cases z;exact ft (I.df t)
 have apD:∀ k o pl,ay σ k=some o->μ k=some pl->0 < pl.cap->¬ S pl.df:=fun k o pl l hm t=>by
  obtain ⟨lL,c,T,z,I⟩:=g.rep.ob k o l;rw [hm] at z;cases z;exact I.out t
 have NI:∀ i o',ay C i=some o'->∃ k o,m.ks[i]?=some k/\ay σ k=some o/\o'=o.nR (idx m.ks):=by
  intro i o' h;rw [U] at h;simp only [a4,Option.bind_eq_some_iff] at h;obtain ⟨o,⟨k,p,l⟩,rfl⟩:=h;exact ⟨k,o,p,l,rfl⟩
 have ab7:∀ i j x v,kj w (ot μ m.ks) C i j x v->∃ k,m.ks[i]?=some k/\kj w μ σ k j x v:=by
  rintro i j x v ⟨o',pl,h1,h2,h3,h4⟩;obtain ⟨k,o,p,l,rfl⟩:=NI i o' h1;exact ⟨k,p,o,pl,l,(wP _ _ _ _).1 h2,by simpa [ot,p] using h3,h4⟩
 have afG:∀ b,ZG w C (ot μ m.ks) b->(∃ (k i:Nat) (o:Ob) (pl:Place),m.ks[i]?=some k/\ay σ k=some o/\μ k=some pl/\0 < pl.cap/\pl.df=b) \/
   ∃ (k i j:Nat) (x:Nat×Nat×(Nat->List AV)) (v:Value),m.ks[i]?=some k/\kj w μ σ k j x v/\ptrTo v b:=by
  rintro b (⟨i,o',pl,hi,hm,t,s⟩ | ⟨i,j,x,v,u,s⟩)
  ·obtain ⟨k,o,p,l,_⟩:=NI i o' hi;refine .inl ⟨k,i,o,pl,p,l,?_,t,s⟩;simpa [ot,p] using hm
  ·obtain ⟨k,p,xz⟩:=ab7 i j x v u;exact .inr ⟨k,i,j,x,v,p,xz,s⟩
 have afH:∀ k i x v b,kj w μ σ k i x v->ptrTo v b->¬ F6 μ bs b:=by
  rintro k i x v b u s ⟨k',N,lL,z,J,he⟩;obtain ⟨_,A,O⟩:=hlk k' N;exact g.mx.obj _ _ _ _ _ u s k' A lL O z J he
 have g0:Good (zW w (fun b=>S b\/F6 μ bs b) C (ot μ m.ks) m.ks.length) C (fun b=>S b\/F6 μ bs b) (ot μ m.ks) w:=by
  refine ⟨Fr.refl _ _,fun _ h=>h,?_,fun _ h=>.inl h,⟨?_,?_⟩,fun k o pl p hm t=>.inl (.inl ⟨k,o,pl,p,hm,t,rfl⟩),fun _ _=>rfl,?_⟩
  ·rintro b (s | ⟨k,p,pl,hm,t,rfl⟩)
   ·exact g.S1 b s
   ·obtain ⟨_,o,l⟩:=hlk k p;exact jA k o pl l hm t
  ·intro i o' hi;obtain ⟨k,o,p,l,rfl⟩:=NI i o' hi;obtain ⟨pl,c,T,hm,I⟩:=g.rep.ob k o l;refine ⟨pl,c,T,by simp [ot,p,hm],?_⟩;have h1:=I.nR (f:=idx m.ks) (ey:=ot μ m.ks) (fun a b pl ha s=>F7 a b pl ha s);refine h1.ext (w':=w) ⟨aV _,fun _ h=>.inl h,fun _ _=>rfl,fun _ _ h=>h⟩ (fun _=>rfl) ?_;rintro t (hS | ⟨k',N,lL,z,J,he⟩)
   ·exact I.out t hS
   ·obtain ⟨Oh,A,O⟩:=hlk k' N;have Z:k≠k':=fun h=>qG _ _ Oh i (h ▸ p);exact g.rep.ne k k' o A pl lL Z l O hm z t J he.symm
  ·intro i i' o o' pl lL Z hi uf hm z t J;obtain ⟨k,oo,p,l,_⟩:=NI i o hi;obtain ⟨k',oo',N,rN,_⟩:=NI i' o' uf;have hkk:k≠k':=fun h=>Z (akx i i' k p (h ▸ N));exact g.rep.ne k k' oo oo' pl lL hkk l rN (by simpa [ot,p] using hm) (by simpa [ot,N] using z) t J
  ·refine g.mx.tr (fun i=>m.ks.getD i 0) (fun i j x v h=>?_) (fun i j x v i' j' x' v' h h' e=>?_) (fun _ h=>.inl h) (fun _ _=>rfl) (fun i j x v b u h s=>?_) (fun i o' pl h1 h2 h3=>?_)
   ·obtain ⟨k,p,u⟩:=ab7 i j x v h;show kj w μ σ (m.ks.getD i 0) j x v;rw [jP,p];exact u
   ·obtain ⟨k,p,_⟩:=ab7 i j x v h;obtain ⟨k',N,_⟩:=ab7 i' j' x' v' h';have e:m.ks.getD i 0=m.ks.getD i' 0:=e;rw [jP,jP,p,N] at e;have e:k=k':=e;exact akx i i' k p (e ▸ N)
   ·obtain ⟨L,D,F,_⟩:=g.mx.df h s;exact ⟨rfl,fun hs=>hs.elim D (afH _ _ _ _ _ h s),fun _=>.inl (.inr ⟨i,j,x,v,u,s⟩)⟩
   ·obtain ⟨k,o,p,l,_⟩:=NI i o' h1;exact .inl ⟨k,o,pl,l,by simpa [ot,p] using h2,h3,rfl⟩
 have afJ:∀ k,m.ks.length<=k->ot μ m.ks k=none:=fun k p=>by simp [ot,uc p]
 -- behind the call
 have E6:∀ k o,ay σ k=some o->k < nk\/nk+16<=k:=by
  intro k o l;rcases Nat.lt_or_ge k nk with h1 | h1
  ·exact .inl h1
  ·rcases Nat.lt_or_ge k (nk+16) with h2 | h2
   ·obtain ⟨pl,c,T,hm,_⟩:=g.rep.ob k o l;have:=IU (k - nk) ad;rw [show nk+(k - nk)=k by omega,hm] at this;cases this
   ·exact .inr h2
 have fin:∀ (fo:fe) (ZL:fe),ob M as C m.ks.length m.res fo ->
   (∀ n,idx m.ks n=none->(n < nk\/nk+16<=n)->ay ZL n=if m.E8=true/\n∈bs then none else ay σ n) ->
   (∀ j,j < 16->∀ o,ay ZL (nk+j)=some o->∃ o1,ay fo (m.ks.length+j)=some o1/\o=o1.nR (back m.ks nk)) ->
   (∀ (w':World) (S' J4:Nat->Prop) (ey:Mu),((bs.isEmpty || m.E8)=true->∀ b,S' b->J4 b)->∀ j,j < 16->∀ o1 pl c T,ay fo (m.ks.length+j)=some o1->kg w' S' ey o1 pl c T->(0 < pl.cap->¬ J4 pl.df)->kg w' J4 ey o1 pl c T) ->
   (∀ (w':World) (S' J4:Nat->Prop) (ey XA:Mu),Good (zW w (fun b=>S b\/F6 μ bs b) C (ot μ m.ks) m.ks.length) fo S' ey w'->((bs.isEmpty || m.E8)=true->∀ b,S' b->J4 b) ->
    (∀ k k' pl,back m.ks nk k=some k'->ey k=some pl->XA k'=some pl)->∀ (k i:Nat) (o:Ob) (pl:Place),m.ks[i]?=some k->ay ZL k=some o->μ k=some pl->(0 < pl.cap->¬ J4 pl.df)->∃ c T,kg w' J4 XA o pl c T) ->
   (∀ (k i:Nat) (o:Ob),m.ks[i]?=some k->ay ZL k=some o->(∃ o1,ay σ k=some o1)/\∃ A,ay fo i=some A) ->
   (∀ (k i:Nat) (o:Ob),m.ks[i]?=some k->ay ZL k=some o->∀ j x,rowOf o j=some x->∃ A,ay fo i=some A/\rowOf A j=some x) ->
   ((bs.isEmpty || m.E8)=false->∀ n o,ay fo n=some o->∀ i,rowOf o i=none) ->
   Calls P M (fvs ++ vargs ++ cvs) w fun e w'=>∃ v S' ey,e=.returned v/\Ext w S μ w' S' ey/\Good E ZL S' ey w'/\(∀ k,(k < nk\/nk+16<=k)->μ k=none->ey k=none)/\av w' S' ey v (m.res.nR (back m.ks nk)):=by
  intro fo ZL ank UR akh apE asd akz apF anl;refine (I M as bs C _ _ _ ank g0 afJ rH).mono ?_;rintro e w' ⟨v,S',ey,rfl,y,u⟩;have XB:∀ b,b < w.heap.size->(∀ (k i:Nat) (o:Ob) (pl:Place),m.ks[i]?=some k->ay σ k=some o->μ k=some pl->0 < pl.cap->pl.df≠b) ->
    (∀ (k i j:Nat) (x:Nat×Nat×(Nat->List AV)) (v:Value),m.ks[i]?=some k->kj w μ σ k j x v->¬ ptrTo v b)->w'.heap[b]?=w.heap[b]?:=by
   intro b s Oh ase;refine y.fr.df b s fun hfp=>?_;rcases afG b hfp with ⟨k,i,o,pl,p,l,hm,t,he⟩ | ⟨k,i,j,x,v,p,u,he⟩
   ·exact Oh k i o pl p l hm t he
   ·exact ase k i j x v p u he
  have hSb:∀ b,S b->w'.heap[b]?=w.heap[b]?:=fun b s=>XB b (g.S1 b s) (fun k i o pl p l hm t he=>apD k o pl l hm t (he ▸ s)) fun k i j x v p u he=>(g.mx.df u he).2.1 s
  let XA:Mu:=fun k=>if nk<=k/\k < nk+16 then ey (m.ks.length+(k - nk)) else μ k
  have PR:∀ k,(k < nk\/nk+16<=k)->XA k=μ k:=fun k p=>by
   show (if nk<=k/\k < nk+16 then _ else _)=_;rw [if_neg ad]
  have US:∀ j,j < 16->XA (nk+j)=ey (m.ks.length+j):=fun j G=>by
   show (if nk<=nk+j/\nk+j < nk+16 then _ else _)=_;rw [if_pos ad];congr 1;omega
  have akA:∀ k pl,μ k=some pl->XA k=some pl:=by
   intro k pl p;have B:k < nk\/nk+16<=k:=by
    rcases Nat.lt_or_ge k nk with h1 | h1
    ·exact .inl h1
    ·rcases Nat.lt_or_ge k (nk+16) with h2 | h2
     ·have:=IU (k - nk) ad;rw [show nk+(k - nk)=k by omega,p] at this;cases this
     ·exact .inr h2
   rw [PR k B];exact p
  have Fa:∀ k k' pl,back m.ks nk k=some k'->ey k=some pl->XA k'=some pl:=by
   intro k k' pl p hm;unfold back at p;split at p
   ·rename_i q Y;cases p;have jA:k < m.ks.length:=(eK.1 Y).1;rw [y.Lm k jA] at hm;have:ot μ m.ks k=some pl:=hm;refine akA _ _ ?_;simpa [ot,show m.ks[k]?=some _ from Y] using this
   ·rename_i Y;split at p
    ·rename_i s;cases p;have jA:k < m.ks.length+16:=by
      simp only [Nat.blt,Nat.ble_eq] at s;exact s
     have hge:m.ks.length<=k:=List.getElem?_eq_none_iff.1 Y;rw [US _ ad,show m.ks.length+(k - m.ks.length)=k by omega];exact hm
    ·cases p
  let SF:Nat->Prop:=fun b=>S b\/(m.E8=true/\F6 μ bs b)\/(S' b/\w.heap.size<=b)
  have hSF:∀ b,SF b->S' b:=by
   rintro b (h1 | ⟨_,h1⟩ | ⟨h1,_⟩)
   ·exact y.S0 b (.inl h1)
   ·exact y.S0 b (.inr h1)
   ·exact h1
  have hSS:(bs.isEmpty || m.E8)=true->∀ b,S' b->SF b:=by
   intro he b s;rcases y.S2 b s with (h1 | h0) | h1
   ·exact .inl h1
   ·rcases Bool.or_eq_true_iff.1 he with he | he
    ·obtain ⟨k,p,_⟩:=h0;rw [List.isEmpty_iff] at he;rw [he] at p;simp at p
    ·exact .inr (.inl ⟨he,h0⟩)
   ·exact .inr (.inr ⟨s,h1⟩)
  have Q:∀ k o,ay ZL k=some o->(k < nk\/nk+16<=k)->∃ o1,ay σ k=some o1:=by
   intro k o l B;cases hi:idx m.ks k with
   | none =>
    rw [UR k hi B] at l;split at l
    ·cases l
    ·exact ⟨o,l⟩
   | some i=>exact (akz k i o (rO _ _ _ hi) l).1
  have hnl:∀ k o,ay ZL k=some o->m.E8=true->k ∉ bs:=by
   intro k o l hz' p;obtain ⟨Oh,A,O⟩:=hlk k p;rw [UR k Oh (E6 k A O),if_pos ⟨hz',p⟩] at l;cases l
  have TL:∀ k o0 o pl,ay ZL k=some o0->ay σ k=some o->μ k=some pl->0 < pl.cap->¬ SF pl.df:=by
   rintro k o0 o pl xB l hm t (h1 | ⟨hz',k',N,lL,z,J,he⟩ | ⟨_,h1⟩)
   ·exact apD k o pl l hm t h1
   ·obtain ⟨_,A,O⟩:=hlk k' N;have Z:k≠k':=fun h=>hnl k o0 xB hz' (h ▸ N);exact g.rep.ne k k' o A pl lL Z l O hm z t J he.symm
   ·have:=jA k o pl l hm t;omega
  -- a new object, as the callee has left it
  have ZM:∀ j,j < 16->∀ o,ay ZL (nk+j)=some o->∃ o1 pl c T,ay fo (m.ks.length+j)=some o1/\o=o1.nR (back m.ks nk)/\ey (m.ks.length+j)=some pl/\kg w' S' ey o1 pl c T:=by
   intro j G o l;obtain ⟨o1,h1,h2⟩:=akh j G o l;obtain ⟨pl,c,T,h3,h4⟩:=y.rep.ob _ o1 h1;exact ⟨o1,pl,c,T,h1,h2,h3,h4⟩
  have F9:∀ k,(k < nk\/nk+16<=k)\/∃ j,j < 16/\k=nk+j:=fun k=>by
   rcases Nat.lt_or_ge k nk with h1 | h1
   ·exact .inl (.inl h1)
   ·rcases Nat.lt_or_ge k (nk+16) with h2 | h2
    ·exact .inr ⟨k - nk,ad,ad⟩
    ·exact .inl (.inr h2)
  -- the block of a new object is none of the caller's
  have amf:∀ j o1 pl,ay fo (m.ks.length+j)=some o1->ey (m.ks.length+j)=some pl->0 < pl.cap ->
    (∃ (k i:Nat) (o:Ob) (lL:Place),m.ks[i]?=some k/\ay σ k=some o/\μ k=some lL/\0 < lL.cap/\lL.df=pl.df) \/
    (∃ (k i j:Nat) (x:Nat×Nat×(Nat->List AV)) (v:Value),m.ks[i]?=some k/\kj w μ σ k j x v/\ptrTo v pl.df)\/w.heap.size<=pl.df:=by
   intro j o1 pl h1 h2 h3;rcases y.own _ o1 pl h1 h2 h3 with h4 | h4
   ·exact (afG _ h4).elim .inl fun h=>.inr (.inl h)
   ·exact .inr (.inr h4)
  -- new and old ones lie apart
  have afK:∀ j,j < 16->∀ k o o' pl lL,ay ZL (nk+j)=some o->ay ZL k=some o'->(k < nk\/nk+16<=k)->XA (nk+j)=some pl->XA k=some lL->0 < pl.cap->0 < lL.cap->pl.df≠lL.df:=by
   intro j G k o o' pl lL l rN B hm z t J he;obtain ⟨o1,J5,c1,T1,h1,h2,h3,h4⟩:=ZM j G o l;rw [US j G,h3] at hm;cases hm;rw [PR k B] at z;cases hi:idx m.ks k with
   | some i =>
    have H:=rO _ _ _ hi;obtain ⟨_,A,O⟩:=akz k i o' H rN;have Oi:i < m.ks.length:=(eK.1 H).1;have F2:ey i=some lL:=by
     rw [y.Lm i Oi];show ot μ m.ks i=_;simp [ot,H,z]
    exact y.rep.ne (m.ks.length+j) i o1 A pl lL ad h1 O h3 F2 t J he
   | none =>
    obtain ⟨o3,Zo⟩:=Q k o' rN B;rcases amf j o1 pl h1 h3 t with ⟨k2,V,o4,W,L,D,F,q4,q5⟩ | ⟨k2,V,j2,x2,v2,L,D,F⟩ | h5
    ·have Z:k2≠k:=fun h=>qG _ _ hi V (h ▸ L);exact g.rep.ne k2 k o4 o3 W lL Z D Zo F z q4 J (q5.trans he)
    ·exact g.mx.obj _ _ _ _ _ D F k o3 lL Zo z J he.symm
    ·have:=jA k o3 lL Zo z J;omega
  have ext:Ext w S μ w' SF XA:=⟨y.fr.size,fun _ h=>.inl h,hSb,akA⟩
  -- the rows
  have cls:∀ k i x v,kj w' XA ZL k i x v->(idx m.ks k=none/\(k < nk\/nk+16<=k)/\kj w μ σ k i x v)\/((bs.isEmpty || m.E8)=true/\∃ q,back m.ks nk q=some k/\kj w' ey fo q i x v):=by
   rintro k i x v ⟨o,pl,h1,h2,h3,h4⟩;have amg:∀ n A,ay fo n=some A->rowOf A i=some x->(bs.isEmpty || m.E8)=true:=by
    intro n A O gp;cases K:(bs.isEmpty || m.E8) with
    | true=>rfl
    | false=>rw [anl K n A O i] at gp;cases gp
   rcases F9 k with B | ⟨j,G,rfl⟩
   ·cases hi:idx m.ks k with
    | none =>
     have xB:=h1;rw [UR k hi B] at xB;split at xB
     ·cases xB
     rw [PR k B] at h3;obtain ⟨x7,c,T,hm,I⟩:=g.rep.ob k o xB;rw [h3] at hm;cases hm;refine .inl ⟨rfl,B,o,pl,xB,h2,h3,?_⟩;have t:0 < pl.cap:=by have:=(dS h2).2.1;have:=I.len;omega
     rw [<- h4];refine (xy (XB _ (ft (I.df t)) ?_ ?_) _).symm
     ·intro k' i' o' lL N rN z J he;have Z:k'≠k:=fun h=>qG _ _ hi i' (h ▸ N);exact g.rep.ne k' k o' o lL pl Z rN xB z h3 J t he
     ·intro k' i' j' x' v' N xz he;exact g.mx.obj _ _ _ _ _ xz he k o pl xB h3 t rfl
    | some i0 =>
     have H:=rO _ _ _ hi;obtain ⟨A,O,gp⟩:=apF k i0 o H h1 i x h2;have Oi:i0 < m.ks.length:=(eK.1 H).1;refine .inr ⟨amg i0 A O gp,i0,by unfold back;rw [H],A,pl,O,gp,?_,h4⟩;rw [y.Lm i0 Oi];rw [PR k B] at h3;show ot μ m.ks i0=_;simp [ot,H,h3]
   ·obtain ⟨o1,L,D⟩:=akh j G o h1;rw [D] at h2;have gp:=(wP _ _ _ _).1 h2;refine .inr ⟨amg _ o1 L gp,m.ks.length+j,?_,o1,pl,L,gp,by rw [<- US j G];exact h3,h4⟩;unfold back;rw [uc ad];have:Nat.blt (m.ks.length+j) (m.ks.length+16)=true:=by simp only [Nat.blt,Nat.ble_eq];omega
    rw [this];simp
  have apG:∀ k i x v b,kj w μ σ k i x v->ptrTo v b->idx m.ks k=none->w'.heap[b]?=w.heap[b]?/\¬ SF b:=by
   intro k i x v b u s hi;obtain ⟨L,D,F,_⟩:=g.mx.df u s;refine ⟨XB b L (fun k' i' o' lL N rN z J he=>g.mx.obj _ _ _ _ _ u s k' o' lL rN z J he) (fun k' i' j' x' v' N xz he=>?_),?_⟩
   ·obtain ⟨e1,_⟩:=g.mx.two _ _ _ _ _ _ _ _ _ u xz s he;exact qG _ _ hi i' (e1 ▸ N)
   ·rintro (h1 | ⟨_,h1⟩ | ⟨_,h1⟩)
    ·exact D h1
    ·exact afH _ _ _ _ _ u s h1
    ·omega
  have afM:∀ k i x v b,kj w μ σ k i x v->ptrTo v b->idx m.ks k=none->∀ b',(ZG w C (ot μ m.ks) b'\/w.heap.size<=b')->b'≠b:=by
   rintro k i x v b u s hi b' (h1 | h1) rfl
   ·rcases afG _ h1 with ⟨k2,V,o4,W,L,D,F,q4,q5⟩ | ⟨k2,V,j2,x2,v2,L,D,F⟩
    ·exact g.mx.obj _ _ _ _ _ u s k2 o4 W D F q4 q5
    ·obtain ⟨e1,_⟩:=g.mx.two _ _ _ _ _ _ _ _ _ u D s F;exact qG _ _ hi V (e1 ▸ L)
   ·have:=(g.mx.df u s).1;omega
  have asf:MX E.fp E.w0.heap.size w' SF XA ZL:=by
   refine ⟨fun k i x v h=>?_,fun k i x v b h s k' o' lL h1 h2 h3=>?_,fun k i x v b k' i' x' v' h h' s zG=>?_⟩
   ·rcases cls k i x v h with ⟨hi,B,u⟩ | ⟨K,q,Y,u⟩
    ·exact (g.mx.row _ _ _ _ u).ext (fun _ h=>.inl h) hSb fun b s=>let ⟨a1,a2⟩:=apG _ _ _ _ _ u s hi;⟨a1,a2,fun h=>h⟩
    ·refine (y.mx.row _ _ _ _ u).ext (hSS K) (fun _ _=>rfl) fun b s=>⟨rfl,fun hs=>(y.mx.df u s).2.1 (hSF b hs),?_⟩;rintro (h1 | h1)
     ·rcases afG _ h1 with ⟨k2,V,o4,W,L,D,F,q4,q5⟩ | ⟨k2,V,j2,x2,v2,L,D,F⟩
      ·rw [<- q5];exact g.own k2 o4 W D F q4
      ·exact (g.mx.df D F).2.2.1
     ·exact .inr (gG g.fr.size h1)
   ·rcases cls k i x v h with ⟨hi,B,u⟩ | ⟨K,q,Y,u⟩
    ·rcases F9 k' with SX | ⟨j',CE,rfl⟩
     ·obtain ⟨A,O⟩:=Q k' o' h1 SX;rw [PR k' SX] at h2;exact g.mx.obj _ _ _ _ _ u s k' A lL O h2 h3
     ·obtain ⟨o1,J5,c1,T1,L,D,F,q4⟩:=ZM j' CE o' h1;rw [US j' CE,F] at h2;cases h2;exact afM _ _ _ _ _ u s hi _ (y.own _ o1 lL L F h3)
    ·rcases F9 k' with SX | ⟨j',CE,rfl⟩
     ·rw [PR k' SX] at h2;cases hi:idx m.ks k' with
      | some V =>
       have H:=rO _ _ _ hi;obtain ⟨_,A,O⟩:=akz k' V o' H h1;have Oi:V < m.ks.length:=(eK.1 H).1;have F2:ey V=some lL:=by
        rw [y.Lm V Oi];show ot μ m.ks V=_;simp [ot,H,h2]
       exact y.mx.obj _ _ _ _ _ u s V A lL O F2 h3
      | none =>
       obtain ⟨o3,Zo⟩:=Q k' o' h1 SX;intro he;rcases (y.mx.df u s).2.2.1 with h4 | h4
       ·rcases afG _ h4 with ⟨k2,V,o4,W,L,D,F,q4,q5⟩ | ⟨k2,V,j2,x2,v2,L,D,F⟩
        ·have Z:k2≠k':=fun h=>qG _ _ hi V (h ▸ L);exact g.rep.ne k2 k' o4 o3 W lL Z D Zo F h2 q4 h3 (q5.trans he.symm)
        ·exact g.mx.obj _ _ _ _ _ D F k' o3 lL Zo h2 h3 he
       ·have:=jA k' o3 lL Zo h2 h3;have h4:w.heap.size<=b:=h4;omega
     ·obtain ⟨o1,J5,c1,T1,L,D,F,q4⟩:=ZM j' CE o' h1;rw [US j' CE,F] at h2;cases h2;exact y.mx.obj _ _ _ _ _ u s _ o1 lL L F h3
   ·rcases cls k i x v h with ⟨hi,B,u⟩ | ⟨K,q,Y,u⟩<;>rcases cls k' i' x' v' h' with ⟨uf,SX,xz⟩ | ⟨awj,q',hq',xz⟩
    ·exact g.mx.two _ _ _ _ _ _ _ _ _ u xz s zG
    ·exact (afM _ _ _ _ _ u s hi _ (y.mx.df xz zG).2.2.1 rfl).elim
    ·exact (afM _ _ _ _ _ xz zG uf _ (y.mx.df u s).2.2.1 rfl).elim
    ·obtain ⟨e1,e2⟩:=y.mx.two _ _ _ _ _ _ _ _ _ u xz s zG;rw [e1,hq'] at Y;exact ⟨(Option.some.inj Y).symm,e2⟩
  refine ⟨v,SF,XA,rfl,ext,⟨?_,fun b h=>.inl (g.S0 b h),?_,?_,⟨?_,?_⟩,?_,fun k p=>by rw [PR k (.inl ad)];exact g.Lm k p,asf⟩,fun k B h=>by rw [PR k B];exact h,?_⟩
  ·refine ⟨y.fr.os.trans g.fr.os,y.fr.tape.trans g.fr.tape,y.fr.output.trans g.fr.output,gG g.fr.size y.fr.size,fun b s hnf=>?_⟩;rw [<- g.fr.df b s hnf];refine XB b (sM s g.fr.size) ?_ ?_
   ·intro k i o pl p l hm t he;rcases g.own k o pl l hm t with h1 | h1
    ·exact hnf (he ▸ h1)
    ·have:pl.df=b:=he;omega
   ·intro k i j x v p u he;rcases (g.mx.df u he).2.2.1 with h1 | h1
    ·exact hnf h1
    ·omega
  ·rintro b (s | ⟨_,k,p,pl,hm,t,rfl⟩ | ⟨s,_⟩)
   ·exact sM (g.S1 b s) y.fr.size
   ·obtain ⟨_,o,l⟩:=hlk k p;exact sM (jA k o pl l hm t) y.fr.size
   ·exact y.S1 b s
  ·rintro b (s | ⟨hz',k,p,pl,hm,t,rfl⟩ | ⟨_,s⟩)
   ·exact g.S2 b s
   ·obtain ⟨_,o,l⟩:=hlk k p;rcases g.own k o pl l hm t with h1 | h1
    ·exact (hz hz' _ h1).elim
    ·exact .inr h1
   ·exact .inr (gG g.fr.size s)
  ·intro k o l;rcases F9 k with B | ⟨j,G,rfl⟩
   ·cases hi:idx m.ks k with
    | none =>
     have xB:=l;rw [UR k hi B] at l;split at l
     ·cases l
     obtain ⟨pl,c,T,hm,I⟩:=g.rep.ob k o l;refine ⟨pl,c,T,akA _ _ hm,I.ext ext ?_ (TL k o o pl xB l hm)⟩;intro t;refine XB _ (ft (I.df t)) ?_ (fun k' i' j' x' v' N xz he=>g.mx.obj _ _ _ _ _ xz he k o pl l hm t rfl);intro k' i' o' lL N rN z J he;have Z:k'≠k:=fun h=>qG _ _ hi i' (h ▸ N);exact g.rep.ne k' k o' o lL pl Z rN l z hm J t he
    | some i =>
     have p:=rO _ _ _ hi;obtain ⟨⟨o1,X⟩,_⟩:=akz k i o p l;obtain ⟨pl,c,T,hm,_⟩:=g.rep.ob k o1 X;obtain ⟨c',T',I⟩:=asd w' S' SF ey XA y hSS Fa k i o pl p l hm (TL k o o1 pl l X hm);exact ⟨pl,c',T',akA _ _ hm,I⟩
   ·obtain ⟨o1,pl,c,T,h1,h2,h3,h4⟩:=ZM j G o l;have h5:=apE w' S' SF ey hSS j G o1 pl c T h1 h4 (fun t s=>h4.out t (hSF _ s));exact ⟨pl,c,T,by rw [US j G];exact h3,by rw [h2];exact h5.nR Fa⟩
  ·intro k k' o o' pl lL Z l rN hm z t J;rcases F9 k with B | ⟨j,G,rfl⟩
   ·rcases F9 k' with SX | ⟨j',CE,rfl⟩
    ·obtain ⟨o1,X⟩:=Q k o l B;obtain ⟨A,O⟩:=Q k' o' rN SX;rw [PR k B] at hm;rw [PR k' SX] at z;exact g.rep.ne k k' o1 A pl lL Z X O hm z t J
    ·exact fun he=>afK j' CE k o' o lL pl rN l B z hm J t he.symm
   ·rcases F9 k' with SX | ⟨j',CE,rfl⟩
    ·exact afK j G k' o o' pl lL l rN SX hm z t J
    ·obtain ⟨o1,J5,c1,T1,h1,h2,h3,h4⟩:=ZM j G o l;obtain ⟨A,x7,c2,T2,k1,k2,k3,k4⟩:=ZM j' CE o' rN;rw [US j G,h3] at hm;cases hm;rw [US j' CE,k3] at z;cases z;exact y.rep.ne _ _ o1 A pl lL ad h1 k1 h3 k3 t J
  ·intro k o pl l hm t;rcases F9 k with B | ⟨j,G,rfl⟩
   ·obtain ⟨o1,X⟩:=Q k o l B;rw [PR k B] at hm;exact g.own k o1 pl X hm t
   ·obtain ⟨o1,J5,c1,T1,h1,h2,h3,h4⟩:=ZM j G o l;rw [US j G,h3] at hm;cases hm;rcases amf j o1 pl h1 h3 t with ⟨k2,V,o4,W,L,D,F,q4,q5⟩ | ⟨k2,V,j2,x2,v2,L,D,F⟩ | h5
    ·rw [<- q5];exact g.own k2 o4 W D F q4
    ·exact (g.mx.df D F).2.2.1
    ·exact .inr (gG g.fr.size h5)
  ·cases he:(bs.isEmpty || m.E8) with
   | true=>exact (u.nR (f:=back m.ks nk) Fa).mono (hSS he) (fun _ _=>rfl) (fun _ _ h=>h)
   | false =>
    rw [he,Bool.false_or] at adV;exact (u.Xf adV w' SF).nR (f:=back m.ks nk) Fa
 split at h
 ·split at h
  ·split at h
   ·rename_i qs O7;cases h;obtain ⟨Y,_⟩:=bg.app hp.2;have Zr:∀ k i:Nat,m.ks[i]?=some k->∀ o,ay (iC σ (CC m.E8 bs)) k=some o->ay σ k=some o:=fun k i p o l=>by
     rw [qH] at l;split at l
     ·cases l
     ·exact l
    refine fin C _ hp.1 (fun n _ _=>qH _ _ _ _) ?_ ?_ ?_ ?_ ?_ ?_
    ·intro j G o l;have l:ay (iC σ (CC m.E8 bs)) (nk+j)=some o:=l;rw [qH] at l;split at l
     ·cases l
     ·rcases E6 _ o l with h1 | h1<;>omega
    ·intro w' S' J4 ey _ j G o1 pl c T h1;obtain ⟨k,o,p,_⟩:=NI _ o1 h1;rw [uc ad] at p;cases p
    ·intro w' S' J4 ey XA y hS Fa k i o pl p l hm hfr;have l:=Zr k i p o l;obtain ⟨ps',hso,Zp⟩:=D3 _ _ O7 Y k (List.mem_of_getElem? p) o l;have hci:ay C i=some (o.nR (idx m.ks)):=by rw [U];simp [p,l]
     obtain ⟨x7,c,T,HD,I⟩:=y.rep.ob i _ hci;have jA:i < m.ks.length:=(eK.1 p).1;rw [y.Lm i jA] at HD;have:μ k=some x7:=by simpa [zW,ot,p] using HD
     rw [hm] at this;cases this;exact ⟨c,T,ab6 I hso Zp hS hfr Fa⟩
    ·intro k i o p l;have l:=Zr k i p o l;exact ⟨⟨o,l⟩,o.nR (idx m.ks),by rw [U];simp [p,l]⟩
    ·intro k i o p l j x hx;have l:=Zr k i p o l;exact ⟨o.nR (idx m.ks),by rw [U];simp [p,l],(wP _ _ _ _).2 hx⟩
    ·intro K n o' rN i;obtain ⟨k,o,p,l,rfl⟩:=NI n o' rN;obtain ⟨ps',hso,Zp⟩:=D3 _ _ O7 Y k (List.mem_of_getElem? p) o l;rw [K] at hso;cases hr:rowOf (o.nR (idx m.ks)) i with
     | none=>rfl
     | some x =>
      have:=(wP _ _ _ _).1 hr;rw [UQ hso Zp] at this;cases this
   ·cases h
  ·rename_i q τ awk;split at h
   ·rename_i qs S9 O7 amh;cases h;obtain ⟨Y,_⟩:=bg.app hp.2;simp only [bd] at amh;obtain ⟨⟨hge,apH⟩,asi⟩:=amh;have ab8:∀ k i:Nat,m.ks[i]?=some k->k < nk\/nk+16<=k:=fun k i p=>by
     obtain ⟨o,l⟩:=HJ m.ks 0 C akv k (List.mem_of_getElem? p);exact E6 k o l
    have Zr:∀ k i:Nat,m.ks[i]?=some k->∀ o,ay (iC σ (Kc m.ks nk (q :: τ) ++ CC m.E8 bs)) k=some o->ay σ k=some o:=fun k i p o l=>by
     rw [jV,qH] at l;split at l
     ·cases l
     ·rw [CD _ _ _ apH (ab8 k i p)] at l;exact l
    have LI:∀ i:Nat,i < m.ks.length->ay (C ++ q :: τ) i=ay C i:=fun i hi=>by
     rw [PL];cases hs:ay C i with
     | some o=>rfl
     | none=>exact TK hge i hi
    have apI:∀ j:Nat,ay (C ++ q :: τ) (m.ks.length+j)=ay (q :: τ) (m.ks.length+j):=fun j=>by
     rw [PL];have:ay C (m.ks.length+j)=none:=by rw [U];simp
     rw [this]
    refine fin (C ++ q :: τ) _ hp.1 ?_ ?_ ?_ ?_ ?_ ?_ ?_
    ·intro n B hnn;show ay (iC σ (Kc m.ks nk (q :: τ) ++ CC m.E8 bs)) n=_;rw [jV,qH,CD _ _ _ apH hnn]
    ·intro j G o l;have l:ay (iC σ (Kc m.ks nk (q :: τ) ++ CC m.E8 bs)) (nk+j)=some o:=l;rw [jV,qH] at l;split at l
     ·cases l
     rw [Kf _ _ _ asi] at l;split at l
     ·rename_i o1 X;cases l;exact ⟨o1,(apI j).trans X,rfl⟩
     ·rcases E6 _ o l with h1 | h1<;>omega
    ·intro w' S' J4 ey hS j G o1 pl c T h1 h2 h3;exact Kg h2 (hS S9) h3
    ·intro w' S' J4 ey XA y hS Fa k i o pl p l hm hfr;have l:=Zr k i p o l;obtain ⟨ps',hso,Zp⟩:=D3 _ _ O7 Y k (List.mem_of_getElem? p) o l;have jA:i < m.ks.length:=(eK.1 p).1;have hci:ay (C ++ q :: τ) i=some (o.nR (idx m.ks)):=by rw [LI i jA,U];simp [p,l]
     obtain ⟨x7,c,T,HD,I⟩:=y.rep.ob i _ hci;rw [y.Lm i jA] at HD;have:μ k=some x7:=by simpa [zW,ot,p] using HD
     rw [hm] at this;cases this;exact ⟨c,T,ab6 I hso Zp (fun _=>hS S9) hfr Fa⟩
    ·intro k i o p l;have l:=Zr k i p o l;exact ⟨⟨o,l⟩,o.nR (idx m.ks),by rw [LI i (eK.1 p).1,U];simp [p,l]⟩
    ·intro k i o p l j x hx;have l:=Zr k i p o l;exact ⟨o.nR (idx m.ks),by rw [LI i (eK.1 p).1,U];simp [p,l],(wP _ _ _ _).2 hx⟩
    ·intro akC;rw [S9] at akC;cases akC
   ·cases h
 ·split at h
  ·rename_i qs O7 K;cases h;obtain ⟨Y,_⟩:=bg.app hp.2;rw [bd] at O7;have hbk:∀ n,ay (iC σ (Iy m.ks nk m.mg 0 m.ks)) n=match idx m.ks n with
     | some j=>(ay m.mg (0+j)).map (Ob.nR (back m.ks nk))
     | none=>ay σ n:=fun n=>LH m.ks 0 σ n akx
   have asj:∀ k i:Nat,m.ks[i]?=some k->idx m.ks k=some i:=by
    intro k i p;cases hi:idx m.ks k with
    | none=>exact (qG _ _ hi i p).elim
    | some j=>rw [akx i j k p (rO _ _ _ hi)]
   have ab8:∀ k i:Nat,m.ks[i]?=some k->k < nk\/nk+16<=k:=fun k i p=>by
    obtain ⟨o,l⟩:=HJ m.ks 0 C akv k (List.mem_of_getElem? p);exact E6 k o l
   have afN:∀ k i:Nat,m.ks[i]?=some k->∀ o,ay (iC σ (Iy m.ks nk m.mg 0 m.ks ++ (Kc m.ks nk m.mg ++ CC m.E8 bs))) k=some o->(ay m.mg i).map (Ob.nR (back m.ks nk))=some o:=by
    intro k i p o l;rw [jV,jV,qH] at l;split at l
    ·cases l
    rw [CD _ _ _ O7.1 (ab8 k i p),hbk k,asj k i p] at l;simpa using l
   refine fin m.mg _ hp.1 ?_ ?_ ?_ ?_ ?_ ?_ ?_
   ·intro n B hnn;show ay (iC σ (Iy m.ks nk m.mg 0 m.ks ++ (Kc m.ks nk m.mg ++ CC m.E8 bs))) n=_;rw [jV,jV,qH,CD _ _ _ O7.1 hnn,hbk n,B]
   ·intro j G o l;have l:ay (iC σ (Iy m.ks nk m.mg 0 m.ks ++ (Kc m.ks nk m.mg ++ CC m.E8 bs))) (nk+j)=some o:=l;rw [jV,jV,qH] at l;split at l
    ·cases l
    rw [Kf _ _ _ O7.2] at l;split at l
    ·rename_i o1 X;cases l;exact ⟨o1,X,rfl⟩
    ·rw [hbk] at l;cases hi:idx m.ks (nk+j) with
     | some i =>
      rcases ab8 _ i (rO _ _ _ hi) with h1 | h1<;>omega
     | none =>
      rw [hi] at l;rcases E6 _ o l with h1 | h1<;>omega
   ·intro w' S' J4 ey hS j G o1 pl c T h1 h2 h3;rcases yU _ _ K Y _ o1 h1 with hl | ⟨ps',hf,hfp⟩
    ·exact Kg h2 (hS hl) h3
    ·exact PO h2 hf hfp h3
   ·intro w' S' J4 ey XA y hS Fa k i o pl p l hm hfr;have l:=afN k i p o l;simp only [a4] at l;obtain ⟨o1,X,rfl⟩:=l;obtain ⟨x7,c,T,HD,I⟩:=y.rep.ob i _ X;have jA:i < m.ks.length:=(eK.1 p).1;rw [y.Lm i jA] at HD;have:μ k=some x7:=by simpa [zW,ot,p] using HD
    rw [hm] at this;cases this;refine ⟨c,T,?_⟩;rcases yU _ _ K Y _ o1 X with hl | ⟨ps',hf,hfp⟩
    ·exact (Kg I (hS hl) hfr).nR Fa
    ·exact (PO (Pz:=ey) I hf hfp hfr).nR Fa
   ·intro k i o p l;have l:=afN k i p o l;simp only [a4] at l;obtain ⟨o1,X,_⟩:=l;exact ⟨HJ m.ks 0 C akv k (List.mem_of_getElem? p),o1,X⟩
   ·intro k i o p l j x hx;have l:=afN k i p o l;simp only [a4] at l;obtain ⟨o1,X,rfl⟩:=l;exact ⟨o1,X,(wP _ _ _ _).1 hx⟩
   ·intro akC n o1 X i;rcases yU _ _ K Y _ o1 X with hl | ⟨ps',hf,hfp⟩
    ·rw [akC] at hl;cases hl
    ·exact BK hf hfp i
  ·cases h
def anm:List AV->Bool
 | [.atom v]=>match v with
  | .int k _=>match k with
   | .u8=>true
   | _=>false
  | _=>false
 | _=>false
def u8v:List AV->Int
 | [.atom v]=>match v with
  | .int _ x=>x
  | _=>0
 | _=>0
def strOf (n:Nat) (g:Nat->List AV):ByteArray:=⟨((List.range n).map fun i=>UInt8.ofNat (u8v (g i)).toNat).toArray⟩
theorem akD {l:List AV} (h:anm l=true):l=[.atom (.int .u8 (u8v l))]:=by
 unfold anm at h;split at h
 ·split at h
  ·split at h
   ·rfl
   ·cases h
  ·cases h
 ·cases h
def HK (P:Program) (σ:fe) (a dst:TypeId) (x:AV):Option (List Prop×AV×List Nat) :=
 match P.underlying a,P.underlying dst with
 | some .string,some (.slice e)=>match P.underlying e,x with
  | some (.int .u8),.atom (.string b)=>some ([],.sl b.size (fun i=>[.atom (.int .u8 (om b i))]),[])
  | _,_=>none
 | some (.slice e),some .string=>match P.underlying e,CA σ 1 x with
  | some (.int .u8),some (n,g,_,ps,rd)=>some ((∀ i,i < n->anm (g i)=true) :: ps,.atom (.string (strOf n g)),rd)
  | _,_=>none
 | _,_=>none
theorem foldl_push (l:List Int):∀ (r:ByteArray),l.foldl (fun r n=>r.push (UInt8.ofNat n.toNat)) r=⟨r.data ++ (l.map fun n=>UInt8.ofNat n.toNat).toArray⟩:=by
 induction l with
 | nil=>intro r;simp
 | cons b l a =>
  simp_all
theorem afO (g:Good E σ S μ w) {d dst:TypeId} {x:AV} {v:Value} (f:av w S μ v x) {ps:List Prop} {val:AV} {rd:List Nat} (h:HK P σ d dst x=some (ps,val,rd)) (A:bg ps) :
  Step P E nk σ S μ w (convert d dst v) val []:=by
 unfold HK at h;split at h
 ·rename_i e p q;split at h
  ·rename_i b he;simp only [aX,aQ] at h;obtain ⟨rfl,rfl,rfl⟩:=h;have:=eH f;subst this;have B:=run_bytes_of_string w d dst e b p q he;have y:=g.drew.adL (.cells (bytesRow b (grownCap w b.size 0 e)) e ((bytesRow b (grownCap w b.size 0 e)).size,(bytesRow b (grownCap w b.size 0 e)).size+1));refine ⟨_,_,_,_,B,(Ext.drew w S μ).trans y.1,y.2,fun _ _ h=>h,?_⟩;refine .sl w.heap.size 0 1 (fun i _=>.int .u8 (om b i)) (fun _=>⟨rfl,.inr rfl⟩) (fun i hi=>rfl) ?_ ?_ ?_
   ·intro i j hi z;have z:j=0:=ad;subst z;have:=World.cell?_alloc_mark w.drew (bytesRow b (grownCap w b.size 0 e)) e ((bytesRow b (grownCap w b.size 0 e)).size,(bytesRow b (grownCap w b.size 0 e)).size+1) i;simp_all [Nat.zero_add,Nat.mul_one,Nat.add_zero,bytesRow,Array.getElem?_append,om,ByteArray.getElem_eq_getElem_data,getElem?_pos]
   ·intro i j c hi s;cases j with
    | zero=>simp at s;subst s;exact .atom _
    | succ j=>simp at s
   ·simp [grownCap,Question.cut]
  ·cases h
 ·rename_i e p q;split at h
  ·rename_i n gt pr I C he m;simp only [aX,aQ] at h;obtain ⟨rfl,rfl,rfl⟩:=h;obtain ⟨D,F⟩:=A;obtain ⟨news,k⟩:=F4 g (P:=P) f m F;have t:∃ a len cap,v=.slice a len cap:=by
    unfold CA at m;split at m
    ·cases f;exact ⟨_,_,_,rfl⟩
    ·cases f;exact ⟨_,_,_,rfl⟩
    ·cases f;exact ⟨_,_,_,rfl⟩
    ·cases m
   obtain ⟨a,len,cap,rfl⟩:=t;have l:len=n:=by
    have:=k.len w;simpa [Builtin.lenOf] using this
   subst l;have G:news=((List.range len).map fun i=>Value.int .u8 (u8v (gt i))):=by
    have J:news.length=len:=by simpa using k.size
    apply List.ext_getElem?;intro i
    by_cases hi:i < len
    ·have h1:news[i]?=some (news[i]'ad):=ub _;have H:=akD (D i hi);have h2:=k.rep i 0 _ _ hi (by rw [H];rfl) (by simpa only [Nat.mul_one,Nat.add_zero] using h1);grind [eH]
    ·simp_all
   have u:(((List.range len).map fun i=>u8v (gt i)).foldl (fun r n=>r.push (UInt8.ofNat n.toNat)) ByteArray.empty)=strOf len gt:=by
    rw [foldl_push];have o:ByteArray.empty.data=#[]:=rfl;rw [o];simp [strOf]
   refine Step.pure g (v:=.string (strOf len gt)) ?_ (.atom _);rw [run_convert_bytes_string w d dst e a len cap p he q];cases a with
   | none =>
    have:len=0:=by
     rcases Nat.eq_zero_or_pos len with o | o
     ·exact o
     ·have:=k.cells w rfl;simp_all [Builtin.firstCells,congrArg,List.length]
    subst this;rfl
   | some a =>
    rw [<- u];refine run_bytesToString w a len cap _ ?_;have:=k.cells w rfl;grind [Builtin.firstCells,Function.comp_def]
  ·cases h
 ·cases h
open Go.MapKept
def Fc (P:Program) (c:TypeId) (a b:AV):Option Bool :=
 match a,b with
 | .atom a,.atom b=>match a,b with
  | .string s,.string t=>some (dZ s t)
  | .int k x,.int k' y=>match decide (k=k') with
   | true=>some (x == y)
   | false=>none
  | _,_=>none
 | .agg ys,.agg xs=>match Nat.beq ys.length xs.length with
  | true=>Lv P 64 c (.agg xs) (.agg ys)
  | false=>none
 | _,_=>none
def look (P:Program) (a:TypeId):List AV->AV->Option (Option AV)
 | k :: v :: r,x=>match Fc P a k x with
  | some true=>some (some v)
  | some false=>look P a r x
  | none=>none
 | [_],_=>none
 | [],_=>some none
def FC (P:Program) (a:TypeId):List AV->AV->AV->Option (List AV)
 | k :: v :: r,x,y=>match Fc P a k x with
  | some true=>some (k :: y :: r)
  | some false=>(FC P a r x y).map fun l=>k :: v :: l
  | none=>none
 | [_],_,_=>none
 | [],x,y=>some [x,y]
def allI (k:IntKind):List AV->Bool
 | []=>true
 | .atom (.int k' _) :: r=>match decide (k'=k) with
  | true=>allI k r
  | false=>false
 | _ :: _=>false
def nT (P:Program) (d:TypeDesc) (x:AV):Bool :=
 match d,x with
 | .string,.atom v=>match v with
  | .string _=>true
  | _=>false
 | .int k,.atom v=>match v with
  | .int k' _=>decide (k'=k)
  | _=>false
 | .array n e,.agg xs=>match P.underlying e,AM P e with
  | some (.int k),some m=>Nat.beq m 1 && Nat.beq xs.length n && allI k xs
  | _,_=>false
 | _,_=>false
def BL (R:Value->AV->Prop):List MapEntry->List AV->Prop
 | [],[]=>True
 | e :: es,k :: v :: cs=>R e.key k/\R e.val v/\BL R es cs
 | _,_=>False
theorem ZN (c:Array Value) (i:Nat) (hi:i < c.size / 2):(gH c)[i]?=some ⟨c[2 * i]?.getD undef,c[2 * i+1]?.getD undef,i⟩:=by
 simp [gH,hi]
theorem Ga (c:Array Value):(gH c).size=c.size / 2:=by simp [gH]
theorem aca {R:Value->AV->Prop} {c:Array Value} {cs:List AV} (h1:c.size % 2=0) (h2:c.size=cs.length) (h3:∀ (j:Nat) x v,cs[j]?=some x->c[j]?=some v->R v x):BL R (gH c).toList cs:=by
 have key:∀ (n o:Nat),2 * (o+n)=c.size->BL R ((List.range' o n).map fun i=>(⟨c[2 * i]?.getD undef,c[2 * i+1]?.getD undef,i⟩:MapEntry)) (cs.drop (2 * o)):=by
  intro n
  induction n with
  | zero=>intro o h;rw [List.drop_of_length_le ad];trivial
  | succ n b =>
   intro o h;have d:2 * o < cs.length:=ad;have f:2 * o+1 < cs.length:=ad;rw [List.range'_succ,List.map_cons,List.drop_eq_getElem_cons d,List.drop_eq_getElem_cons f];have g:c[2 * o]?=some c[2 * o]:=hH _;have k:c[2 * o+1]?=some c[2 * o+1]:=hH _;have a:=b (o+1) ad;rw [show 2 * (o+1)=2 * o+1+1 by omega] at a;refine ⟨?_,?_,a⟩
   ·grind
   grind
 have:=key (c.size / 2) 0 ad;have e:(gH c).toList=(List.range' 0 (c.size / 2)).map fun i=>(⟨c[2 * i]?.getD undef,c[2 * i+1]?.getD undef,i⟩:MapEntry):=by
  unfold gH;rw [Array.toList_map,Array.toList_range,List.range_eq_range']
 rw [e];exact this
theorem acb (a b:ByteArray):(a == b)=dZ a b:=by
 have c:∀ x:ByteArray,x.toList=x.data.toList:=fun x=>ByteArray.toList_eq x;rw [Bool.eq_iff_iff,bytes_beq];unfold dZ;rw [c,c,beq_iff_eq];constructor
 ·rintro rfl;rfl
 ·intro h;cases a;simp_all
theorem D4 {d:TypeDesc} {g:TypeId} {c ev:Value} {v:Value} {k:AV} {b:Bool} (e:nT P d (.atom v)=true) {w w':World} {S S':Nat->Prop} {μ ey:Mu} (h1:av w S μ c (.atom v)) (h2:av w' S' ey ev k) (h:Fc P g k (.atom v)=some b) :
  IsKey d c/\Instr.sameNow d c ev=some b/\(b=true->ev=c):=by
 have:=eH h1;subst this;cases k with
 | atom u =>
  have:=eH h2;subst this;cases d<;>cases c<;>simp [nT] at e
  ·rename_i l k' n;subst e;cases ev<;>simp [Fc] at h;rename_i i a
   by_cases j:i=k'
   ·subst j;rw [decide_eq_true rfl] at h;simp only [aX] at h;subst h;refine ⟨rfl,?_,?_⟩
    ·simp only [Instr.sameNow,if_true];grind
    simp
   simp_all
  ·cases ev<;>simp [Fc] at h;rename_i s a;subst h;refine ⟨trivial,?_,?_⟩
   ·simp only [Instr.sameNow,acb];congr 1;unfold dZ;grind
   ·intro f;rw [<- acb,bytes_beq] at f;rw [f]
 | _=>simp [Fc] at h
theorem XC {d:TypeDesc} {a v:Value} (b:nT P d (.atom v)=true) {w:World} {S:Nat->Prop} {μ:Mu} (h1:av w S μ a (.atom v)):IsKey d a:=by
 have:=eH h1;subst this;cases d<;>cases a<;>simp [nT] at b
 ·exact b
 ·trivial
theorem HL {d:TypeDesc} {xs:List AV} (a:nT P d (.agg xs)=true):∃ n e k,d=.array n e/\P.underlying e=some (.int k)/\AM P e=some 1/\xs.length=n/\allI k xs=true:=by
 cases d<;>simp [nT] at a;rename_i n e;split at a
 ·rename_i k m h1 h2;simp only [bd] at a;have hm:=bZ a.1.1;subst hm;exact ⟨n,e,k,rfl,h1,h2,bZ a.1.2,a.2⟩
 ·cases a
theorem acd {k:IntKind}:∀ {xs:List AV},allI k xs=true->∀ i,i < xs.length->∃ a,xs[i]?=some (.atom (.int k a))
 | [],_,i,h=>by simp at h
 | .atom (.int k' a) :: r,h,i,hi=>by
  unfold allI at h;split at h
  ·rename_i b;have b:=xl b;subst b;cases i with
   | zero=>exact ⟨a,rfl⟩
   | succ i=>simpa using acd h i (by simpa using hi)
  ·cases h
theorem Kh {k:IntKind} {xs:List AV} (h:allI k xs=true) {w:World} {S:Nat->Prop} {μ:Mu} {b:Value} (e:av w S μ b (.agg xs)):∃ vs:Array Value,b=.agg vs/\vs.size=xs.length/\∀ i,i < xs.length->∃ a,xs[i]?=some (.atom (.int k a))/\vs[i]?=some (.int k a):=by
 obtain ⟨vs,rfl,h1,h2⟩:=sN e;refine ⟨vs,rfl,h1,fun i hi=>?_⟩;obtain ⟨a,c⟩:=acd h i hi;have d:vs[i]?=some vs[i]:=hH _;have:=eH (h2 i _ _ c d);exact ⟨a,c,by rw [d,this]⟩
theorem HM {k:IntKind}:∀ {xs:List AV},allI k xs=true->AV.pX xs=true
 | [],_=>rfl
 | .atom (.int k' a) :: r,h=>by
  unfold allI at h;split at h
  ·simpa [AV.pX,AV.pure] using HM h
  ·cases h
theorem TM {d:TypeDesc} {q:TypeId} {g l:Value} (m:nT P d (.atom l)=true) {w w':World} {S S':Nat->Prop} {μ ey:Mu} (h1:av w S μ g (.atom l)):∀ (es:List MapEntry) (cs:List AV) (i:Nat) (r:Option AV),BL (av w' S' ey) es cs->look P q cs (.atom l)=some r ->
  (r=none/\Instr.findNow d g es i=some none)\/∃ (j:Nat) (e:MapEntry) (v:AV),r=some v/\Instr.findNow d g es i=some (some (i+j,e.val))/\av w' S' ey e.val v
 | [],[],i,r,_,h=>by simp only [look,aX] at h;exact .inl ⟨h.symm,rfl⟩
 | e :: es,k :: v :: cs,i,r,f,h=>by
  obtain ⟨o,s,t⟩:=f;simp only [look] at h;split at h
  ·rename_i n;cases h;obtain ⟨_,p,_⟩:=D4 m h1 o n;exact .inr ⟨0,e,v,rfl,by simp [Instr.findNow,p],s⟩
  ·rename_i n;obtain ⟨_,p,_⟩:=D4 m h1 o n;rcases TM m h1 es cs (i+1) r t h with ⟨a,b⟩ | ⟨j,u,v',a,b,c⟩
   ·grind [Instr.findNow]
   ·exact .inr ⟨j+1,u,v',a,by grind [Instr.findNow],c⟩
  ·cases h
 | [],_ :: _,_,_,f,_=>by simp [BL] at f
 | _ :: _,[],_,_,f,_=>by simp [BL] at f
 | _ :: _,[_],_,_,f,_=>by simp [BL] at f
theorem XD {d:TypeDesc} {t:TypeId} {m n:Value} {y:AV} (o:nT P d (.atom n)=true) {w w':World} {S S':Nat->Prop} {μ ey:Mu} (h1:av w S μ m (.atom n)):∀ (es:List MapEntry) (cs:List AV) (i:Nat) (g:List AV),BL (av w' S' ey) es cs->FC P t cs (.atom n) y=some g ->
  (Instr.findNow d m es i=some none/\g=cs ++ [.atom n,y])\/∃ (j:Nat) (e:MapEntry),Instr.findNow d m es i=some (some (i+j,e.val))/\es[j]?=some e/\e.key=m/\g=cs.set (2 * j+1) y
 | [],[],i,g,_,h=>by simp only [FC,aX] at h;exact .inl ⟨rfl,h.symm⟩
 | e :: es,k :: v :: cs,i,g,f,h=>by
  obtain ⟨r,B,u⟩:=f;simp only [FC] at h;split at h
  ·rename_i p;cases h;obtain ⟨_,s,x⟩:=D4 o h1 r p;exact .inr ⟨0,e,by simp [Instr.findNow,s],rfl,x rfl,rfl⟩
  ·rename_i p;obtain ⟨_,s,_⟩:=D4 o h1 r p;simp only [a4] at h;obtain ⟨l,z,rfl⟩:=h;rcases XD o h1 es cs (i+1) l u z with ⟨a,b⟩ | ⟨j,A,a,b,c,q⟩
   ·grind [Instr.findNow]
   ·exact .inr ⟨j+1,A,by grind [Instr.findNow],by simpa using b,c,by grind⟩
  ·cases h
 | [],_ :: _,_,_,f,_=>by simp [BL] at f
 | _ :: _,[],_,_,f,_=>by simp [BL] at f
 | _ :: _,[_],_,_,f,_=>by simp [BL] at f
theorem afP {e:TypeId} {k:IntKind} (d:P.underlying e=some (.int k)):∀ (D n i:Nat) (xs ys:List AV),Iu P D e 1 xs ys i n=some true->∀ j,i<=j->j < i+n->xs[j]?=ys[j]?/\(xs[j]?).isSome=true:=by
 intro D
 induction D with
 | zero =>
  grind [Iu]
 | succ D f =>
  intro n i xs ys h j h1 h2;cases n with
  | zero=>omega
  | succ n =>
   simp only [Iu,Nat.mul_one] at h;split at h
   ·rename_i a c _ g m;split at h
    ·rename_i p q b o;simp only [aX,bd] at h;obtain ⟨rfl,rfl⟩:=h
     by_cases r:j=i
     ·subst r;have cell:∀ (l:List AV) (z:AV),nO P e l j=some z->l[j]?=some z:=fun l z s=>by
       grind [nO]
      rw [cell _ _ g,cell _ _ m];cases D with
      | zero=>simp [Lv] at b
      | succ D =>
       simp only [Lv,d] at b;grind
     ·exact f n (i+1) xs ys o j ad ad
    ·cases h
   ·cases h
theorem HN {d:TypeDesc} {f:TypeId} (p:P.underlying f=some d) {xs:List AV} (q:nT P d (.agg xs)=true) {w:World} {S:Nat->Prop} {g ev:Value} {k:AV} {b:Bool} (h1:av w S kf g (.agg xs)) (h2:av w S kf ev k) (h:Fc P f k (.agg xs)=some b) :
  (Op.equal f g ev).run P w=.ok b w/\(b=true->ev=g):=by
 cases k with
 | agg ys =>
  unfold Fc at h;simp only at h;split at h
  ·rename_i m;have m:=bZ m;refine ⟨(Xp 64).1 Op.maxDepth f _ _ _ _ _ ak h1 h2 h,fun r=>?_⟩;subst r;obtain ⟨n,e,B,rfl,s,t,C,u⟩:=HL q;obtain ⟨vs,rfl,D,v⟩:=Kh u h1;obtain ⟨x,rfl,E,y⟩:=sN h2;simp only [Lv,p,t] at h;have z:=afP s _ _ _ _ _ h;congr 1;apply Array.ext
   ·omega
   ·intro i A j;have hi:i < xs.length:=ad;obtain ⟨a,l,c⟩:=v i hi;obtain ⟨o,_⟩:=z i (Nat.zero_le _) ad;rw [l] at o;have:=eH (y i _ x[i] o.symm (hH _));rw [this];rw [hH j] at c;exact (Option.some.inj c).symm
  ·cases h
 | _=>simp [Fc] at h
theorem XE {d:TypeDesc} {g:TypeId} (l:P.underlying g=some d) {xs:List AV} (m:nT P d (.agg xs)=true) {w:World} {S:Nat->Prop} {n:Value} (h1:av w S kf n (.agg xs)):∀ (es:List MapEntry) (cs:List AV) (i:Nat) (r:Option AV),BL (av w S kf) es cs->look P g cs (.agg xs)=some r ->
  (r=none/\(Instr.findAsking g n es i).run P w=.ok none w)\/∃ (j:Nat) (e:MapEntry) (v:AV),r=some v/\(Instr.findAsking g n es i).run P w=.ok (some (i+j,e.val)) w/\av w S kf e.val v
 | [],[],i,r,_,h=>by simp_all [look,aX,Instr.findAsking]
 | e :: es,k :: v :: cs,i,r,f,h=>by
  obtain ⟨q,s,t⟩:=f;simp only [look] at h;split at h
  ·rename_i o;cases h;obtain ⟨p,_⟩:=HN l m h1 q o;exact .inr ⟨0,e,v,rfl,by simp [Instr.findAsking,p,Result.andThen],s⟩
  ·rename_i o;obtain ⟨p,_⟩:=HN l m h1 q o;rcases XE l m h1 es cs (i+1) r t h with ⟨a,b⟩ | ⟨j,u,v',a,b,c⟩
   ·simp_all [Instr.findAsking,Result.andThen]
   ·exact .inr ⟨j+1,u,v',a,by simp [Instr.findAsking,p,Result.andThen,b];omega,c⟩
  ·cases h
 | [],_ :: _,_,_,f,_=>by simp [BL] at f
 | _ :: _,[],_,_,f,_=>by simp [BL] at f
 | _ :: _,[_],_,_,f,_=>by simp [BL] at f
theorem ace {d:TypeDesc} {m:TypeId} (o:P.underlying m=some d) {xs:List AV} {y:AV} (p:nT P d (.agg xs)=true) {w:World} {S:Nat->Prop} {n:Value} (h1:av w S kf n (.agg xs)):∀ (es:List MapEntry) (cs:List AV) (i:Nat) (g:List AV),BL (av w S kf) es cs->FC P m cs (.agg xs) y=some g ->
  ((Instr.findAsking m n es i).run P w=.ok none w/\g=cs ++ [.agg xs,y])\/∃ (j:Nat) (e:MapEntry),(Instr.findAsking m n es i).run P w=.ok (some (i+j,e.val)) w/\es[j]?=some e/\e.key=n/\g=cs.set (2 * j+1) y
 | [],[],i,g,_,h=>by simp_all [FC,aX,Instr.findAsking]
 | e :: es,k :: v :: cs,i,g,f,h=>by
  obtain ⟨t,B,u⟩:=f;simp only [FC] at h;split at h
  ·rename_i r;cases h;obtain ⟨s,x⟩:=HN o p h1 t r;exact .inr ⟨0,e,by simp [Instr.findAsking,s,Result.andThen],rfl,x rfl,rfl⟩
  ·rename_i r;obtain ⟨s,_⟩:=HN o p h1 t r;simp only [a4] at h;obtain ⟨l,z,rfl⟩:=h;rcases ace o p h1 es cs (i+1) l u z with ⟨a,b⟩ | ⟨j,A,a,b,c,q⟩
   ·simp_all [Instr.findAsking,Result.andThen]
   ·exact .inr ⟨j+1,A,by simp [Instr.findAsking,s,Result.andThen,a];omega,by simpa using b,c,by grind⟩
  ·cases h
 | [],_ :: _,_,_,f,_=>by simp [BL] at f
 | _ :: _,[],_,_,f,_=>by simp [BL] at f
 | _ :: _,[_],_,_,f,_=>by simp [BL] at f
theorem Ki {b:TypeId} {n:Nat} {e:TypeId} (c:P.underlying b=some (.array n e)) {w:World} {vs:Array Value} {es:List MapEntry} {a:Option (Nat×Value)} (h:(Instr.findAsking b (.agg vs) es 0).run P w=.ok a w):(Instr.findKey b (.agg vs) es).run P w=.ok a w:=by
 cases es with
 | nil =>
  simp_all [Instr.findAsking,Instr.findKey,run_underlying,Result.andThen,Instr.findNow]
 | cons z es=>simp_all [Instr.findKey,run_underlying,Result.andThen,Instr.findNow,Instr.sameNow]
theorem afQ {d:TypeDesc} {f:TypeId} (l:P.underlying f=some d) {x:AV} (i:nT P d x=true) {w:World} {S:Nat->Prop} {μ:Mu} {g:Value} (h1:av w S μ g x) {es:List MapEntry} {cs:List AV} {r:Option AV} (m:BL (av w S kf) es cs) (h:look P f cs x=some r) :
  (r=none/\(Instr.findKey f g es).run P w=.ok none w)\/∃ (j:Nat) (e:MapEntry) (v:AV),r=some v/\(Instr.findKey f g es).run P w=.ok (some (j,e.val)) w/\av w S kf e.val v:=by
 cases x with
 | atom q =>
  rcases TM i h1 es cs 0 r m h with ⟨a,b⟩ | ⟨j,e,v,a,b,c⟩
  ·grind [run_findKey]
  ·exact .inr ⟨j,e,v,a,by simp_all [Nat.zero_add,run_findKey],c⟩
 | agg xs =>
  obtain ⟨n,e,k,rfl,_,_,_,o⟩:=HL i;have p:av w S kf g (.agg xs):=h1.pure (HM o) kf;obtain ⟨vs,rfl,_,_⟩:=Kh o p;rcases XE l i p es cs 0 r m h with ⟨a,b⟩ | ⟨j,e,v,a,b,c⟩
  ·grind [Ki]
  ·exact .inr ⟨j,e,v,a,by rw [Nat.zero_add] at b;exact Ki l b,c⟩
 | _=>grind [nT]
theorem akF {d:TypeDesc} {g:TypeId} (l:P.underlying g=some d) {x y:AV} (i:nT P d x=true) {w:World} {S:Nat->Prop} {μ:Mu} {c:Value} (h1:av w S μ c x) {es:List MapEntry} {cs f:List AV} (m:BL (av w S kf) es cs) (h:FC P g cs x y=some f) :
  ((Instr.findKey g c es).run P w=.ok none w/\f=cs ++ [x,y])\/∃ (j:Nat) (e:MapEntry),(Instr.findKey g c es).run P w=.ok (some (j,e.val)) w/\es[j]?=some e/\e.key=c/\f=cs.set (2 * j+1) y:=by
 cases x with
 | atom q =>
  rcases XD i h1 (y:=y) es cs 0 f m h with ⟨a,b⟩ | ⟨j,e,a,b⟩
  ·grind [run_findKey]
  ·exact .inr ⟨j,e,by simp_all [Nat.zero_add,run_findKey],b⟩
 | agg xs =>
  obtain ⟨n,e,k,rfl,_,_,_,o⟩:=HL i;have p:av w S kf c (.agg xs):=h1.pure (HM o) kf;obtain ⟨vs,rfl,_,_⟩:=Kh o p;rcases ace l i p (y:=y) es cs 0 f m h with ⟨a,b⟩ | ⟨j,e,a,b⟩
  ·grind [Ki]
  ·exact .inr ⟨j,e,by rw [Nat.zero_add] at a;exact Ki l a,b⟩
 | _=>grind [nT]
theorem afR {d:TypeDesc} {x:AV} (a:nT P d x=true):x.pure=true:=by
 cases x with
 | atom b=>rfl
 | agg xs=>grind [HL,AV.pure,HM]
 | _=>grind [nT]
theorem TO {d:TypeDesc} {h:TypeId} (p:P.underlying h=some d) {x:AV} (r:nT P d x=true) {w:World} {S:Nat->Prop} {μ:Mu} {j:Value} (h1:av w S μ j x) (b:Bool):(Instr.checkKey b 10000 h j).run P w=.ok () w:=by
 cases x with
 | atom G=>grind [run_checkKey,XC]
 | agg xs =>
  obtain ⟨n,e,k,rfl,l,o,H,s⟩:=HL r;obtain ⟨vs,rfl,t,u⟩:=Kh s h1;obtain ⟨I,c,J,y⟩:=sN h1;cases c;have loop:∀ (m i:Nat),i+m=n->(forIn (m:=Sem) (List.range' i m) PUnit.unit fun i _=>do
    let z <- sizeOf e
    let q <- part e vs (i * z)
    Instr.checkKey b 9999 e q
    pure (ForInStep.yield PUnit.unit)).run P w=.ok PUnit.unit w:=by
   intro m
   induction m with
   | zero=>intro i _;simp
   | succ m A =>
    intro i B;have hi:i < xs.length:=ad;obtain ⟨a,f,C⟩:=u i hi;have D:nO P e xs i=some (.atom (.int k a)):=by
     unfold nO;rw [l,o];exact f
    obtain ⟨v,E,F⟩:=nP t y D (fun K L=>by grind);have:=eH F;subst this;have g:(Instr.checkKey b 9999 e (.int k a)).run P w=.ok () w:=run_checkKey l (show IsKey (.int k) (.int k a) from rfl) b 9998;rw [List.range'_succ,List.forIn_cons];simp only [cb,ij o,Nat.mul_one,E,g,eM];simpa using A (i+1) ad
  unfold Instr.checkKey;simp only [cb,run_underlying p,eM];simp_all
 | _=>grind [nT]
theorem adX {d:TypeDesc} {x:AV} (c:nT P d x=true) {w:World} {S:Nat->Prop} {μ:Mu} {b:Value} (h1:av w S μ b x):(Instr.keyThatStays b b).run P w=.ok b w:=by
 cases x with
 | atom q=>exact run_keyThatStays (XC c h1)
 | agg xs =>
  obtain ⟨n,e,k,rfl,r,s,t,j⟩:=HL c;obtain ⟨vs,rfl,u,m⟩:=Kh j h1;have:Instr.sameBits 10000 (.agg vs) (.agg vs)=true:=by
   have o:∀ l:List Value,(∀ v,v∈l->∃ a,v=.int k a)->(l.zip l).all (fun (x,y)=>Instr.sameBits 9999 x y)=true:=by
    intro l
    induction l with
    | nil=>intro _;rfl
    | cons a l p =>
     intro h;obtain ⟨z,rfl⟩:=h a (.head _);simp only [List.zip_cons_cons,List.all_cons,bd];exact ⟨by simp [Instr.sameBits],p fun v f=>h v (.tail _ f)⟩
   simp only [Instr.sameBits,beq_self_eq_true,Bool.true_and];refine o _ fun v f=>?_;obtain ⟨i,hi,rfl⟩:=List.getElem_of_mem f;have hi:i < vs.size:=by simpa using hi
   obtain ⟨a,_,g⟩:=m i ad;rw [hH hi] at g;exact ⟨a,by simpa using Option.some.inj g⟩
  simp [Instr.keyThatStays,this]
 | _=>cases d<;>simp [nT] at c
theorem XF (c:Array Value) (h:c.size % 2=0) (a b:Value):gH ((c.push a).push b)=(gH c).push ⟨a,b,c.size / 2⟩:=by
 apply Array.ext
 ·simp [gH];omega
 ·intro i h1 h2;have f:i < (c.size+1+1) / 2:=by simpa [gH] using h1
  by_cases hi:i < c.size / 2
  ·rw [Array.getElem_push_lt (by rw [Ga];exact hi)];have d:2 * i < c.size:=ad;have e:2 * i+1 < c.size:=ad;simp [gH,Array.getElem?_push,d,e,Nat.ne_of_lt d,Nat.ne_of_lt e,show ¬ 2 * i=c.size+1 by omega,show ¬ 2 * i+1=c.size+1 by omega]
  ·have:i=c.size / 2:=ad;subst this;have d:2 * (c.size / 2)=c.size:=ad;simp [gH,Array.getElem_push,Array.getElem?_push,d]
theorem ZO (c:Array Value) (j:Nat) (e:MapEntry) (he:(gH c)[j]?=some e) (v:Value):gH (c.setIfInBounds (2 * j+1) v)=(gH c).modify j fun q=>{ q with key:=e.key,val:=v }:=by
 have b:j < c.size / 2:=by
  have:=(Array.getElem?_eq_some_iff.1 he).1;rwa [Ga] at this
 rw [ZN c j b] at he;cases he;apply Array.ext
 ·simp [gH]
 ·intro i h1 h2;have hi:i < c.size / 2:=by simpa [gH] using h1
  rw [Array.getElem_modify]
  by_cases a:j=i
  ·subst a;simp [gH,Array.getElem?_setIfInBounds,show ¬ 2 * j+1=2 * j by omega,show 2 * j+1 < c.size by omega]
  ·rw [if_neg a];simp [gH,Array.getElem?_setIfInBounds,show ¬ 2 * j+1=2 * i by omega,show ¬ 2 * j=2 * i by omega,a]
def CF (P:Program) (σ:fe) (t:TypeId) (m x:AV) (ok:Bool) (a:qE):Option (List Prop×AV×List Nat) :=
 match m,P.underlying t with
 | .mp k,some (.map b c)=>match P.underlying b,ay σ k,yL P c with
  | some d,some o,some z=>match nT P d x && Nat.beq o.sz 0 with
   | true=>match ok with
    | false=>some ([(look P b (o.get 0) x).map (fun r=>r.getD (ofConst z))=some a.res],a.res,[k])
    | true=>some ([(look P b (o.get 0) x).map (fun r=>AV.tup [r.getD (ofConst z),.atom (.bool r.isSome)])=some a.res],a.res,[k])
   | false=>none
  | _,_,_=>none
 | _,_=>none
def CG (P:Program) (σ:fe) (t:TypeId) (m x y:AV) (b:qE):Option (List Prop×x8×List Nat) :=
 match m,P.underlying t,b.res with
 | .mp k,some (.map a _),.tup cs=>match P.underlying a,ay σ k with
  | some d,some o=>match nT P d x && Nat.beq o.sz 0 && Nat.beq o.len 0 && y.pure with
   | true=>some ([FC P a (o.get 0) x y=some cs],[(k,some ⟨o.var,o.sz,o.len,true,fun _=>cs⟩)],[k])
   | false=>none
  | _,_=>none
 | _,_,_=>none
theorem TP (g:Good E σ S μ w) {k:Nat} {o:Ob} (a:ay σ k=some o) (d:o.sz=0) {v:Value} (b:av w S μ v (.mp k)) :
  ∃ pl c T,μ k=some pl/\kg w S μ o pl c T/\v=.map (some pl.df):=by
 obtain ⟨pl,c,T,hm,e⟩:=g.rep.ob k o a;cases b with
 | mp lL f=>grind
theorem adY (g:Good E σ S μ w) {t:TypeId} {m x:AV} {ok:Bool} {I:qE} {A vx:Value} (hm:av w S μ A m) (B:av w S μ vx x) {ps:List Prop} {val:AV} {rd:List Nat}
  (h:CF P σ t m x ok I=some (ps,val,rd)) (C:bg ps):∃ v,(Instr.lookup t A vx ok).run P w=.ok v w/\av w S μ v val:=by
 unfold CF at h;split at h
 ·rename_i k J R D;split at h
  ·rename_i d o z F K L;split at h
   ·rename_i p;simp only [bd] at p;have a:=bZ p.2;obtain ⟨pl,c,T,U,G,rfl⟩:=TP g K a hm;obtain ⟨f,m1,M,m3,N⟩:=G.mp a;have H:w.heap[pl.df]?=some (.map (gH c) (c.size / 2)):=(G.df f).trans (by rw [DS a]);have u:=aca m1 M N;have i:=fun b=>TO F p.1 B b;have main:∀ r,look P J (o.get 0) x=some r->∃ v,av w S μ v (r.getD (ofConst z))/\(Instr.lookup t (.map (some pl.df)) vx ok).run P w=.ok (if ok then .tuple #[v,.bool r.isSome] else v) w:=by
     intro r l;rcases afQ F p.1 B u l with ⟨rfl,q⟩ | ⟨j,e,v,rfl,O,Q⟩
     ·refine ⟨z,Tz w S μ z,?_⟩;simp [Instr.lookup,run_underlying D,Go.MapKept.run_getObj_map H,i,q,TA L,Result.andThen]
     ·refine ⟨e.val,ln (pr:=true) Q,?_⟩;simp [Instr.lookup,run_underlying D,Go.MapKept.run_getObj_map H,i,O,Result.andThen]
    split at h
    ·simp only [aX,aQ] at h;obtain ⟨rfl,rfl,rfl⟩:=h;obtain ⟨n,_⟩:=C;simp only [a4] at n;obtain ⟨r,l,y⟩:=n;obtain ⟨v,h1,h2⟩:=main r l;exact ⟨v,by simpa using h2,by rw [<- y];exact h1⟩
    ·simp only [aX,aQ] at h;obtain ⟨rfl,rfl,rfl⟩:=h;obtain ⟨n,_⟩:=C;simp only [a4] at n;obtain ⟨r,l,y⟩:=n;obtain ⟨v,h1,h2⟩:=main r l;refine ⟨.tuple #[v,.bool r.isSome],by simpa using h2,?_⟩;rw [<- y];refine .tup rfl fun j c v' f s=>?_
     match j with
     | 0=>simp at f s;subst f s;exact h1
     | 1=>simp at f s;subst f s;exact .atom _
     | j+2=>simp at f
   ·cases h
  ·cases h
 ·cases h
theorem TQ (g:Good E σ S μ w) {t:TypeId} {m x y:AV} {Y:qE} {N vx n:Value} (hm:av w S μ N m) (r:av w S μ vx x) (O:av w S μ n y) {ps:List Prop} {pD:x8} {rd:List Nat}
  (h:CG P σ t m x y Y=some (ps,pD,rd)) (Z:bg ps):∃ w',(Instr.mapUpdate t N vx n).run P w=.ok () w'/\Ext w S μ w' S μ/\Good E (iC σ pD) S μ w':=by
 unfold CG at h;split at h
 ·rename_i k kt et cs Q adV;split at h
  ·rename_i d o R U;split at h
   ·rename_i B;simp only [aX,aQ] at h;obtain ⟨rfl,rfl,rfl⟩:=h;simp only [bd] at B;obtain ⟨⟨⟨C,pY⟩,F⟩,s⟩:=B;have p:=bZ pY;have Xr:=bZ F;obtain ⟨D1,_⟩:=Z;obtain ⟨pl,c,T,zH,u,rfl⟩:=TP g U p hm;obtain ⟨G,m1,V,m3,W⟩:=u.mp p;have z:w.heap[pl.df]?=some (.map (gH c) (c.size / 2)):=(u.df G).trans (by rw [DS p]);have H:=aca m1 V W;have A:=fun b=>TO R C r b;have I:=adX C r;have J:x.pure=true:=afR C
    -- the block that is written
    have fin:∀ (l:Array Value),l.size % 2=0->l.size=cs.length->(∀ (j:Nat) x v,cs[j]?=some x->l[j]?=some v->av w S kf v x) ->
      (Instr.mapUpdate t (.map (some pl.df)) vx n).run P w=.ok () { w with heap:=w.heap.setIfInBounds pl.df (.map (gH l) (l.size / 2)) } ->
      ∃ w',(Instr.mapUpdate t (.map (some pl.df)) vx n).run P w=.ok () w'/\Ext w S μ w' S μ/\Good E (iC σ [(k,some ⟨o.var,o.sz,o.len,true,fun _=>cs⟩)]) S μ w':=by
     intro l e1 e2 e3 me;refine ⟨_,me,?_⟩;have xC:=heap_set (o':=.map (gH l) (l.size / 2)) z;refine g.akg (w':={ w with heap:=w.heap.setIfInBounds pl.df (.map (gH l) (l.size / 2)) }) U zH G u rfl rfl rfl ao (fun b B=>xC.2 b B) ⟨o.var,o.sz,o.len,true,fun _=>cs⟩ (vI fun i hi=>absurd hi (by show ¬ i < o.len;omega)) (fun ex=>⟨l,T,u.sz,fun _=>?_,?_,by simp_all,u.out,fun i hi=>absurd hi (by show ¬ i < o.len;omega),fun i j x v hi=>absurd hi (by show ¬ i < o.len;omega),fun _=>⟨G,e1,e2,rfl,fun j x v r hv=>(e3 j x v r hv).mono ex.Py ex.df (fun _ _ h=>h)⟩⟩)
     ·grind [IP,DS]
     ·simp_all
    rcases akF R C r (y:=y) H D1 with ⟨K,D⟩ | ⟨j,e,K,D,q3,X⟩
    ·refine fin ((c.push vx).push n) (by simp;omega) (by rw [D];simp;omega) ?_ ?_
     ·intro j x' v' a f;rw [D] at a
      by_cases hj:j < c.size
      ·grind
      ·rw [og ad] at a
       by_cases L:j=c.size
       ·subst L;rw [show c.size - (o.get 0).length=0 by omega] at a;rw [Array.getElem?_push,if_neg ao,Array.getElem?_push,if_pos rfl] at f;simp at a f;subst a f;exact r.pure J kf
       ·by_cases M:j=c.size+1
        ·subst M;rw [show c.size+1 - (o.get 0).length=1 by omega] at a;rw [Array.getElem?_push,if_pos ao] at f;simp at a f;subst a f;exact O.pure s kf
        ·rw [uc (by simp;omega)] at a;cases a
     ·rw [XF c m1];have e:((c.push vx).push n).size / 2=c.size / 2+1:=by simp;omega
      rw [e];simp [Instr.mapUpdate,run_underlying Q,Go.MapKept.run_getObj_map z,A,K,Go.MapKept.run_setObj_map _ z,Result.andThen]
    ·have q:(gH c)[j]?=some e:=by simpa using D
     have hj:j < c.size / 2:=by
      have:=(Array.getElem?_eq_some_iff.1 q).1;rwa [Ga] at this
     refine fin (c.setIfInBounds (2 * j+1) n) (by simpa using m1) (by rw [X];simpa using V) ?_ ?_
     ·intro i x' v' a f;rw [X,List.getElem?_set] at a;rw [Array.getElem?_setIfInBounds] at f
      by_cases hi:2 * j+1=i
      ·subst hi;rw [if_pos rfl,if_pos ad] at a;rw [if_pos rfl,if_pos ad] at f;simp at a f;subst a f;exact O.pure s kf
      ·rw [if_neg hi] at a f;exact W i x' v' a f
     ·rw [ZO c j e q n];simp [Instr.mapUpdate,run_underlying Q,Go.MapKept.run_getObj_map z,A,K,q,q3,I,Go.MapKept.run_setObj_map _ z,Result.andThen]
   ·cases h
  ·cases h
 ·cases h
theorem ZP (g:Good E σ S μ w) (m:∀ j,j < 16->μ (nk+j)=none) (n:E.m0<=nk) {f:AV} {a:List AV} {i:qE} {r:R} {l:Value} (o:av w S μ l f) {vargs:Array Value} (p:RL w S μ vargs a)
  (q:i.E8=true->∀ b,¬ E.fp b) (h:PM P nk σ f a i=some r) (s:bg r.SY) :
  ∃ c vs,(do let d <- Deferred.ofValue l vargs;invoke d.target d.args:Sem Next).run P w=.ok (.enter c vs) w /\
   Calls P c vs w fun e w'=>∃ v S' ey,e=.returned v/\Ext w S μ w' S' ey/\Good E (iC σ r.pD) S' ey w'/\(∀ k,(k < nk\/nk+16<=k)->μ k=none->ey k=none)/\av w' S' ey v r.val :=
 NH (ob:=Sound P) g m n o p q (fun _ _ _ _ _ _ vs t g0 u x=>t w _ _ vs g0 u x) h s
end
end Go.Ab
