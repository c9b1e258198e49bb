/- Abstract values over the heap of the machine, and functions read off its code (part 2). No conditions. -/
import Derived.Test.YtkejjbiabpdhjaaGreatCa
import Derived.Laws.IdiomStrings
import Derived.MapKept
import Derived.Carry
set_option linter.unusedVariables false
set_option linter.unusedSimpArgs false
namespace Go.Ab
def afk (w:World) (σ:gp) (μ:Mu) (b:Nat):Prop:=(∃ k o pl,aR σ k=some o/\μ k=some pl/\0 < pl.cap/\pl.eC=b)\/∃ k i x v,lV w μ σ k i x v/\ptrTo v b
def BD (w:World) (S:Nat->Prop) (σ:gp) (μ:Mu) (m:Nat):Env:=⟨w,S,afk w σ μ,μ,m⟩
def Sound (P:Program) (f:FuncId) (a:List AV) (σ:gp) (m:Nat) (res:AV) (gV:gp):Prop :=
 ∀ (w:World) (S:Nat->Prop) (μ:Mu) (vs:Array Value),Good (BD w S σ μ m) σ S μ w->(∀ k,m<=k->μ k=none)->RL w S μ vs a ->
  Calls P f vs w fun e w'=>∃ v S' gn,e=.returned v/\Good (BD w S σ μ m) gV S' gn w'/\aE w' S' gn v res
section
variable {E:Env} {nk:Nat} {σ:gp} {S:Nat->Prop} {μ:Mu} {w:World}
theorem lV.of (g:Good E σ S μ w) {k i:Nat} {o:Ob} {x:Nat×Nat×(Nat->List AV)} (b:aR σ k=some o) (d:rowOf o i=some x) {pl:Place} (hm:μ k=some pl):∃ v,lV w μ σ k i x v:=by
 obtain ⟨n,e,l⟩:=gF d;obtain ⟨oG,c,T,f,a⟩:=g.rep.ob k o b;rw [hm] at f;cases f;have h:=a.Co i e;rw [l] at h;obtain ⟨v,p,m⟩:=fV a (i:=i) (j:=0) e (by simp at h;omega);exact ⟨v,o,pl,b,d,hm,by rw [a.sz];simpa using m⟩
theorem kY.ag8 {o:Ob} {pl:Place} {c:Array Value} {T:TypeId} {gn:Mu} (h:kY w S μ o pl c T) (d:o.sz≠0) (b:∀ k p,μ k=some p->gn k=some p) (i:Nat) (cs:List AV) (e:cs.length=o.sz)
  (q:∀ j x v,i < o.len->cs[j]?=some x->c[i * o.sz+j]?=some v->aE w S gn v x):kY w S gn ⟨false,o.sz,o.len,false,fun m=>if m=i then cs else o.get m⟩ pl c T:=by
 refine ⟨h.sz,h.eC,h.cap,h.len,h.out,fun m hm=>?_,fun m j x v hm f g=>?_,fun l=>absurd l d⟩
 ·show (if m=i then cs else o.get m).length=o.sz;split
  ·exact e
  ·exact h.Co m hm
 ·have a:(if m=i then cs else o.get m)[j]?=some x:=f;show aE w S gn v x
  by_cases n:m=i
  ·grind
  ·rw [if_neg n] at a;exact (l7 (h.rep m j x v hm a g)).mono (fun _ h=>h) (fun _ _=>rfl) b
theorem Good.opn (g:Good E σ S μ w) (hk:μ nk=none) (Af:E.m0<=nk) {k i:Nat} {o:Ob} {x:Nat×Nat×(Nat->List AV)} (U:aR σ k=some o) (hr:rowOf o i=some x) :
  ∃ q:Place,Ext w S μ w S (dQ μ nk q)/\Good E (sset (sset σ k ⟨false,o.sz,o.len,false,fun m=>if m=i then [.os nk 0 x.2.1] else o.get m⟩) nk ⟨false,x.1,x.2.1,true,x.2.2⟩) S (dQ μ nk q) w:=by
 obtain ⟨L1,hi,yw⟩:=gF hr;obtain ⟨pl,c,T,hm,I⟩:=g.rep.ob k o U;have GN:k≠nk:=fun h=>by simp_all
 have w7:o.sz=1:=by have:=I.Co i hi;rw [yw] at this;simpa using this.symm
 obtain ⟨v,J⟩:=lV.of g U hr hm;obtain ⟨a,cap,rfl,h1,V,h3⟩:=g.mx.row _ _ _ _ J
 -- the place of the row
 have hq:∃ q:Place,q.sz=x.1/\cap=q.cap/\(0 < cap->a=some ⟨q.eC,0,none⟩)/\(0 < q.cap->0 < cap)/\(∃ c' T',kY w S lI ⟨false,x.1,x.2.1,true,x.2.2⟩ q c' T')/\(0 < q.cap->E.fp q.eC\/E.w0.heap.size<=q.eC):=by
  rcases Nat.eq_zero_or_pos cap with r | r
  ·refine ⟨⟨0,0,x.1⟩,rfl,r,fun h=>ad,fun h=>absurd h (y3 _),⟨#[],0,rfl,fun h=>absurd h (y3 _),aD,by show x.2.1<=0;omega,fun h=>absurd h (y3 _),fun j K=>absurd K (by show ¬ j < x.2.1;omega),fun j l y u K=>absurd K (by show ¬ j < x.2.1;omega),fun hz=>absurd hz (by simp_all)⟩,fun h=>absurd h (y3 _)⟩
  ·grind
 obtain ⟨q,q1,q2,q3,q4,⟨c',T',B⟩,q6⟩:=hq;have W:∀ n p,μ n=some p->dQ μ nk q n=some p:=fun n p h=>by
  grind [dQ]
 have C:0 < q.cap->ptrTo (.slice a x.2.1 cap) q.eC:=fun h=>⟨_,_,by rw [q3 (q4 h)],q4 h⟩;have ext:Ext w S μ w S (dQ μ nk q):=⟨aH _,fun _ h=>h,fun _ _=>rfl,W⟩
 let o':Ob:=⟨false,o.sz,o.len,false,fun m=>if m=i then [.os nk 0 x.2.1] else o.get m⟩
 let X:Ob:=⟨false,x.1,x.2.1,true,x.2.2⟩
 have Y9:∀ n y,aR (sset (sset σ k o') nk X) n=some y->(n=nk/\y=X)\/(n≠nk/\n=k/\y=o')\/(n≠nk/\n≠k/\aR σ n=some y):=by
  intro n y h;rw [bP] at h
  by_cases d:nk=n
  ·simp_all
  ·rw [if_neg d,bP] at h;grind
 have A:∀ n p,n≠nk->dQ μ nk q n=some p->μ n=some p:=fun n p d h=>by simp_all [dQ,if_neg]
 have s:∀ p,dQ μ nk q nk=some p->p=q:=fun p h=>by unfold dQ at h;simp_all
 have f:∀ n y,aR (sset (sset σ k o') nk X) n=some y->n≠nk->∃ D,aR σ n=some D:=fun n y h d=>by
  grind
 refine ⟨q,ext,⟨g.fr,g.S0,g.S1,g.S2,⟨fun n y h=>?_,fun n n' y D p F Y h h' G Cp r r7=>?_⟩,fun n y p h G r=>?_,fun n d=>?_,?_⟩⟩
 ·rcases Y9 n y h with ⟨rfl,rfl⟩ | ⟨d,rfl,rfl⟩ | ⟨d,L,h⟩
  ·refine ⟨q,c',T',by simp [dQ],B.sz,B.eC,B.cap,B.len,B.out,B.Co,fun j l y u K M Z=>B.rep j l y u K M Z,fun hz=>absurd hz (by grind)⟩
  ·refine ⟨pl,c,T,W _ _ hm,I.ag8 ad W i [.os nk 0 x.2.1] (by rw [w7];rfl) fun j y u _ M Z=>?_⟩;cases j with
   | succ j=>simp at M
   | zero =>
    simp at M;subst M;obtain ⟨o2,p2,b1,N,O,P⟩:=J;rw [U] at b1;cases b1;rw [hm] at O;cases O;have Pe:c[i * o.sz+0]?=some (.slice a x.2.1 cap):=by
     have:=cell_of_row w pl.eC (i * pl.sz) _ _ _ ((I.eC (by have:=I.len;omega)).trans (congrArg some (kr ad c T)));rw [this,I.sz] at P;exact P
    rw [Pe] at Z;cases Z;exact .os q (by simp [dQ]) (fun r=>by rw [q3 r];simp) h1 ad
  ·obtain ⟨p,c2,T2,Jc,Q⟩:=g.rep.ob n y h;exact ⟨p,c2,T2,W _ _ Jc,Q.ext ext (fun _=>rfl) Q.out⟩
 ·by_cases d:n=nk<;>by_cases H:n'=nk
  ·exact absurd (d.trans H.symm) Y
  ·subst d;cases s p G;obtain ⟨t,z⟩:=f n' D h' H;exact fun e=>g.mx.obj _ _ _ _ _ J (C r) n' t F z (A _ _ H Cp) r7 e.symm
  ·subst H;cases s F Cp;obtain ⟨t,z⟩:=f n y h d;exact g.mx.obj _ _ _ _ _ J (C r7) n t p z (A _ _ d G) r
  ·obtain ⟨t,z⟩:=f n y h d;obtain ⟨y2',apd⟩:=f n' D h' H;exact g.rep.ne n n' t y2' p F Y z apd (A _ _ d G) (A _ _ H Cp) r r7
 ·by_cases d:n=nk
  ·subst d;cases s p G;exact q6 r
  ·obtain ⟨t,z⟩:=f n y h d;exact g.own n t p z (A _ _ d G) r
 ·unfold dQ;rw [if_neg ad];exact g.LO n d
 ·have key:∀ n j y u,lV w (dQ μ nk q) (sset (sset σ k o') nk X) n j y u->lV w μ σ n j y u/\¬ (n=k/\j=i):=by
   rintro n j y u ⟨o2,p2,b1,N,O,P⟩;rcases Y9 n o2 b1 with ⟨rfl,rfl⟩ | ⟨d,rfl,rfl⟩ | ⟨d,L,h⟩
   ·rw [V.2 j] at N;cases N
   ·obtain ⟨_,e2,R⟩:=gF N;have R:(if j=i then [AV.os nk 0 x.2.1] else o.get j)=[.mr y.1 y.2.1 y.2.2]:=R;split at R
    ·cases R
    ·rename_i hji;exact ⟨⟨o,p2,U,qM L1 e2 R,A _ _ d O,P⟩,fun h=>hji h.2⟩
   ·exact ⟨⟨o2,p2,h,N,A _ _ d O,P⟩,fun h=>L h.1⟩
  refine ⟨fun n j y u h=>g.mx.row _ _ _ _ (key n j y u h).1,fun n j y u b h hb n' D F h1 V h3 he=>?_,fun n j y u b n' j' D u' h h' hb D5=>g.mx.two _ _ _ _ _ _ _ _ _ (key _ _ _ _ h).1 (key _ _ _ _ h').1 hb D5⟩;obtain ⟨zo,Y⟩:=key n j y u h
  by_cases d:n'=nk
  ·subst d;cases s F V;obtain ⟨e1,e2⟩:=g.mx.two _ _ _ _ _ _ _ _ _ zo J hb (he ▸ C h3);exact Y ⟨e1,e2⟩
  ·obtain ⟨t,z⟩:=f n' D h1 d;exact g.mx.obj _ _ _ _ _ zo hb n' t F z (A _ _ d V) h3 he
theorem Good.cls (g:Good E σ S μ w) {k q i:Nat} {o d:Ob} (Z:aR σ k=some o) (s:aR σ q=some d) (hkq:k≠q) (L1:o.var=false) (P:d.var=false) (hpq:d.pr=true) (Q:1<=d.sz)
  (hi:i < o.len) (yw:o.get i=[.os q 0 d.len]) (Ud:∀ j,rowOf d j=none) :
  Good E (sset (D4 σ q) k ⟨false,o.sz,o.len,false,fun m=>if m=i then [.mr d.sz d.len d.get] else o.get m⟩) S μ w:=by
 obtain ⟨pl,c,T,hm,H⟩:=g.rep.ob k o Z;obtain ⟨z,cq,Tq,t,v⟩:=g.rep.ob q d s;have w7:o.sz=1:=by have:=H.Co i hi;rw [yw] at this;simpa using this.symm
 let o':Ob:=⟨false,o.sz,o.len,false,fun m=>if m=i then [.mr d.sz d.len d.get] else o.get m⟩
 have Y9:∀ n y,aR (sset (D4 σ q) k o') n=some y->n≠q/\((n=k/\y=o')\/(n≠k/\aR σ n=some y)):=by
  intro n y h;rw [bP] at h
  by_cases L:k=n
  ·simp_all
  ·rw [if_neg L,jU] at h;grind
 have f:∀ n y,aR (sset (D4 σ q) k o') n=some y->n≠q/\∃ A,aR σ n=some A:=fun n y h=>by
  grind
 -- the cell that names the row
 have Pe:∃ a cap,c[i * o.sz+0]?=some (.slice a d.len cap)/\w.cell? ⟨pl.eC,i * pl.sz,none⟩=some (.slice a d.len cap)/\d.len<=cap/\cap<=z.cap/\(0 < cap->a=some ⟨z.eC,0,none⟩):=by
  obtain ⟨u,M,N⟩:=fV H (i:=i) (j:=0) hi ad;have:=l7 (H.rep i 0 (.os q 0 d.len) u hi (by rw [yw];rfl) M);cases this with
  | os oG kZ r x B =>
   rename_i cap a;rw [t] at kZ;cases kZ;exact ⟨a,cap,M,by rw [H.sz];simpa using N,x,ad,fun h=>by rw [r h];simp⟩
 obtain ⟨a,cap,d1,d2,d3,d4,d5⟩:=Pe;have Fs:YY E.fp E.w0.heap.size w S (.slice a d.len cap) (d.sz,d.len,d.get):=by
  refine ⟨a,cap,rfl,d3,⟨Q,fun j=>?_⟩,fun C=>⟨z.eC,cq,Tq,d5 C,⟨rfl,fun _=>?_,?_,d3,fun _=>v.out ad,v.Co,fun j l y u hj I hu=>?_,fun hz=>absurd hz (by show d.sz≠0;omega)⟩,g.own q d z s t ad⟩⟩
  ·cases hr:rowOf ⟨false,d.sz,d.len,true,d.get⟩ j with
   | none=>rfl
   | some y =>
    obtain ⟨_,r2,r3⟩:=gF hr;have:=qM P r2 r3;simp_all
  ·exact v.eC ad
  ·exact gf (dU _ d4) v.cap
  ·have:=v.rep j l y u hj I hu;simp_all
 have key:∀ n j y u,lV w μ (sset (D4 σ q) k o') n j y u->(lV w μ σ n j y u/\¬ (n=k/\j=i))\/(n=k/\j=i/\y=(d.sz,d.len,d.get)/\u=.slice a d.len cap):=by
  rintro n j y u ⟨o2,p2,M,N,R,b4⟩;obtain ⟨h0,⟨rfl,rfl⟩ | ⟨L,J⟩⟩:=Y9 n o2 M
  ·rw [hm] at R;cases R;obtain ⟨_,x,B⟩:=gF N;have e4:(if j=i then [AV.mr d.sz d.len d.get] else o.get j)=[.mr y.1 y.2.1 y.2.2]:=B;clear B
   by_cases K:j=i
   ·simp_all
   ·rw [if_neg K] at e4;have B:=e4;exact .inl ⟨⟨o,pl,Z,qM L1 x B,hm,b4⟩,fun h=>K h.2⟩
  ·exact .inl ⟨⟨o2,p2,J,N,R,b4⟩,fun h=>L h.1⟩
 have D:∀ b,ptrTo (.slice a d.len cap) b->z.eC=b/\0 < z.cap:=by
  rintro b ⟨l,cp,e,C⟩;injection e with r x B
  subst B;rw [d5 C] at r;injection r with r
  injection r with r
  exact ⟨r,ad⟩
 refine ⟨g.fr,g.S0,g.S1,g.S2,⟨fun n y h=>?_,fun n n' y A p O jr h h' U Cp C r7=>?_⟩,fun n y p h U C=>?_,g.LO,?_⟩
 ·obtain ⟨h0,⟨rfl,rfl⟩ | ⟨L,J⟩⟩:=Y9 n y h
  ·exact ⟨pl,c,T,hm,H.ag8 ad (fun _ _ h=>h) i _ (by rw [w7];rfl) fun j y u _ I hu=>by
    cases j with
    | zero=>simp at I;subst I;exact .mr
    | succ j=>simp at I⟩
  ·exact g.rep.ob n y J
 ·obtain ⟨_,F,G⟩:=f n y h;obtain ⟨_,V,W⟩:=f n' A h';exact g.rep.ne n n' F V p O jr G W U Cp C r7
 ·obtain ⟨_,F,G⟩:=f n y h;exact g.own n F p G U C
 ·refine ⟨fun n j y u h=>?_,fun n j y u b h hb n' A O J h2 h3 he=>?_,fun n j y u b n' j' A u' h h' hb X=>?_⟩
  ·rcases key n j y u h with ⟨h,_⟩ | ⟨_,_,rfl,rfl⟩
   ·exact g.mx.row _ _ _ _ h
   ·exact Fs
  ·obtain ⟨Y,F,G⟩:=f n' A J;rcases key n j y u h with ⟨h,_⟩ | ⟨_,_,rfl,rfl⟩
   ·exact g.mx.obj _ _ _ _ _ h hb n' F O G h2 h3 he
   ·obtain ⟨r,x⟩:=D b hb;exact g.rep.ne n' q F d O z Y G s h2 t h3 x (he.trans r.symm)
  ·rcases key n j y u h with ⟨h,_⟩ | ⟨n1,j1,rfl,rfl⟩<;>rcases key n' j' A u' h' with ⟨h',_⟩ | ⟨n2,j2,rfl,rfl⟩
   ·exact g.mx.two _ _ _ _ _ _ _ _ _ h h' hb X
   ·obtain ⟨r,x⟩:=D b X;exact (g.mx.obj _ _ _ _ _ h hb q d z s t x r).elim
   ·obtain ⟨r,x⟩:=D b hb;exact (g.mx.obj _ _ _ _ _ h' X q d z s t x r).elim
   ·exact ⟨n1.trans n2.symm,j1.trans j2.symm⟩
end
mutual
def AV.oK (f:Nat->Option Nat):AV->AV
 | .op k i j=>match f k with
  | some k'=>.op k' i j
  | none=>.qm
 | .os k off len=>match f k with
  | some k'=>.os k' off len
  | none=>.qm
 | .agg cs=>.agg (AV.Dg f cs)
 | .tup cs=>.tup (AV.Dg f cs)
 | .fn g a b=>.fn g (AV.Dg f a) (AV.Dg f b)
 | .when b x=>.when b (x.oK f)
 | .mp k=>match f k with
  | some k'=>.mp k'
  | none=>.qm
 | .bn n=>.bn n
 | .pt b cs=>.pt b cs
 | .atom v=>.atom v
 | .sl n g=>.sl n g
 | .rp c o=>.rp c o
 | .ov _ _ _ _ _=>.qm
 | .PD _ _ _=>.qm
 | .nq st x=>.nq st (x.oK f)
 | .nil=>.nil
 | .qm=>.qm
 | .mr sz n g=>.mr sz n g
def AV.Dg (f:Nat->Option Nat):List AV->List AV
 | []=>[]
 | c :: cs=>c.oK f :: AV.Dg f cs
end
theorem Fz (f:Nat->Option Nat) (cs:List AV):AV.Dg f cs=cs.map (·.oK f):=by
 induction cs with
 | nil=>rfl
 | cons c cs a=>simp [AV.Dg,a]
theorem aE.oK {w:World} {S:Nat->Prop} {μ:Mu} {v:Value} {x:AV} (h:aE w S μ v x) :
  ∀ {gn:Mu} {f:Nat->Option Nat},(∀ k k' pl,f k=some k'->μ k=some pl->gn k'=some pl)->aE w S gn v (x.oK f):=by
 induction h with
 | atom v=>exact fun _=>.atom v
 | agg d e l =>
  intro gn f g;simp only [AV.oK,Fz];refine .agg (by simp [d]) fun j c v n p=>?_;grind
 | tup d e l =>
  intro gn f g;simp only [AV.oK,Fz];refine .tup (by simp [d]) fun j c v n p=>?_;grind
 | sl b off sz f d e m q r _=>exact fun _=>.sl b off sz f d e m q r
 | rp b o f d e m _=>exact fun _=>.rp b o f d e m
 | @op μ k i j pl h =>
  grind [AV.oK,op,qm]
 | @os μ k off len cap a pl h d e m =>
  grind [AV.oK,os,qm]
 | fn d e _ _ s t =>
  intro gn f g;simp only [AV.oK,Fz];refine .fn (by simp [d]) (by simp [e]) (fun j c v n p=>?_) (fun j c v n p=>?_)
  ·grind
  grind
 | when _ u l=>exact fun g=>.when (fun hb=>l hb g) u
 | @mp μ k pl h =>
  grind [AV.oK,mp,qm]
 | bn b h=>exact fun _=>.bn b h
 | pt d e _ =>
  intro gn f g;exact .pt (fun hb=>by have:=d hb;cases this with
   | rp b o f y z A=>exact .rp b o f y z A) e
 | ov=>exact fun _=>.qm
 | PD=>exact fun _=>.qm
 | nq _ d e l=>exact fun g=>.nq (l g) d e
 | nil=>exact fun _=>.nil
 | qm=>exact fun _=>.qm
 | mr=>exact fun _=>.mr
def Ob.oK (f:Nat->Option Nat) (o:Ob):Ob :=
 match o.pr with
 | true=>o
 | false=>{ o with get:=fun i=>AV.Dg f (o.get i) }
theorem Ob.BE (f:Nat->Option Nat) (o:Ob):(o.oK f).sz=o.sz:=by grind [Ob.oK]
theorem Ob.Jf (f:Nat->Option Nat) (o:Ob):(o.oK f).len=o.len:=by grind [Ob.oK]
theorem Ob.Np (f:Nat->Option Nat) (o:Ob):(o.oK f).pr=o.pr:=by grind [Ob.oK]
theorem aha {f:Nat->Option Nat} {cs:List AV} {sz n:Nat} {g:Nat->List AV} (h:AV.Dg f cs=[.mr sz n g]):cs=[.mr sz n g]:=by
 cases cs with
 | nil=>cases h
 | cons c cs =>
  cases cs with
  | cons d ds=>simp [AV.Dg] at h
  | nil =>
   simp only [AV.Dg,List.cons.injEq,and_true] at h;cases c with
   | op=>grind [AV.oK]
   | os=>grind [AV.oK]
   | mp=>grind [AV.oK]
   | mr=>simpa [AV.oK] using h
   | _=>cases h
theorem yy (f:Nat->Option Nat) (o:Ob) (i:Nat) (x:Nat×Nat×(Nat->List AV)):rowOf (o.oK f) i=some x↔rowOf o i=some x:=by
 unfold Ob.oK;split
 ·exact Iff.rfl
 ·constructor
  ·intro h;obtain ⟨a,b,c⟩:=gF h;grind [qM,aha]
  ·intro h;obtain ⟨a,b,c⟩:=gF h;exact qM a b (by show AV.Dg f (o.get i)=_;rw [c];rfl)
theorem kY.oK {w:World} {S:Nat->Prop} {μ gn:Mu} {o:Ob} {pl:Place} {c:Array Value} {T:TypeId} (h:kY w S μ o pl c T) {f:Nat->Option Nat}
  (g:∀ k k' pl,f k=some k'->μ k=some pl->gn k'=some pl):kY w S gn (o.oK f) pl c T:=by
 refine ⟨(Ob.BE f o).symm ▸ h.sz,(Ob.BE f o).symm ▸ h.eC,(Ob.BE f o).symm ▸ h.cap,(Ob.Jf f o).symm ▸ h.len,h.out,?_,?_,fun d=>?_⟩
 rotate_left 2
 ·rw [Ob.BE] at d;obtain ⟨m,n,p,q,r⟩:=h.mp d;grind [Ob.oK]
 ·intro i hi;rw [Ob.Jf] at hi;rw [Ob.BE,<- h.Co i hi];grind [Ob.oK,Fz]
 ·intro i j x v hi a b;rw [Ob.Jf] at hi;rw [Ob.BE] at b;rw [Ob.Np];unfold Ob.oK at a;split at a
  ·rename_i e;have:=h.rep i j x v hi a b;simp_all
  ·rename_i e;simp only [Fz,List.getElem?_map,bE] at a;obtain ⟨y,l,rfl⟩:=a;have:=h.rep i j y v hi l b;rw [e] at this ⊢;exact this.oK g
def idx:List Nat->Nat->Option Nat
 | [],_=>none
 | a :: r,k=>match Nat.beq a k with
  | true=>some 0
  | false=>(idx r k).map (·+1)
theorem tC:∀ (ks:List Nat) (k i:Nat),idx ks k=some i->ks[i]?=some k
 | [],k,i,h=>by simp [idx] at h
 | a :: r,k,i,h=>by
  simp only [idx] at h;split at h
  ·rename_i hb;cases h;simp [dp hb]
  ·simp only [bE] at h;obtain ⟨i',b,rfl⟩:=h;simpa using tC r k i' b
mutual
def AV.ku (σ:gp) (ks:List Nat):AV->Option (AV×List Nat×List Prop)
 | .op k i j=>match idx ks k with
  | some n=>some (.op n i j,[],[])
  | none=>some (.qm,[],[])
 | .os k off len=>match idx ks k with
  | some n=>some (.os n off len,[],[])
  | none=>match aR σ k with
   | some o=>match o.pr with
    | true=>some (.sl len (fun i=>o.get (eu off i)),[k],[off+len<=o.len])
    | false=>none
   | none=>none
 | .agg cs=>(AV.yi σ ks cs).map fun (a,b,c)=>(.agg a,b,c)
 | .tup cs=>(AV.yi σ ks cs).map fun (a,b,c)=>(.tup a,b,c)
 | .fn g x y=>match AV.yi σ ks x,AV.yi σ ks y with
  | some (a,b,c),some (a',d,e)=>some (.fn g a a',b ++ d,c ++ e)
  | _,_=>none
 | .when _ _=>none
 | .ov _ _ _ _ _=>none
 | .PD _ _ _=>none
 | .nq _ _=>none
 | .mp k=>(idx ks k).map fun n=>(.mp n,[],[])
 | .bn n=>some (.bn n,[],[])
 | .pt b cs=>some (.pt b cs,[],[])
 | .atom v=>some (.atom v,[],[])
 | .sl n g=>some (.sl n g,[],[])
 | .rp c o=>some (.rp c o,[],[])
 | .nil=>some (.nil,[],[])
 | .qm=>some (.qm,[],[])
 | .mr _ _ _=>none
def AV.yi (σ:gp) (ks:List Nat):List AV->Option (List AV×List Nat×List Prop)
 | []=>some ([],[],[])
 | c :: cs=>match c.ku σ ks,AV.yi σ ks cs with
  | some (a,b,p),some (a',d,e)=>some (a :: a',b ++ d,p ++ e)
  | _,_=>none
end
def pz (μ:Mu) (ks:List Nat):Mu:=fun i=>(ks[i]?).bind μ
def HH (μ:Mu) (bs:List Nat) (b:Nat):Prop:=∃ k∈bs,∃ pl,μ k=some pl/\0 < pl.cap/\pl.eC=b
theorem HI {μ:Mu} {ks:List Nat}:∀ k i pl,idx ks k=some i->μ k=some pl->pz μ ks i=some pl:=by
 intro k i pl h hm;simp [pz,tC ks k i h,hm]
section
variable {P:Program} {E:Env} {nk:Nat} {σ:gp} {S:Nat->Prop} {μ:Mu} {w:World}
theorem ahb (g:Good E σ S μ w) {ks:List Nat} {v:Value} {x:AV} (h:aE w S μ v x):∀ (S':Nat->Prop),(∀ b,S b->S' b)->∀ {y:AV} {bs:List Nat} {ps:List Prop},
  x.ku σ ks=some (y,bs,ps)->bO ps->(∀ b,HH μ bs b->S' b)->aE w S' (pz μ ks) v y:=by
 have lists:∀ {μ:Mu} {vs:Array Value} {cs:List AV} (S':Nat->Prop),
   (∀ (j:Nat) (c:AV) (v:Value),cs[j]?=some c->vs[j]?=some v->∀ {y:AV} {bs:List Nat} {ps:List Prop},c.ku σ ks=some (y,bs,ps)->bO ps->(∀ b,HH μ bs b->S' b)->aE w S' (pz μ ks) v y) ->
   ∀ {ys:List AV} {bs:List Nat} {ps:List Prop},AV.yi σ ks cs=some (ys,bs,ps)->bO ps->(∀ b,HH μ bs b->S' b) ->
   ys.length=cs.length/\∀ (j:Nat) (c:AV) (v:Value),ys[j]?=some c->vs[j]?=some v->aE w S' (pz μ ks) v c:=by
  intro μ vs cs S' h;have gen:∀ (cs:List AV) (o:Nat),(∀ (j:Nat) (c:AV) (v:Value),cs[j]?=some c->vs[o+j]?=some v->∀ {y:AV} {bs:List Nat} {ps:List Prop},c.ku σ ks=some (y,bs,ps)->bO ps->(∀ b,HH μ bs b->S' b)->aE w S' (pz μ ks) v y) ->
   ∀ {ys:List AV} {bs:List Nat} {ps:List Prop},AV.yi σ ks cs=some (ys,bs,ps)->bO ps->(∀ b,HH μ bs b->S' b) ->
   ys.length=cs.length/\∀ (j:Nat) (c:AV) (v:Value),ys[j]?=some c->vs[o+j]?=some v->aE w S' (pz μ ks) v c:=by
   intro cs
   induction cs with
   | nil =>
    intro o _ ys bs ps h _ _;simp [AV.yi] at h;simp_all
   | cons c cs F =>
    intro o P ys bs ps h z hb;simp only [AV.yi] at h;split at h
    ·rename_i a b p a' U p' d l;simp only [bu,bk] at h;obtain ⟨rfl,rfl,rfl⟩:=h;obtain ⟨I,J⟩:=bO.app z;have K:=F (o+1) (fun j c v m s=>P (j+1) c v (by simpa using m) (by grind)) l J (fun q hq=>hb q (by obtain ⟨k,C,r⟩:=hq;exact ⟨k,by simp [C],r⟩));refine ⟨by simp [K.1],?_⟩;intro j L v m s;cases j with
     | zero =>
      simp at m;subst m;exact P 0 c v aD s d I (fun q hq=>hb q (by obtain ⟨k,C,r⟩:=hq;exact ⟨k,by simp [C],r⟩))
     | succ j=>grind
    ·cases h
  intro ys bs ps d l A;have:=gen cs 0 (fun j c v m s=>h j c v m (by simpa using s)) d l A;exact ⟨this.1,fun j c v m s=>this.2 j c v m (by simpa using s)⟩
 intro S' H;have V:=h;clear h;have key:∀ {B:Mu} {v:Value} {x:AV},aE w S B v x->B=μ->∀ {y:AV} {bs:List Nat} {ps:List Prop},x.ku σ ks=some (y,bs,ps)->bO ps->(∀ b,HH μ bs b->S' b)->aE w S' (pz μ ks) v y:=by
  intro B v x h
  induction h with
  | atom v=>intro _ y bs ps h _ _;simp [AV.ku] at h;obtain ⟨rfl,_,_⟩:=h;exact .atom v
  | agg d l F =>
   intro e y bs ps h z hb;subst e;simp only [AV.ku,bE] at h;obtain ⟨⟨a,b,c⟩,h,e⟩:=h;simp only [bk] at e;obtain ⟨rfl,rfl,rfl⟩:=e;obtain ⟨t,u⟩:=lists S' (fun j c v m s=>F j c v m s rfl) h z hb;exact .agg (d.trans t.symm) u
  | tup d l F =>
   intro e y bs ps h z hb;subst e;simp only [AV.ku,bE] at h;obtain ⟨⟨a,b,c⟩,h,e⟩:=h;simp only [bk] at e;obtain ⟨rfl,rfl,rfl⟩:=e;obtain ⟨t,u⟩:=lists S' (fun j c v m s=>F j c v m s rfl) h z hb;exact .tup (d.trans t.symm) u
  | @sl B a len cap get b off sz f d l A W X _ =>
   intro _ y bs ps h _ _;simp [AV.ku] at h;obtain ⟨rfl,_,_⟩:=h;have:=(aE.sl (μ:=pz μ ks) b off sz f d l A W X);exact this.mono H (fun _ _=>rfl) (fun _ _ h=>h)
  | @rp B cs off b o f d l A _ =>
   intro _ y bs ps h _ _;simp [AV.ku] at h;obtain ⟨rfl,_,_⟩:=h;have:=(aE.rp (μ:=pz μ ks) (off:=off) b o f d l A);exact this.mono H (fun _ _=>rfl) (fun _ _ h=>h)
  | @op B k i j pl hm =>
   intro e y bs ps h _ _;subst e;simp only [AV.ku] at h;split at h
   ·rename_i n G;simp at h;obtain ⟨rfl,_,_⟩:=h;exact .op pl (HI _ _ _ G hm)
   ·simp at h;obtain ⟨rfl,_,_⟩:=h;exact .qm
  | @os B k off len cap a pl hm d l A =>
   intro e y bs ps h z hb;subst e;simp only [AV.ku] at h;split at h
   ·rename_i n G;simp at h;obtain ⟨rfl,_,_⟩:=h;exact .os pl (HI _ _ _ G hm) d l A
   ·split at h
    ·rename_i o Y;split at h
     ·rename_i Z;simp only [bu,bk] at h;obtain ⟨hy,rfl,rfl⟩:=h;have hle:=z.1;obtain ⟨oG,c,T,Q,D⟩:=g.rep.ob k o Y;rw [hm] at Q;cases Q;have M:y=.sl len fun i=>o.get (off+i):=by
       rw [<- hy];simp only [fw]
      rw [M];refine .sl pl.eC (off * pl.sz) o.sz (fun i j=>(c[(off+i) * o.sz+j]?).getD undef) ?_ (fun i hi=>D.Co _ ad) ?_ ?_ l
      ·intro hl;exact ⟨d ad,hb _ ⟨k,aD,pl,hm,ad,rfl⟩⟩
      ·intro i j hi hj;obtain ⟨v,t,u⟩:=fV D (i:=off+i) ad hj;rw [t,D.sz,<- eS,u];rfl
      ·intro i j L hi R;obtain ⟨v,t,u⟩:=fV D (i:=off+i) ad (by have:=(gW.1 R).1;rwa [D.Co _ ad] at this);rw [t];have:=D.rep _ j L v ad R t;rw [Z] at this;exact aE.mono (S:=S) (S':=S') H (fun _ _=>rfl) this (fun _ _ h=>h)
     ·cases h
    ·cases h
  | fn d l _ _ N O =>
   intro e y bs ps h z hb;subst e;simp only [AV.ku] at h;split at h
   ·rename_i a b c a' U L e1 e2;simp only [bu,bk] at h;obtain ⟨rfl,rfl,rfl⟩:=h;obtain ⟨I,J⟩:=bO.app z;obtain ⟨t,u⟩:=lists S' (fun j c v m s=>N j c v m s rfl) e1 I (fun q hq=>hb q (by obtain ⟨k,C,r⟩:=hq;exact ⟨k,by simp [C],r⟩));obtain ⟨r1,r2⟩:=lists S' (fun j c v m s=>O j c v m s rfl) e2 J (fun q hq=>hb q (by obtain ⟨k,C,r⟩:=hq;exact ⟨k,by simp [C],r⟩));exact .fn (d.trans t.symm) (l.trans r1.symm) u r2
   ·cases h
  | when=>intro _ y bs ps h;simp [AV.ku] at h
  | ov=>intro _ y bs ps h;simp [AV.ku] at h
  | PD=>intro _ y bs ps h;simp [AV.ku] at h
  | nq=>intro _ y bs ps h;simp [AV.ku] at h
  | @mp B k pl hm =>
   intro e y bs ps h _ _;subst e;simp only [AV.ku,bE,bk] at h;obtain ⟨n,G,rfl,_,_⟩:=h;exact .mp pl (HI _ _ _ G hm)
  | bn b hb=>intro _ y bs ps h _ _;simp [AV.ku] at h;obtain ⟨rfl,_,_⟩:=h;exact .bn b hb
  | pt d l _ =>
   intro _ y bs ps h _ _;simp [AV.ku] at h;obtain ⟨rfl,_,_⟩:=h;refine .pt (fun hb=>?_) l;have:=d hb;cases this with
   | rp b o f t u q3 =>
    have:=(aE.rp (μ:=pz μ ks) (off:=0) b o f t u q3);exact this.mono H (fun _ _=>rfl) (fun _ _ h=>h)
  | nil=>intro _ y bs ps h _ _;simp [AV.ku] at h;obtain ⟨rfl,_,_⟩:=h;exact .nil
  | qm=>intro _ y bs ps h _ _;simp [AV.ku] at h;obtain ⟨rfl,_,_⟩:=h;exact .qm
  | mr=>intro _ y bs ps h;simp [AV.ku] at h
 intro y bs ps d l A;exact key V rfl d l A
end
end Go.Ab
namespace Go.Ab
structure YC where
 l:Nat
 as:List AV
 k:Nat
 o:Ob
 o':Ob
structure tw where
 ks:List Nat
 same:Bool
 res:AV
 r8:gp
 dec:Nat
 GP:Bool
 y:Option YC
def auv:Option tw->Option YC
 | none=>none
 | some o=>o.y
def auw:Option tw->Nat
 | none=>0
 | some o=>o.dec
def auy:Option tw->AV
 | none=>.qm
 | some o=>o.res
structure R where
 U6:List Prop
 val:AV
 rds:List Nat
 upd:Ae
def Zb (P:Program) (g:FuncId):Bool :=
 match P.funcs[g]? with
 | some fn=>fn.body.isSome && !(fn.name == "runtime.NumGoroutine")
 | none=>false
def canon (σ:gp) (ks:List Nat):Nat->List Nat->Option gp
 | _,[]=>some []
 | i,k :: r=>match aR σ k,canon σ ks (i+1) r with
  | some o,some t=>some ((i,o.oK (idx ks)) :: t)
  | _,_=>none
def back (ks:List Nat) (nk n:Nat):Option Nat :=
 match ks[n]? with
 | some k=>some k
 | none=>match Nat.blt n (ks.length+16) with
  | true=>some (nk+(n - ks.length))
  | false=>none
def GQ (ks:List Nat) (nk:Nat) (gV:gp):Nat->List Nat->Ae
 | _,[]=>[]
 | i,k :: r=>(k,(aR gV i).map (Ob.oK (back ks nk))) :: GQ ks nk gV (i+1) r
def JN (ks:List Nat) (nk:Nat):gp->Ae
 | []=>[]
 | (n,o) :: r=>match Nat.ble ks.length n with
  | true=>(nk+(n - ks.length),some (o.oK (back ks nk))) :: JN ks nk r
  | false=>JN ks nk r
def sQ:List Nat->Bool
 | []=>true
 | k :: r=>(idx r k).isNone && sQ r
def QR (n:Nat):gp->Bool
 | []=>true
 | (k,_) :: r=>Nat.blt k n && QR n r
def Ob.flat (o:Ob):Bool:=o.var && Nat.beq o.len 1 && Nat.ble 1 o.sz && AV.GM (o.get 0)
mutual
def AV.YV:AV->Bool
 | .atom _ | .op _ _ _ | .os _ _ _ | .mp _ | .bn _ | .nil=>true
 | .agg cs | .tup cs=>AV.afl cs
 | .fn _ a b=>AV.afl a && AV.afl b
 | _=>false
def AV.afl:List AV->Bool
 | []=>true
 | c :: cs=>c.YV && AV.afl cs
end
theorem QT {cs:List AV} (h:AV.afl cs=true) {j:Nat} {c:AV} (a:cs[j]?=some c):c.YV=true:=by
 induction cs generalizing j with
 | nil=>simp at a
 | cons x xs b =>
  simp only [AV.afl,cy] at h;grind
theorem aE.YV {w:World} {S:Nat->Prop} {μ:Mu} {v:Value} {x:AV} (h:aE w S μ v x):x.YV=true->∀ w' S',aE w' S' μ v x:=by
 induction h with
 | atom v=>grind [atom]
 | agg a _ c=>grind [agg,QT,AV.YV]
 | tup a _ c=>grind [tup,QT,AV.YV]
 | op pl h=>grind [op]
 | os pl h a d i=>grind [os]
 | fn a d _ _ e f =>
  intro g w' S';simp only [AV.YV,cy] at g;grind [fn,QT]
 | mp pl h=>grind [mp]
 | bn b h=>grind [bn]
 | nil=>exact fun _ _ _=>.nil
 | sl=>grind [AV.YV]
 | rp=>grind [AV.YV]
 | when=>grind [AV.YV]
 | pt=>grind [AV.YV]
 | ov=>grind [AV.YV]
 | PD=>grind [AV.YV]
 | nq=>grind [AV.YV]
 | qm=>grind [AV.YV]
 | mr=>grind [AV.YV]
def CL (o:Ob):Option (List Prop) :=
 match o.flat with
 | true=>some []
 | false=>match o.pr && Nat.ble 1 o.sz with
  | true=>some [∀ i,i < o.len->AV.GM (o.get i)=true]
  | false=>none
def L3 (lone:Bool):gp->Option (List Prop)
 | []=>some []
 | (_,o) :: r=>match lone with
  | true=>some []
  | false=>match CL o,L3 lone r with
   | some p,some q=>some (p ++ q)
   | _,_=>none
mutual
def AV.closed (f:Nat->Option Nat):AV->Bool
 | .op k _ _=>(f k).isSome
 | .os k _ _=>(f k).isSome
 | .mp k=>(f k).isSome
 | .ov _ _ _ _ _ | .PD _ _ _ | .mr _ _ _=>false
 | .agg cs | .tup cs=>AV.FA f cs
 | .fn _ a b=>AV.FA f a && AV.FA f b
 | .when _ x=>x.closed f
 | .nq _ x=>x.closed f
 | _=>true
def AV.FA (f:Nat->Option Nat):List AV->Bool
 | []=>true
 | c :: cs=>c.closed f && AV.FA f cs
end
def Ob.closed (f:Nat->Option Nat) (o:Ob):Bool:=o.pr || (o.var && Nat.beq o.len 1 && AV.FA f (o.get 0))
def gi:List AV->Bool
 | [.mr _ _ _]=>true
 | _=>false
theorem U7 {f:Nat->Option Nat} {l:List AV} (h:gi l=true):AV.Dg f l=l:=by
 unfold gi at h;split at h
 ·rfl
 ·cases h
def Nq (ks:List Nat) (lone:Bool) (o:Ob):Option (List Prop) :=
 match o.flat || (lone && o.closed (idx ks)) with
 | true=>some []
 | false=>match o.pr with
  | true=>CL o
  | false=>match lone && !o.var with
   | true=>some [∀ i,i < o.len->gi (o.get i)=true]
   | false=>none
def HJ (σ:gp) (ks:List Nat) (lone:Bool):List Nat->Option (List Prop)
 | []=>some []
 | k :: r=>match aR σ k with
  | some o=>match Nq ks lone o,HJ σ ks lone r with
   | some p,some q=>some (p ++ q)
   | _,_=>none
  | none=>none
mutual
theorem QU {f g:Nat->Option Nat} (c:∀ k i,f k=some i->g i=some k):∀ (x:AV),x.closed f=true->(x.oK f).oK g=x
 | .op k i j,h=>by
  obtain ⟨n,d⟩:=Option.isSome_iff_exists.1 (by simpa [AV.closed] using h);simp [AV.oK,d,c k n d]
 | .os k i j,h=>by
  obtain ⟨n,d⟩:=Option.isSome_iff_exists.1 (by simpa [AV.closed] using h);simp [AV.oK,d,c k n d]
 | .agg cs,h=>by simp only [AV.oK];rw [Bq c cs (by simpa [AV.closed] using h)]
 | .tup cs,h=>by simp only [AV.oK];rw [Bq c cs (by simpa [AV.closed] using h)]
 | .fn q a b,h=>by
  simp only [AV.closed,cy] at h;simp only [AV.oK];rw [Bq c a h.1,Bq c b h.2]
 | .when b x,h=>by simp only [AV.oK];rw [QU c x (by simpa [AV.closed] using h)]
 | .nq b x,h=>by simp only [AV.oK];rw [QU c x (by simpa [AV.closed] using h)]
 | .mp k,h=>by
  obtain ⟨n,d⟩:=Option.isSome_iff_exists.1 (by simpa [AV.closed] using h);simp [AV.oK,d,c k n d]
 | .ov _ _ _ _ _,h=>by simp [AV.closed] at h
 | .PD _ _ _,h=>by simp [AV.closed] at h
 | .mr _ _ _,h=>by simp [AV.closed] at h
 | .bn _,_=>rfl
 | .pt _ _,_=>rfl
 | .atom _,_=>rfl
 | .sl _ _,_=>rfl
 | .rp _ _,_=>rfl
 | .nil,_=>rfl
 | .qm,_=>rfl
theorem Bq {f g:Nat->Option Nat} (a:∀ k i,f k=some i->g i=some k):∀ (cs:List AV),AV.FA f cs=true->AV.Dg g (AV.Dg f cs)=cs
 | [],_=>rfl
 | c :: cs,h=>by
  simp only [AV.FA,cy] at h;simp only [AV.Dg];rw [QU a c h.1,Bq a cs h.2]
end
theorem QV:∀ (ks:List Nat),sQ ks=true->∀ (i j k:Nat),ks[i]?=some k->ks[j]?=some k->i=j
 | [],_,i,j,k,h,_=>by simp at h
 | a :: r,h,i,j,k,hi,d=>by
  simp only [sQ,cy] at h;have none:∀ n:Nat,r[n]?=some a->False:=by
   intro n c;have:∀ (l:List Nat) (n:Nat),l[n]?=some a->(idx l a).isSome=true:=by
    intro l
    induction l with
    | nil=>intro n c;simp at c
    | cons b l e =>
     intro n c;simp only [idx];cases hb:Nat.beq b a with
     | true=>rfl
     | false =>
      cases n with
      | zero=>simp at c;rw [c] at hb;simp at hb
      | succ n=>simpa using e n (by simpa using c)
   have:=this r n c;rw [Option.isNone_iff_eq_none] at h;rw [h.1] at this;cases this
  cases i with
  | zero =>
   simp at hi;subst hi;cases j with
   | zero=>rfl
   | succ j=>exact (none j (by simpa using d)).elim
  | succ i =>
   cases j with
   | zero=>simp at d;subst d;exact (none i (by simpa using hi)).elim
   | succ j=>rw [QV r h.2 i j k (by simpa using hi) (by simpa using d)]
theorem sa:∀ (ks:List Nat) (k:Nat),idx ks k=none->∀ i:Nat,ks[i]?≠some k
 | [],k,_,i=>aD
 | a :: r,k,h,i=>by
  simp only [idx] at h;split at h
  ·cases h
  ·rename_i hb;have h':idx r k=none:=by simpa using h
   cases i with
   | zero=>intro e;simp_all
   | succ i=>simpa using sa r k h' i
theorem U8 {σ:gp} {ks:List Nat}:∀ (l:List Nat) (i:Nat) (zr:gp),canon σ ks i l=some zr ->
  ∀ n,aR zr n=if i<=n then ((l[n - i]?).bind (aR σ)).map (Ob.oK (idx ks)) else none
 | [],i,zr,h,n=>by grind [canon,aR]
 | k :: r,i,zr,h,n=>by
  simp only [canon] at h;split at h
  ·rename_i o t c a;cases h;simp only [aR]
   by_cases b:i=n
   ·simp_all
   ·rw [tz b];show aR t n=_;rw [U8 r (i+1) t a n];grind
  ·cases h
theorem Jg {σ:gp} {ks:List Nat}:∀ (l:List Nat) (i:Nat) (zr:gp),canon σ ks i l=some zr->∀ k∈l,∃ o,aR σ k=some o
 | [],i,zr,h,k,b=>by simp at b
 | a :: r,i,zr,h,k,b=>by
  simp only [canon] at h;split at h
  ·rename_i o t c d;rcases rJ.1 b with rfl | b
   ·exact ⟨o,c⟩
   ·exact Jg r (i+1) t d k b
  ·cases h
theorem Nr {ks:List Nat} {nk:Nat} {gV:gp}:∀ (l:List Nat) (i:Nat) (σ:gp) (n:Nat),(∀ a b k:Nat,l[a]?=some k->l[b]?=some k->a=b) ->
  aR (js σ (GQ ks nk gV i l)) n=match idx l n with
   | some j=>(aR gV (i+j)).map (Ob.oK (back ks nk))
   | none=>aR σ n
 | [],i,σ,n,_=>by simp [GQ,js,idx]
 | k :: r,i,σ,n,f=>by
  have c:∀ a b k:Nat,r[a]?=some k->r[b]?=some k->a=b:=fun a b q g hb=>by
   have:=f (a+1) (b+1) q (by simpa using g) (by simpa using hb);omega
  have d:idx r k=none:=by
   cases hq:idx r k with
   | none=>rfl
   | some j =>
    have:=tC r k j hq;have:=f 0 (j+1) k aD (by simpa using this);omega
  simp only [GQ];have step:aR (js σ ((k,(aR gV i).map (Ob.oK (back ks nk))) :: GQ ks nk gV (i+1) r)) n=match idx r n with
    | some j=>(aR gV (i+1+j)).map (Ob.oK (back ks nk))
    | none=>if k=n then (aR gV i).map (Ob.oK (back ks nk)) else aR σ n:=by
   cases h:(aR gV i).map (Ob.oK (back ks nk)) with
   | some o =>
    simp only [js];rw [Nr r (i+1) _ n c,bP]
   | none =>
    simp only [js];rw [Nr r (i+1) _ n c,jU]
  rw [step];simp only [idx]
  by_cases e:k=n
  ·subst e;rw [d,xc rfl];simp
  ·rw [tz e];cases hq:idx r n with
   | none=>simp [e]
   | some j=>simp only [Option.map_some];rw [show i+1+j=i+(j+1) by omega]
def D9 (z:Bool) (bs:List Nat):Ae:=match z with
 | true=>bs.map fun k=>(k,none)
 | false=>[]
theorem sd (z:Bool):∀ (bs:List Nat) (σ:gp) (n:Nat),aR (js σ (D9 z bs)) n=if z=true/\n∈bs then none else aR σ n:=by
 cases z with
 | false=>grind [D9,js]
 | true =>
  intro bs
  induction bs with
  | nil=>grind [D9,js]
  | cons k r a =>
   intro σ n;have:=a (D4 σ k) n;simp only [D9,List.map_cons,js] at this ⊢;rw [this,jU]
   by_cases h:k=n
   ·subst h;simp
   ·have h':¬ n=k:=fun e=>h e.symm;simp [h,h']
theorem kE:∀ (u v:Ae) (σ:gp),js σ (u ++ v)=js (js σ u) v
 | [],v,σ=>rfl
 | (k,some o) :: r,v,σ=>by simp only [List.cons_append,js];exact kE r v _
 | (k,none) :: r,v,σ=>by simp only [List.cons_append,js];exact kE r v _
def Wv (n:Nat):gp->Bool
 | []=>true
 | (k,_) :: r=>Nat.ble n k && Wv n r
theorem U9 {n:Nat}:∀ {a:gp},Wv n a=true->∀ j,j < n->aR a j=none
 | [],_,_,_=>rfl
 | (k,o) :: r,h,j,b=>by
  simp only [Wv,cy] at h;simp only [aR];rw [tz (by have:=Nat.le_of_ble_eq_true h.1;omega)];exact U9 h.2 j b
theorem QW:∀ (σ a:gp) (n:Nat),aR (σ ++ a) n=match aR σ n with
  | some o=>some o
  | none=>aR a n
 | [],a,n=>rfl
 | (k,o) :: r,a,n=>by
  simp only [List.cons_append,aR];split
  ·rfl
  ·exact QW r a n
def L4 (P:Program) (ob:FuncId->List AV->gp->Nat->AV->gp->Prop) (nk:Nat) (σ:gp) (f:AV) (a:List AV) (orc:tw):Option R :=
 match f with
 | .fn (.func g) first cap=>match Zb P g,AV.yi σ orc.ks (first ++ (a ++ cap)),canon σ orc.ks 0 orc.ks with
  | true,some (as,bs,ps),some zr=>match sQ orc.ks && (bs.isEmpty || orc.GP || orc.res.YV) with
   | true=>match orc.same with
    | true=>match orc.r8 with
     | []=>match HJ σ orc.ks (bs.isEmpty || orc.GP) orc.ks with
      | some b=>some ⟨ob g as zr orc.ks.length orc.res zr :: (b ++ ps),orc.res.oK (back orc.ks nk),orc.ks ++ bs,D9 orc.GP bs⟩
      | none=>none
     | q :: c=>match bs.isEmpty || orc.GP,HJ σ orc.ks true orc.ks,Wv orc.ks.length (q :: c) && QR (orc.ks.length+16) (q :: c) && sQ ((q :: c).map (·.1)) with
      | true,some b,true=>some ⟨ob g as zr orc.ks.length orc.res (zr ++ q :: c) :: (b ++ ps),orc.res.oK (back orc.ks nk),orc.ks ++ bs,JN orc.ks nk (q :: c) ++ D9 orc.GP bs⟩
      | _,_,_=>none
    | false=>match QR (orc.ks.length+16) orc.r8 && sQ (orc.r8.map (·.1)),L3 (bs.isEmpty || orc.GP) orc.r8 with
     | true,some b=>some ⟨ob g as zr orc.ks.length orc.res orc.r8 :: (b ++ ps),orc.res.oK (back orc.ks nk),orc.ks ++ bs,GQ orc.ks nk orc.r8 0 orc.ks ++ (JN orc.ks nk orc.r8 ++ D9 orc.GP bs)⟩
     | _,_=>none
   | false=>none
  | _,_,_=>none
 | _=>none
def QX (P:Program) (nk:Nat) (σ:gp) (f:AV) (a:List AV) (orc:tw):Option R:=L4 P (Sound P) nk σ f a orc
theorem Ea {ks:List Nat} {nk:Nat}:∀ (b σ:gp) (n:Nat),QR (ks.length+16) b=true->(n < nk\/nk+16<=n)->aR (js σ (JN ks nk b)) n=aR σ n
 | [],σ,n,_,_=>rfl
 | (k,o) :: r,σ,n,a,c=>by
  simp only [QR,cy] at a;have d:k < ks.length+16:=by
   have:=a.1;simp only [Nat.blt,Nat.ble_eq] at this;exact this
  simp only [JN];split
  ·rename_i hb;have hb:=Nat.le_of_ble_eq_true hb;simp only [js];rw [Ea r _ n a.2 c,bP,if_neg ad]
  ·exact Ea r σ n a.2 c
theorem Zc:∀ (a:gp) (n:Nat) (o:Ob),aR a n=some o->n∈a.map (·.1)
 | [],n,o,h=>by simp [aR] at h
 | (k,x) :: r,n,o,h=>by
  simp only [aR] at h;split at h
  ·simp_all
  ·exact List.mem_cons_of_mem _ (Zc r n o h)
theorem L5 {ks:List Nat} {nk:Nat}:∀ (b σ:gp) (j:Nat),sQ (b.map (·.1))=true->aR (js σ (JN ks nk b)) (nk+j)=match aR b (ks.length+j) with
   | some o=>some (o.oK (back ks nk))
   | none=>aR σ (nk+j)
 | [],σ,j,_=>rfl
 | (k,o) :: r,σ,j,a=>by
  simp only [List.map_cons,sQ,cy,Option.isNone_iff_eq_none] at a;simp only [JN,aR]
  by_cases d:k=ks.length+j
  ·subst d;rw [xc rfl];have e:aR r (ks.length+j)=none:=by
    cases f:aR r (ks.length+j) with
    | none=>rfl
    | some x =>
     obtain ⟨i,hi⟩:=List.getElem?_of_mem (Zc r _ x f);grind [sa]
   have c:Nat.ble ks.length (ks.length+j)=true:=Nat.ble_eq_true_of_le ad;rw [c];simp only [js];rw [L5 r _ j a.2,e];simp_all [bP,if_pos]
  ·rw [tz d];split
   ·rename_i hb;have hb:=Nat.le_of_ble_eq_true hb;simp only [js];rw [L5 r _ j a.2];split
    ·rfl
    ·rw [bP,if_neg ad]
   ·exact L5 r σ j a.2
mutual
theorem afm {σ:gp} {ks:List Nat}:∀ (x y:AV) (bs:List Nat) (ps:List Prop),x.ku σ ks=some (y,bs,ps)->∀ k∈bs,idx ks k=none/\∃ o,aR σ k=some o
 | .op k i j,y,bs,ps,h=>by
  simp only [AV.ku] at h;grind
 | .os k off len,y,bs,ps,h=>by
  simp only [AV.ku] at h;grind
 | .agg cs,y,bs,ps,h=>by
  simp only [AV.ku,bE] at h;obtain ⟨⟨a,b,c⟩,h,e⟩:=h;simp only [bk] at e;obtain ⟨rfl,rfl,rfl⟩:=e;exact yz cs a b c h
 | .tup cs,y,bs,ps,h=>by
  simp only [AV.ku,bE] at h;obtain ⟨⟨a,b,c⟩,h,e⟩:=h;simp only [bk] at e;obtain ⟨rfl,rfl,rfl⟩:=e;exact yz cs a b c h
 | .fn g x z,y,bs,ps,h=>by
  simp only [AV.ku] at h;split at h
  ·rename_i a b c a' f l m n;simp only [bu,bk] at h;obtain ⟨_,rfl,_⟩:=h;intro k d;rcases List.mem_append.1 d with d | d
   ·exact yz x a b c m k d
   ·exact yz z a' f l n k d
  ·cases h
 | .when _ _,y,bs,ps,h=>by simp [AV.ku] at h
 | .ov _ _ _ _ _,y,bs,ps,h=>by simp [AV.ku] at h
 | .PD _ _ _,y,bs,ps,h=>by simp [AV.ku] at h
 | .nq _ _,y,bs,ps,h=>by simp [AV.ku] at h
 | .mr _ _ _,y,bs,ps,h=>by simp [AV.ku] at h
 | .mp k,y,bs,ps,h=>by
  simp only [AV.ku,bE,bk] at h;grind
 | .bn _,y,bs,ps,h=>by simp [AV.ku] at h;simp_all
 | .pt _ _,y,bs,ps,h=>by simp [AV.ku] at h;simp_all
 | .atom _,y,bs,ps,h=>by simp [AV.ku] at h;simp_all
 | .sl _ _,y,bs,ps,h=>by simp [AV.ku] at h;simp_all
 | .rp _ _,y,bs,ps,h=>by simp [AV.ku] at h;simp_all
 | .nil,y,bs,ps,h=>by simp [AV.ku] at h;simp_all
 | .qm,y,bs,ps,h=>by simp [AV.ku] at h;simp_all
theorem yz {σ:gp} {ks:List Nat}:∀ (xs ys:List AV) (bs:List Nat) (ps:List Prop),AV.yi σ ks xs=some (ys,bs,ps)->∀ k∈bs,idx ks k=none/\∃ o,aR σ k=some o
 | [],ys,bs,ps,h=>by simp [AV.yi] at h;simp_all
 | c :: cs,ys,bs,ps,h=>by
  simp only [AV.yi] at h;split at h
  ·rename_i a b p a' e f g i;simp only [bu,bk] at h;obtain ⟨_,rfl,_⟩:=h;intro k d;rcases List.mem_append.1 d with d | d
   ·exact afm c a b p g k d
   ·exact yz cs a' e f i k d
  ·cases h
end
section
variable {P:Program} {E:Env} {nk:Nat} {σ:gp} {S:Nat->Prop} {μ:Mu} {w:World}
theorem RL.append {vs d:Array Value} {cs ds:List AV} (h:RL w S μ vs cs) (k:RL w S μ d ds):RL w S μ (vs ++ d) (cs ++ ds):=by
 refine ⟨by simp [h.1,k.1],?_⟩;intro j c v a b;have e:=h.1
 by_cases f:j < cs.length
 ·rw [mg f] at a;rw [Array.getElem?_append_left ad] at b;exact h.2 j c v a b
 ·rw [o5 ad] at a;rw [Array.getElem?_append_right ad,e] at b;exact k.2 _ c v a b
theorem amb (g:Good E σ S μ w) {ks:List Nat} {vs:Array Value} {cs ys:List AV} {bs:List Nat} {ps:List Prop} (h:RL w S μ vs cs) (S':Nat->Prop) (a:∀ b,S b->S' b)
  (c:AV.yi σ ks cs=some (ys,bs,ps)) (d:bO ps) (hb:∀ b,HH μ bs b->S' b):RL w S' (pz μ ks) vs ys:=by
 have:=ahb g (ks:=ks) (aE.agg h.1 h.2) S' a (y:=.agg ys) (bs:=bs) (ps:=ps) (by simp [AV.ku,c]) d hb;cases this with
 | agg e f=>exact ⟨e,f⟩
theorem adu {w':World} {S' b:Nat->Prop} {gn QI:Mu} {o:Ob} {pl:Place} {c:Array Value} {T:TypeId} (h:kY w' S' gn o pl c T) (a:o.flat=true) (e:0 < pl.cap->¬ b pl.eC) :
  kY w' b QI o pl c T:=by
 unfold Ob.flat at a;simp only [cy] at a;have l:=dp a.1.1.2;have f:=Nat.le_of_ble_eq_true a.1.2;refine { h with out:=e,rep:=?_,mp:=fun g=>absurd g ad };intro i j x v hi d k;have:i=0:=ad;subst this;exact (h.rep 0 j x v hi d k).flat (D3 a.2 d) _ _ _
mutual
theorem afn:∀ (x:AV),x.flat=true->x.pure=true
 | .atom _,_=>rfl
 | .nil,_=>rfl
 | .bn _,_=>rfl
 | .pt _ _,h=>by simp [AV.flat] at h
 | .mp _,h=>by simp [AV.flat] at h
 | .ov _ _ _ _ _,h=>by simp [AV.flat] at h
 | .PD _ _ _,h=>by simp [AV.flat] at h
 | .nq _ _,h=>by simp [AV.flat] at h
 | .agg cs,h=>yA cs h
 | .tup cs,h=>yA cs h
 | .fn _ a b,h=>by
  simp only [AV.flat,cy] at h;simp only [AV.pure,cy];exact ⟨yA a h.1,yA b h.2⟩
 | .sl _ _,h=>by simp [AV.flat] at h
 | .rp _ _,h=>by simp [AV.flat] at h
 | .op _ _ _,h=>by simp [AV.flat] at h
 | .os _ _ _,h=>by simp [AV.flat] at h
 | .when _ _,h=>by simp [AV.flat] at h
 | .qm,h=>by simp [AV.flat] at h
 | .mr _ _ _,h=>by simp [AV.flat] at h
theorem yA:∀ (cs:List AV),AV.GM cs=true->AV.qL cs=true
 | [],_=>rfl
 | c :: cs,h=>by
  simp only [AV.GM,cy] at h;simp only [AV.qL,cy];exact ⟨afn c h.1,yA cs h.2⟩
end
mutual
theorem QY {f:Nat->Option Nat}:∀ (x:AV),x.pure=true->x.oK f=x
 | .op _ _ _,h=>by simp [AV.pure] at h
 | .os _ _ _,h=>by simp [AV.pure] at h
 | .mp _,h=>by simp [AV.pure] at h
 | .ov _ _ _ _ _,h=>by simp [AV.pure] at h
 | .PD _ _ _,h=>by simp [AV.pure] at h
 | .mr _ _ _,h=>by simp [AV.pure] at h
 | .bn _,_=>rfl
 | .pt _ _,_=>rfl
 | .agg cs,h=>by simp only [AV.oK];rw [Br cs h]
 | .tup cs,h=>by simp only [AV.oK];rw [Br cs h]
 | .fn q a b,h=>by
  simp only [AV.pure,cy] at h;simp only [AV.oK];rw [Br a h.1,Br b h.2]
 | .when b x,h=>by simp only [AV.oK];rw [QY x h]
 | .nq b x,h=>by simp only [AV.oK];rw [QY x h]
 | .atom _,_=>rfl
 | .sl _ _,_=>rfl
 | .rp _ _,_=>rfl
 | .nil,_=>rfl
 | .qm,_=>rfl
theorem Br {f:Nat->Option Nat}:∀ (cs:List AV),AV.qL cs=true->AV.Dg f cs=cs
 | [],_=>rfl
 | c :: cs,h=>by
  simp only [AV.qL,cy] at h;simp only [AV.Dg];rw [QY c h.1,Br cs h.2]
end
theorem adv {w':World} {S':Nat->Prop} {gn:Mu} {o o':Ob} {pl:Place} {c:Array Value} {T:TypeId} (h:kY w' S' gn o' pl c T) (z1:o'.sz=o.sz) (e:o'.len=o.len) (a:o'.pr=o.pr)
  (l:o.len=1) (f:o'.get 0=o.get 0):kY w' S' gn o pl c T:=by
 have b:∀ i,i < o.len->o.get i=o'.get i:=fun i hi=>by
  simp_all
 refine ⟨h.sz.trans z1,z1 ▸ h.eC,z1 ▸ h.cap,e ▸ h.len,h.out,?_,?_,fun g=>by rw [<- f,<- a];exact h.mp (z1.trans g)⟩
 ·intro i hi;rw [b i hi,<- z1];exact h.Co i ad
 ·intro i j x v hi d k;rw [b i hi] at d;rw [<- a];exact h.rep i j x v ad d (by rw [z1];exact k)
theorem amc {w':World} {S':Nat->Prop} {gn:Mu} {o o':Ob} {pl:Place} {c:Array Value} {T:TypeId} (h:kY w' S' gn o' pl c T) (z1:o'.sz=o.sz) (d:o'.len=o.len) (e:o'.pr=o.pr)
  (k:o.pr=false) (a:∀ i,i < o.len->o.get i=o'.get i):kY w' S' gn o pl c T:=by
 refine ⟨h.sz.trans z1,z1 ▸ h.eC,z1 ▸ h.cap,d ▸ h.len,h.out,?_,?_,fun f=>?_⟩
 ·intro i hi;rw [a i hi,<- z1];exact h.Co i ad
 ·intro i j x v hi b g;rw [a i hi] at b;rw [<- e];exact h.rep i j x v ad b (by rw [z1];exact g)
 ·have:=(h.mp (z1.trans f)).2.2.2.1;simp_all
theorem QZ {w':World} {S' b:Nat->Prop} {gn QI:Mu} {o:Ob} {pl:Place} {c:Array Value} {T:TypeId} (h:kY w' S' gn o pl c T) {ps:List Prop} (a:CL o=some ps) (e:bO ps) (f:0 < pl.cap->¬ b pl.eC) :
  kY w' b QI o pl c T:=by
 unfold CL at a;split at a
 ·grind [adu]
 ·split at a
  ·rename_i hb;cases a;simp only [cy] at hb;have g:=Nat.le_of_ble_eq_true hb.2;refine { h with out:=f,rep:=?_,mp:=fun k=>absurd k ad };intro i j x v hi d l;exact (h.rep i j x v hi d l).flat (D3 (e.1 i hi) d) _ _ _
  ·cases a
theorem L6 {w':World} {S' a:Nat->Prop} {gn:Mu} {o:Ob} {pl:Place} {c:Array Value} {T:TypeId} (h:kY w' S' gn o pl c T) (f:∀ b,S' b->a b) (g:0 < pl.cap->¬ a pl.eC):kY w' a gn o pl c T :=
 { h with
  out:=g
  rep:=fun i j x v hi d e=>aE.mono f (fun _ _=>rfl) (h.rep i j x v hi d e) (fun _ _ h=>h)
  mp:=fun k=>let ⟨m0,m1,l,m,n⟩:=h.mp k
   ⟨m0,m1,l,m,fun j x v d e=>aE.mono f (fun _ _=>rfl) (n j x v d e) (fun _ _ h=>h)⟩ }
theorem adw {w':World} {S' l:Nat->Prop} {gn QI:Mu} {o:Ob} {pl:Place} {c:Array Value} {T:TypeId} {ks:List Nat} {nk:Nat} {lone:Bool} (h:kY w' S' gn (o.oK (idx ks)) pl c T)
  {ps:List Prop} (d:Nq ks lone o=some ps) (e:bO ps) (f:lone=true->∀ b,S' b->l b) (m:0 < pl.cap->¬ l pl.eC)
  (hm:∀ k k' pl,back ks nk k=some k'->gn k=some pl->QI k'=some pl):kY w' l QI o pl c T:=by
 unfold Nq at d;split at d
 case h_2 =>
  split at d
  ·grind [idx,Ob.oK,QZ]
  ·rename_i q;split at d
   case h_2=>cases d
   rename_i g;cases d;simp only [cy,Bool.not_eq_true'] at g;have n:=h.oK hm;refine L6 (amc n (by rw [Ob.BE,Ob.BE]) (by grind [Ob.Jf]) (by rw [Ob.Np,Ob.Np]) q fun i hi=>?_) (f g.1) m;have s:gi (o.get i)=true:=e.1 i hi;simp_all [Ob.oK,U7]
 rename_i hq;cases p:o.flat with
 | true =>
  have a:=p;unfold Ob.flat at a;simp only [cy] at a;have g:=dp a.1.1.2;refine adu (adv h (Ob.BE _ _) (Ob.Jf _ _) (Ob.Np _ _) g ?_) p m;grind [Ob.oK,Br,yA]
 | false =>
  rw [p,Bool.false_or,cy] at hq;have f:=f hq.1;have n:=h.oK hm;have t:∀ k i,idx ks k=some i->back ks nk i=some k:=fun k i u=>by
   grind [back,tC]
  have r:kY w' S' QI o pl c T:=by
   have j:=hq.2;unfold Ob.closed at j;cases e:o.pr with
   | true =>
    grind [idx,back,Ob.oK]
   | false =>
    rw [e,Bool.false_or] at j;simp only [cy] at j;refine adv n (by rw [Ob.BE,Ob.BE]) (by grind [Ob.Jf]) (by rw [Ob.Np,Ob.Np]) (dp j.1.2) ?_;simp only [Ob.oK,e];grind [Bq]
  exact L6 r f m
theorem FB {σ:gp} {ks:List Nat} {lone:Bool}:∀ (l:List Nat) (c:List Prop),HJ σ ks lone l=some c->bO c->∀ k∈l,∀ o,aR σ k=some o->∃ ps,Nq ks lone o=some ps/\bO ps
 | [],_,_,_,k,b=>by simp at b
 | a :: r,c,h,hq,k,b=>by
  intro o d;simp only [HJ] at h;split at h
  ·rename_i o1 g;split at h
   ·rename_i p q i e;cases h;obtain ⟨j,f⟩:=bO.app hq;rcases rJ.1 b with rfl | b
    ·simp_all
    ·exact FB r q e f k b o d
   ·cases h
  ·cases h
theorem A1 {lone:Bool}:∀ (σ:gp) (b:List Prop),L3 lone σ=some b->bO b->∀ k o,aR σ k=some o->lone=true\/∃ ps,CL o=some ps/\bO ps
 | [],_,_,_,k,o,h=>by simp [aR] at h
 | (a,x) :: r,b,h,hq,k,o,c=>by
  simp only [L3] at h;split at h
  ·exact .inl rfl
  ·split at h
   ·rename_i p q f d;cases h;obtain ⟨g,e⟩:=bO.app hq;simp only [aR] at c;split at c
    ·simp_all
    ·exact A1 r q d e k o c
   ·cases h
theorem Dh {o:Ob} {ps:List Prop} (h:CL o=some ps) (a:bO ps) (i:Nat):rowOf o i=none:=by
 unfold CL at h;split at h
 ·simp_all [Ob.flat,cy,tA]
 ·split at h
  ·cases h;cases b:rowOf o i with
   | none=>rfl
   | some x =>
    obtain ⟨_,c,d⟩:=gF b;have:=a.1 i c;rw [d] at this;cases this
  ·cases h
theorem Ww {ks:List Nat} {o:Ob} {ps:List Prop} (h:Nq ks false o=some ps) (a:bO ps) (i:Nat):rowOf o i=none:=by
 unfold Nq at h;rw [Bool.false_and,Bool.or_false] at h;split at h
 ·simp_all [Dh,CL,trivial]
 ·split at h
  ·exact Dh h a i
  simp_all
theorem Ph (g:Good E σ S μ w) (Kn:∀ j,j < 16->μ (nk+j)=none) (Af:E.m0<=nk) {f:AV} {args:List AV} {orc:tw} {r:R} {fv:Value} (hf:aE w S μ fv f) {vargs:Array Value} (ha:RL w S μ vargs args)
  (hz:orc.GP=true->∀ b,¬ E.fp b) {ob:FuncId->List AV->gp->Nat->AV->gp->Prop}
  (J:∀ gid as bs zr res gV vs,ob gid as zr orc.ks.length res gV->Good (BD w (fun b=>S b\/HH μ bs b) zr (pz μ orc.ks) orc.ks.length) zr (fun b=>S b\/HH μ bs b) (pz μ orc.ks) w->(∀ k,orc.ks.length<=k->pz μ orc.ks k=none) ->
   RL w (fun b=>S b\/HH μ bs b) (pz μ orc.ks) vs as->Calls P gid vs w fun e w'=>∃ v S' gn,e=.returned v/\Good (BD w (fun b=>S b\/HH μ bs b) zr (pz μ orc.ks) orc.ks.length) gV S' gn w'/\aE w' S' gn v res)
  (h:L4 P ob nk σ f args orc=some r) (hp:bO r.U6) :
  ∃ gid vs,(do let d <- Deferred.ofValue fv vargs;invoke d.target d.args:Sem Next).run P w=.ok (.enter gid vs) w /\
   Calls P gid vs w fun e w'=>∃ v S' gn,e=.returned v/\Ext w S μ w' S' gn/\Good E (js σ r.upd) S' gn w'/\(∀ k,(k < nk\/nk+16<=k)->μ k=none->gn k=none)/\aE w' S' gn v r.val:=by
 unfold L4 at h;split at h
 case h_2=>cases h
 rename_i gid first cap
 split at h
 case h_2=>cases h
 rename_i as bs ps zr Q1 an5 amd;split at h
 case h_2=>cases h
 rename_i arX;rw [cy] at arX;obtain ⟨hnd,afo⟩:=arX;have ame:=QV orc.ks hnd;cases hf with
 | fn f1 f2 f3 f4 =>
 rename_i fvs cvs;refine ⟨gid,fvs ++ vargs ++ cvs,?_,?_⟩
 ·unfold Zb at Q1;split at Q1
  ·rename_i fn hfn;simp only [cy,Bool.not_eq_true'] at Q1;have hb:¬ fn.body=none:=by intro hh;rw [hh] at Q1;simp at Q1
   have Z:¬ fn.name = "runtime.NumGoroutine":=by simpa using Q1.2
   simp [Deferred.ofValue,invoke,callFunc,hfn,Z,hb]
  ·cases Q1
 have hlk:=yz _ _ _ _ an5;have V:=U8 orc.ks 0 zr amd;simp only [Nat.zero_le,if_true,Nat.sub_zero] at V
 -- the state in which the callee begins
 have hps:bO ps:=by
  split at h
  ·split at h
   ·split at h
    ·cases h;exact (bO.app hp.2).2
    ·cases h
   ·split at h
    ·cases h;exact (bO.app hp.2).2
    ·cases h
  ·split at h
   ·cases h;exact (bO.app hp.2).2
   ·cases h
 have Cu:RL w (fun b=>S b\/HH μ bs b) (pz μ orc.ks) (fvs ++ vargs ++ cvs) as:=by
  have hrl:RL w S μ (fvs ++ vargs ++ cvs) (first ++ (args ++ cap)):=by
   have:=RL.append (w:=w) (S:=S) (μ:=μ) ⟨f1,f3⟩ (RL.append ha ⟨f2,f4⟩);rwa [<- Array.append_assoc] at this
  exact amb g hrl _ (fun _ h=>.inl h) an5 hps (fun _ h=>.inr h)
 have lA:∀ k o pl,aR σ k=some o->μ k=some pl->0 < pl.cap->pl.eC < w.heap.size:=fun k o pl l hm s=>by
  obtain ⟨oG,c,T,A,J⟩:=g.rep.ob k o l;rw [hm] at A;cases A;exact gK (J.eC s)
 have ahd:∀ k o pl,aR σ k=some o->μ k=some pl->0 < pl.cap->¬ S pl.eC:=fun k o pl l hm s=>by
  obtain ⟨oG,c,T,A,J⟩:=g.rep.ob k o l;rw [hm] at A;cases A;exact J.out s
 have Pj:∀ i o',aR zr i=some o'->∃ k o,orc.ks[i]?=some k/\aR σ k=some o/\o'=o.oK (idx orc.ks):=by
  intro i o' h;rw [V] at h;simp only [bE,Option.bind_eq_some_iff] at h;obtain ⟨o,⟨k,m,l⟩,rfl⟩:=h;exact ⟨k,o,m,l,rfl⟩
 have adx:∀ i j x v,lV w (pz μ orc.ks) zr i j x v->∃ k,orc.ks[i]?=some k/\lV w μ σ k j x v:=by
  rintro i j x v ⟨o',pl,p,t,y,M⟩;obtain ⟨k,o,m,l,rfl⟩:=Pj i o' p;exact ⟨k,m,o,pl,l,(yy _ _ _ _).1 t,by simpa [pz,m] using y,M⟩
 have ahe:∀ b,afk w zr (pz μ orc.ks) b->(∃ (k i:Nat) (o:Ob) (pl:Place),orc.ks[i]?=some k/\aR σ k=some o/\μ k=some pl/\0 < pl.cap/\pl.eC=b) \/
   ∃ (k i j:Nat) (x:Nat×Nat×(Nat->List AV)) (v:Value),orc.ks[i]?=some k/\lV w μ σ k j x v/\ptrTo v b:=by
  rintro b (⟨i,o',pl,hi,hm,s,hb⟩ | ⟨i,j,x,v,u,hb⟩)
  ·obtain ⟨k,o,m,l,_⟩:=Pj i o' hi;refine .inl ⟨k,i,o,pl,m,l,?_,s,hb⟩;simpa [pz,m] using hm
  ·obtain ⟨k,m,zo⟩:=adx i j x v u;exact .inr ⟨k,i,j,x,v,m,zo,hb⟩
 have ahf:∀ k i x v b,lV w μ σ k i x v->ptrTo v b->¬ HH μ bs b:=by
  rintro k i x v b u hb ⟨k',O,oG,A,K,he⟩;obtain ⟨_,C,Q⟩:=hlk k' O;exact g.mx.obj _ _ _ _ _ u hb k' C oG Q A K he
 have g0:Good (BD w (fun b=>S b\/HH μ bs b) zr (pz μ orc.ks) orc.ks.length) zr (fun b=>S b\/HH μ bs b) (pz μ orc.ks) w:=by
  refine ⟨Fr.refl _ _,fun _ h=>h,?_,fun _ h=>.inl h,⟨?_,?_⟩,fun k o pl m hm s=>.inl (.inl ⟨k,o,pl,m,hm,s,rfl⟩),fun _ _=>rfl,?_⟩
  ·rintro b (hb | ⟨k,m,pl,hm,s,rfl⟩)
   ·exact g.S1 b hb
   ·obtain ⟨_,o,l⟩:=hlk k m;exact lA k o pl l hm s
  ·intro i o' hi;obtain ⟨k,o,m,l,rfl⟩:=Pj i o' hi;obtain ⟨pl,c,T,hm,J⟩:=g.rep.ob k o l;refine ⟨pl,c,T,by simp [pz,m,hm],?_⟩;have p:=J.oK (f:=idx orc.ks) (gn:=pz μ orc.ks) (fun a b pl ha hb=>HI a b pl ha hb);refine p.ext (w':=w) ⟨aH _,fun _ h=>.inl h,fun _ _=>rfl,fun _ _ h=>h⟩ (fun _=>rfl) ?_;rintro s (hS | ⟨k',O,oG,A,K,he⟩)
   ·exact J.out s hS
   ·obtain ⟨Ud,C,Q⟩:=hlk k' O;have Z:k≠k':=fun h=>sa _ _ Ud i (h ▸ m);exact g.rep.ne k k' o C pl oG Z l Q hm A s K he.symm
  ·intro i i' o o' pl oG Z hi z8 hm A s K;obtain ⟨k,oo,m,l,_⟩:=Pj i o hi;obtain ⟨k',oo',O,D1,_⟩:=Pj i' o' z8;have hkk:k≠k':=fun h=>Z (ame i i' k m (h ▸ O));exact g.rep.ne k k' oo oo' pl oG hkk l D1 (by simpa [pz,m] using hm) (by simpa [pz,O] using A) s K
  ·refine g.mx.tr (fun i=>orc.ks.getD i 0) (fun i j x v h=>?_) (fun i j x v i' j' x' v' h h' e=>?_) (fun _ h=>.inl h) (fun _ _=>rfl) (fun i j x v b u h hb=>?_) (fun i o' pl p t y=>?_)
   ·obtain ⟨k,m,u⟩:=adx i j x v h;show lV w μ σ (orc.ks.getD i 0) j x v;rw [lH,m];exact u
   ·obtain ⟨k,m,_⟩:=adx i j x v h;obtain ⟨k',O,_⟩:=adx i' j' x' v' h';have e:orc.ks.getD i 0=orc.ks.getD i' 0:=e;rw [lH,lH,m,O] at e;have e:k=k':=e;exact ame i i' k m (e ▸ O)
   ·obtain ⟨N,F,G,_⟩:=g.mx.eC h hb;exact ⟨rfl,fun hs=>hs.elim F (ahf _ _ _ _ _ h hb),fun _=>.inl (.inr ⟨i,j,x,v,u,hb⟩)⟩
   ·obtain ⟨k,o,m,l,_⟩:=Pj i o' p;exact .inl ⟨k,o,pl,l,by simpa [pz,m] using t,y,rfl⟩
 have ahh:∀ k,orc.ks.length<=k->pz μ orc.ks k=none:=fun k m=>by simp [pz,yZ m]
 -- behind the call
 have GN:∀ k o,aR σ k=some o->k < nk\/nk+16<=k:=by
  intro k o l;rcases Nat.lt_or_ge k nk with p | p
  ·exact .inl p
  ·rcases Nat.lt_or_ge k (nk+16) with t | t
   ·obtain ⟨pl,c,T,hm,_⟩:=g.rep.ob k o l;have:=Kn (k - nk) ad;rw [show nk+(k - nk)=k by omega,hm] at this;cases this
   ·exact .inr t
 have fin:∀ (gV:gp) (B:gp),ob gid as zr orc.ks.length orc.res gV ->
   (∀ n,idx orc.ks n=none->(n < nk\/nk+16<=n)->aR B n=if orc.GP=true/\n∈bs then none else aR σ n) ->
   (∀ j,j < 16->∀ o,aR B (nk+j)=some o->∃ o1,aR gV (orc.ks.length+j)=some o1/\o=o1.oK (back orc.ks nk)) ->
   (∀ (w':World) (S' LK:Nat->Prop) (gn:Mu),((bs.isEmpty || orc.GP)=true->∀ b,S' b->LK b)->∀ j,j < 16->∀ o1 pl c T,aR gV (orc.ks.length+j)=some o1->kY w' S' gn o1 pl c T->(0 < pl.cap->¬ LK pl.eC)->kY w' LK gn o1 pl c T) ->
   (∀ (w':World) (S' LK:Nat->Prop) (gn Zd:Mu),Good (BD w (fun b=>S b\/HH μ bs b) zr (pz μ orc.ks) orc.ks.length) gV S' gn w'->((bs.isEmpty || orc.GP)=true->∀ b,S' b->LK b) ->
    (∀ k k' pl,back orc.ks nk k=some k'->gn k=some pl->Zd k'=some pl)->∀ (k i:Nat) (o:Ob) (pl:Place),orc.ks[i]?=some k->aR B k=some o->μ k=some pl->(0 < pl.cap->¬ LK pl.eC)->∃ c T,kY w' LK Zd o pl c T) ->
   (∀ (k i:Nat) (o:Ob),orc.ks[i]?=some k->aR B k=some o->(∃ o1,aR σ k=some o1)/\∃ C,aR gV i=some C) ->
   (∀ (k i:Nat) (o:Ob),orc.ks[i]?=some k->aR B k=some o->∀ j x,rowOf o j=some x->∃ C,aR gV i=some C/\rowOf C j=some x) ->
   ((bs.isEmpty || orc.GP)=false->∀ n o,aR gV n=some o->∀ i,rowOf o i=none) ->
   Calls P gid (fvs ++ vargs ++ cvs) w fun e w'=>∃ v S' gn,e=.returned v/\Ext w S μ w' S' gn/\Good E B S' gn w'/\(∀ k,(k < nk\/nk+16<=k)->μ k=none->gn k=none)/\aE w' S' gn v (orc.res.oK (back orc.ks nk)):=by
  intro gV B apg Wx alZ arY auA amg arZ aph;refine (J gid as bs zr _ _ _ apg g0 ahh Cu).mono ?_;rintro e w' ⟨v,S',gn,rfl,z,u⟩;have Ze:∀ b,b < w.heap.size->(∀ (k i:Nat) (o:Ob) (pl:Place),orc.ks[i]?=some k->aR σ k=some o->μ k=some pl->0 < pl.cap->pl.eC≠b) ->
    (∀ (k i j:Nat) (x:Nat×Nat×(Nat->List AV)) (v:Value),orc.ks[i]?=some k->lV w μ σ k j x v->¬ ptrTo v b)->w'.heap[b]?=w.heap[b]?:=by
   intro b hb Ud auB;refine z.fr.eC b hb fun PG=>?_;rcases ahe b PG with ⟨k,i,o,pl,m,l,hm,s,he⟩ | ⟨k,i,j,x,v,m,u,he⟩
   ·exact Ud k i o pl m l hm s he
   ·exact auB k i j x v m u he
  have hSb:∀ b,S b->w'.heap[b]?=w.heap[b]?:=fun b hb=>Ze b (g.S1 b hb) (fun k i o pl m l hm s he=>ahd k o pl l hm s (he ▸ hb)) fun k i j x v m u he=>(g.mx.eC u he).2.1 hb
  let Zd:Mu:=fun k=>if nk<=k/\k < nk+16 then gn (orc.ks.length+(k - nk)) else μ k
  have Q2:∀ k,(k < nk\/nk+16<=k)->Zd k=μ k:=fun k m=>by
   show (if nk<=k/\k < nk+16 then _ else _)=_;rw [if_neg ad]
  have Q3:∀ j,j < 16->Zd (nk+j)=gn (orc.ks.length+j):=fun j H=>by
   show (if nk<=nk+j/\nk+j < nk+16 then _ else _)=_;rw [if_pos ad];congr 1;omega
  have amh:∀ k pl,μ k=some pl->Zd k=some pl:=by
   intro k pl m;have D:k < nk\/nk+16<=k:=by
    rcases Nat.lt_or_ge k nk with p | p
    ·exact .inl p
    ·rcases Nat.lt_or_ge k (nk+16) with t | t
     ·have:=Kn (k - nk) ad;rw [show nk+(k - nk)=k by omega,m] at this;cases this
     ·exact .inr t
   rw [Q2 k D];exact m
  have GR:∀ k k' pl,back orc.ks nk k=some k'->gn k=some pl->Zd k'=some pl:=by
   intro k k' pl m hm;unfold back at m;split at m
   ·rename_i q hq;cases m;have lA:k < orc.ks.length:=(gW.1 hq).1;rw [z.LO k lA] at hm;have:pz μ orc.ks k=some pl:=hm;refine amh _ _ ?_;simpa [pz,show orc.ks[k]?=some _ from hq] using this
   ·rename_i hq;split at m
    ·rename_i hb;cases m;have lA:k < orc.ks.length+16:=by
      simp only [Nat.blt,Nat.ble_eq] at hb;exact hb
     have hge:orc.ks.length<=k:=List.getElem?_eq_none_iff.1 hq;rw [Q3 _ ad,show orc.ks.length+(k - orc.ks.length)=k by omega];exact hm
    ·cases m
  let SF:Nat->Prop:=fun b=>S b\/(orc.GP=true/\HH μ bs b)\/(S' b/\w.heap.size<=b)
  have hSF:∀ b,SF b->S' b:=by
   rintro b (p | ⟨_,p⟩ | ⟨p,_⟩)
   ·exact z.S0 b (.inl p)
   ·exact z.S0 b (.inr p)
   ·exact p
  have hSS:(bs.isEmpty || orc.GP)=true->∀ b,S' b->SF b:=by
   intro he b hb;rcases z.S2 b hb with (p | h0) | p
   ·exact .inl p
   ·rcases Bool.or_eq_true_iff.1 he with he | he
    ·obtain ⟨k,m,_⟩:=h0;rw [List.isEmpty_iff] at he;rw [he] at m;simp at m
    ·exact .inr (.inl ⟨he,h0⟩)
   ·exact .inr (.inr ⟨hb,p⟩)
  have U:∀ k o,aR B k=some o->(k < nk\/nk+16<=k)->∃ o1,aR σ k=some o1:=by
   intro k o l D;cases hi:idx orc.ks k with
   | none =>
    rw [Wx k hi D] at l;split at l
    ·cases l
    ·exact ⟨o,l⟩
   | some i=>exact (amg k i o (tC _ _ _ hi) l).1
  have hnl:∀ k o,aR B k=some o->orc.GP=true->k ∉ bs:=by
   intro k o l hz' m;obtain ⟨Ud,C,Q⟩:=hlk k m;rw [Wx k Ud (GN k C Q),if_pos ⟨hz',m⟩] at l;cases l
  have Va:∀ k o0 o pl,aR B k=some o0->aR σ k=some o->μ k=some pl->0 < pl.cap->¬ SF pl.eC:=by
   rintro k o0 o pl wi l hm s (p | ⟨hz',k',O,oG,A,K,he⟩ | ⟨_,p⟩)
   ·exact ahd k o pl l hm s p
   ·obtain ⟨_,C,Q⟩:=hlk k' O;have Z:k≠k':=fun h=>hnl k o0 wi hz' (h ▸ O);exact g.rep.ne k k' o C pl oG Z l Q hm A s K he.symm
   ·have:=lA k o pl l hm s;omega
  -- a new object, as the callee has left it
  have abj:∀ j,j < 16->∀ o,aR B (nk+j)=some o->∃ o1 pl c T,aR gV (orc.ks.length+j)=some o1/\o=o1.oK (back orc.ks nk)/\gn (orc.ks.length+j)=some pl/\kY w' S' gn o1 pl c T:=by
   intro j H o l;obtain ⟨o1,p,t⟩:=alZ j H o l;obtain ⟨pl,c,T,y,M⟩:=z.rep.ob _ o1 p;exact ⟨o1,pl,c,T,p,t,y,M⟩
  have HK:∀ k,(k < nk\/nk+16<=k)\/∃ j,j < 16/\k=nk+j:=fun k=>by
   rcases Nat.lt_or_ge k nk with p | p
   ·exact .inl (.inl p)
   ·rcases Nat.lt_or_ge k (nk+16) with t | t
    ·exact .inr ⟨k - nk,ad,ad⟩
    ·exact .inl (.inr t)
  -- the block of a new object is none of the caller's
  have an6:∀ j o1 pl,aR gV (orc.ks.length+j)=some o1->gn (orc.ks.length+j)=some pl->0 < pl.cap ->
    (∃ (k i:Nat) (o:Ob) (oG:Place),orc.ks[i]?=some k/\aR σ k=some o/\μ k=some oG/\0 < oG.cap/\oG.eC=pl.eC) \/
    (∃ (k i j:Nat) (x:Nat×Nat×(Nat->List AV)) (v:Value),orc.ks[i]?=some k/\lV w μ σ k j x v/\ptrTo v pl.eC)\/w.heap.size<=pl.eC:=by
   intro j o1 pl p t y;rcases z.own _ o1 pl p t y with M | M
   ·exact (ahe _ M).elim .inl fun h=>.inr (.inl h)
   ·exact .inr (.inr M)
  -- new and old ones lie apart
  have ahi:∀ j,j < 16->∀ k o o' pl oG,aR B (nk+j)=some o->aR B k=some o'->(k < nk\/nk+16<=k)->Zd (nk+j)=some pl->Zd k=some oG->0 < pl.cap->0 < oG.cap->pl.eC≠oG.eC:=by
   intro j H k o o' pl oG l D1 D hm A s K he;obtain ⟨o1,LL,c1,T1,p,t,y,M⟩:=abj j H o l;rw [Q3 j H,y] at hm;cases hm;rw [Q2 k D] at A;cases hi:idx orc.ks k with
   | some i =>
    have I:=tC _ _ _ hi;obtain ⟨_,C,Q⟩:=amg k i o' I D1;have Cv:i < orc.ks.length:=(gW.1 I).1;have L0:gn i=some oG:=by
     rw [z.LO i Cv];show pz μ orc.ks i=_;simp [pz,I,A]
    exact z.rep.ne (orc.ks.length+j) i o1 C pl oG ad p Q y L0 s K he
   | none =>
    obtain ⟨o3,ho3⟩:=U k o' D1 D;rcases an6 j o1 pl p y s with ⟨k2,W,o4,X,N,F,G,q4,q5⟩ | ⟨k2,W,j2,x2,v2,N,F,G⟩ | h5
    ·have Z:k2≠k:=fun h=>sa _ _ hi W (h ▸ N);exact g.rep.ne k2 k o4 o3 X oG Z F ho3 G A q4 K (q5.trans he)
    ·exact g.mx.obj _ _ _ _ _ F G k o3 oG ho3 A K he.symm
    ·have:=lA k o3 oG ho3 A K;omega
  have ext:Ext w S μ w' SF Zd:=⟨z.fr.size,fun _ h=>.inl h,hSb,amh⟩
  -- the rows
  have cls:∀ k i x v,lV w' Zd B k i x v->(idx orc.ks k=none/\(k < nk\/nk+16<=k)/\lV w μ σ k i x v)\/((bs.isEmpty || orc.GP)=true/\∃ q,back orc.ks nk q=some k/\lV w' gn gV q i x v):=by
   rintro k i x v ⟨o,pl,p,t,y,M⟩;have an7:∀ n C,aR gV n=some C->rowOf C i=some x->(bs.isEmpty || orc.GP)=true:=by
    intro n C Q eP;cases L:(bs.isEmpty || orc.GP) with
    | true=>rfl
    | false=>rw [aph L n C Q i] at eP;cases eP
   rcases HK k with D | ⟨j,H,rfl⟩
   ·cases hi:idx orc.ks k with
    | none =>
     have wi:=p;rw [Wx k hi D] at wi;split at wi
     ·cases wi
     rw [Q2 k D] at y;obtain ⟨AZ,c,T,hm,J⟩:=g.rep.ob k o wi;rw [y] at hm;cases hm;refine .inl ⟨rfl,D,o,pl,wi,t,y,?_⟩;have s:0 < pl.cap:=by have:=(gF t).2.1;have:=J.len;omega
     rw [<- M];refine (zl (Ze _ (gK (J.eC s)) ?_ ?_) _).symm
     ·intro k' i' o' oG O D1 A K he;have Z:k'≠k:=fun h=>sa _ _ hi i' (h ▸ O);exact g.rep.ne k' k o' o oG pl Z D1 wi A y K s he
     ·intro k' i' j' x' v' O zo he;exact g.mx.obj _ _ _ _ _ zo he k o pl wi y s rfl
    | some i0 =>
     have I:=tC _ _ _ hi;obtain ⟨C,Q,eP⟩:=arZ k i0 o I p i x t;have Cv:i0 < orc.ks.length:=(gW.1 I).1;refine .inr ⟨an7 i0 C Q eP,i0,by unfold back;rw [I],C,pl,Q,eP,?_,M⟩;rw [z.LO i0 Cv];rw [Q2 k D] at y;show pz μ orc.ks i0=_;simp [pz,I,y]
   ·obtain ⟨o1,N,F⟩:=alZ j H o p;rw [F] at t;have eP:=(yy _ _ _ _).1 t;refine .inr ⟨an7 _ o1 N eP,orc.ks.length+j,?_,o1,pl,N,eP,by rw [<- Q3 j H];exact y,M⟩;unfold back;rw [yZ ad];have:Nat.blt (orc.ks.length+j) (orc.ks.length+16)=true:=by simp only [Nat.blt,Nat.ble_eq];omega
    rw [this];simp
  have ar0:∀ k i x v b,lV w μ σ k i x v->ptrTo v b->idx orc.ks k=none->w'.heap[b]?=w.heap[b]?/\¬ SF b:=by
   intro k i x v b u hb hi;obtain ⟨N,F,G,_⟩:=g.mx.eC u hb;refine ⟨Ze b N (fun k' i' o' oG O D1 A K he=>g.mx.obj _ _ _ _ _ u hb k' o' oG D1 A K he) (fun k' i' j' x' v' O zo he=>?_),?_⟩
   ·obtain ⟨e1,_⟩:=g.mx.two _ _ _ _ _ _ _ _ _ u zo hb he;exact sa _ _ hi i' (e1 ▸ O)
   ·rintro (p | ⟨_,p⟩ | ⟨_,p⟩)
    ·exact F p
    ·exact ahf _ _ _ _ _ u hb p
    ·omega
  have ahk:∀ k i x v b,lV w μ σ k i x v->ptrTo v b->idx orc.ks k=none->∀ b',(afk w zr (pz μ orc.ks) b'\/w.heap.size<=b')->b'≠b:=by
   rintro k i x v b u hb hi b' (p | p) rfl
   ·rcases ahe _ p with ⟨k2,W,o4,X,N,F,G,q4,q5⟩ | ⟨k2,W,j2,x2,v2,N,F,G⟩
    ·exact g.mx.obj _ _ _ _ _ u hb k2 o4 X F G q4 q5
    ·obtain ⟨e1,_⟩:=g.mx.two _ _ _ _ _ _ _ _ _ u F hb G;exact sa _ _ hi W (e1 ▸ N)
   ·have:=(g.mx.eC u hb).1;omega
  have auD:MX E.fp E.w0.heap.size w' SF Zd B:=by
   refine ⟨fun k i x v h=>?_,fun k i x v b h hb k' o' oG p t y=>?_,fun k i x v b k' i' x' v' h h' hb D5=>?_⟩
   ·rcases cls k i x v h with ⟨hi,D,u⟩ | ⟨L,q,hq,u⟩
    ·exact (g.mx.row _ _ _ _ u).ext (fun _ h=>.inl h) hSb fun b hb=>let ⟨a1,a2⟩:=ar0 _ _ _ _ _ u hb hi;⟨a1,a2,fun h=>h⟩
    ·refine (z.mx.row _ _ _ _ u).ext (hSS L) (fun _ _=>rfl) fun b hb=>⟨rfl,fun hs=>(z.mx.eC u hb).2.1 (hSF b hs),?_⟩;rintro (p | p)
     ·rcases ahe _ p with ⟨k2,W,o4,X,N,F,G,q4,q5⟩ | ⟨k2,W,j2,x2,v2,N,F,G⟩
      ·rw [<- q5];exact g.own k2 o4 X F G q4
      ·exact (g.mx.eC F G).2.2.1
     ·exact .inr (gf g.fr.size p)
   ·rcases cls k i x v h with ⟨hi,D,u⟩ | ⟨L,q,hq,u⟩
    ·rcases HK k' with Wu | ⟨j',Hk,rfl⟩
     ·obtain ⟨C,Q⟩:=U k' o' p Wu;rw [Q2 k' Wu] at t;exact g.mx.obj _ _ _ _ _ u hb k' C oG Q t y
     ·obtain ⟨o1,LL,c1,T1,N,F,G,q4⟩:=abj j' Hk o' p;rw [Q3 j' Hk,G] at t;cases t;exact ahk _ _ _ _ _ u hb hi _ (z.own _ o1 oG N G y)
    ·rcases HK k' with Wu | ⟨j',Hk,rfl⟩
     ·rw [Q2 k' Wu] at t;cases hi:idx orc.ks k' with
      | some W =>
       have I:=tC _ _ _ hi;obtain ⟨_,C,Q⟩:=amg k' W o' I p;have Cv:W < orc.ks.length:=(gW.1 I).1;have L0:gn W=some oG:=by
        rw [z.LO W Cv];show pz μ orc.ks W=_;simp [pz,I,t]
       exact z.mx.obj _ _ _ _ _ u hb W C oG Q L0 y
      | none =>
       obtain ⟨o3,ho3⟩:=U k' o' p Wu;intro he;rcases (z.mx.eC u hb).2.2.1 with M | M
       ·rcases ahe _ M with ⟨k2,W,o4,X,N,F,G,q4,q5⟩ | ⟨k2,W,j2,x2,v2,N,F,G⟩
        ·have Z:k2≠k':=fun h=>sa _ _ hi W (h ▸ N);exact g.rep.ne k2 k' o4 o3 X oG Z F ho3 G t q4 y (q5.trans he.symm)
        ·exact g.mx.obj _ _ _ _ _ F G k' o3 oG ho3 t y he
       ·have:=lA k' o3 oG ho3 t y;have M:w.heap.size<=b:=M;omega
     ·obtain ⟨o1,LL,c1,T1,N,F,G,q4⟩:=abj j' Hk o' p;rw [Q3 j' Hk,G] at t;cases t;exact z.mx.obj _ _ _ _ _ u hb _ o1 oG N G y
   ·rcases cls k i x v h with ⟨hi,D,u⟩ | ⟨L,q,hq,u⟩<;>rcases cls k' i' x' v' h' with ⟨z8,Wu,zo⟩ | ⟨ayd,q',Wt,zo⟩
    ·exact g.mx.two _ _ _ _ _ _ _ _ _ u zo hb D5
    ·exact (ahk _ _ _ _ _ u hb hi _ (z.mx.eC zo D5).2.2.1 rfl).elim
    ·exact (ahk _ _ _ _ _ zo D5 z8 _ (z.mx.eC u hb).2.2.1 rfl).elim
    ·obtain ⟨e1,e2⟩:=z.mx.two _ _ _ _ _ _ _ _ _ u zo hb D5;rw [e1,Wt] at hq;exact ⟨(Option.some.inj hq).symm,e2⟩
  refine ⟨v,SF,Zd,rfl,ext,⟨?_,fun b h=>.inl (g.S0 b h),?_,?_,⟨?_,?_⟩,?_,fun k m=>by rw [Q2 k (.inl ad)];exact g.LO k m,auD⟩,fun k D h=>by rw [Q2 k D];exact h,?_⟩
  ·refine ⟨z.fr.os.trans g.fr.os,z.fr.tape.trans g.fr.tape,z.fr.output.trans g.fr.output,gf g.fr.size z.fr.size,fun b hb hnf=>?_⟩;rw [<- g.fr.eC b hb hnf];refine Ze b (rH hb g.fr.size) ?_ ?_
   ·intro k i o pl m l hm s he;rcases g.own k o pl l hm s with p | p
    ·exact hnf (he ▸ p)
    ·have:pl.eC=b:=he;omega
   ·intro k i j x v m u he;rcases (g.mx.eC u he).2.2.1 with p | p
    ·exact hnf p
    ·omega
  ·rintro b (hb | ⟨_,k,m,pl,hm,s,rfl⟩ | ⟨hb,_⟩)
   ·exact rH (g.S1 b hb) z.fr.size
   ·obtain ⟨_,o,l⟩:=hlk k m;exact rH (lA k o pl l hm s) z.fr.size
   ·exact z.S1 b hb
  ·rintro b (hb | ⟨hz',k,m,pl,hm,s,rfl⟩ | ⟨_,hb⟩)
   ·exact g.S2 b hb
   ·obtain ⟨_,o,l⟩:=hlk k m;rcases g.own k o pl l hm s with p | p
    ·exact (hz hz' _ p).elim
    ·exact .inr p
   ·exact .inr (gf g.fr.size hb)
  ·intro k o l;rcases HK k with D | ⟨j,H,rfl⟩
   ·cases hi:idx orc.ks k with
    | none =>
     have wi:=l;rw [Wx k hi D] at l;split at l
     ·cases l
     obtain ⟨pl,c,T,hm,J⟩:=g.rep.ob k o l;refine ⟨pl,c,T,amh _ _ hm,J.ext ext ?_ (Va k o o pl wi l hm)⟩;intro s;refine Ze _ (gK (J.eC s)) ?_ (fun k' i' j' x' v' O zo he=>g.mx.obj _ _ _ _ _ zo he k o pl l hm s rfl);intro k' i' o' oG O D1 A K he;have Z:k'≠k:=fun h=>sa _ _ hi i' (h ▸ O);exact g.rep.ne k' k o' o oG pl Z D1 l A hm K s he
    | some i =>
     have m:=tC _ _ _ hi;obtain ⟨⟨o1,Y⟩,_⟩:=amg k i o m l;obtain ⟨pl,c,T,hm,_⟩:=g.rep.ob k o1 Y;obtain ⟨c',T',J⟩:=auA w' S' SF gn Zd z hSS GR k i o pl m l hm (Va k o o1 pl l Y hm);exact ⟨pl,c',T',amh _ _ hm,J⟩
   ·obtain ⟨o1,pl,c,T,p,t,y,M⟩:=abj j H o l;have h5:=arY w' S' SF gn hSS j H o1 pl c T p M (fun s hb=>M.out s (hSF _ hb));exact ⟨pl,c,T,by rw [Q3 j H];exact y,by rw [t];exact h5.oK GR⟩
  ·intro k k' o o' pl oG Z l D1 hm A s K;rcases HK k with D | ⟨j,H,rfl⟩
   ·rcases HK k' with Wu | ⟨j',Hk,rfl⟩
    ·obtain ⟨o1,Y⟩:=U k o l D;obtain ⟨C,Q⟩:=U k' o' D1 Wu;rw [Q2 k D] at hm;rw [Q2 k' Wu] at A;exact g.rep.ne k k' o1 C pl oG Z Y Q hm A s K
    ·exact fun he=>ahi j' Hk k o' o oG pl D1 l D A hm K s he.symm
   ·rcases HK k' with Wu | ⟨j',Hk,rfl⟩
    ·exact ahi j H k' o o' pl oG l D1 Wu hm A s K
    ·obtain ⟨o1,LL,c1,T1,p,t,y,M⟩:=abj j H o l;obtain ⟨C,AZ,c2,T2,k1,k2,k3,k4⟩:=abj j' Hk o' D1;rw [Q3 j H,y] at hm;cases hm;rw [Q3 j' Hk,k3] at A;cases A;exact z.rep.ne _ _ o1 C pl oG ad p k1 y k3 s K
  ·intro k o pl l hm s;rcases HK k with D | ⟨j,H,rfl⟩
   ·obtain ⟨o1,Y⟩:=U k o l D;rw [Q2 k D] at hm;exact g.own k o1 pl Y hm s
   ·obtain ⟨o1,LL,c1,T1,p,t,y,M⟩:=abj j H o l;rw [Q3 j H,y] at hm;cases hm;rcases an6 j o1 pl p y s with ⟨k2,W,o4,X,N,F,G,q4,q5⟩ | ⟨k2,W,j2,x2,v2,N,F,G⟩ | h5
    ·rw [<- q5];exact g.own k2 o4 X F G q4
    ·exact (g.mx.eC F G).2.2.1
    ·exact .inr (gf g.fr.size h5)
  ·cases he:(bs.isEmpty || orc.GP) with
   | true=>exact (u.oK (f:=back orc.ks nk) GR).mono (hSS he) (fun _ _=>rfl) (fun _ _ h=>h)
   | false =>
    rw [he,Bool.false_or] at afo;exact (u.YV afo w' SF).oK (f:=back orc.ks nk) GR
 split at h
 ·split at h
  ·split at h
   ·rename_i qs YW;cases h;obtain ⟨hq,_⟩:=bO.app hp.2;have hks:∀ k i:Nat,orc.ks[i]?=some k->∀ o,aR (js σ (D9 orc.GP bs)) k=some o->aR σ k=some o:=fun k i m o l=>by
     rw [sd] at l;split at l
     ·cases l
     ·exact l
    refine fin zr _ hp.1 (fun n _ _=>sd _ _ _ _) ?_ ?_ ?_ ?_ ?_ ?_
    ·intro j H o l;have l:aR (js σ (D9 orc.GP bs)) (nk+j)=some o:=l;rw [sd] at l;split at l
     ·cases l
     ·rcases GN _ o l with p | p<;>omega
    ·intro w' S' LK gn _ j H o1 pl c T p;obtain ⟨k,o,m,_⟩:=Pj _ o1 p;rw [yZ ad] at m;cases m
    ·intro w' S' LK gn Zd z hS GR k i o pl m l hm hfr;have l:=hks k i m o l;obtain ⟨ps',hso,hsp⟩:=FB _ _ YW hq k (List.mem_of_getElem? m) o l;have hci:aR zr i=some (o.oK (idx orc.ks)):=by rw [V];simp [m,l]
     obtain ⟨AZ,c,T,Jc,J⟩:=z.rep.ob i _ hci;have lA:i < orc.ks.length:=(gW.1 m).1;rw [z.LO i lA] at Jc;have:μ k=some AZ:=by simpa [BD,pz,m] using Jc
     rw [hm] at this;cases this;exact ⟨c,T,adw J hso hsp hS hfr GR⟩
    ·intro k i o m l;have l:=hks k i m o l;exact ⟨⟨o,l⟩,o.oK (idx orc.ks),by rw [V];simp [m,l]⟩
    ·intro k i o m l j x hx;have l:=hks k i m o l;exact ⟨o.oK (idx orc.ks),by rw [V];simp [m,l],(yy _ _ _ _).2 hx⟩
    ·intro L n o' D1 i;obtain ⟨k,o,m,l,rfl⟩:=Pj n o' D1;obtain ⟨ps',hso,hsp⟩:=FB _ _ YW hq k (List.mem_of_getElem? m) o l;rw [L] at hso;cases hr:rowOf (o.oK (idx orc.ks)) i with
     | none=>rfl
     | some x =>
      have:=(yy _ _ _ _).1 hr;rw [Ww hso hsp] at this;cases this
   ·cases h
  ·rename_i q τ aye;split at h
   ·rename_i qs Ul YW an8;cases h;obtain ⟨hq,_⟩:=bO.app hp.2;simp only [cy] at an8;obtain ⟨⟨hge,ar1⟩,auG⟩:=an8;have ady:∀ k i:Nat,orc.ks[i]?=some k->k < nk\/nk+16<=k:=fun k i m=>by
     obtain ⟨o,l⟩:=Jg orc.ks 0 zr amd k (List.mem_of_getElem? m);exact GN k o l
    have hks:∀ k i:Nat,orc.ks[i]?=some k->∀ o,aR (js σ (JN orc.ks nk (q :: τ) ++ D9 orc.GP bs)) k=some o->aR σ k=some o:=fun k i m o l=>by
     rw [kE,sd] at l;split at l
     ·cases l
     ·rw [Ea _ _ _ ar1 (ady k i m)] at l;exact l
    have Um:∀ i:Nat,i < orc.ks.length->aR (zr ++ q :: τ) i=aR zr i:=fun i hi=>by
     rw [QW];cases hs:aR zr i with
     | some o=>rfl
     | none=>exact U9 hge i hi
    have ar2:∀ j:Nat,aR (zr ++ q :: τ) (orc.ks.length+j)=aR (q :: τ) (orc.ks.length+j):=fun j=>by
     rw [QW];have:aR zr (orc.ks.length+j)=none:=by rw [V];simp
     rw [this]
    refine fin (zr ++ q :: τ) _ hp.1 ?_ ?_ ?_ ?_ ?_ ?_ ?_
    ·intro n D hnn;show aR (js σ (JN orc.ks nk (q :: τ) ++ D9 orc.GP bs)) n=_;rw [kE,sd,Ea _ _ _ ar1 hnn]
    ·intro j H o l;have l:aR (js σ (JN orc.ks nk (q :: τ) ++ D9 orc.GP bs)) (nk+j)=some o:=l;rw [kE,sd] at l;split at l
     ·cases l
     rw [L5 _ _ _ auG] at l;split at l
     ·rename_i o1 Y;cases l;exact ⟨o1,(ar2 j).trans Y,rfl⟩
     ·rcases GN _ o l with p | p<;>omega
    ·intro w' S' LK gn hS j H o1 pl c T p t y;exact L6 t (hS Ul) y
    ·intro w' S' LK gn Zd z hS GR k i o pl m l hm hfr;have l:=hks k i m o l;obtain ⟨ps',hso,hsp⟩:=FB _ _ YW hq k (List.mem_of_getElem? m) o l;have lA:i < orc.ks.length:=(gW.1 m).1;have hci:aR (zr ++ q :: τ) i=some (o.oK (idx orc.ks)):=by rw [Um i lA,V];simp [m,l]
     obtain ⟨AZ,c,T,Jc,J⟩:=z.rep.ob i _ hci;rw [z.LO i lA] at Jc;have:μ k=some AZ:=by simpa [BD,pz,m] using Jc
     rw [hm] at this;cases this;exact ⟨c,T,adw J hso hsp (fun _=>hS Ul) hfr GR⟩
    ·intro k i o m l;have l:=hks k i m o l;exact ⟨⟨o,l⟩,o.oK (idx orc.ks),by rw [Um i (gW.1 m).1,V];simp [m,l]⟩
    ·intro k i o m l j x hx;have l:=hks k i m o l;exact ⟨o.oK (idx orc.ks),by rw [Um i (gW.1 m).1,V];simp [m,l],(yy _ _ _ _).2 hx⟩
    ·intro amk;rw [Ul] at amk;cases amk
   ·cases h
 ·split at h
  ·rename_i qs YW L;cases h;obtain ⟨hq,_⟩:=bO.app hp.2;rw [cy] at YW;have hbk:∀ n,aR (js σ (GQ orc.ks nk orc.r8 0 orc.ks)) n=match idx orc.ks n with
     | some j=>(aR orc.r8 (0+j)).map (Ob.oK (back orc.ks nk))
     | none=>aR σ n:=fun n=>Nr orc.ks 0 σ n ame
   have auH:∀ k i:Nat,orc.ks[i]?=some k->idx orc.ks k=some i:=by
    intro k i m;cases hi:idx orc.ks k with
    | none=>exact (sa _ _ hi i m).elim
    | some j=>rw [ame i j k m (tC _ _ _ hi)]
   have ady:∀ k i:Nat,orc.ks[i]?=some k->k < nk\/nk+16<=k:=fun k i m=>by
    obtain ⟨o,l⟩:=Jg orc.ks 0 zr amd k (List.mem_of_getElem? m);exact GN k o l
   have ahl:∀ k i:Nat,orc.ks[i]?=some k->∀ o,aR (js σ (GQ orc.ks nk orc.r8 0 orc.ks ++ (JN orc.ks nk orc.r8 ++ D9 orc.GP bs))) k=some o->(aR orc.r8 i).map (Ob.oK (back orc.ks nk))=some o:=by
    intro k i m o l;rw [kE,kE,sd] at l;split at l
    ·cases l
    rw [Ea _ _ _ YW.1 (ady k i m),hbk k,auH k i m] at l;simpa using l
   refine fin orc.r8 _ hp.1 ?_ ?_ ?_ ?_ ?_ ?_ ?_
   ·intro n D hnn;show aR (js σ (GQ orc.ks nk orc.r8 0 orc.ks ++ (JN orc.ks nk orc.r8 ++ D9 orc.GP bs))) n=_;rw [kE,kE,sd,Ea _ _ _ YW.1 hnn,hbk n,D]
   ·intro j H o l;have l:aR (js σ (GQ orc.ks nk orc.r8 0 orc.ks ++ (JN orc.ks nk orc.r8 ++ D9 orc.GP bs))) (nk+j)=some o:=l;rw [kE,kE,sd] at l;split at l
    ·cases l
    rw [L5 _ _ _ YW.2] at l;split at l
    ·rename_i o1 Y;cases l;exact ⟨o1,Y,rfl⟩
    ·rw [hbk] at l;cases hi:idx orc.ks (nk+j) with
     | some i =>
      rcases ady _ i (tC _ _ _ hi) with p | p<;>omega
     | none =>
      rw [hi] at l;rcases GN _ o l with p | p<;>omega
   ·intro w' S' LK gn hS j H o1 pl c T p t y;rcases A1 _ _ L hq _ o1 p with hl | ⟨ps',hf,PG⟩
    ·exact L6 t (hS hl) y
    ·exact QZ t hf PG y
   ·intro w' S' LK gn Zd z hS GR k i o pl m l hm hfr;have l:=ahl k i m o l;simp only [bE] at l;obtain ⟨o1,Y,rfl⟩:=l;obtain ⟨AZ,c,T,Jc,J⟩:=z.rep.ob i _ Y;have lA:i < orc.ks.length:=(gW.1 m).1;rw [z.LO i lA] at Jc;have:μ k=some AZ:=by simpa [BD,pz,m] using Jc
    rw [hm] at this;cases this;refine ⟨c,T,?_⟩;rcases A1 _ _ L hq _ o1 Y with hl | ⟨ps',hf,PG⟩
    ·exact (L6 J (hS hl) hfr).oK GR
    ·exact (QZ (QI:=gn) J hf PG hfr).oK GR
   ·intro k i o m l;have l:=ahl k i m o l;simp only [bE] at l;obtain ⟨o1,Y,_⟩:=l;exact ⟨Jg orc.ks 0 zr amd k (List.mem_of_getElem? m),o1,Y⟩
   ·intro k i o m l j x hx;have l:=ahl k i m o l;simp only [bE] at l;obtain ⟨o1,Y,rfl⟩:=l;exact ⟨o1,Y,(yy _ _ _ _).1 hx⟩
   ·intro amk n o1 Y i;rcases A1 _ _ L hq _ o1 Y with hl | ⟨ps',hf,PG⟩
    ·rw [amk] at hl;cases hl
    ·exact Dh hf PG i
  ·cases h
def api:List AV->Bool
 | [.atom v]=>match v with
  | .int k _=>match k with
   | .u8=>true
   | _=>false
  | _=>false
 | _=>false
def u8v:List AV->Int
 | [.atom v]=>match v with
  | .int _ x=>x
  | _=>0
 | _=>0
def strOf (n:Nat) (g:Nat->List AV):ByteArray:=⟨((List.range n).map fun i=>UInt8.ofNat (u8v (g i)).toNat).toArray⟩
theorem aml {l:List AV} (h:api l=true):l=[.atom (.int .u8 (u8v l))]:=by
 unfold api at h;split at h
 ·split at h
  ·split at h
   ·rfl
   ·cases h
  ·cases h
 ·cases h
def Jh (P:Program) (σ:gp) (a dst:TypeId) (x:AV):Option (List Prop×AV×List Nat) :=
 match P.underlying a,P.underlying dst with
 | some .string,some (.slice e)=>match P.underlying e,x with
  | some (.int .u8),.atom (.string b)=>some ([],.sl b.size (fun i=>[.atom (.int .u8 (HF b i))]),[])
  | _,_=>none
 | some (.slice e),some .string=>match P.underlying e,D7 σ 1 x with
  | some (.int .u8),some (n,g,_,ps,rd)=>some ((∀ i,i < n->api (g i)=true) :: ps,.atom (.string (strOf n g)),rd)
  | _,_=>none
 | _,_=>none
theorem foldl_push (l:List Int):∀ (r:ByteArray),l.foldl (fun r n=>r.push (UInt8.ofNat n.toNat)) r=⟨r.data ++ (l.map fun n=>UInt8.ofNat n.toNat).toArray⟩:=by
 induction l with
 | nil=>intro r;simp
 | cons b l a =>
  simp_all
theorem ahm (g:Good E σ S μ w) {d dst:TypeId} {x:AV} {v:Value} (f:aE w S μ v x) {ps:List Prop} {val:AV} {rd:List Nat} (h:Jh P σ d dst x=some (ps,val,rd)) (A:bO ps) :
  Step P E nk σ S μ w (convert d dst v) val []:=by
 unfold Jh at h;split at h
 ·rename_i e p q;split at h
  ·rename_i b he;simp only [bu,bk] at h;obtain ⟨rfl,rfl,rfl⟩:=h;have:=gh f;subst this;have B:=run_bytes_of_string w d dst e b p q he;have y:=g.drew.afc (.cells (bytesRow b (grownCap w b.size 0 e)) e ((bytesRow b (grownCap w b.size 0 e)).size,(bytesRow b (grownCap w b.size 0 e)).size+1));refine ⟨_,_,_,_,B,(Ext.drew w S μ).trans y.1,y.2,fun _ _ h=>h,?_⟩;refine .sl w.heap.size 0 1 (fun i _=>.int .u8 (HF b i)) (fun _=>⟨rfl,.inr rfl⟩) (fun i hi=>rfl) ?_ ?_ ?_
   ·intro i j hi z;have z:j=0:=ad;subst z;have:=World.cell?_alloc_mark w.drew (bytesRow b (grownCap w b.size 0 e)) e ((bytesRow b (grownCap w b.size 0 e)).size,(bytesRow b (grownCap w b.size 0 e)).size+1) i;simp_all [Nat.zero_add,Nat.mul_one,Nat.add_zero,bytesRow,Array.getElem?_append,HF,ByteArray.getElem_eq_getElem_data,getElem?_pos]
   ·intro i j c hi s;cases j with
    | zero=>simp at s;subst s;exact .atom _
    | succ j=>simp at s
   ·simp [grownCap,Question.cut]
  ·cases h
 ·rename_i e p q;split at h
  ·rename_i n gt pr J C he m;simp only [bu,bk] at h;obtain ⟨rfl,rfl,rfl⟩:=h;obtain ⟨D,F⟩:=A;obtain ⟨news,k⟩:=HG g (P:=P) f m F;have t:∃ a len cap,v=.slice a len cap:=by
    unfold D7 at m;split at m
    ·cases f;exact ⟨_,_,_,rfl⟩
    ·cases f;exact ⟨_,_,_,rfl⟩
    ·cases f;exact ⟨_,_,_,rfl⟩
    ·cases m
   obtain ⟨a,len,cap,rfl⟩:=t;have l:len=n:=by
    have:=k.len w;simpa [Builtin.lenOf] using this
   subst l;have G:news=((List.range len).map fun i=>Value.int .u8 (u8v (gt i))):=by
    have K:news.length=len:=by simpa using k.size
    apply List.ext_getElem?;intro i
    by_cases hi:i < len
    ·have H:news[i]?=some (news[i]'ad):=w9 _;have I:=aml (D i hi);have L:=k.rep i 0 _ _ hi (by rw [I];rfl) (by simpa only [Nat.mul_one,Nat.add_zero] using H);grind [gh]
    ·simp_all
   have u:(((List.range len).map fun i=>u8v (gt i)).foldl (fun r n=>r.push (UInt8.ofNat n.toNat)) ByteArray.empty)=strOf len gt:=by
    rw [foldl_push];have o:ByteArray.empty.data=#[]:=rfl;rw [o];simp [strOf]
   refine Step.pure g (v:=.string (strOf len gt)) ?_ (.atom _);rw [run_convert_bytes_string w d dst e a len cap p he q];cases a with
   | none =>
    have:len=0:=by
     rcases Nat.eq_zero_or_pos len with o | o
     ·exact o
     ·have:=k.cells w rfl;simp_all [Builtin.firstCells,congrArg,List.length]
    subst this;rfl
   | some a =>
    rw [<- u];refine run_bytesToString w a len cap _ ?_;have:=k.cells w rfl;grind [Builtin.firstCells,Function.comp_def]
  ·cases h
 ·cases h
open Go.MapKept
def J6 (P:Program) (c:TypeId) (a b:AV):Option Bool :=
 match a,b with
 | .atom a,.atom b=>match a,b with
  | .string s,.string t=>some (LX s t)
  | .int k x,.int k' y=>match decide (k=k') with
   | true=>some (x == y)
   | false=>none
  | _,_=>none
 | .agg ys,.agg xs=>match Nat.beq ys.length xs.length with
  | true=>Nj P 64 c (.agg xs) (.agg ys)
  | false=>none
 | _,_=>none
def look (P:Program) (a:TypeId):List AV->AV->Option (Option AV)
 | k :: v :: r,x=>match J6 P a k x with
  | some true=>some (some v)
  | some false=>look P a r x
  | none=>none
 | [_],_=>none
 | [],_=>some none
def Wy (P:Program) (a:TypeId):List AV->AV->AV->Option (List AV)
 | k :: v :: r,x,y=>match J6 P a k x with
  | some true=>some (k :: y :: r)
  | some false=>(Wy P a r x y).map fun l=>k :: v :: l
  | none=>none
 | [_],_,_=>none
 | [],x,y=>some [x,y]
def allI (k:IntKind):List AV->Bool
 | []=>true
 | .atom (.int k' _) :: r=>match decide (k'=k) with
  | true=>allI k r
  | false=>false
 | _ :: _=>false
def oL (P:Program) (d:TypeDesc) (x:AV):Bool :=
 match d,x with
 | .string,.atom v=>match v with
  | .string _=>true
  | _=>false
 | .int k,.atom v=>match v with
  | .int k' _=>decide (k'=k)
  | _=>false
 | .array n e,.agg xs=>match P.underlying e,Ct P e with
  | some (.int k),some m=>Nat.beq m 1 && Nat.beq xs.length n && allI k xs
  | _,_=>false
 | _,_=>false
def Di (R:Value->AV->Prop):List MapEntry->List AV->Prop
 | [],[]=>True
 | e :: es,k :: v :: cs=>R e.key k/\R e.val v/\Di R es cs
 | _,_=>False
theorem abk (c:Array Value) (i:Nat) (hi:i < c.size / 2):(k8 c)[i]?=some ⟨c[2 * i]?.getD undef,c[2 * i+1]?.getD undef,i⟩:=by
 simp [k8,hi]
theorem HL (c:Array Value):(k8 c).size=c.size / 2:=by simp [k8]
theorem adA {R:Value->AV->Prop} {c:Array Value} {cs:List AV} (g:c.size % 2=0) (k:c.size=cs.length) (l:∀ (j:Nat) x v,cs[j]?=some x->c[j]?=some v->R v x):Di R (k8 c).toList cs:=by
 have key:∀ (n o:Nat),2 * (o+n)=c.size->Di R ((List.range' o n).map fun i=>(⟨c[2 * i]?.getD undef,c[2 * i+1]?.getD undef,i⟩:MapEntry)) (cs.drop (2 * o)):=by
  intro n
  induction n with
  | zero=>intro o h;rw [List.drop_of_length_le ad];trivial
  | succ n b =>
   intro o h;have d:2 * o < cs.length:=ad;have f:2 * o+1 < cs.length:=ad;rw [List.range'_succ,List.map_cons,List.drop_eq_getElem_cons d,List.drop_eq_getElem_cons f];have m:c[2 * o]?=some c[2 * o]:=mT _;have p:c[2 * o+1]?=some c[2 * o+1]:=mT _;have a:=b (o+1) ad;rw [show 2 * (o+1)=2 * o+1+1 by omega] at a;refine ⟨?_,?_,a⟩
   ·grind
   grind
 have:=key (c.size / 2) 0 ad;have e:(k8 c).toList=(List.range' 0 (c.size / 2)).map fun i=>(⟨c[2 * i]?.getD undef,c[2 * i+1]?.getD undef,i⟩:MapEntry):=by
  unfold k8;rw [Array.toList_map,Array.toList_range,List.range_eq_range']
 rw [e];exact this
theorem adB (a b:ByteArray):(a == b)=LX a b:=by
 have c:∀ x:ByteArray,x.toList=x.data.toList:=fun x=>ByteArray.toList_eq x;rw [Bool.eq_iff_iff,bytes_beq];unfold LX;rw [c,c,beq_iff_eq];constructor
 ·rintro rfl;rfl
 ·intro h;cases a;simp_all
theorem FC {d:TypeDesc} {f:TypeId} {c ev:Value} {v:Value} {k:AV} {b:Bool} (e:oL P d (.atom v)=true) {w w':World} {S S':Nat->Prop} {μ gn:Mu} (g:aE w S μ c (.atom v)) (i:aE w' S' gn ev k) (h:J6 P f k (.atom v)=some b) :
  IsKey d c/\Instr.sameNow d c ev=some b/\(b=true->ev=c):=by
 have:=gh g;subst this;cases k with
 | atom u =>
  have:=gh i;subst this;cases d<;>cases c<;>simp [oL] at e
  ·rename_i m k' n;subst e;cases ev<;>simp [J6] at h;rename_i j a
   by_cases l:j=k'
   ·subst l;rw [decide_eq_true rfl] at h;simp only [bu] at h;subst h;refine ⟨rfl,?_,?_⟩
    ·simp only [Instr.sameNow,if_true];grind
    simp
   simp_all
  ·cases ev<;>simp [J6] at h;rename_i s a;subst h;refine ⟨trivial,?_,?_⟩
   ·simp only [Instr.sameNow,adB];congr 1;unfold LX;grind
   ·intro hb;rw [<- adB,bytes_beq] at hb;rw [hb]
 | _=>simp [J6] at h
theorem Zf {d:TypeDesc} {a v:Value} (b:oL P d (.atom v)=true) {w:World} {S:Nat->Prop} {μ:Mu} (c:aE w S μ a (.atom v)):IsKey d a:=by
 have:=gh c;subst this;cases d<;>cases a<;>simp [oL] at b
 ·exact b
 ·trivial
theorem Ji {d:TypeDesc} {xs:List AV} (a:oL P d (.agg xs)=true):∃ n e k,d=.array n e/\P.underlying e=some (.int k)/\Ct P e=some 1/\xs.length=n/\allI k xs=true:=by
 cases d<;>simp [oL] at a;rename_i n e;split at a
 ·rename_i k m b c;simp only [cy] at a;have hm:=dp a.1.1;subst hm;exact ⟨n,e,k,rfl,b,c,dp a.1.2,a.2⟩
 ·cases a
theorem adC {k:IntKind}:∀ {xs:List AV},allI k xs=true->∀ i,i < xs.length->∃ a,xs[i]?=some (.atom (.int k a))
 | [],_,i,h=>by simp at h
 | .atom (.int k' a) :: r,h,i,hi=>by
  unfold allI at h;split at h
  ·rename_i b;have b:=nH b;subst b;cases i with
   | zero=>exact ⟨a,rfl⟩
   | succ i=>simpa using adC h i (by simpa using hi)
  ·cases h
theorem L7 {k:IntKind} {xs:List AV} (h:allI k xs=true) {w:World} {S:Nat->Prop} {μ:Mu} {b:Value} (e:aE w S μ b (.agg xs)):∃ vs:Array Value,b=.agg vs/\vs.size=xs.length/\∀ i,i < xs.length->∃ a,xs[i]?=some (.atom (.int k a))/\vs[i]?=some (.int k a):=by
 obtain ⟨vs,rfl,f,g⟩:=ue e;refine ⟨vs,rfl,f,fun i hi=>?_⟩;obtain ⟨a,c⟩:=adC h i hi;have d:vs[i]?=some vs[i]:=mT _;have:=gh (g i _ _ c d);exact ⟨a,c,by rw [d,this]⟩
theorem Jj {k:IntKind}:∀ {xs:List AV},allI k xs=true->AV.qL xs=true
 | [],_=>rfl
 | .atom (.int k' a) :: r,h=>by
  unfold allI at h;split at h
  ·simpa [AV.qL,AV.pure] using Jj h
  ·cases h
theorem Vb {d:TypeDesc} {q:TypeId} {g l:Value} (m:oL P d (.atom l)=true) {w w':World} {S S':Nat->Prop} {μ gn:Mu} (n:aE w S μ g (.atom l)):∀ (es:List MapEntry) (cs:List AV) (i:Nat) (r:Option AV),Di (aE w' S' gn) es cs->look P q cs (.atom l)=some r ->
  (r=none/\Instr.findNow d g es i=some none)\/∃ (j:Nat) (e:MapEntry) (v:AV),r=some v/\Instr.findNow d g es i=some (some (i+j,e.val))/\aE w' S' gn e.val v
 | [],[],i,r,_,h=>by simp only [look,bu] at h;exact .inl ⟨h.symm,rfl⟩
 | e :: es,k :: v :: cs,i,r,f,h=>by
  obtain ⟨o,s,t⟩:=f;simp only [look] at h;split at h
  ·rename_i hq;cases h;obtain ⟨_,p,_⟩:=FC m n o hq;exact .inr ⟨0,e,v,rfl,by simp [Instr.findNow,p],s⟩
  ·rename_i hq;obtain ⟨_,p,_⟩:=FC m n o hq;rcases Vb m n es cs (i+1) r t h with ⟨a,b⟩ | ⟨j,u,v',a,b,c⟩
   ·grind [Instr.findNow]
   ·exact .inr ⟨j+1,u,v',a,by grind [Instr.findNow],c⟩
  ·cases h
 | [],_ :: _,_,_,f,_=>by simp [Di] at f
 | _ :: _,[],_,_,f,_=>by simp [Di] at f
 | _ :: _,[_],_,_,f,_=>by simp [Di] at f
theorem Zg {d:TypeDesc} {t:TypeId} {m n:Value} {y:AV} (o:oL P d (.atom n)=true) {w w':World} {S S':Nat->Prop} {μ gn:Mu} (p:aE w S μ m (.atom n)):∀ (es:List MapEntry) (cs:List AV) (i:Nat) (g:List AV),Di (aE w' S' gn) es cs->Wy P t cs (.atom n) y=some g ->
  (Instr.findNow d m es i=some none/\g=cs ++ [.atom n,y])\/∃ (j:Nat) (e:MapEntry),Instr.findNow d m es i=some (some (i+j,e.val))/\es[j]?=some e/\e.key=m/\g=cs.set (2 * j+1) y
 | [],[],i,g,_,h=>by simp only [Wy,bu] at h;exact .inl ⟨rfl,h.symm⟩
 | e :: es,k :: v :: cs,i,g,f,h=>by
  obtain ⟨r,B,u⟩:=f;simp only [Wy] at h;split at h
  ·rename_i hq;cases h;obtain ⟨_,s,x⟩:=FC o p r hq;exact .inr ⟨0,e,by simp [Instr.findNow,s],rfl,x rfl,rfl⟩
  ·rename_i hq;obtain ⟨_,s,_⟩:=FC o p r hq;simp only [bE] at h;obtain ⟨l,z,rfl⟩:=h;rcases Zg o p es cs (i+1) l u z with ⟨a,b⟩ | ⟨j,A,a,b,c,q⟩
   ·grind [Instr.findNow]
   ·exact .inr ⟨j+1,A,by grind [Instr.findNow],by simpa using b,c,by grind⟩
  ·cases h
 | [],_ :: _,_,_,f,_=>by simp [Di] at f
 | _ :: _,[],_,_,f,_=>by simp [Di] at f
 | _ :: _,[_],_,_,f,_=>by simp [Di] at f
theorem ahn {e:TypeId} {k:IntKind} (d:P.underlying e=some (.int k)):∀ (D n i:Nat) (xs ys:List AV),J3 P D e 1 xs ys i n=some true->∀ j,i<=j->j < i+n->xs[j]?=ys[j]?/\(xs[j]?).isSome=true:=by
 intro D
 induction D with
 | zero =>
  grind [J3]
 | succ D f =>
  intro n i xs ys h j r s;cases n with
  | zero=>omega
  | succ n =>
   simp only [J3,Nat.mul_one] at h;split at h
   ·rename_i a c _ g m;split at h
    ·rename_i p q b hq;simp only [bu,cy] at h;obtain ⟨rfl,rfl⟩:=h
     by_cases o:j=i
     ·subst o;have cell:∀ (l:List AV) (z:AV),oH P e l j=some z->l[j]?=some z:=fun l z t=>by
       grind [oH]
      rw [cell _ _ g,cell _ _ m];cases D with
      | zero=>simp [Nj] at b
      | succ D =>
       simp only [Nj,d] at b;grind
     ·exact f n (i+1) xs ys hq j ad ad
    ·cases h
   ·cases h
theorem Jk {d:TypeDesc} {f:TypeId} (q:P.underlying f=some d) {xs:List AV} (r:oL P d (.agg xs)=true) {w:World} {S:Nat->Prop} {g ev:Value} {k:AV} {b:Bool} (m:aE w S lI g (.agg xs)) (o:aE w S lI ev k) (h:J6 P f k (.agg xs)=some b) :
  (Op.equal f g ev).run P w=.ok b w/\(b=true->ev=g):=by
 cases k with
 | agg ys =>
  unfold J6 at h;simp only at h;split at h
  ·rename_i p;have p:=dp p;refine ⟨(Y1 64).1 Op.maxDepth f _ _ _ _ _ ay m o h,fun hb=>?_⟩;subst hb;obtain ⟨n,e,C,rfl,s,t,D,u⟩:=Ji r;obtain ⟨vs,rfl,E,v⟩:=L7 u m;obtain ⟨x,rfl,y,z⟩:=ue o;simp only [Nj,q,t] at h;have A:=ahn s _ _ _ _ _ h;congr 1;apply Array.ext
   ·omega
   ·intro i B j;have hi:i < xs.length:=ad;obtain ⟨a,l,c⟩:=v i hi;obtain ⟨hq,_⟩:=A i (Nat.zero_le _) ad;rw [l] at hq;have:=gh (z i _ x[i] hq.symm (mT _));rw [this];rw [mT j] at c;exact (Option.some.inj c).symm
  ·cases h
 | _=>simp [J6] at h
theorem Zh {d:TypeDesc} {g:TypeId} (l:P.underlying g=some d) {xs:List AV} (m:oL P d (.agg xs)=true) {w:World} {S:Nat->Prop} {n:Value} (o:aE w S lI n (.agg xs)):∀ (es:List MapEntry) (cs:List AV) (i:Nat) (r:Option AV),Di (aE w S lI) es cs->look P g cs (.agg xs)=some r ->
  (r=none/\(Instr.findAsking g n es i).run P w=.ok none w)\/∃ (j:Nat) (e:MapEntry) (v:AV),r=some v/\(Instr.findAsking g n es i).run P w=.ok (some (i+j,e.val)) w/\aE w S lI e.val v
 | [],[],i,r,_,h=>by simp_all [look,bu,Instr.findAsking]
 | e :: es,k :: v :: cs,i,r,f,h=>by
  obtain ⟨q,s,t⟩:=f;simp only [look] at h;split at h
  ·rename_i hq;cases h;obtain ⟨p,_⟩:=Jk l m o q hq;exact .inr ⟨0,e,v,rfl,by simp [Instr.findAsking,p,Result.andThen],s⟩
  ·rename_i hq;obtain ⟨p,_⟩:=Jk l m o q hq;rcases Zh l m o es cs (i+1) r t h with ⟨a,b⟩ | ⟨j,u,v',a,b,c⟩
   ·simp_all [Instr.findAsking,Result.andThen]
   ·exact .inr ⟨j+1,u,v',a,by simp [Instr.findAsking,p,Result.andThen,b];omega,c⟩
  ·cases h
 | [],_ :: _,_,_,f,_=>by simp [Di] at f
 | _ :: _,[],_,_,f,_=>by simp [Di] at f
 | _ :: _,[_],_,_,f,_=>by simp [Di] at f
theorem adE {d:TypeDesc} {m:TypeId} (o:P.underlying m=some d) {xs:List AV} {y:AV} (p:oL P d (.agg xs)=true) {w:World} {S:Nat->Prop} {n:Value} (r:aE w S lI n (.agg xs)):∀ (es:List MapEntry) (cs:List AV) (i:Nat) (g:List AV),Di (aE w S lI) es cs->Wy P m cs (.agg xs) y=some g ->
  ((Instr.findAsking m n es i).run P w=.ok none w/\g=cs ++ [.agg xs,y])\/∃ (j:Nat) (e:MapEntry),(Instr.findAsking m n es i).run P w=.ok (some (i+j,e.val)) w/\es[j]?=some e/\e.key=n/\g=cs.set (2 * j+1) y
 | [],[],i,g,_,h=>by simp_all [Wy,bu,Instr.findAsking]
 | e :: es,k :: v :: cs,i,g,f,h=>by
  obtain ⟨t,B,u⟩:=f;simp only [Wy] at h;split at h
  ·rename_i hq;cases h;obtain ⟨s,x⟩:=Jk o p r t hq;exact .inr ⟨0,e,by simp [Instr.findAsking,s,Result.andThen],rfl,x rfl,rfl⟩
  ·rename_i hq;obtain ⟨s,_⟩:=Jk o p r t hq;simp only [bE] at h;obtain ⟨l,z,rfl⟩:=h;rcases adE o p r es cs (i+1) l u z with ⟨a,b⟩ | ⟨j,A,a,b,c,q⟩
   ·simp_all [Instr.findAsking,Result.andThen]
   ·exact .inr ⟨j+1,A,by simp [Instr.findAsking,s,Result.andThen,a];omega,by simpa using b,c,by grind⟩
  ·cases h
 | [],_ :: _,_,_,f,_=>by simp [Di] at f
 | _ :: _,[],_,_,f,_=>by simp [Di] at f
 | _ :: _,[_],_,_,f,_=>by simp [Di] at f
theorem L8 {b:TypeId} {n:Nat} {e:TypeId} (c:P.underlying b=some (.array n e)) {w:World} {vs:Array Value} {es:List MapEntry} {a:Option (Nat×Value)} (h:(Instr.findAsking b (.agg vs) es 0).run P w=.ok a w):(Instr.findKey b (.agg vs) es).run P w=.ok a w:=by
 cases es with
 | nil =>
  simp_all [Instr.findAsking,Instr.findKey,run_underlying,Result.andThen,Instr.findNow]
 | cons z es=>simp_all [Instr.findKey,run_underlying,Result.andThen,Instr.findNow,Instr.sameNow]
theorem aho {d:TypeDesc} {f:TypeId} (l:P.underlying f=some d) {x:AV} (i:oL P d x=true) {w:World} {S:Nat->Prop} {μ:Mu} {g:Value} (m:aE w S μ g x) {es:List MapEntry} {cs:List AV} {r:Option AV} (o:Di (aE w S lI) es cs) (h:look P f cs x=some r) :
  (r=none/\(Instr.findKey f g es).run P w=.ok none w)\/∃ (j:Nat) (e:MapEntry) (v:AV),r=some v/\(Instr.findKey f g es).run P w=.ok (some (j,e.val)) w/\aE w S lI e.val v:=by
 cases x with
 | atom s =>
  rcases Vb i m es cs 0 r o h with ⟨a,b⟩ | ⟨j,e,v,a,b,c⟩
  ·grind [run_findKey]
  ·exact .inr ⟨j,e,v,a,by simp_all [Nat.zero_add,run_findKey],c⟩
 | agg xs =>
  obtain ⟨n,e,k,rfl,_,_,_,p⟩:=Ji i;have q:aE w S lI g (.agg xs):=m.pure (Jj p) lI;obtain ⟨vs,rfl,_,_⟩:=L7 p q;rcases Zh l i q es cs 0 r o h with ⟨a,b⟩ | ⟨j,e,v,a,b,c⟩
  ·grind [L8]
  ·exact .inr ⟨j,e,v,a,by rw [Nat.zero_add] at b;exact L8 l b,c⟩
 | _=>grind [oL]
theorem amm {d:TypeDesc} {g:TypeId} (l:P.underlying g=some d) {x y:AV} (i:oL P d x=true) {w:World} {S:Nat->Prop} {μ:Mu} {c:Value} (m:aE w S μ c x) {es:List MapEntry} {cs f:List AV} (o:Di (aE w S lI) es cs) (h:Wy P g cs x y=some f) :
  ((Instr.findKey g c es).run P w=.ok none w/\f=cs ++ [x,y])\/∃ (j:Nat) (e:MapEntry),(Instr.findKey g c es).run P w=.ok (some (j,e.val)) w/\es[j]?=some e/\e.key=c/\f=cs.set (2 * j+1) y:=by
 cases x with
 | atom r =>
  rcases Zg i m (y:=y) es cs 0 f o h with ⟨a,b⟩ | ⟨j,e,a,b⟩
  ·grind [run_findKey]
  ·exact .inr ⟨j,e,by simp_all [Nat.zero_add,run_findKey],b⟩
 | agg xs =>
  obtain ⟨n,e,k,rfl,_,_,_,p⟩:=Ji i;have q:aE w S lI c (.agg xs):=m.pure (Jj p) lI;obtain ⟨vs,rfl,_,_⟩:=L7 p q;rcases adE l i q (y:=y) es cs 0 f o h with ⟨a,b⟩ | ⟨j,e,a,b⟩
  ·grind [L8]
  ·exact .inr ⟨j,e,by rw [Nat.zero_add] at a;exact L8 l a,b⟩
 | _=>grind [oL]
theorem ahp {d:TypeDesc} {x:AV} (a:oL P d x=true):x.pure=true:=by
 cases x with
 | atom b=>rfl
 | agg xs=>grind [Ji,AV.pure,Jj]
 | _=>grind [oL]
theorem Ve {d:TypeDesc} {h:TypeId} (r:P.underlying h=some d) {x:AV} (s:oL P d x=true) {w:World} {S:Nat->Prop} {μ:Mu} {j:Value} (l:aE w S μ j x) (b:Bool):(Instr.checkKey b 10000 h j).run P w=.ok () w:=by
 cases x with
 | atom I=>grind [run_checkKey,Zf]
 | agg xs =>
  obtain ⟨n,e,k,rfl,o,p,J,t⟩:=Ji s;obtain ⟨vs,rfl,u,y⟩:=L7 t l;obtain ⟨K,c,A,B⟩:=ue l;cases c;have loop:∀ (m i:Nat),i+m=n->(forIn (m:=Sem) (List.range' i m) PUnit.unit fun i _=>do
    let z <- sizeOf e
    let q <- part e vs (i * z)
    Instr.checkKey b 9999 e q
    pure (ForInStep.yield PUnit.unit)).run P w=.ok PUnit.unit w:=by
   intro m
   induction m with
   | zero=>intro i _;simp
   | succ m C =>
    intro i D;have hi:i < xs.length:=ad;obtain ⟨a,f,E⟩:=y i hi;have F:oH P e xs i=some (.atom (.int k a)):=by
     unfold oH;rw [o,p];exact f
    obtain ⟨v,G,H⟩:=oI u B F (fun n' L=>by grind);have:=gh H;subst this;have g:(Instr.checkKey b 9999 e (.int k a)).run P w=.ok () w:=run_checkKey o (show IsKey (.int k) (.int k a) from rfl) b 9998;rw [List.range'_succ,List.forIn_cons];simp only [dk,jg p,Nat.mul_one,G,g,fZ];simpa using C (i+1) ad
  unfold Instr.checkKey;simp only [dk,run_underlying r,fZ];simp_all
 | _=>grind [oL]
theorem afp {d:TypeDesc} {x:AV} (c:oL P d x=true) {w:World} {S:Nat->Prop} {μ:Mu} {b:Value} (g:aE w S μ b x):(Instr.keyThatStays b b).run P w=.ok b w:=by
 cases x with
 | atom r=>exact run_keyThatStays (Zf c g)
 | agg xs =>
  obtain ⟨n,e,k,rfl,s,t,u,m⟩:=Ji c;obtain ⟨vs,rfl,A,o⟩:=L7 m g;have:Instr.sameBits 10000 (.agg vs) (.agg vs)=true:=by
   have p:∀ l:List Value,(∀ v,v∈l->∃ a,v=.int k a)->(l.zip l).all (fun (x,y)=>Instr.sameBits 9999 x y)=true:=by
    intro l
    induction l with
    | nil=>intro _;rfl
    | cons a l q =>
     intro h;obtain ⟨z,rfl⟩:=h a (.head _);simp only [List.zip_cons_cons,List.all_cons,cy];exact ⟨by simp [Instr.sameBits],q fun v f=>h v (.tail _ f)⟩
   simp only [Instr.sameBits,beq_self_eq_true,Bool.true_and];refine p _ fun v f=>?_;obtain ⟨i,hi,rfl⟩:=List.getElem_of_mem f;have hi:i < vs.size:=by simpa using hi
   obtain ⟨a,_,j⟩:=o i ad;rw [mT hi] at j;exact ⟨a,by simpa using Option.some.inj j⟩
  simp [Instr.keyThatStays,this]
 | _=>cases d<;>simp [oL] at c
theorem Zi (c:Array Value) (h:c.size % 2=0) (a b:Value):k8 ((c.push a).push b)=(k8 c).push ⟨a,b,c.size / 2⟩:=by
 apply Array.ext
 ·simp [k8];omega
 ·intro i f g;have j:i < (c.size+1+1) / 2:=by simpa [k8] using f
  by_cases hi:i < c.size / 2
  ·rw [Array.getElem_push_lt (by rw [HL];exact hi)];have d:2 * i < c.size:=ad;have e:2 * i+1 < c.size:=ad;simp [k8,Array.getElem?_push,d,e,Nat.ne_of_lt d,Nat.ne_of_lt e,show ¬ 2 * i=c.size+1 by omega,show ¬ 2 * i+1=c.size+1 by omega]
  ·have:i=c.size / 2:=ad;subst this;have d:2 * (c.size / 2)=c.size:=ad;simp [k8,Array.getElem_push,Array.getElem?_push,d]
theorem abl (c:Array Value) (j:Nat) (e:MapEntry) (he:(k8 c)[j]?=some e) (v:Value):k8 (c.setIfInBounds (2 * j+1) v)=(k8 c).modify j fun q=>{ q with key:=e.key,val:=v }:=by
 have b:j < c.size / 2:=by
  have:=(Array.getElem?_eq_some_iff.1 he).1;rwa [HL] at this
 rw [abk c j b] at he;cases he;apply Array.ext
 ·simp [k8]
 ·intro i d f;have hi:i < c.size / 2:=by simpa [k8] using d
  rw [Array.getElem_modify]
  by_cases a:j=i
  ·subst a;simp [k8,Array.getElem?_setIfInBounds,show ¬ 2 * j+1=2 * j by omega,show 2 * j+1 < c.size by omega]
  ·rw [if_neg a];simp [k8,Array.getElem?_setIfInBounds,show ¬ 2 * j+1=2 * i by omega,show ¬ 2 * j=2 * i by omega,a]
def Eb (P:Program) (σ:gp) (t:TypeId) (m x:AV) (ok:Bool) (orc:tw):Option (List Prop×AV×List Nat) :=
 match m,P.underlying t with
 | .mp k,some (.map a b)=>match P.underlying a,aR σ k,AP P b with
  | some d,some o,some z=>match oL P d x && Nat.beq o.sz 0 with
   | true=>match ok with
    | false=>some ([(look P a (o.get 0) x).map (fun r=>r.getD (ofConst z))=some orc.res],orc.res,[k])
    | true=>some ([(look P a (o.get 0) x).map (fun r=>AV.tup [r.getD (ofConst z),.atom (.bool r.isSome)])=some orc.res],orc.res,[k])
   | false=>none
  | _,_,_=>none
 | _,_=>none
def Ec (P:Program) (σ:gp) (t:TypeId) (m x y:AV) (orc:tw):Option (List Prop×Ae×List Nat) :=
 match m,P.underlying t,orc.res with
 | .mp k,some (.map a _),.tup cs=>match P.underlying a,aR σ k with
  | some d,some o=>match oL P d x && Nat.beq o.sz 0 && Nat.beq o.len 0 && y.pure with
   | true=>some ([Wy P a (o.get 0) x y=some cs],[(k,some ⟨o.var,o.sz,o.len,true,fun _=>cs⟩)],[k])
   | false=>none
  | _,_=>none
 | _,_,_=>none
theorem Vf (g:Good E σ S μ w) {k:Nat} {o:Ob} (a:aR σ k=some o) (d:o.sz=0) {v:Value} (b:aE w S μ v (.mp k)) :
  ∃ pl c T,μ k=some pl/\kY w S μ o pl c T/\v=.map (some pl.eC):=by
 obtain ⟨pl,c,T,hm,e⟩:=g.rep.ob k o a;cases b with
 | mp oG f=>grind
theorem afq (g:Good E σ S μ w) {t:TypeId} {m x:AV} {ok:Bool} {orc:tw} {C s:Value} (hm:aE w S μ C m) (D:aE w S μ s x) {ps:List Prop} {val:AV} {rd:List Nat}
  (h:Eb P σ t m x ok orc=some (ps,val,rd)) (F:bO ps):∃ v,(Instr.lookup t C s ok).run P w=.ok v w/\aE w S μ v val:=by
 unfold Eb at h;split at h
 ·rename_i k K U G;split at h
  ·rename_i d o z H L M;split at h
   ·rename_i hb;simp only [cy] at hb;have a:=dp hb.2;obtain ⟨pl,c,T,V,I,rfl⟩:=Vf g L a hm;obtain ⟨f,m1,N,W,O⟩:=I.mp a;have J:w.heap[pl.eC]?=some (.map (k8 c) (c.size / 2)):=(I.eC f).trans (by rw [Ki a]);have u:=adA m1 N O;have i:=fun b=>Ve H hb.1 D b;have main:∀ r,look P K (o.get 0) x=some r->∃ v,aE w S μ v (r.getD (ofConst z))/\(Instr.lookup t (.map (some pl.eC)) s ok).run P w=.ok (if ok then .tuple #[v,.bool r.isSome] else v) w:=by
     intro r l;rcases aho H hb.1 D u l with ⟨rfl,q⟩ | ⟨j,e,v,rfl,Q,R⟩
     ·refine ⟨z,UX w S μ z,?_⟩;simp [Instr.lookup,run_underlying G,Go.MapKept.run_getObj_map J,i,q,UY M,Result.andThen]
     ·refine ⟨e.val,l7 (pr:=true) R,?_⟩;simp [Instr.lookup,run_underlying G,Go.MapKept.run_getObj_map J,i,Q,Result.andThen]
    split at h
    ·simp only [bu,bk] at h;obtain ⟨rfl,rfl,rfl⟩:=h;obtain ⟨n,_⟩:=F;simp only [bE] at n;obtain ⟨r,l,y⟩:=n;obtain ⟨v,A,B⟩:=main r l;exact ⟨v,by simpa using B,by rw [<- y];exact A⟩
    ·simp only [bu,bk] at h;obtain ⟨rfl,rfl,rfl⟩:=h;obtain ⟨n,_⟩:=F;simp only [bE] at n;obtain ⟨r,l,y⟩:=n;obtain ⟨v,A,B⟩:=main r l;refine ⟨.tuple #[v,.bool r.isSome],by simpa using B,?_⟩;rw [<- y];refine .tup rfl fun j c v' f p=>?_
     match j with
     | 0=>simp at f p;subst f p;exact A
     | 1=>simp at f p;subst f p;exact .atom _
     | j+2=>simp at f
   ·cases h
  ·cases h
 ·cases h
theorem Vg (g:Good E σ S μ w) {t:TypeId} {m x y:AV} {orc:tw} {O r n:Value} (hm:aE w S μ O m) (s:aE w S μ r x) (Q:aE w S μ n y) {ps:List Prop} {upd:Ae} {rd:List Nat}
  (h:Ec P σ t m x y orc=some (ps,upd,rd)) (Z:bO ps):∃ w',(Instr.mapUpdate t O r n).run P w=.ok () w'/\Ext w S μ w' S μ/\Good E (js σ upd) S μ w':=by
 unfold Ec at h;split at h
 ·rename_i k kt et cs R afo;split at h
  ·rename_i d o U V;split at h
   ·rename_i hb;simp only [bu,bk] at h;obtain ⟨rfl,rfl,rfl⟩:=h;simp only [cy] at hb;obtain ⟨⟨⟨C,vA⟩,F⟩,u⟩:=hb;have p:=dp vA;have Y4:=dp F;obtain ⟨Cr,_⟩:=Z;obtain ⟨pl,c,T,DZ,z,rfl⟩:=Vf g V p hm;obtain ⟨G,m1,W,m3,X⟩:=z.mp p;have A:w.heap[pl.eC]?=some (.map (k8 c) (c.size / 2)):=(z.eC G).trans (by rw [Ki p]);have H:=adA m1 W X;have B:=fun b=>Ve U C s b;have I:=afp C s;have J:x.pure=true:=ahp C
    -- the block that is written
    have fin:∀ (l:Array Value),l.size % 2=0->l.size=cs.length->(∀ (j:Nat) x v,cs[j]?=some x->l[j]?=some v->aE w S lI v x) ->
      (Instr.mapUpdate t (.map (some pl.eC)) r n).run P w=.ok () { w with heap:=w.heap.setIfInBounds pl.eC (.map (k8 l) (l.size / 2)) } ->
      ∃ w',(Instr.mapUpdate t (.map (some pl.eC)) r n).run P w=.ok () w'/\Ext w S μ w' S μ/\Good E (js σ [(k,some ⟨o.var,o.sz,o.len,true,fun _=>cs⟩)]) S μ w':=by
     intro l e1 e2 e3 qN;refine ⟨_,qN,?_⟩;have K:=heap_set (o':=.map (k8 l) (l.size / 2)) A;refine g.alY (w':={ w with heap:=w.heap.setIfInBounds pl.eC (.map (k8 l) (l.size / 2)) }) V DZ G z rfl rfl rfl aD (fun b hb=>K.2 b hb) ⟨o.var,o.sz,o.len,true,fun _=>cs⟩ (xf fun i hi=>absurd hi (by show ¬ i < o.len;omega)) (fun ex=>⟨l,T,z.sz,fun _=>?_,?_,by simp_all,z.out,fun i hi=>absurd hi (by show ¬ i < o.len;omega),fun i j x v hi=>absurd hi (by show ¬ i < o.len;omega),fun _=>⟨G,e1,e2,rfl,fun j x v s hv=>(e3 j x v s hv).mono ex.Wj ex.eC (fun _ _ h=>h)⟩⟩)
     ·grind [Kh,Ki]
     ·simp_all
    rcases amm U C s (y:=y) H Cr with ⟨L,D⟩ | ⟨j,e,L,D,q3,Y⟩
    ·refine fin ((c.push r).push n) (by simp;omega) (by rw [D];simp;omega) ?_ ?_
     ·intro j x' v' a f;rw [D] at a
      by_cases hj:j < c.size
      ·grind
      ·rw [o5 ad] at a
       by_cases M:j=c.size
       ·subst M;rw [show c.size - (o.get 0).length=0 by omega] at a;rw [Array.getElem?_push,if_neg aD,Array.getElem?_push,if_pos rfl] at f;simp at a f;subst a f;exact s.pure J lI
       ·by_cases N:j=c.size+1
        ·subst N;rw [show c.size+1 - (o.get 0).length=1 by omega] at a;rw [Array.getElem?_push,if_pos aD] at f;simp at a f;subst a f;exact Q.pure u lI
        ·rw [yZ (by simp;omega)] at a;cases a
     ·rw [Zi c m1];have e:((c.push r).push n).size / 2=c.size / 2+1:=by simp;omega
      rw [e];simp [Instr.mapUpdate,run_underlying R,Go.MapKept.run_getObj_map A,B,L,Go.MapKept.run_setObj_map _ A,Result.andThen]
    ·have q:(k8 c)[j]?=some e:=by simpa using D
     have hj:j < c.size / 2:=by
      have:=(Array.getElem?_eq_some_iff.1 q).1;rwa [HL] at this
     refine fin (c.setIfInBounds (2 * j+1) n) (by simpa using m1) (by rw [Y];simpa using W) ?_ ?_
     ·intro i x' v' a f;rw [Y,List.getElem?_set] at a;rw [Array.getElem?_setIfInBounds] at f
      by_cases hi:2 * j+1=i
      ·subst hi;rw [if_pos rfl,if_pos ad] at a;rw [if_pos rfl,if_pos ad] at f;simp at a f;subst a f;exact Q.pure u lI
      ·rw [if_neg hi] at a f;exact X i x' v' a f
     ·rw [abl c j e q n];simp [Instr.mapUpdate,run_underlying R,Go.MapKept.run_getObj_map A,B,L,q,q3,I,Go.MapKept.run_setObj_map _ A,Result.andThen]
   ·cases h
  ·cases h
 ·cases h
theorem abm (g:Good E σ S μ w) (i:∀ j,j < 16->μ (nk+j)=none) (l:E.m0<=nk) {f:AV} {a:List AV} {orc:tw} {r:R} {c:Value} (m:aE w S μ c f) {vargs:Array Value} (n:RL w S μ vargs a)
  (o:orc.GP=true->∀ b,¬ E.fp b) (h:QX P nk σ f a orc=some r) (p:bO r.U6) :
  ∃ gid vs,(do let d <- Deferred.ofValue c vargs;invoke d.target d.args:Sem Next).run P w=.ok (.enter gid vs) w /\
   Calls P gid vs w fun e w'=>∃ v S' gn,e=.returned v/\Ext w S μ w' S' gn/\Good E (js σ r.upd) S' gn w'/\(∀ k,(k < nk\/nk+16<=k)->μ k=none->gn k=none)/\aE w' S' gn v r.val :=
 Ph (ob:=Sound P) g i l m n o (fun _ _ _ _ _ _ vs q g0 s t=>q w _ _ vs g0 s t) h p
end
end Go.Ab
