/- Abstract values over the heap of the machine, and functions read off its code (part 4). No conditions. -/
import Derived.Test.YtkejjbiabpdhjaaGreatCc
import Derived.ProofKit
import Derived.Deep.Slices
import Derived.OpenShut
import Derived.ChangeOld
import Derived.SizedLaws
import Derived.RangeFuncLeaves
set_option linter.unusedVariables false
set_option linter.unusedSimpArgs false
namespace Go.Ab
section
variable {P:Program} {E:Env} {m0 nk:Nat} {F:List Nat} {gV:FV}
theorem L0 {σ:fe} {f:Nat->Option Nat}:∀ (l:FV) (ps:List Prop) (b:fe),XS σ F f gV l=some (ps,b)->bg ps->∀ k o,ay b k=some o ->
  ∃ d p,(k,d)∈l/\D6 σ F f gV d=some (p,o)/\bg p
 | [],ps,b,h,_,k,o,a=>by simp [XS] at h;obtain ⟨_,rfl⟩:=h;simp [ay] at a
 | (k',d) :: r,ps,b,h,c,k,o,a=>by
  simp only [XS] at h;split at h
  ·rename_i p o' q l i e;simp only [aX,aQ] at h;obtain ⟨rfl,rfl⟩:=h;obtain ⟨j,g⟩:=bg.app c;simp only [ay] at a;split at a
   ·simp_all
   ·obtain ⟨m,n,h1,h2,h3⟩:=L0 r q l e g k o a;grind
  ·cases h
theorem T7 {σ:fe} {f:Nat->Option Nat} {tm:List (Nat×AV)} {R:Value->AV->Prop} {fr:Array Value} (a:∀ v,R v .il)
  (c:∀ d t ps y,P7 σ F f gV d (dT tm t)=some (ps,y)->bg ps->R (fr.getD t undef) y):∀ (l:List (Nat×Wd)) (ps:List Prop) (b:List (Nat×AV)),
  XR σ F f gV tm l=some (ps,b)->bg ps->∀ t,R (fr.getD t undef) (dT b t)
 | [],ps,b,h,_,t=>by simp [XR] at h;obtain ⟨_,rfl⟩:=h;exact a _
 | (t',d) :: r,ps,b,h,e,t=>by
  simp only [XR] at h;split at h
  ·rename_i p x q l g i;simp only [aX,aQ] at h;obtain ⟨rfl,rfl⟩:=h;obtain ⟨j,k⟩:=bg.app e;simp only [dT];split
   ·rename_i m;rw [<- bZ m];exact c d t' p x g j
   ·exact T7 a c r q l i k t
  ·cases h
theorem ago {f:Nat}:∀ (l:FV) (a b:Nat) (x y:Od),q0 (l.filterMap (·.2.Fy))=true->(a,x)∈l->(b,y)∈l->x.Fy=some f->y.Fy=some f->a=b:=by
 intro l
 induction l with
 | nil=>simp
 | cons z l m =>
  intro a b x y d n h j k;have none:∀ c u,(c,u)∈l->u.Fy=some f->idx (l.filterMap (·.2.Fy)) f=none->False:=by
   intro c u o p hi;have q:f∈l.filterMap (·.2.Fy):=List.mem_filterMap.2 ⟨(c,u),o,p⟩;obtain ⟨i,r⟩:=List.getElem?_of_mem q;exact qG _ _ hi i r
  rcases kY.1 n with e | e
  ·rcases kY.1 h with g | g
   ·grind
   ·rw [<- e] at d;simp only [List.filterMap_cons,j,q0,bd,Option.isNone_iff_eq_none] at d;grind
  ·rcases kY.1 h with g | g
   ·rw [<- g] at d;simp only [List.filterMap_cons,k,q0,bd,Option.isNone_iff_eq_none] at d;grind
   ·refine m a b x y ?_ e g j k;simp only [List.filterMap_cons] at d;split at d
    ·exact d
    simp_all [q0,bd]
theorem anB:∀ {as:List AV} {sz n:Nat} {g:Nat->List AV},S4 as [.mr sz n g]->as=[.mr sz n g]
 | [],_,_,_,h=>h.elim
 | a :: [],_,_,_,h=>by
  rcases h.1 with h1 | ⟨_,f,h1⟩
  ·rw [h1]
  ·cases h1
 | _ :: _ :: _,_,_,_,h=>h.2.elim
theorem agp {σ:fe} {f:Nat->Option Nat} {d:Od} {p:List Prop} {o:Ob} (h:D6 σ F f gV d=some (p,o)) (q:bg p) {i:Nat} {x:Nat×Nat×(Nat->List AV)} (t:rowOf o i=some x) :
  ∃ a c,d.Fy=some a/\ay σ a=some c/\rowOf c i=some x:=by
 obtain ⟨u,j,g⟩:=dS t;cases d with
 | aj a =>
  simp only [D6,a4,aQ] at h;obtain ⟨c,e,_,rfl⟩:=h;exact ⟨a,c,rfl,e,(wP _ _ _ _).1 t⟩
 | arr a n gt =>
  simp only [D6] at h;split at h
  ·rename_i c e;split at h
   ·simp only [aX,aQ] at h;obtain ⟨rfl,rfl⟩:=h;obtain ⟨k,m,_⟩:=q;exact ⟨a,c,rfl,e,nL u (by rw [k];exact j) (by simp_all)⟩
   ·cases h
  ·cases h
 | arz a n gt =>
  simp only [D6] at h;split at h
  ·rename_i c e;split at h
   ·simp only [aX,aQ] at h;obtain ⟨rfl,rfl⟩:=h;obtain ⟨k,m,_⟩:=q;have:=m i j;have g:gt i=[.mr x.1 x.2.1 x.2.2]:=g;rw [g] at this;exact ⟨a,c,rfl,e,nL u (sM j k) (anB this)⟩
   ·cases h
  ·cases h
 | AO a n l b =>
  simp only [D6] at h;split at h
  ·rename_i c v e r;split at h
   ·rename_i s;simp only [aX,aQ] at h;obtain ⟨rfl,rfl⟩:=h;obtain ⟨k,m,w,_⟩:=q;simp only [bd,Bool.not_eq_true'] at s;have g:au v b i=[.mr x.1 x.2.1 x.2.2]:=g;rw [<- P6 (w i j) r,m i j] at g;exact ⟨a,c,rfl,e,nL s.1 (by rw [k];exact j) (afE g)⟩
   ·cases h
  ·cases h
 | nim gt =>
  simp only [D6,aX,aQ] at h;grind
 | mp a cs =>
  simp only [D6] at h;split at h
  ·rename_i c e;split at h
   ·rename_i s;simp only [aX,aQ] at h;obtain ⟨rfl,rfl⟩:=h;simp_all
   ·cases h
  ·cases h
 | var a ds =>
  simp only [D6] at h;grind
 | nil sz gt =>
  simp only [D6] at h;grind
theorem P9 {st J6:St} {wJ:List (Nat×Wd)} {ps:List Prop} (h:Ol E.m0 st F wJ gV nk=some (ps,J6)) (hp:bg ps) (hF:F.isEmpty=true\/∀ b,¬ E.fp b) {fr:Array Value} {w:World} (hr:SZ E st fr w):SZ E J6 fr w:=by
 obtain ⟨S,μ,g,hk,hm,ht⟩:=hr;unfold Ol at h;split at h
 case h_2=>cases h
 rename_i p tm q fo hn htm dr;simp only [aX,aQ] at h;obtain ⟨rfl,rfl⟩:=h;obtain ⟨D1,FB⟩:=bg.app hp;have N:=agn hn;have e:Ext w S μ w (SF μ F st.mg S) μ:=⟨aV _,fun _ h=>.inl h,fun _ _=>rfl,fun _ _ h=>h⟩;have I:∀ k o,ay fo k=some o->∃ pl c T,Tb E.m0 μ gV k=some pl/\kg w (SF μ F st.mg S) (Tb E.m0 μ gV) o pl c T /\
   (0 < pl.cap->∃ f m,ay st.mg f=some m/\μ f=some pl/\∃ d,(k,d)∈gV/\d.Fy=some f):=by
  intro k o G;obtain ⟨d,pd,B,r,H⟩:=L0 gV q fo dr FB k o G;have mono:∀ {v:Value} {x:AV} {ey:Mu},av w S ey v x->av w (SF μ F st.mg S) ey v x:=fun h=>h.mono (fun _ h=>.inl h) (fun _ _=>rfl) (fun _ _ h=>h);have out:∀ f m pl,ay st.mg f=some m->μ f=some pl->f ∉ F->0 < pl.cap->¬ SF μ F st.mg S pl.df:=by
   rintro f m pl s z hnF V (h1 | ⟨W,o1,O,J,Z,Xg,AK,A⟩)
   ·obtain ⟨lL,c,T,iq,af2⟩:=g.rep.ob f m s;rw [z] at iq;cases iq;exact af2.out V h1
   ·have gU:W≠f:=fun h=>hnF (h ▸ J);exact g.rep.ne W f o1 m O pl gU Z s Xg z AK V A
  cases d with
  | aj f =>
   simp only [D6,a4,aQ] at r;obtain ⟨m,s,_,rfl⟩:=r;obtain ⟨pl,c,T,z,D⟩:=g.rep.ob f m s;have h1:=D.ext e (fun _=>rfl) (out f m pl s z (N.fr k _ f B rfl));exact ⟨pl,c,T,by rw [IX N B rfl];exact z,h1.nR fun a b pl ha A=>O9 N ha A,fun _=>⟨f,m,s,z,_,B,rfl⟩⟩
  | arr f n gt =>
   simp only [D6] at r;split at r
   ·rename_i m s;split at r
    ·rename_i A;simp only [aX,aQ] at r;obtain ⟨rfl,rfl⟩:=r;obtain ⟨K,X,_⟩:=H;obtain ⟨pl,c,T,z,D⟩:=g.rep.ob f m s;simp only [bd] at A;have h1:=D.ext e (fun _=>rfl) (out f m pl s z (N.fr k _ f B rfl));refine ⟨pl,c,T,by rw [IX N B rfl];exact z,⟨h1.sz,h1.df,h1.cap,K ▸ h1.len,h1.out,fun i hi=>?_,fun i j x v hi C L=>?_,fun P=>absurd P (by simp_all)⟩,fun _=>⟨f,m,s,z,_,B,rfl⟩⟩
     ·show (gt i).length=_;rw [X i hi];exact h1.zF i (by rw [K];exact hi)
     ·have C:(gt i)[j]?=some x:=C;rw [X i hi] at C;have:=h1.rep i j x v (by rw [K];exact hi) C L;simp_all
    ·cases r
   ·cases r
  | arz f n gt =>
   simp only [D6] at r;split at r
   ·rename_i m s;split at r
    ·rename_i A;simp only [aX,aQ] at r;obtain ⟨rfl,rfl⟩:=r;obtain ⟨K,X,_⟩:=H;obtain ⟨pl,c,T,z,D⟩:=g.rep.ob f m s;simp only [bd] at A;have h1:=D.ext e (fun _=>rfl) (out f m pl s z (N.fr k _ f B rfl));refine ⟨pl,c,T,by rw [IX N B rfl];exact z,⟨h1.sz,h1.df,h1.cap,gG K h1.len,h1.out,fun i hi=>?_,fun i j x v hi C L=>?_,fun P=>absurd P (by have:=Nat.le_of_ble_eq_true A.2;show m.sz≠0;omega)⟩,fun _=>⟨f,m,s,z,_,B,rfl⟩⟩
     ·show (gt i).length=_;rw [(X i hi).len];exact h1.zF i (sM hi K)
     ·have C:(gt i)[j]?=some x:=C;obtain ⟨a,ha,hax⟩:=(X i hi).get C;have:=h1.rep i j a v (sM hi K) ha L;rw [A.1.1] at this;exact anA hax this
    ·cases r
   ·cases r
  | mp f cs =>
   simp only [D6] at r;split at r
   ·rename_i m s;split at r
    ·rename_i A;simp only [aX,aQ] at r;obtain ⟨rfl,rfl⟩:=r;obtain ⟨rfl,_⟩:=H;obtain ⟨pl,c,T,z,D⟩:=g.rep.ob f m s;simp only [bd] at A;have Xr:=bZ A.2;have h1:=D.ext e (fun _=>rfl) (out f m pl s z (N.fr k _ f B rfl));refine ⟨pl,c,T,by rw [IX N B rfl];exact z,⟨h1.sz,h1.df,h1.cap,h1.len,h1.out,fun i hi=>absurd hi (by show ¬ i < m.len;omega),fun i j x v hi=>absurd hi (by show ¬ i < m.len;omega),fun P=>?_⟩,fun _=>⟨f,m,s,z,_,B,rfl⟩⟩;obtain ⟨m0,m1,m2,m3,m4⟩:=h1.mp P;exact ⟨m0,m1,m2,rfl,m4⟩
    ·cases r
   ·cases r
  | nim gt =>
   simp only [D6,aX,aQ] at r;obtain ⟨_,rfl⟩:=r;exact ⟨⟨0,0,1⟩,#[],0,ack N B,⟨rfl,fun h=>absurd h ao,ao,ao,fun h=>absurd h ao,fun i h=>absurd h ao,fun i j x v h=>absurd h ao,fun h=>absurd (show (1:Nat)=0 from h) ad⟩,fun h=>absurd h ao⟩
  | AO f n l b =>
   simp only [D6] at r;split at r
   ·rename_i m l' s hl';split at r
    ·rename_i A;simp only [aX,aQ] at r;obtain ⟨rfl,rfl⟩:=r;obtain ⟨K,p2',p3,_⟩:=H;have X:∀ i,i < n->au l' b i=AV.BJ (Bi E.m0 gV) (m.get i):=fun i hi=>by rw [<- p2' i hi];exact (P6 (p3 i hi) hl').symm
     let gt:Nat->List AV:=au l' b
     obtain ⟨pl,c,T,z,D⟩:=g.rep.ob f m s;simp only [bd] at A;have h1:=D.ext e (fun _=>rfl) (out f m pl s z (N.fr k _ f B rfl));refine ⟨pl,c,T,by rw [IX N B rfl];exact z,⟨h1.sz,h1.df,h1.cap,K ▸ h1.len,h1.out,fun i hi=>?_,fun i j x v hi C L=>?_,fun P=>absurd P (by have:=Nat.le_of_ble_eq_true A.2;show m.sz≠0;omega)⟩,fun _=>⟨f,m,s,z,_,B,rfl⟩⟩
     ·show (au l' b i).length=_;rw [X i hi,DZ,List.length_map];exact h1.zF i (by rw [K];exact hi)
     ·have C:(au l' b i)[j]?=some x:=C;rw [X i hi,DZ,List.getElem?_map] at C;simp only [a4] at C;obtain ⟨y,hy,rfl⟩:=C;have:=ln (h1.rep i j y v (by rw [K];exact hi) hy L);exact this.nR fun a b pl ha A=>O9 N ha A
    ·cases r
   ·cases r
  | var f ds =>
   simp only [D6] at r;split at r
   ·rename_i m s;split at r
    ·rename_i pw cs A hcs;simp only [aX,aQ] at r;obtain ⟨rfl,rfl⟩:=r;obtain ⟨pl,c,T,z,D⟩:=g.rep.ob f m s;simp only [bd] at A;have hl1:=bZ A.1.2;have hz1:=Nat.le_of_ble_eq_true A.2;have ha:av w S μ (.agg ((List.range m.sz).map fun j=>(c[j]?).getD undef).toArray) (.agg (m.get 0)):=by
      refine .agg (by simp [D.zF 0 ad]) fun j x v C L=>?_;have hj:j < m.sz:=by
       have:=(eK.1 C).1;rwa [D.zF 0 ad] at this
      obtain ⟨u,M,_⟩:=dg D (i:=0) ad hj;have Q:c[j]?=some u:=by simpa using M
      simp [List.getElem?_range hj,Q] at L;exact ln (D.rep 0 j x v ad C (by rw [<- L];simpa using M))
     have adN:=acn g N (.agg ds) (.agg (m.get 0)) _ pw (.agg cs) ha (by simp [P7,hcs]) H;obtain ⟨vs,hvs,S7,Lw⟩:=sN adN;cases hvs;have Y:cs.length=m.sz:=by simpa using S7.symm
     refine ⟨pl,c,T,by rw [IX N B rfl];exact z,⟨D.sz,D.df,D.cap,by have:=D.len;show 1<=pl.cap;omega,out f m pl s z (N.fr k _ f B rfl),fun i hi=>Y,fun i j x v hi C L=>?_,fun P=>absurd P (by show m.sz≠0;omega)⟩,fun _=>⟨f,m,s,z,_,B,rfl⟩⟩;have hi0:i=0:=by have hi:i < 1:=hi;omega
     subst hi0;have C:cs[j]?=some x:=C;have hj:j < m.sz:=by rw [<- Y];exact (eK.1 C).1
     have xz:c[j]?=some v:=by simpa using L
     have:=Lw j x v C (by simp [List.getElem?_range hj,xz]);show av w _ (if AV.pX cs then kf else _) v x;split
     ·rename_i hpp;exact this.pure (zE hpp C) kf
     ·exact this
    ·cases r
   ·cases r
  | nil sz gt =>
   simp only [D6] at r;split at r
   case h_2=>cases r
   rename_i asB;simp only [aX,aQ] at r;obtain ⟨_,rfl⟩:=r;exact ⟨⟨0,0,sz⟩,#[],0,acm N B,⟨rfl,fun h=>absurd h ao,ao,ao,fun h=>absurd h ao,fun i h=>absurd h ao,fun i j x v h=>absurd h ao,fun h=>absurd (show sz=0 from h) (by have:=Nat.le_of_ble_eq_true asB;omega)⟩,fun h=>absurd h ao⟩
 have hrw:∀ k i x v,kj w (Tb E.m0 μ gV) fo k i x v->∃ f d,(k,d)∈gV/\d.Fy=some f/\kj w μ st.mg f i x v:=by
  rintro k i x v ⟨o,pl,h1,h2,h3,h4⟩;obtain ⟨d,pd,B,r,H⟩:=L0 gV q fo dr FB k o h1;obtain ⟨f,m,M,q2,q3⟩:=agp r H h2;rw [IX N B M] at h3;exact ⟨f,d,B,M,m,pl,q2,q3,h3,h4⟩
 have hmx:MX E.fp E.w0.heap.size w (SF μ F st.mg S) (Tb E.m0 μ gV) fo:=by
  have hφ:∀ k d f,(k,d)∈gV->d.Fy=some f->((Bj gV k).bind Od.Fy).getD 0=f:=fun k d f h1 h2=>by rw [xF N.nd h1];simp [h2]
  refine g.mx.tr (fun k=>((Bj gV k).bind Od.Fy).getD 0) (fun k i x v h=>?_) (fun k i x v k' i' x' v' h h' he=>?_) (fun _ h=>.inl h) (fun _ _=>rfl) (fun k i x v b _ h A=>⟨rfl,?_,fun h=>h⟩) (fun k o pl h1 h2 h3=>?_)
  ·obtain ⟨f,d,M,q2,q3⟩:=hrw k i x v h;show kj w μ st.mg (((Bj gV k).bind Od.Fy).getD 0) i x v;rw [hφ k d f M q2];exact q3
  ·obtain ⟨f,d,M,q2,_⟩:=hrw k i x v h;obtain ⟨U,d',Q,q2',_⟩:=hrw k' i' x' v' h';have he:((Bj gV k).bind Od.Fy).getD 0=((Bj gV k').bind Od.Fy).getD 0:=he;rw [hφ k d f M q2,hφ k' d' U Q q2'] at he;exact ago gV k k' d d' N.od M Q q2 (he ▸ q2')
  ·rintro (h1 | ⟨W,o1,O,_,Z,Xg,AK,h1⟩)
   ·exact (g.mx.df h A).2.1 h1
   ·exact g.mx.obj _ _ _ _ _ h A W o1 O Z Xg AK h1
  ·obtain ⟨O,c,T,e1,_,e3⟩:=I k o h1;rw [h2] at e1;cases e1;obtain ⟨f,m,s,z,_⟩:=e3 h3;exact .inl ⟨f,m,pl,s,z,h3,rfl⟩
 refine ⟨SF μ F st.mg S,Tb E.m0 μ gV,⟨g.fr,fun b h=>.inl (g.S0 b h),?_,?_,⟨?_,?_⟩,?_,?_,hmx⟩,?_,N.m0,?_⟩
 ·rintro b (h1 | ⟨W,o1,O,J,Z,Xg,AK,rfl⟩)
  ·exact g.S1 b h1
  ·obtain ⟨lL,c,T,iq,af2⟩:=g.rep.ob W o1 Z;rw [Xg] at iq;cases iq;exact ft (af2.df AK)
 ·rintro b (h1 | ⟨W,o1,O,J,Z,Xg,AK,rfl⟩)
  ·exact g.S2 b h1
  ·rcases g.own W o1 O Z Xg AK with h2 | h2
   ·rcases hF with h3 | h3
    ·rw [List.isEmpty_iff] at h3;rw [h3] at J;simp at J
    ·exact (h3 _ h2).elim
   ·exact .inr h2
 ·intro k o G;obtain ⟨pl,c,T,h1,h2,_⟩:=I k o G;exact ⟨pl,c,T,h1,h2⟩
 ·intro k k' o o' pl lL gU G asD zH akW V oH;obtain ⟨O,c,T,h1,_,h3⟩:=I k o G;obtain ⟨x7,c',T',Zs,_,h3'⟩:=I k' o' asD;rw [zH] at h1;cases h1;rw [akW] at Zs;cases Zs;obtain ⟨f,m,s,z,d,r,hdo⟩:=h3 V;obtain ⟨U,o0',asE,asF,d',hd',asG⟩:=h3' oH;have hkk:f≠U:=by
   rintro rfl;exact gU (ago gV k k' d d' N.od r hd' hdo asG)
  exact g.rep.ne f U m o0' pl lL hkk s asE z asF V oH
 ·intro k o pl G zH V;obtain ⟨O,c,T,h1,_,h3⟩:=I k o G;rw [zH] at h1;cases h1;obtain ⟨f,m,s,z,_⟩:=h3 V;exact g.own f m pl s z V
 ·intro k kn;unfold Tb;rw [if_pos kn];exact g.Lm k kn
 ·intro k kn;have kn:nk<=k:=kn;have:=N.m0;unfold Tb;rw [if_neg ad];cases hg:Bj gV k with
  | none=>rfl
  | some d =>
   have:=N.lt k d (HW hg);omega
 ·exact T7 (R:=fun v x=>av w (SF μ F st.mg S) (Tb E.m0 μ gV) v x) (fun _=>.il) (fun d t ps y h1 h2=>acn g N d _ _ ps y (ht t) h1 h2) wJ p tm htm D1
def ar (P:Program) (E:Env) (fn:FuncId) (nt:Nat) (dd:Value->World->Prop) (k:List Item) (st:St):Prop :=
 ∀ (tm:Array Value) (w:World),tm.size=nt->SZ E st tm w->∀ (b:Frame),b.fn=fn->b.kind=.normal->∀ cs,
  ∃ v w' fr,dd v w'/\Steps P (lone (b.at ⟨tm,[]⟩ k) cs w) (lone fr cs w')/\fr.fn=fn/\fr.leaving P w' (.returned v)
variable {fn:FuncId} {nt:Nat} {dd:Value->World->Prop} {k k':List Item} {st J6:St}
theorem ar.step (h:ar P E fn nt dd k' st) (c:∀ (b:Frame) (a:Act) (cs:List Frame) (w:World),step P (lone (b.at a k) cs w)=.next (lone (b.at a k') cs w)):ar P E fn nt dd k st:=by
 intro tm w h1 h2 b h3 h4 cs;obtain ⟨v,w',fr,d,e,f,g⟩:=h tm w h1 h2 b h3 h4 cs;exact ⟨v,w',fr,d,.head (c b ⟨tm,[]⟩ cs w) e,f,g⟩
theorem ar.seq {x y:Code} (h:ar P E fn nt dd (.code x :: .code y :: k) st):ar P E fn nt dd (.code (.seq x y) :: k) st:=h.step fun _ _ _ _=>step_seq
theorem ar.block {id:Nat} {c:Code} (h:ar P E fn nt dd (.code c :: .inBlock id :: k) st):ar P E fn nt dd (.code (.block id c) :: k) st:=h.step fun _ _ _ _=>step_block
theorem ar.inBlock {id:Nat} (h:ar P E fn nt dd k st):ar P E fn nt dd (.inBlock id :: k) st:=h.step fun _ _ _ _=>step_inBlock
theorem ar.loop {c:Code} (h:ar P E fn nt dd (.code c :: .inLoop c :: k) st):ar P E fn nt dd (.code (.loop c) :: k) st:=h.step fun _ _ _ _=>step_loop
theorem ar.inLoop {c:Code} (h:ar P E fn nt dd (.code c :: .inLoop c :: k) st):ar P E fn nt dd (.inLoop c :: k) st:=h.step fun _ _ _ _=>step_inLoop
theorem ar.skip (h:ar P E fn nt dd k st):ar P E fn nt dd (.code .skip :: k) st:=h.step fun _ _ _ _=>step_skip
theorem ar.label {l:Nat} (h:ar P E fn nt dd k st):ar P E fn nt dd (.code (.label l) :: k) st:=h.step fun _ _ _ _=>step_label
theorem ar.scope {c:Code} (h:ar P E fn nt dd (.code c :: .inScope c :: k) st):ar P E fn nt dd (.code (.scope c) :: k) st:=h.step fun _ _ _ _=>step_lone_go (by rfl)
theorem ar.inScope {c:Code} (h:ar P E fn nt dd k st):ar P E fn nt dd (.inScope c :: k) st:=h.step fun _ _ _ _=>step_lone_go (by rfl)
theorem ar.exit {id:Nat} (he:exitTo id k=some k') (h:ar P E fn nt dd k' st):ar P E fn nt dd (.code (.exit id) :: k) st:=h.step fun _ _ _ _=>step_exit he
theorem ar.cond {c:Operand} {x y:Code} {q:Bool} (p:Bh st.tm c=.atom (.bool q)) (h1:q=true->ar P E fn nt dd (.code x :: k) st) (h2:q=false->ar P E fn nt dd (.code y :: k) st) :
  ar P E fn nt dd (.code (.cond c x y) :: k) st:=by
 intro tm w l d b m n cs;have r:=d;obtain ⟨S,μ,g,_,_,s⟩:=r;have e:=HS (a:=⟨tm,[]⟩) s c;rw [p] at e;have e:=eH e;have o:=step_cond (P:=P) (b:=b) (k:=k) (cs:=cs) (w:=w) (x:=x) (y:=y) e;cases q with
 | true =>
  obtain ⟨v,w',fr,f,h,i,j⟩:=h1 rfl tm w l d b m n cs;exact ⟨v,w',fr,f,.head o h,i,j⟩
 | false =>
  obtain ⟨v,w',fr,f,h,i,j⟩:=h2 rfl tm w l d b m n cs;exact ⟨v,w',fr,f,.head o h,i,j⟩
structure aG (E:Env) (m:Nat):Prop where
 m0:E.m0=m
 fp:m=0->∀ b,¬ E.fp b
theorem ar.wk {m:Nat} (a:aG E m) {b:List (Nat×Wd)} {ps:List Prop} (h:Ol m st F b gV nk=some (ps,J6)) (c:(F.isEmpty || Nat.beq m 0)=true) (d:bg ps) (e:ar P E fn nt dd k J6):ar P E fn nt dd k st:=by
 have f:Ol E.m0 st F b gV nk=some (ps,J6):=by rw [a.m0];exact h
 refine fun tm w h1 h2=>e tm w h1 (P9 f d ?_ h2);rcases Bool.or_eq_true_iff.1 c with h3 | h3
 ·exact .inl h3
 ·exact .inr (a.fp (bZ h3))
def Kq (P:Program) (nt:Nat) (c:Code) (orcs:List (Nat×qE)) (st:St):Option (List Prop×St) :=
 match c with
 | .region _ ops draw=>match ug P nt ops.toList st.nk orcs ops.toList 0 st.tm st.mg with
  | some a=>match !draw || (P.follows .mixedOrders && agh ops.toList a) with
   | true=>some (D5 a,⟨CI a st.tm,wT a st.mg,st.nk+16 * ops.size⟩)
   | false=>none
  | none=>none
 | _=>none
def vJ:List (Nat×qE)->Bool
 | []=>true
 | (_,o) :: r=>!o.E8 && vJ r
def noY:List (Nat×qE)->Bool
 | []=>true
 | (_,o) :: r=>o.y.isNone && noY r
def YsP (P:Program) (E:Env):List (Nat×qE)->Prop
 | []=>True
 | (_,o) :: r=>(match o.y with
  | some y=>YOK P E y
  | none=>True)/\YsP P E r
theorem L1:∀ {orcs:List (Nat×qE)},vJ orcs=true->∀ i x,qi orcs i=some x->x.E8=true->False
 | [],_,i,x,h,_=>by simp [qi] at h
 | (a,o) :: r,b,i,x,h,c=>by
  simp only [vJ,bd,Bool.not_eq_true'] at b;simp only [qi] at h;split at h
  ·simp_all
  ·exact L1 b.2 i x h c
theorem Qa {P:Program} {E:Env}:∀ {orcs:List (Nat×qE)},noY orcs=true->YsP P E orcs
 | [],_=>trivial
 | (a,o) :: r,b=>by
  simp only [noY,bd,Option.isNone_iff_eq_none] at b;refine ⟨?_,Qa b.2⟩;rw [b.1];trivial
theorem U0 {P:Program} {E:Env}:∀ {orcs:List (Nat×qE)},YsP P E orcs->∀ i x y,qi orcs i=some x->x.y=some y->YOK P E y
 | [],_,i,x,y,h,_=>by simp [qi] at h
 | (a,o) :: r,b,i,x,y,h,c=>by
  simp only [qi] at h;split at h
  ·cases h;have:=b.1;simp_all
  ·exact U0 b.2 i x y h c
theorem Gg {rd:Option Nat} {ds:List Deferred} {c:Code} {orcs:List (Nat×qE)} (p:vJ orcs=true\/∀ b,¬ E.fp b) (C:YsP P E orcs) {ps:List Prop} (h:Kq P nt c orcs st=some (ps,J6)) (v:bg ps)
  {tm:Array Value} {w:World} (z:tm.size=nt) (D:SZ E st tm w):c.wpIn (FW rd) 0 P (fun e a w=>e=.normal/\a.tmps.size=nt/\a.defers=ds/\SZ E J6 a.tmps w) ⟨tm,ds⟩ w:=by
 have p:∀ i,PX P E (qi orcs i):=fun i=>⟨fun x q F=>p.elim (fun G=>(L1 G i x q F).elim) id,fun x y q r=>U0 C i x y q r⟩;unfold Kq at h;split at h
 case h_2=>cases h
 rename_i id ops draw;split at h
 case h_2=>cases h
 rename_i d f;split at h
 case h_2=>cases h
 rename_i s;simp only [aX,aQ] at h;obtain ⟨rfl,rfl⟩:=h;obtain ⟨S,μ,g,H,hm,A⟩:=D
 let u:Exit->Act->World->Prop:=fun e a w=>e=.normal/\a.tmps.size=nt/\a.defers=ds/\SZ E ⟨CI d st.tm,wT d st.mg,st.nk+16 * ops.size⟩ a.tmps w
 show (Code.region id ops draw).wpIn (FW rd) 0 P u ⟨tm,ds⟩ w;have B:∀ (l:Act) (w':World) (S':Nat->Prop) (ey:Mu),l.tmps.size=nt->l.defers=ds->Good E (wT d st.mg) S' ey w'->(∀ k,st.nk+16 * ops.size<=k->ey k=none)->(∀ t,av w' S' ey (l.tmps.getD t undef) (dT (CI d st.tm) t)) ->
   u .normal l w' :=
  fun l w' S' ey I J K L M=>⟨rfl,I,J,S',ey,K,L,by grind,M⟩
 cases draw with
 | false =>
  refine wpIn_region ?_;have:=LV (P:=P) (E:=E) (Q:=u) (rd:=rd) (ds:=ds) (nt:=nt) (nk:=st.nk) (ops:=ops) (orcs:=orcs) p hm ops.toList 0 ⟨tm,ds⟩ w st.tm st.mg S μ d rfl ao z rfl g (by simpa using H) A f v B;rw [List.range_eq_range'];simpa using this
 | true =>
  simp only [Bool.not_true,Bool.false_or,bd] at s;refine wpIn_region_any s.1 ?_;have o:∀ (n j:Nat),(Array.replicate n false).getD j false=false:=by
   intro n j;simp only [ke,Array.getElem?_replicate];split<;>rfl
  refine ZZ p hm f v s.2 B ops.size _ ⟨tm,ds⟩ _ S μ ao z rfl ?_ ?_ ?_ ?_ ?_
  ·simp_all
  ·omega
  ·rw [HU d 0 st.mg _ (fun m _=>o _ _)];exact g.drew
  ·simp_all
  ·intro t;rw [Ko d 0 st.tm _ (fun m _=>o _ _)];exact (A t).ext (Ext.drew w S μ)
theorem ar.region {c:Code} {orcs:List (Nat×qE)} (i:vJ orcs=true\/∀ b,¬ E.fp b) (j:YsP P E orcs) {ps:List Prop} (h:Kq P nt c orcs st=some (ps,J6)) (l:bg ps) (m:ar P E fn nt dd k J6):ar P E fn nt dd (.code c :: k) st:=by
 intro tm w o p b q r cs;have f:c.wp P (fun e a w=>e=.normal/\a.tmps.size=nt/\a.defers=[]/\SZ E J6 a.tmps w) ⟨tm,[]⟩ w:=(wpIn_wide (n:=0)).1 (Gg (rd:=none) (ds:=[]) i j h l o p);obtain ⟨e,d,w',⟨rfl,s,g,t⟩,u⟩:=f b k cs;have x:d=⟨d.tmps,[]⟩:=by cases d;simp at g;simp [g]
 obtain ⟨v,y,fr,z,A,B,C⟩:=m d.tmps w' s t b q r cs;refine ⟨v,y,fr,z,Steps.trans u ?_,B,C⟩;rw [x];exact A
end
end Go.Ab
namespace Go.Ab
def aH (E:Env) (a:fe) (res:AV) (v:Value) (w':World):Prop:=∃ S' ey,Good E a S' ey w'/\av w' S' ey v res
def Qb (P:Program) (st:St):List ResultVar->Option (List Prop×List AV)
 | []=>some ([],[])
 | .tmp t :: r=>(Qb P st r).map fun (p,l)=>(p,dT st.tm t :: l)
 | .cell a t :: r=>match F0 P st.mg t (dT st.tm a),Qb P st r with
  | some (p,x,_),some (q,l)=>some (p ++ q,x :: l)
  | _,_=>none
def agr:List AV->AV
 | [x]=>x
 | l=>.tup l
def Fh (P:Program) (fn:Func) (st:St):Option (List Prop×AV):=(Qb P st fn.results.toList).map fun (p,l)=>(p,agr l)
section
variable {P:Program} {E:Env} {fn:FuncId} {nt:Nat} {k:List Item} {st:St}
theorem U2 {S:Nat->Prop} {μ:Mu} {w:World} (g:Good E st.mg S μ w) {tm:Array Value} (e:∀ t,av w S μ (tm.getD t undef) (dT st.tm t)) :
  ∀ (l:List ResultVar) (ps:List Prop) (xs:List AV),Qb P st l=some (ps,xs)->bg ps->∃ vs:List Value,
   (l.mapM fun r=>(match r with | .tmp t=>pure (tm.getD t undef) | .cell a t=>(do loadVar t (<- asAddr (tm.getD a undef)):Sem Value)):Sem (List Value)).run P w=.ok vs w/\vs.length=xs.length /\
   ∀ (j:Nat) c v,xs[j]?=some c->vs[j]?=some v->av w S μ v c
 | [],ps,xs,h,_=>by
  simp [Qb] at h;simp_all
 | .tmp t :: r,ps,xs,h,f=>by
  simp only [Qb,a4,aQ] at h;obtain ⟨⟨p,l⟩,h1,rfl,rfl⟩:=h;obtain ⟨vs,m,i,n⟩:=U2 g e r p l h1 f;refine ⟨tm.getD t undef :: vs,by simp_all,by simp [i],?_⟩;grind
 | .cell a t :: r,ps,xs,h,f=>by
  simp only [Qb] at h;split at h
  ·rename_i p x rd q l h1 h2;simp only [aX,aQ] at h;obtain ⟨rfl,rfl⟩:=h;obtain ⟨s,u⟩:=bg.app f;obtain ⟨vs,m,i,n⟩:=U2 g e r q l h2 u;obtain ⟨v,k,z⟩:=UJ (P:=P) g (e a) h1 s;have y:∃ b,tm.getD a undef=.pointer (some b):=by
    cases A:tm.getD a undef with
    | pointer o =>
     cases o with
     | none=>simp_all [Instr.loadAt,Instr.sureAddr]
     | some b=>exact ⟨b,rfl⟩
    | _=>simp_all [Instr.loadAt,Instr.sureAddr]
   obtain ⟨b,d⟩:=y;rw [d] at k;simp only [Instr.loadAt,Instr.sureAddr,cb,Sem.run_pure,eM] at k;have B:(asAddr (tm.getD a undef)).run P w=.ok b w:=by rw [d];rfl
   refine ⟨v :: vs,by simp_all,by simp [i],?_⟩;grind
  ·cases h
theorem IY {f:Func} (o:P.funcs[fn]?=some f) {ps:List Prop} {res:AV} (h:Fh P f st=some (ps,res)) (q:bg ps) {tm:Array Value} {w:World} (s:SZ E st tm w) {b:Frame} (u:b.fn=fn) (z:b.kind=.normal) (todo:List Item) :
  ∃ v,aH E st.mg res v w/\Frame.leaving P { b.at ⟨tm,[]⟩ todo with mode:=.returning } w (.returned v):=by
 obtain ⟨S,μ,g,_,_,A⟩:=s;simp only [Fh,a4,aQ] at h;obtain ⟨⟨p,l⟩,h1,rfl,rfl⟩:=h;obtain ⟨vs,B,d,n⟩:=U2 g A f.results.toList p l h1 q;have hm:(f.results.mapM fun r=>(match r with | .tmp t=>pure (tm.getD t undef) | .cell a t=>(do loadVar t (<- asAddr (tm.getD a undef)):Sem Value)):Sem (Array Value)).run P w=.ok vs.toArray w:=by
  rw [Array.mapM_eq_mapM_toList];simp only [Sem.run_map,B,eM]
 have e:∃ v,av w S μ v (agr l)/\(results f tm).run P w=.ok v w:=by
  refine ⟨if h:vs.toArray.size=1 then vs.toArray[0] else .tuple vs.toArray,?_,?_⟩
  ·cases l with
   | nil =>
    have:vs=[]:=List.length_eq_zero_iff.1 d;subst this;simp only [agr];exact .tup rfl fun j c v i=>by simp at i
   | cons x r =>
    cases r with
    | nil =>
     simp at d;have k:vs.toArray.size=1:=by simpa using d
     rw [dif_pos k];exact n 0 x _ rfl (by simp [d])
    | cons y r =>
     simp at d;have k:¬ vs.toArray.size=1:=by simp;omega
     rw [dif_neg k];exact .tup (by simp [d]) fun j c v i m=>n j c v i (by simpa using m)
  ·unfold results;simp only [cb];exact (congrArg (fun r:Result (Array Value)=>r.andThen fun a w'=>Result.ok (if h:a.size=1 then a[0] else Value.tuple a) w') hm)
 obtain ⟨v,m,C⟩:=e;exact ⟨v,⟨S,μ,g,m⟩,rfl,rfl,z,f,by rw [<- o,<- u];rfl,C⟩
theorem ar.ret {f:Func} (c:P.funcs[fn]?=some f) {ps:List Prop} {res:AV} (h:Fh P f st=some (ps,res)) (d:bg ps):ar P E fn nt (aH E st.mg res) (.code .ret :: k) st:=by
 intro tm w _ e b a g cs;obtain ⟨v,h1,h2⟩:=IY c h d e a g (.code .ret :: k);exact ⟨v,w,_,h1,.one step_ret,a,h2⟩
theorem ar.fin {f:Func} (c:P.funcs[fn]?=some f) {ps:List Prop} {res:AV} (h:Fh P f st=some (ps,res)) (d:bg ps):ar P E fn nt (aH E st.mg res) [] st:=by
 intro tm w _ e b a g cs;obtain ⟨v,h1,h2⟩:=IY c h d e a g [];exact ⟨v,w,_,h1,.one step_end,a,h2⟩
def BO:List AV->Nat->List (Nat×AV)
 | [],_=>[]
 | x :: r,i=>(i,x) :: BO r (i+1)
theorem IZ:∀ (l:List AV) (i t:Nat),dT (BO l i) t=if i<=t then (l[t - i]?).getD .il else .il
 | [],i,t=>by simp [BO,dT]
 | x :: r,i,t=>by
  simp only [BO,dT]
  by_cases h:i=t
  ·simp_all
  ·rw [rL h,IZ r (i+1) t];grind
theorem sor {f:FuncId} {d:Func} {c:Code} {nt m:Nat} {a:List AV} {σ l:fe} {res:AV} (q:P.funcs[f]?=some d) (r:d.body=some c) (s:d.ntmps=nt) (u:Nat.ble a.length nt=true)
  (y:m=0->σ=[]) (h:∀ E,aG E m->ar P E f nt (aH E l res) [.code c] ⟨BO a 0,σ,m⟩):Sound P f a σ m res l:=by
 simp only [Nat.ble_eq] at u;intro w S μ vs g z n cs;have A:aG (zW w S σ μ m) m:=⟨rfl,fun hm b=>by
  rintro (⟨k,o,pl,h1,_⟩ | ⟨k,i,x,v,⟨o,pl,h1,_⟩,_⟩)<;>(rw [y hm] at h1;simp [ay] at h1)⟩
 let b:Frame:={ (default:Frame) with fn:=f,kind:=.normal }
 have B:Frame.enter P f vs .normal=b.at ⟨vs ++ Array.replicate (nt - vs.size) undef,[]⟩ [.code c]:=by
  simp [Frame.enter,Frame.at,q,r,s,b]
 have C:=n.1;obtain ⟨v,w',fr,h1,h2,h3,h4⟩:=h _ A (vs ++ Array.replicate (nt - vs.size) undef) w (by simp;omega) ⟨S,μ,g,z,aV _,fun t=>by
  show av w S μ _ (dT (BO a 0) t);rw [IZ,if_pos (Nat.zero_le _),Nat.sub_zero];cases p:a[t]? with
  | none=>exact .il
  | some x =>
   have e:t < vs.size:=by rw [C];exact (eK.1 p).1
   have j:(vs ++ Array.replicate (nt - vs.size) undef).getD t undef=vs[t]:=by
    simp [ke,Array.getElem?_append_left e,e]
   rw [j];exact n.2 t x _ p (hH e)⟩ b rfl rfl cs
 rw [<- B] at h2;obtain ⟨S',ey,D,j⟩:=h1;exact ⟨.returned v,w',fr,⟨v,S',ey,rfl,D,j⟩,h2,h3,h4⟩
end
end Go.Ab
namespace Go.Ab
def anF (f:Func):Code:=f.body.getD .skip
def cat:Code->List Bool->Code
 | c,[]=>c
 | .seq a _,false :: p=>cat a p
 | .seq _ b,true :: p=>cat b p
 | .cond _ a _,false :: p=>cat a p
 | .cond _ _ b,true :: p=>cat b p
 | .block _ b,_ :: p=>cat b p
 | .loop b,_ :: p=>cat b p
 | .scope b,_ :: p=>cat b p
 | c,_ :: _=>c
def U4:List Item->Option (List Item)
 | .code (.seq a b) :: k=>some (.code a :: .code b :: k)
 | .code (.block id c) :: k=>some (.code c :: .inBlock id :: k)
 | .code (.loop c) :: k=>some (.code c :: .inLoop c :: k)
 | .inLoop c :: k=>some (.code c :: .inLoop c :: k)
 | .inBlock _ :: k=>some k
 | .code (.scope c) :: k=>some (.code c :: .inScope c :: k)
 | .inScope _ :: k=>some k
 | .code .skip :: k=>some k
 | .code (.label _) :: k=>some k
 | .code (.exit id) :: k=>exitTo id k
 | _=>none
def IC:Nat->List Item->Option (List Item)
 | 0,k=>some k
 | n+1,k=>match U4 k with
  | some k'=>IC n k'
  | none=>none
section
variable {P:Program} {E:Env} {fn:FuncId} {nt:Nat} {dd:Value->World->Prop} {k k':List Item} {st J6:St}
theorem ar.U4 (h:U4 k=some k') (a:ar P E fn nt dd k' st):ar P E fn nt dd k st:=by
 unfold Ab.U4 at h;split at h
 ·cases h;exact a.seq
 ·cases h;exact a.block
 ·cases h;exact a.loop
 ·cases h;exact a.inLoop
 ·cases h;exact a.inBlock
 ·cases h;exact a.scope
 ·cases h;exact a.inScope
 ·cases h;exact a.skip
 ·cases h;exact a.label
 ·exact a.exit h
 ·cases h
theorem ar.IC:∀ (n:Nat) {k:List Item},IC n k=some k'->ar P E fn nt dd k' st->ar P E fn nt dd k st
 | 0,k,h,a=>by simp only [Ab.IC,aX] at h;rw [h];exact a
 | n+1,k,h,a=>by
  simp only [Ab.IC] at h;split at h
  ·rename_i b h1;exact ar.U4 h1 (ar.IC n h a)
  ·cases h
theorem ar.amm {c x y:Code} {o:Operand} {q:Bool} (a:c=.cond o x y) (b:Bh st.tm o=.atom (.bool q)) (h1:q=true->ar P E fn nt dd (.code x :: k) st) (h2:q=false->ar P E fn nt dd (.code y :: k) st) :
  ar P E fn nt dd (.code c :: k) st:=by
 grind [ar.cond]
theorem ar.anG {c x y:Code} {o:Operand} {n:Nat} (t:c=.cond o x y) (u:Bh st.tm o=.bn n) (h1:n=0->ar P E fn nt dd (.code x :: k) st) (h2:ar P E fn nt dd (.code y :: k) st) :
  ar P E fn nt dd (.code c :: k) st:=by
 subst t;intro tm w m d b p r cs;have z:=d;obtain ⟨S,μ,g,_,_,A⟩:=z;have e:=HS (a:=⟨tm,[]⟩) A o;rw [u] at e;obtain ⟨q,B,C⟩:∃ q,(⟨tm,[]⟩:Act).eval o=.bool q/\(q=true->n=0):=by
  generalize (⟨tm,[]⟩:Act).eval o=v at e;cases e with
  | bn q h=>exact ⟨q,rfl,h⟩
 have s:=step_cond (P:=P) (b:=b) (k:=k) (cs:=cs) (w:=w) (x:=x) (y:=y) B;cases q with
 | true =>
  obtain ⟨v,w',fr,f,i,j,l⟩:=h1 (C rfl) tm w m d b p r cs;exact ⟨v,w',fr,f,.head s i,j,l⟩
 | false =>
  obtain ⟨v,w',fr,f,i,j,l⟩:=h2 tm w m d b p r cs;exact ⟨v,w',fr,f,.head s i,j,l⟩
end
def IE:fe->List Nat->fe
 | σ,[]=>σ
 | σ,k :: r=>IE (wE σ k) r
theorem aH.akY {E:Env} {res:AV} {v:Value} {w:World}:∀ (ks:List Nat) {σ:fe},aH E σ res v w->aH E (IE σ ks) res v w
 | [],_,h=>h
 | k :: r,_,⟨S,μ,g,a⟩=>aH.akY r ⟨S,μ,g.del k,a⟩
theorem ar.asH {P:Program} {E:Env} {fn:FuncId} {nt:Nat} {k:List Item} {st:St} {c:Code} (ks:List Nat) (d:c=.ret) {f:Func} (e:P.funcs[fn]?=some f) {ps:List Prop} {res:AV} {a:fe} (h:Fh P f st=some (ps,res))
  (g:IE st.mg ks=a) (i:bg ps):ar P E fn nt (aH E a res) (.code c :: k) st:=by
 subst d g;intro tm w h1 h2 b h3 h4 cs;obtain ⟨v,w',fr,j,l⟩:=ar.ret (E:=E) (nt:=nt) (k:=k) e h i tm w h1 h2 b h3 h4 cs;exact ⟨v,w',fr,j.akY ks,l⟩
theorem ar.asI {P:Program} {E:Env} {fn:FuncId} {nt:Nat} {st:St} (ks:List Nat) {f:Func} (c:P.funcs[fn]?=some f) {ps:List Prop} {res:AV} {a:fe} (h:Fh P f st=some (ps,res))
  (d:IE st.mg ks=a) (e:bg ps):ar P E fn nt (aH E a res) [] st:=by
 subst d;intro tm w h1 h2 b h3 h4 cs;obtain ⟨v,w',fr,g,i⟩:=ar.fin (E:=E) (nt:=nt) c h e tm w h1 h2 b h3 h4 cs;exact ⟨v,w',fr,g.akY ks,i⟩
def Qc (P:Program) (nt m:Nat) (c:Code) (orcs:List (Nat×qE)) (F:List Nat) (a:List (Nat×Wd)) (gV:FV) (nk:Nat) (st:St):Option (List Prop×St) :=
 match Kq P nt c orcs st with
 | some (ps,b)=>match Ol m b F a gV nk with
  | some (d,e)=>some (ps ++ d,e)
  | none=>none
 | none=>none
theorem ar.rw {P:Program} {E:Env} {fn:FuncId} {nt:Nat} {dd:Value->World->Prop} {k:List Item} {st J6:St} {m:Nat} {c:Code} {orcs:List (Nat×qE)} {F:List Nat} {d:List (Nat×Wd)} {gV:FV} {nk:Nat}
  (e:aG E m) {ps:List Prop} (h:Qc P nt m c orcs F d gV nk st=some (ps,J6)) (a:((F.isEmpty && vJ orcs) || Nat.beq m 0)=true) (i:YsP P E orcs) (f:bg ps) (j:ar P E fn nt dd k J6):ar P E fn nt dd (.code c :: k) st:=by
 unfold Qc at h;split at h
 ·rename_i l s1 h1;split at h
  ·rename_i n s2 h2;simp only [aX,aQ] at h;obtain ⟨rfl,rfl⟩:=h;obtain ⟨o,p⟩:=bg.app f;have g:(F.isEmpty || Nat.beq m 0)=true:=by
    rcases Bool.or_eq_true_iff.1 a with h | h
    ·simp [(Be.1 h).1]
    ·simp [h]
   have q:vJ orcs=true\/∀ b,¬ E.fp b:=by
    rcases Bool.or_eq_true_iff.1 a with h | h
    ·simp_all
    ·exact .inr (e.fp (bZ h))
   grind [ar.region,ar.wk]
  ·cases h
 ·cases h
abbrev aI (n:Int):AV:=.atom (.int .i64 n)
abbrev aB (b:Bool):AV:=.atom (.bool b)
abbrev aS (s:ByteArray):AV:=.atom (.string s)
def bJ {α:Type} (c:α->List AV) (d:α) (l:List α):AV:=.sl l.length fun i=>c (l.getD i d)
def cI (n:Int):List AV:=[aI n]
def cB (b:Bool):List AV:=[aB b]
def cS (s:ByteArray):List AV:=[aS s]
def cU (k:IntKind) (n:Int):List AV:=[.atom (.int k n)]
abbrev aR (n:Int):Int:=IntKind.i64.wrap n
theorem ae {α:Type} {p:Prop} [Decidable p] {x:Option α} {r:α} (h:(if p then x else none)=some r):p/\x=some r:=by
 simp_all
theorem a7 {α β:Type} {x:Option α} {f:α->Option β} {r:β} (h:x.bind f=some r):∃ a,x=some a/\f a=some r:=Option.bind_eq_some_iff.1 h
theorem aW {α:Type} {q:Bool} {x y:α} {r:α} (h:cond q x y=r) (a:q=true):x=r:=by subst a;exact h
def Alike (x y:AV):Prop:=∀ w S μ v,av w S μ v x->av w S μ v y
theorem Alike.refl (x:AV):Alike x x:=fun _ _ _ _ h=>h
theorem Alike.sl {n m:Nat} {g a:Nat->List AV} (d:n=m) (k:∀ i,i < m->a i=g i):Alike (.sl n g) (.sl m a):=by
 subst d;intro w S μ v h;cases h with
 | sl b off sz f h1 h2 h3 h4 e=>exact .sl b off sz f h1 (fun i hi=>by simp_all) h3 (fun i j c hi l=>h4 i j c hi (by simp_all)) e
theorem Alike.nil {g:Nat->List AV}:Alike .nil (.sl 0 g):=by
 intro w S μ v h;cases h;exact .sl 0 0 0 (fun _ _=>undef) (fun h=>absurd h ad) (fun i h=>absurd h ad) (fun i j h=>absurd h ad) (fun i j c h=>absurd h ad) (aV _)
theorem Alike.rp {cs:List AV}:Alike (.rp cs 0) (.pt true cs):=fun _ _ _ _ h=>.pt (fun _=>h) (fun h=>by cases h)
inductive I0:List AV->List AV->Prop where
 | nil:I0 [] []
 | cons {x y:AV} {xs ys:List AV}:Alike x y->I0 xs ys->I0 (x :: xs) (y :: ys)
theorem I0.get {xs ys:List AV} (h:I0 xs ys):xs.length=ys.length/\∀ (j:Nat) y,ys[j]?=some y->∃ x,xs[j]?=some x/\Alike x y:=by
 induction h with
 | nil=>simp
 | cons h1 _ a =>
  grind
theorem Alike.agg {xs ys:List AV} (h:I0 xs ys):Alike (.agg xs) (.agg ys):=by
 intro w S μ v a;obtain ⟨h1,h2⟩:=h.get;cases a with
 | agg b c =>
  refine .agg (b.trans h1) fun j y v d a=>?_;obtain ⟨x,e,f⟩:=h2 j y d;exact f _ _ _ _ (c j x v e a)
theorem Sound.conv {P:Program} {f:FuncId} {a b:List AV} {σ d:fe} {m:Nat} {res:AV} (h:Sound P f a σ m res d) (i:I0 b a):Sound P f b σ m res d:=by
 obtain ⟨h1,h2⟩:=i.get;intro w S μ vs g k e;refine h w S μ vs g k ⟨e.1.trans h1,fun j c v l n=>?_⟩;obtain ⟨x,o,p⟩:=h2 j c l;exact p _ _ _ _ (e.2 j x v o n)
def Tc (k:IntKind) (a b:Int):Int:=k.wrap (BitVec.ofInt k.bits a ||| BitVec.ofInt k.bits b).toNat
def XT (k:IntKind) (a b:Int):Int:=k.wrap (BitVec.ofInt k.bits a &&& BitVec.ofInt k.bits b).toNat
def BP (k:IntKind) (a b:Int):Int:=k.wrap (a * 2 ^ (min b.toNat k.bits))
def zY (k:IntKind) (a b:Int):Int:=a.fdiv (2 ^ (min b.toNat k.bits))
theorem dz {n:Int} {m:Nat} (h:0<=n/\n < (m:Int)):n.toNat < m:=ad
theorem pZ {a b:Bool} (h:a=true) (k:b=true):(a && b)=true:=by rw [h,k];rfl
theorem vK {α:Type} (c:α->List AV) (d x:α) (n i:Nat) (hi:i < (List.replicate n x).length):c ((List.replicate n x).getD i d)=c x:=by
 simp_all
theorem nU {α:Type} (c:α->List AV) (d x:α) (n i:Nat) {z:List AV} (h:S4 z (c x)) (hi:i < (List.replicate n x).length):S4 z (c ((List.replicate n x).getD i d)):=by simp_all
theorem Bk {α:Type} (c:α->List AV) (d:α) (l:List α) (a b i:Nat) (hi:i < ((l.take b).drop a).length):c (((l.take b).drop a).getD i d)=c (l.getD (da a i) d):=by
 have h1:a+i < min b l.length:=by simp at hi;omega
 rw [fk];grind
theorem wV {α:Type} (c:α->List AV) (d:α) (l:List α) (i:Nat) (hi:i < l.length):c (l.getD i d)=(l.map c).getD i []:=by
 simp_all
theorem akZ {α:Type} (l:List α) (a b:Nat) (h1:a<=b) (h2:b<=l.length):b - a=((l.take b).drop a).length:=by simp;omega
theorem vL {α:Type} (l:List α) (a b:Nat) (h1:a<=b/\b<=l.length):b - a=((l.take b).drop a).length:=akZ l a b h1.1 h1.2
end Go.Ab
namespace Go.Ab
theorem condSplit {α:Type} {q:Bool} {x y r:α} (h:cond q x y=r):(q=true/\x=r)\/(q=false/\y=r):=by grind
theorem Bl {α:Type} (c:α->List AV) (d:α) (l m:List α) {n:Nat} {a b:Nat->List AV} (e:n=l.length) (h1:∀ z,z < l.length->c (l.getD z d)=a z)
  (h2:∀ z,z < m.length->c (m.getD z d)=b z) (i:Nat) (hi:i < (l ++ m).length):c ((l ++ m).getD i d)=if i < n then a i else b (i - n):=by
 grind
theorem uS {α:Type} {l m:List α} {n k:Nat} (a:n=l.length) (b:k=m.length):n+k=(l ++ m).length:=by subst a b;simp
theorem xH {α:Type} (c:α->List AV) (d:α) (l:List α) (k:Nat) (x:α) {g:Nat->List AV} (h1:∀ z,z < l.length->c (l.getD z d)=g z) (i:Nat) (hi:i < (l.set k x).length) :
  c ((l.set k x).getD i d)=if i=k then c x else g i:=by
 grind
theorem fz {α:Type} {l:List α} {n k:Nat} {x:α} (a:n=l.length):n=(l.set k x).length:=by subst a;simp
def kp:List Nat->List (Nat×Wd)
 | []=>[]
 | t :: r=>(t,.aj) :: kp r
def kq:List Nat->FV
 | []=>[]
 | k :: r=>(k,.aj k) :: kq r
def vO (n:Nat) (cs:List AV):Ob:=⟨true,n,1,true,fun _=>cs⟩
def vN (n:Nat) (cs:List AV):Ob:=⟨true,n,1,false,fun _=>cs⟩
def aO {α:Type} (sz:Nat) (c:α->List AV) (d:α) (l:List α):Ob:=⟨false,sz,l.length,true,fun zi=>c (l.getD zi d)⟩
def amo:Nat->Nat->List Bool->List Bool
 | 0,_,acc=>acc
 | k+1,n,acc=>match Nat.ble n 1 with
  | true=>acc
  | false=>amo k (n / 2) (Nat.beq (n % 2) 1 :: acc)
def pth (n:Nat):List Bool:=amo 400 n []
theorem o1:0 < 1:=Nat.one_pos
theorem z0 {n:Nat}:0+n<=n:=Nat.le_of_eq (Nat.zero_add _)
section
variable {P:Program} {E:Env} {fn:FuncId} {nt:Nat} {dd:Value->World->Prop} {k:List Item} {st:St} {m:Nat}
theorem ar.sA (n:Nat) (k':List Item) (a:ar P E fn nt dd k' st) (h:Ab.IC n k=some k':=by kernel_rfl):ar P E fn nt dd k st:=ar.IC n h a
theorem ar.sC {c:Code} (t:Nat) (x y:Code) (q:Bool) (h1:q=true->ar P E fn nt dd (.code x :: k) st) (h2:q=false->ar P E fn nt dd (.code y :: k) st) (a:c=.cond (.tmp t) x y:=by kernel_rfl) (b:Bh st.tm (.tmp t)=.atom (.bool q):=by kernel_rfl) :
  ar P E fn nt dd (.code c :: k) st:=ar.amm a b h1 h2
theorem ar.sT {c:Code} (f:Func) (ks:List Nat) (ps:List Prop) {res:AV} {a:fe} (b:bg ps) (d:c=.ret:=by kernel_rfl) (e:P.funcs[fn]?=some f:=by kernel_rfl) (h:Fh P f st=some (ps,res):=by kernel_rfl)
  (g:IE st.mg ks=a:=by rfl):ar P E fn nt (aH E a res) (.code c :: k) st:=ar.asH ks d e h g b
theorem ar.sF (f:Func) (ks:List Nat) (ps:List Prop) {res:AV} {a:fe} (b:bg ps) (c:P.funcs[fn]?=some f:=by kernel_rfl) (h:Fh P f st=some (ps,res):=by kernel_rfl)
  (d:IE st.mg ks=a:=by rfl):ar P E fn nt (aH E a res) [] st:=ar.asI ks c h d b
def nK (n:Nat) (k:List Item):List Item:=match Ab.IC n k with
 | some k'=>k'
 | none=>[]
def vu:List Item->Code
 | .code c :: _=>c
 | _=>.ret
def XU:List Item->List Item
 | _ :: k=>k
 | []=>[]
def cdX:Code->Code
 | .cond _ x _=>x
 | c=>c
def cdY:Code->Code
 | .cond _ _ y=>y
 | c=>c
def Gh (n:Nat) (k:List Item):Bool:=match Ab.IC n k with
 | some (.code _ :: _)=>true
 | _=>false
def nS (P:Program) (nt m:Nat) (c:Code) (orcs:List (Nat×qE)) (F:List Nat) (a:List (Nat×Wd)) (gV:FV) (nk:Nat) (st:St):St:=match Qc P nt m c orcs F a gV nk st with
 | some x=>x.2
 | none=>st
def nV (m:Nat) (st:St) (F:List Nat) (a:List (Nat×Wd)) (gV:FV) (nk:Nat):St:=match Ol m st F a gV nk with
 | some x=>x.2
 | none=>st
def FD:Option (List Prop×St)->Option (List Prop)
 | some x=>some x.1
 | none=>none
theorem yV {n:Nat} {k:List Item} (h:Gh n k=true):Ab.IC n k=some (.code (vu (nK n k)) :: XU (nK n k)):=by
 unfold Gh at h;unfold nK;split at h
 ·rename_i c k' h1;rw [h1];rfl
 ·cases h
theorem nJ {x:Option (List Prop×St)} {ps:List Prop} (h:FD x=some ps):∃ s,x=some (ps,s):=by
 cases x with
 | none=>cases h
 | some y=>cases h;exact ⟨y.2,rfl⟩
theorem rnR (c:aG E m) (n:Nat) (orcs:List (Nat×qE)) (F:List Nat) (a:List (Nat×Wd)) (gV:FV) (nk:Nat) {ps:List Prop} (d:bg ps)
  (g:ar P E fn nt dd (XU (nK n k)) (nS P nt m (vu (nK n k)) orcs F a gV nk st)) (e:Gh n k=true:=by kernel_rfl)
  (h:FD (Qc P nt m (vu (nK n k)) orcs F a gV nk st)=some ps:=by kernel_rfl) (b:(((F.isEmpty && vJ orcs) || Nat.beq m 0) && noY orcs)=true:=by kernel_rfl):ar P E fn nt dd k st:=by
 obtain ⟨s,f⟩:=nJ h;refine ar.IC n (yV e) (ar.rw c f (Be.1 b).1 (Qa (Be.1 b).2) d ?_);grind [nS,vu,nK]
theorem Z3 (a:aG E m) (n:Nat) (F:List Nat) (b:List (Nat×Wd)) (gV:FV) (nk:Nat) {ps:List Prop} (c:bg ps) {k':List Item} {J6:St} (d:ar P E fn nt dd k' J6)
  (e:Ab.IC n k=some k':=by kernel_rfl) (h:Ol m st F b gV nk=some (ps,J6):=by kernel_rfl) (f:(F.isEmpty || Nat.beq m 0)=true:=by kernel_rfl):ar P E fn nt dd k st :=
 ar.IC n e (ar.wk a h f c d)
theorem Lo (b:aG E m) (F:List Nat) (a:List (Nat×Wd)) (gV:FV) (nk:Nat) {ps:List Prop} (c:bg ps) (d:ar P E fn nt dd k (nV m st F a gV nk))
  (h:FD (Ol m st F a gV nk)=some ps:=by kernel_rfl) (e:(F.isEmpty || Nat.beq m 0)=true:=by kernel_rfl):ar P E fn nt dd k st:=by
 grind [nJ,nV,ar.wk]
theorem b9 (n t:Nat) {R:Type} {q:Bool} {x y r:R} (h:(bif q then x else y)=r) (h1:q=true->x=r->ar P E fn nt dd (.code (cdX (vu (nK n k))) :: XU (nK n k)) st)
  (h2:q=false->y=r->ar P E fn nt dd (.code (cdY (vu (nK n k))) :: XU (nK n k)) st) (b:Gh n k=true:=by kernel_rfl)
  (c:vu (nK n k)=.cond (.tmp t) (cdX (vu (nK n k))) (cdY (vu (nK n k))):=by kernel_rfl) (d:Bh st.tm (.tmp t)=.atom (.bool q):=by kernel_rfl):ar P E fn nt dd k st :=
 ar.IC n (yV b) (ar.amm c d (fun a=>h1 a (by rw [a] at h;exact h)) (fun a=>h2 a (by rw [a] at h;exact h)))
theorem ki (i:aG E m) (n:Nat) (f:Func) (F:List Nat) (b:List (Nat×Wd)) (gV:FV) (nk:Nat) {ps:List Prop} (j:bg ps) (ks:List Nat) {a:List Prop} (l:bg a) {res:AV} {c:fe}
  (o:Gh n k=true:=by kernel_rfl) (p:vu (nK n k)=.ret:=by kernel_rfl) (h:FD (Ol m st F b gV nk)=some ps:=by kernel_rfl) (q:P.funcs[fn]?=some f:=by kernel_rfl)
  (h2:Fh P f (nV m st F b gV nk)=some (a,res):=by kernel_rfl) (d:IE (nV m st F b gV nk).mg ks=c:=by kernel_rfl) (r:(F.isEmpty || Nat.beq m 0)=true:=by kernel_rfl):ar P E fn nt (aH E c res) k st:=by
 obtain ⟨s,g⟩:=nJ h;have e:nV m st F b gV nk=s:=by unfold nV;rw [g]
 rw [e] at h2 d;exact ar.IC n (yV o) (ar.wk i g r j (ar.sT f ks a l p q h2 d))
theorem rnF (d:aG E m) (n:Nat) (f:Func) (F:List Nat) (b:List (Nat×Wd)) (gV:FV) (nk:Nat) {ps:List Prop} (e:bg ps) (ks:List Nat) {a:List Prop} (g:bg a) {res:AV} {c:fe}
  (i:Ab.IC n k=some []:=by kernel_rfl) (h:FD (Ol m st F b gV nk)=some ps:=by kernel_rfl) (j:P.funcs[fn]?=some f:=by kernel_rfl)
  (h2:Fh P f (nV m st F b gV nk)=some (a,res):=by kernel_rfl) (l:IE (nV m st F b gV nk).mg ks=c:=by kernel_rfl) (o:(F.isEmpty || Nat.beq m 0)=true:=by kernel_rfl):ar P E fn nt (aH E c res) k st:=by
 grind [nJ,nV,ar.IC,ar.wk,ar.sF]
def ap2 (st:St) (k i sz len:Nat) (g:Nat->List AV):Option (List Prop) :=
 match ay st.mg k with
 | some o=>match o.var with
  | false=>some [i < o.len,o.get i=[.mr sz len g]]
  | true=>none
 | none=>none
def stO (st:St) (k i sz len:Nat) (g:Nat->List AV):St :=
 match ay st.mg k with
 | some o=>⟨st.tm,sset (sset st.mg k ⟨false,o.sz,o.len,false,fun m=>if m=i then [.os st.nk 0 len] else o.get m⟩) st.nk ⟨false,sz,len,true,g⟩,st.nk+16⟩
 | none=>st
theorem rnO (a i sz len:Nat) (g:Nat->List AV) {ps:List Prop} (e:bg ps) (f:ar P E fn nt dd k (stO st a i sz len g)) (h:ap2 st a i sz len g=some ps:=by kernel_rfl):ar P E fn nt dd k st:=by
 refine fun tm w h1 h2=>f tm w h1 ?_;obtain ⟨S,μ,g0,j,hm,l⟩:=h2;unfold ap2 at h;unfold stO;cases b:ay st.mg a with
 | none=>rw [b] at h;cases h
 | some o =>
  rw [b] at h;simp only at h ⊢;cases c:o.var with
  | true=>rw [c] at h;cases h
  | false =>
   rw [c] at h;simp only [aX] at h;subst h;obtain ⟨m,p,_⟩:=e;obtain ⟨q,r,s⟩:=g0.opn (j st.nk (aV _)) hm b (nL (x:=(sz,len,g)) c m p);exact ⟨S,di μ st.nk q,s,fun n d=>by
    have d:st.nk+16<=n:=d;unfold di;grind,by grind,fun t=>(l t).ext r⟩
def ap3 (st:St) (k q i:Nat):Option (List Prop) :=
 match UT st.mg k q i with
 | some x=>some x.1
 | none=>none
def stL (st:St) (k q i:Nat):St :=
 match UT st.mg k q i with
 | some x=>⟨st.tm,iC st.mg x.2,st.nk⟩
 | none=>st
theorem rnL (a q i:Nat) {ps:List Prop} (c:bg ps) (d:ar P E fn nt dd k (stL st a q i)) (h:ap3 st a q i=some ps:=by kernel_rfl):ar P E fn nt dd k st:=by
 refine fun tm w h1 h2=>d tm w h1 ?_;obtain ⟨S,μ,g0,e,hm,f⟩:=h2;unfold ap3 at h;unfold stL;cases b:UT st.mg a q i with
 | none=>rw [b] at h;cases h
 | some x =>
  rw [b] at h;simp only [aX] at h;subst h;exact ⟨S,μ,TV b c g0,e,hm,f⟩
def mR {α:Type} (sz:Nat) (c:α->List AV) (d:α) (l:List α):List AV:=[.mr sz l.length (fun i=>c (l.getD i d))]
def aM {α:Type} (sz:Nat) (c:α->List AV) (d:α) (l:List (List α)):Ob:=⟨false,1,l.length,false,fun m=>mR sz c d (l.getD m [])⟩
theorem HX {α:Type} {sz:Nat} {c:α->List AV} {d:α} (E:List (List α)) (i q n:Nat) (row:List α) (r:List (Nat×Nat×Nat)) (hi:i < E.length) (f:∀ x∈r,x.1≠i) :
  ∀ m,m < (E.set i row).length->au r (fun m=>mR sz c d ((E.set i row).getD m [])) m=if m=i then mR sz c d row else au ((i,q,n) :: r) (fun m=>mR sz c d (E.getD m [])) m:=by
 intro m _;have gen:∀ (r:List (Nat×Nat×Nat)),m≠i->au r (fun m=>mR sz c d ((E.set i row).getD m [])) m=au r (fun m=>mR sz c d (E.getD m [])) m:=by
  intro r hm
  induction r with
  | nil=>simp only [au,jP];rw [List.getElem?_set_ne (fun h=>hm h.symm)]
  | cons x r g =>
   grind [au]
 by_cases hm:m=i
 ·subst hm;rw [if_pos rfl];clear gen
  induction r with
  | nil=>simp only [au,jP];rw [List.getElem?_set_self hi];rfl
  | cons x r g =>
   obtain ⟨a,b,e⟩:=x;have h1:m≠a:=fun h=>f (a,b,e) List.mem_cons_self h.symm;simp_all [au,if_neg,List.mem_cons_of_mem]
 simp_all [if_neg,au]
theorem xI {α:Type} {sz:Nat} {c:α->List AV} {d:α} (E:List (List α)) (i q n:Nat) (r:List (Nat×Nat×Nat)) (f:∀ x∈r,x.1≠i) :
  ∀ m,m < E.length->au r (fun m=>mR sz c d (E.getD m [])) m=if m=i then mR sz c d (E.getD i []) else au ((i,q,n) :: r) (fun m=>mR sz c d (E.getD m [])) m:=by
 intro m _
 by_cases hm:m=i
 ·subst hm;rw [if_pos rfl]
  induction r with
  | nil=>rfl
  | cons x r g =>
   obtain ⟨a,b,e⟩:=x;have h1:m≠a:=fun h=>f (a,b,e) List.mem_cons_self h.symm;simp_all [au,if_neg,List.mem_cons_of_mem]
 simp_all [if_neg,au]
theorem ags {α:Type} {sz:Nat} {c:α->List AV} {d:α} (E:List (List α)) (i q n:Nat) (row:List α) (r:List (Nat×Nat×Nat)) (he:E.getD i []=row) (a:∀ x∈r,x.1≠i) :
  ∀ m,m < E.length->au r (fun m=>mR sz c d (E.getD m [])) m=if m=i then mR sz c d row else au ((i,q,n) :: r) (fun m=>mR sz c d (E.getD m [])) m:=by
 subst he;exact xI E i q n r a
theorem xJ {α:Type} (E:List (List α)) (row:List α):(E ++ [row]).getD E.length []=row:=ao
theorem anH {α:Type} (E:List α) (row:α):E.length < (E ++ [row]).length:=ao
theorem ak0 {α:Type} {sz:Nat} {c:α->List AV} {d:α} (E:List (List α)) (row:List α) {q n a:Nat} {b:Nat->List AV} (h:n=a) (e:b 0=[.os q 0 n]) :
  ∀ m,m < (E ++ [row]).length->au [(E.length,q,a)] (fun m=>mR sz c d ((E ++ [row]).getD m [])) m=if m < E.length then mR sz c d (E.getD m []) else b (m - E.length):=by
 intro m hm;subst h;simp only [oi,List.length_singleton] at hm;simp only [au];grind
theorem ak1 {b:Nat->List AV} {a:Nat} (i k n c N:Nat) (h1:a=i):∀ m,m < N->au [(i,k,c)] b m=if m=a then [.os k 0 c] else au [(i,k,n)] b m:=by
 grind [au]
theorem gO {c:Prop} [Decidable c] {x:AV} {l:List AV} (h:c):(if c then [x] else l)[0]?=some x:=by rw [if_pos h];rfl
theorem Kr {i:Nat}:∀ x∈([]:List (Nat×Nat×Nat)),x.1≠i:=fun _ h=>by simp at h
theorem neC {i j k n:Nat} {r:List (Nat×Nat×Nat)} (h:j≠i) (a:∀ x∈r,x.1≠i):∀ x∈(j,k,n) :: r,x.1≠i:=fun x b=>by
 grind
theorem pc {p:Prop} {ps:List Prop} (h:p) (t:bg ps):bg (p :: ps):=⟨h,t⟩
theorem pn:bg []:=trivial
theorem z1 (n:Nat):0+n<=n:=z0
theorem cn {α:Type} (c:α->List AV) (d:α) (l:List α) (k:Nat) (x:α) (i:Nat) (hi:i < (l.set k x).length):c ((l.set k x).getD i d)=if i=k then c x else (fun zi=>c (l.getD zi d)) i :=
 xH c d l k x (fun _ _=>rfl) i hi
theorem aF {α:Type} (l:List α) (k:Nat) (x:α):l.length=(l.set k x).length:=fz rfl
theorem cj {α:Type} (l m:List α):l.length+m.length=(l ++ m).length:=uS rfl rfl
end
def CJ {A B:Type} (ck:A->AV) (cv:B->AV):List (A×B)->List AV
 | []=>[]
 | p :: r=>ck p.1 :: cv p.2 :: CJ ck cv r
def D7 {A B:Type} (eq:A->A->Bool):List (A×B)->A->B->List (A×B)
 | [],x,y=>[(x,y)]
 | p :: r,x,y=>cond (eq p.1 x) ((p.1,y) :: r) (p :: D7 eq r x y)
theorem ak2 {P:Program} {kt:TypeId} (k:IntKind):∀ a b:Int,Fc P kt (.atom (.int k a)) (.atom (.int k b))=some (a == b):=fun a b=>by simp [Fc]
section
variable {P:Program} {kt:TypeId} {A B:Type} (ck:A->AV) (cv:B->AV) {eq:A->A->Bool} (h:∀ a b,Fc P kt (ck a) (ck b)=some (eq a b))
include h
theorem Gi:∀ (l:List (A×B)) (x:A) (y:B),FC P kt (CJ ck cv l) (ck x) (cv y)=some (CJ ck cv (D7 eq l x y))
 | [],x,y=>rfl
 | p :: r,x,y=>by
  simp only [CJ,FC,h,D7];cases eq p.1 x with
  | true=>rfl
  | false=>simp only [Gi r x y];rfl
end
def I:Bool:=true
def wI (x:Int):Prop:=-9223372036854775808<=x/\x<=9223372036854775807
def wK (k:IntKind) (x:Int):Prop:=k.min<=x/\x<=k.max
def wB (_:Bool):Prop:=True
def wS (s:ByteArray):Prop:=s.size<=9223372036854775807
def wL {A:Type} (wf:A->Prop) (l:List A):Prop:=l.length<=9223372036854775807/\∀ y,y∈l->wf y
def vv {α:Type} (l:List α) (i j:Nat):List α:=l.take i ++ l.drop j ++ l.drop (i+(l.length - j))
theorem Pa {α:Type} {l:List α} {i j:Nat} (h:i<=j/\j<=l.length):l.length=(vv l i j).length:=by simp [vv];omega
theorem acp {α:Type} (c:α->List AV) (d:α) (l:List α) (i j:Nat) (h:i<=j/\j<=l.length) (z:Nat) (a:z < (vv l i j).length) :
  c ((vv l i j).getD z d)=if z < i - 0 then c (l.getD z d) else if z < (i - 0)+(l.length - j) then c (l.getD (da j (z - (i - 0))) d) else c (l.getD z d):=by
 have a:=Pa h ▸ a;have b:(l.take i).length=i:=by simp;omega
 have e:(l.take i ++ l.drop j).length=i+(l.length - j):=by simp;omega
 simp only [vv,Nat.sub_zero,jP,fk];grind
theorem U5 {α:Type} {l:List α} {a n:Nat} (h:0 < n/\a+n<=l.length):a=(l.take a).length:=by simp;omega
theorem agt {α:Type} (c:α->List AV) (d:α) (l:List α) (a z:Nat) (b:z < (l.take a).length):c ((l.take a).getD z d)=c (l.getD z d):=by
 grind
def unL:Nat->List AV
 | 0=>[]
 | n+1=>.il :: unL n
theorem ak3 (n:Nat):(unL n).length=n:=by induction n with
 | zero=>rfl
 | succ n a=>simp [unL,a]
theorem acq {n j:Nat} {x:AV} (h:(unL n)[j]?=some x):x=.il:=by
 induction n generalizing j with
 | zero=>simp [unL] at h
 | succ n a=>grind [unL]
theorem ar.split {P:Program} {E:Env} {fn:FuncId} {nt:Nat} {dd:Value->World->Prop} {s:List Item} {d:St} (t k off m:Nat) (o:Ob) (I:dT d.tm t=.os k off m) (A:ay d.mg k=some o) (u:(!o.var && Nat.ble 1 o.sz)=true) (hm:da off m=o.len)
  (h1:ar P E fn nt dd s ⟨d.tm,sset d.mg k ⟨false,o.sz,da off m+1,o.pr,fun i=>if i < da off m then o.get i else unL o.sz⟩,d.nk⟩)
  (h2:ar P E fn nt dd s ⟨(t,.Ll k off m) :: d.tm,d.mg,d.nk⟩):ar P E fn nt dd s d:=by
 intro tm w B J b p C cs;obtain ⟨S,μ,g,D,F,e⟩:=J;simp only [bd,Bool.not_eq_true',Nat.ble_eq] at u;have f:=e t;rw [show dT d.tm t=_ from I] at f;generalize y:tm.getD t undef=v at f;cases f with
 | os pl z K M L =>
  rename_i cap a;obtain ⟨lL,c,T,l,q⟩:=g.rep.ob k o A;rw [z] at l;cases l;have N:da off m=off+m:=fk _ _
  by_cases O:m < cap
  ·have G:0 < pl.cap:=ad;have H:=g.write A z G q ad ⟨false,o.sz,da off m+1,o.pr,fun i=>if i < da off m then o.get i else unL o.sz⟩ c rfl rfl (show da off m+1<=pl.cap by omega) (fun i hi=>by
    show (if i < da off m then o.get i else unL o.sz).length=o.sz;split
    ·exact q.zF i ad
    ·exact ak3 _) (fun i j x v hi h u=>by
    have h:(if i < da off m then o.get i else unL o.sz)[j]?=some x:=h;split at h
    ·exact q.rep i j x v ad h u
    ·rw [acq h];exact .il) (fun i x h=>⟨(by
    obtain ⟨_,Q,r⟩:=dS h;have r:(if i < da off m then o.get i else unL o.sz)=[.mr x.1 x.2.1 x.2.2]:=r;split at r
    ·grind [nL]
    ·have:=acq (n:=o.sz) (j:=0) (x:=.mr x.1 x.2.1 x.2.2) (by rw [r];rfl);cases this),rfl⟩)
   have hw:w.setRow pl.df c=w:=setRow_self w pl.df c T (0,0) ((q.df G).trans (by grind [jf]));rw [hw] at H;exact h1 tm w B ⟨S,μ,H.2,D,F,e⟩ b p C cs
  ·have:cap=m:=ad;subst this;refine h2 tm w B ⟨S,μ,g,D,F,fun t'=>?_⟩ b p C cs;show av w S μ (tm.getD t' undef) (dT ((t,.Ll k off cap) ::  d.tm) t');simp only [dT];split
   ·rename_i p;rw [<- bZ p,y];exact .Ll pl z K L
   ·exact e t'
noncomputable def both {A:Type} (x y:Option A):Option A:=open Classical in if x=y then x else none
theorem aeb {A:Type} {x y:Option A} {r:A} (h:both x y=some r):x=some r/\y=some r:=by
 grind [both]
theorem aec {A:Type} (x:Option A):both x x=x:=by unfold both;rw [if_pos rfl]
abbrev Cx {α:Type} (c:α->List AV) (d:α) (l:List α):Wd:=.sl l.length fun i=>c (l.getD i d)
abbrev ru {α:Type} (k:Nat) (c:α->List AV) (d:α) (l:List α):Od:=.arr k l.length fun i=>c (l.getD i d)
theorem S5 {α:Type} (c:α->List AV) (d:α) (l m:List α) (i:Nat) (hi:i < (l ++ m).length):c ((l ++ m).getD i d)=if i < l.length then c (l.getD i d) else (m.map c).getD (i - l.length) [] :=
 Bl c d l m rfl (fun _ _=>rfl) (wV c d m) i hi
theorem eR {α:Type} (c:α->List AV) (d:α) (l:List α) (i:Nat) (_:i < l.length):c (l.getD i d)=c (l.getD i d):=rfl
theorem eZ {α:Type} (c:α->List AV) (d:α) (l:List α) (i:Nat) (_:i < l.length):c (l.getD i d)=c (l.getD (da 0 i) d):=rfl
theorem lR {α:Type} (n:Nat) (d:α):n=(List.replicate n d).length:=iB.symm
theorem lQ {α:Type} (n:Nat) (d:α):(List.replicate n d).length<=n:=Nat.le_of_eq iB
theorem oN (l:List (List AV)) (h:l.all AV.vH=true:=by rfl) (i:Nat) (_:i < l.length):AV.vH (l.getD (da 0 i) [])=true:=by
 rw [show da 0 i=i from rfl];have:=List.all_eq_true.1 h;grind
theorem fL {α:Type} (c:α->List AV) (d:α) (l:List α) (h:∀ x,AV.E5 (c x)=true:=by exact fun _=>rfl) (i:Nat) (_:i < l.length):AV.E5 (c (l.getD i d))=true:=h _
noncomputable def bt (f:Func) (n:Nat):Code:=cat (anF f) (pth n)
theorem sO {P:Program} {f:FuncId} {m:Nat} {a:List AV} {σ c:fe} {res:AV} (b:Func) (nt:Nat) (h:∀ E,aG E m->ar P E f nt (aH E c res) [.code (bt b 1)] ⟨BO a 0,σ,m⟩)
  (d:m=0->σ=[]:=by first | exact fun _=>rfl | exact fun h=>absurd h ak) (e:P.funcs[f]?=some b:=by kernel_rfl) (g:b.body=some (bt b 1):=by kernel_rfl) (i:b.ntmps=nt:=by kernel_rfl) (j:Nat.ble a.length nt=true:=by kernel_rfl) :
  Sound P f a σ m res c:=sor e g i j d h
section
variable {P:Program} {E:Env} {fn:FuncId} {nt:Nat} {dd:Value->World->Prop} {k:List Item} {st:St} {m:Nat}
theorem bc (b:aG E m) (n:Nat) (orcs:List (Nat×qE)) (a:List (Nat×Wd)) (gV:FV) (nk:Nat) {ps:List Prop} (c:bg ps) (d:ar P E fn nt dd (XU (nK n k)) (nS P nt m (vu (nK n k)) orcs [] a gV nk st)) (e:Gh n k=true:=by kernel_rfl)
  (h:FD (Qc P nt m (vu (nK n k)) orcs [] a gV nk st)=some ps:=by kernel_rfl) (f:((vJ orcs || Nat.beq m 0) && noY orcs)=true:=by kernel_rfl):ar P E fn nt dd k st:=rnR b n orcs [] a gV nk c d e h f
theorem bD (b:aG E m) (n:Nat) (a:List (Nat×Wd)) (gV:FV) (nk:Nat) {ps:List Prop} (c:bg ps) (d:ar P E fn nt dd (XU (nK n k)) (nS P nt m (vu (nK n k)) [] [] a gV nk st)) (e:Gh n k=true:=by kernel_rfl)
  (h:FD (Qc P nt m (vu (nK n k)) [] [] a gV nk st)=some ps:=by kernel_rfl):ar P E fn nt dd k st:=rnR b n [] [] a gV nk c d e h rfl
theorem ah (b:aG E m) (n:Nat) (a:List (Nat×Wd)) (gV:FV) (nk:Nat) (c:ar P E fn nt dd (XU (nK n k)) (nS P nt m (vu (nK n k)) [] [] a gV nk st)) (d:Gh n k=true:=by kernel_rfl)
  (h:FD (Qc P nt m (vu (nK n k)) [] [] a gV nk st)=some []:=by kernel_rfl):ar P E fn nt dd k st:=rnR b n [] [] a gV nk pn c d h rfl
theorem cd (b:aG E m) (n:Nat) (a:List (Nat×Wd)) (gV:FV) (nk:Nat) {k':List Item} {J6:St} (c:ar P E fn nt dd k' J6)
  (d:Ab.IC n k=some k':=by kernel_rfl) (h:Ol m st [] a gV nk=some ([],J6):=by kernel_rfl):ar P E fn nt dd k st:=Z3 b n [] a gV nk pn c d h rfl
theorem dN (c:aG E m) (n:Nat) (f:Func) (a:List (Nat×Wd)) (gV:FV) (nk:Nat) {res:AV} {b:fe}
  (d:Gh n k=true:=by kernel_rfl) (e:vu (nK n k)=.ret:=by kernel_rfl) (h:FD (Ol m st [] a gV nk)=some []:=by kernel_rfl) (g:P.funcs[fn]?=some f:=by kernel_rfl)
  (h2:Fh P f (nV m st [] a gV nk)=some ([],res):=by kernel_rfl) (i:IE (nV m st [] a gV nk).mg []=b:=by kernel_rfl):ar P E fn nt (aH E b res) k st :=
 ki c n f [] a gV nk pn [] pn d e h g h2 i rfl
end
section
variable {E:Env} {σ:fe} {S:Nat->Prop} {μ:Mu} {w:World}
theorem Good.asK (g:Good E σ S μ w) {k sz N:Nat} {o:Ob} {r q:Nat->List AV} (V:ay σ k=some o) (W:o.sz=1) (X:1<=sz) (F:∀ i,i < o.len->o.get i=[.nil]) (Y:o.len=N) (G:∀ i,i < N->q i=[.mr sz 0 r]) :
  Good E (sset σ k ⟨false,o.sz,N,false,q⟩) S μ w:=by
 subst Y;obtain ⟨pl,c,T,hm,e⟩:=g.rep.ob k o V
 let o':Ob:=⟨false,o.sz,o.len,false,q⟩
 have M:∀ n y,ay (sset σ k o') n=some y->(n=k/\y=o')\/(n≠k/\ay σ n=some y):=by
  intro n y h;rw [bz] at h
  by_cases F:k=n
  ·simp_all
  ·rw [if_neg F] at h;grind
 have a:∀ n y,ay (sset σ k o') n=some y->∃ f,ay σ n=some f:=fun n y h=>by grind
 have key:∀ n j y u,kj w μ (sset σ k o') n j y u->kj w μ σ n j y u\/(u=.slice none 0 0/\y=(sz,0,r)):=by
  rintro n j y u ⟨O,Z,b1,P,H,Q⟩;rcases M n O b1 with ⟨rfl,rfl⟩ | ⟨SX,h1⟩
  ·right;rw [hm] at H;cases H;obtain ⟨_,s,z⟩:=dS P;have s:j < o.len:=s;have z:q j=[AV.mr y.1 y.2.1 y.2.2]:=z;rw [G j s] at z;obtain ⟨v,q1,D⟩:=dg e (i:=j) (j:=0) s ad;have R:=e.rep j 0 .nil v s (by rw [F j s];rfl) q1;cases R;have D:w.cell? ⟨pl.df,j * pl.sz,none⟩=some (.slice none 0 0):=by rw [e.sz];simpa using D
   rw [Q] at D;cases D;refine ⟨rfl,?_⟩;simp only [List.cons.injEq,AV.mr.injEq,and_true] at z;obtain ⟨a1,a2,a3⟩:=z;obtain ⟨y1,t,y3⟩:=y;simp_all
  ·exact .inl ⟨O,Z,h1,P,H,Q⟩
 have l:∀ b,¬ ptrTo (.slice none 0 0) b:=fun b ⟨_,_,h,_⟩=>by cases h
 refine ⟨g.fr,g.S0,g.S1,g.S2,⟨fun n y h=>?_,fun n m y f p I gU h A J ue K oH=>?_⟩,fun n y p h J K=>?_,g.Lm,?_⟩
 ·rcases M n y h with ⟨rfl,rfl⟩ | ⟨_,h⟩
  ·refine ⟨pl,c,T,hm,e.sz,e.df,e.cap,e.len,e.out,fun i hi=>by show (q i).length=o.sz;rw [G i hi];exact W.symm,fun i j x v hi d R=>?_,fun hz=>absurd hz (by show o.sz≠0;omega)⟩;have d:(q i)[j]?=some x:=d;rw [G i hi] at d;cases j with
   | zero =>
    have d:some (AV.mr sz 0 r)=some x:=d;cases d;exact .mr
   | succ j =>
    have d:(none:Option AV)=some x:=d;cases d
  ·exact g.rep.ob n y h
 ·obtain ⟨t,B⟩:=a n y h;obtain ⟨L,ZJ⟩:=a m f A;exact g.rep.ne n m t L p I gU B ZJ J ue K oH
 ·obtain ⟨t,B⟩:=a n y h;exact g.own n t p B J K
 ·refine ⟨fun n j y u h=>?_,fun n j y u b h C m f I h1 h2 h3 he=>?_,fun n j y u b m j' f u' h A C U=>?_⟩
  ·rcases key n j y u h with h | ⟨rfl,rfl⟩
   ·exact g.mx.row _ _ _ _ h
   ·exact ⟨none,0,rfl,aV _,⟨X,fun j=>by
     cases hr:rowOf ⟨false,sz,0,true,r⟩ j with
     | none=>rfl
     | some y=>obtain ⟨_,r2,_⟩:=dS hr;exact absurd r2 (dX _)⟩,fun h=>absurd h (yS _)⟩
  ·rcases key n j y u h with h | ⟨rfl,rfl⟩
   ·obtain ⟨t,B⟩:=a m f h1;exact g.mx.obj _ _ _ _ _ h C m t I B h2 h3 he
   ·exact l _ C
  ·rcases key n j y u h with h | ⟨rfl,rfl⟩
   ·rcases key m j' f u' A with A | ⟨rfl,rfl⟩
    ·exact g.mx.two _ _ _ _ _ _ _ _ _ h A C U
    ·exact absurd U (l _)
   ·exact absurd C (l _)
end
def amp (st:St) (k sz N:Nat) (r a:Nat->List AV):Option (List Prop) :=
 match ay st.mg k with
 | some o=>some [o.sz=1,1<=sz,∀ i,i < o.len->o.get i=[.nil],o.len=N,∀ i,i < N->a i=[.mr sz 0 r]]
 | none=>none
def ap5 (st:St) (k N:Nat) (a:Nat->List AV):St :=
 match ay st.mg k with
 | some o=>⟨st.tm,sset st.mg k ⟨false,o.sz,N,false,a⟩,st.nk⟩
 | none=>st
theorem ar.nNR {P:Program} {E:Env} {fn:FuncId} {nt:Nat} {dd:Value->World->Prop} {k:List Item} {st:St} (a sz N:Nat) (r c:Nat->List AV) {ps:List Prop} (d:bg ps) (e:ar P E fn nt dd k (ap5 st a N c)) (h:amp st a sz N r c=some ps:=by kernel_rfl):ar P E fn nt dd k st:=by
 refine fun tm w h1 h2=>e tm w h1 ?_;obtain ⟨S,μ,g0,f,hm,g⟩:=h2;unfold amp at h;unfold ap5;cases b:ay st.mg a with
 | none=>rw [b] at h;cases h
 | some o =>
  rw [b] at h;simp only [aX] at h ⊢;subst h;obtain ⟨i,j,l,m,n,_⟩:=d;exact ⟨S,μ,g0.asK b i j l m n,f,hm,g⟩
theorem ak4 {A:Type} (n a:Nat):(List.replicate n ([]:List A)).getD a []=[]:=by
 rw [jP,List.getElem?_replicate];split<;>rfl
theorem agv {b:Nat->List AV} {a c:Nat} (i k e n d N:Nat) (h1:a=i) (h2:d=c):∀ m,m < N->au [(i,k,c)] b m=if m=a then [.os k 0 d] else au [(i,e,n)] b m:=by
 grind [au]
section
variable {E:Env} {σ:fe} {S:Nat->Prop} {μ:Mu} {w:World}
def anI (w:World) (μ:Mu) (σ:fe) (k:Nat) (S:Nat->Prop) (b:Nat):Prop:=S b\/∃ i x v,kj w μ σ k i x v/\ptrTo v b
theorem Good.ap6 (g:Good E σ S μ w) (O:∀ b,¬ E.fp b) {k sz N:Nat} {o:Ob} {len:Nat->Nat} {r:Nat->Nat->List AV} {C:Nat->List AV} (P:ay σ k=some o) (Ik:o.var=false) (rK:o.sz=1)
  (hr:∀ i,i < o.len->o.get i=[.mr sz (len i) (r i)]) (hN:o.len=N) (Q:∀ i,i < N->C i=[.sl (len i) (r i)]):Good E (sset σ k ⟨false,o.sz,N,true,C⟩) (anI w μ σ k S) μ w:=by
 subst hN;obtain ⟨pl,c,T,hm,B⟩:=g.rep.ob k o P
 let o':Ob:=⟨false,o.sz,o.len,true,C⟩
 have e:Ext w S μ w (anI w μ σ k S) μ:=⟨aV _,fun _ h=>.inl h,fun _ _=>rfl,fun _ _ h=>h⟩;have F5:∀ n y,ay (sset σ k o') n=some y->(n=k/\y=o')\/(n≠k/\ay σ n=some y):=by
  intro n y h;rw [bz] at h
  by_cases hn:k=n
  ·simp_all
  ·rw [if_neg hn] at h;grind
 have d:∀ n y,ay (sset σ k o') n=some y->∃ R,ay σ n=some R:=fun n y h=>by grind
 have key:∀ n j y u,kj w μ (sset σ k o') n j y u->kj w μ σ n j y u/\n≠k:=by
  rintro n j y u ⟨U,p2,b1,V,J,K⟩;rcases F5 n U b1 with ⟨rfl,rfl⟩ | ⟨SX,h1⟩
  ·obtain ⟨_,W,L⟩:=dS V;have W:j < o.len:=W;have L:C j=[AV.mr y.1 y.2.1 y.2.2]:=L;rw [Q j W] at L;cases L
  ·exact ⟨⟨U,p2,h1,V,J,K⟩,SX⟩
 have out:∀ n y p,ay σ n=some y->μ n=some p->0 < p.cap->¬ S p.df->¬ anI w μ σ k S p.df:=by
  rintro n y p h1 h2 h3 h4 (h | ⟨i,x,v,l,A⟩)
  ·exact h4 h
  ·exact g.mx.obj _ _ _ _ _ l A n y p h1 h2 h3 rfl
 refine ⟨g.fr,fun b h=>.inl (g.S0 b h),?_,?_,⟨fun n y h=>?_,fun n n' y R p p' gU h h' X ue f M=>?_⟩,fun n y p h X f=>?_,g.Lm,?_⟩
 ·rintro b (h | ⟨i,x,v,l,A⟩)
  ·exact g.S1 b h
  ·exact (g.mx.df l A).1
 ·rintro b (h | ⟨i,x,v,l,A⟩)
  ·exact g.S2 b h
  ·rcases (g.mx.df l A).2.2.1 with h | h
   ·exact (O _ h).elim
   ·exact .inr h
 ·rcases F5 n y h with ⟨rfl,rfl⟩ | ⟨_,h⟩
  ·refine ⟨pl,c,T,hm,B.sz,B.df,B.cap,B.len,fun f=>out _ _ _ P hm f (B.out f),fun i hi=>by show (C i).length=o.sz;rw [Q i hi];exact rK.symm,fun i j x v hi z l=>?_,fun O=>absurd O (by show o.sz≠0;omega)⟩;have hi:i < o.len:=hi;have z:(C i)[j]?=some x:=z;rw [Q i hi] at z;cases j with
   | succ j =>
    have z:(none:Option AV)=some x:=z;cases z
   | zero =>
    have z:some (AV.sl (len i) (r i))=some x:=z;cases z;have x6:rowOf o i=some (sz,len i,r i):=nL Ik hi (hr i hi);obtain ⟨u,Y⟩:=kj.of g P x6 hm;obtain ⟨q,s,D⟩:=dg B (i:=i) (j:=0) hi ad;have l:c[i * o.sz+0]?=some v:=l;rw [l] at s;cases s;obtain ⟨U,p2,b1,V,J,K⟩:=id Y;rw [hm] at J;cases J;have D:w.cell? ⟨pl.df,i * pl.sz,none⟩=some v:=by rw [B.sz];simpa using D
    rw [D] at K;cases K;obtain ⟨a,cap,rfl,h1,⟨h2,_⟩,h3⟩:=g.mx.row _ _ _ _ Y;have h1:len i<=cap:=h1
    by_cases f:0 < cap
    ·obtain ⟨b,F,T2,rfl,t,_⟩:=h3 f;refine .sl b 0 sz (fun m j=>(F[m * sz+j]?).getD undef) ?_ (fun m hm=>t.zF m hm) ?_ ?_ h1
     ·exact fun _=>⟨rfl,.inr ⟨i,_,_,Y,_,_,rfl,f⟩⟩
     ·intro m j G Z;obtain ⟨v2,s,D⟩:=dg t (i:=m) (j:=j) G Z;have s:F[m * sz+j]?=some v2:=s;rw [s];simpa using D
     ·intro m j c' G M;have Z:j < sz:=by
       have:=(eK.1 M).1;have e0:(r i m).length=sz:=t.zF m G;omega
      obtain ⟨v2,s,D⟩:=dg t (i:=m) (j:=j) G Z;have s:F[m * sz+j]?=some v2:=s;rw [s];exact (t.rep m j c' v2 G M s).mono (fun _ h=>.inl h) (fun _ _=>rfl) (fun _ _ h=>h)
    ·exact .sl 0 0 0 (fun _ _=>undef) (fun h=>absurd h ad) (fun m hm=>absurd hm ad) (fun m j hm=>absurd hm ad) (fun m j c' hm=>absurd hm ad) h1
  ·obtain ⟨p,F,T2,HD,Of⟩:=g.rep.ob n y h;exact ⟨p,F,T2,HD,Of.ext e (fun _=>rfl) fun f=>out _ _ _ h HD f (Of.out f)⟩
 ·obtain ⟨H,I⟩:=d n y h;obtain ⟨y2',ZJ⟩:=d n' R h';exact g.rep.ne n n' H y2' p p' gU I ZJ X ue f M
 ·obtain ⟨H,I⟩:=d n y h;exact g.own n H p I X f
 ·refine g.mx.tr (fun k=>k) (fun n j y u h=>(key n j y u h).1) (fun _ _ _ _ _ _ _ _ _ _ h=>h) (fun _ h=>.inl h) (fun _ _=>rfl) (fun n j y u b h h0 A=>⟨rfl,?_,fun h=>h⟩) (fun n y p h1 h2 h3=>.inl ?_)
  ·rintro (h1 | ⟨i,x,v,l,pY⟩)
   ·exact (g.mx.df h0 A).2.1 h1
   ·exact (key n j y u h).2 (g.mx.two _ _ _ _ _ _ _ _ _ h0 l A pY).1
  ·obtain ⟨H,I⟩:=d n y h1;exact ⟨n,H,p,I,h2,h3,rfl⟩
end
def frE (st:St) (k sz N:Nat) (len:Nat->Nat) (r:Nat->Nat->List AV) (a:Nat->List AV):Option (List Prop) :=
 match ay st.mg k with
 | some o=>some [o.var=false,o.sz=1,∀ i,i < o.len->o.get i=[.mr sz (len i) (r i)],o.len=N,∀ i,i < N->a i=[.sl (len i) (r i)]]
 | none=>none
def ap8 (st:St) (k N:Nat) (a:Nat->List AV):St :=
 match ay st.mg k with
 | some o=>⟨st.tm,sset st.mg k ⟨false,o.sz,N,true,a⟩,st.nk⟩
 | none=>st
theorem ar.nFR {P:Program} {E:Env} {fn:FuncId} {nt:Nat} {dd:Value->World->Prop} {k:List Item} {st:St} (d:aG E 0) (a sz N:Nat) (len:Nat->Nat) (r:Nat->Nat->List AV) (c:Nat->List AV) {ps:List Prop} (e:bg ps)
  (f:ar P E fn nt dd k (ap8 st a N c)) (h:frE st a sz N len r c=some ps:=by kernel_rfl):ar P E fn nt dd k st:=by
 refine fun tm w h1 h2=>f tm w h1 ?_;obtain ⟨S,μ,g0,g,hm,i⟩:=h2;unfold frE at h;unfold ap8;cases b:ay st.mg a with
 | none=>rw [b] at h;cases h
 | some o =>
  rw [b] at h;simp only [aX] at h ⊢;subst h;obtain ⟨j,l,m,n,p,_⟩:=e;exact ⟨_,μ,g0.ap6 (d.fp rfl) b j l m n p,g,hm,fun t=>(i t).ext ⟨aV _,fun _ h=>.inl h,fun _ _=>rfl,fun _ _ h=>h⟩⟩
end Go.Ab
namespace Go.Ab
open Go.ChangeShapes Go.WideShapes Go.ChangeAt Go.RowKit
def Z4 (w:World) (b:Nat):Prop:=b < w.heap.size
def Ks (w:World) (cs:List Value) (c:List AV):Prop :=
 cs.length=c.length/\∀ (j:Nat) (a:AV) (v:Value),c[j]?=some a->cs[j]?=some v->av w (Z4 w) kf v a
theorem Ks.nil {w:World}:Ks w [] []:=⟨rfl,fun j a v h=>by simp at h⟩
theorem Ks.append {w:World} {a b:List Value} {c d:List AV} (h1:Ks w a c) (h2:Ks w b d):Ks w (a ++ b) (c ++ d):=by
 refine ⟨by simp [h1.1,h2.1],fun j x v e f=>?_⟩
 by_cases g:j < a.length
 ·rw [lx (by rw [<- h1.1];exact g)] at e;rw [lx g] at f;exact h1.2 j x v e f
 ·rw [og (by rw [<- h1.1];omega)] at e;rw [og ad] at f;rw [<- h1.1] at e;exact h2.2 _ x v e f
theorem Ks.step {w:World} {cs:List Value} {o n:Nat} {c d:List AV} (h1:Ks w ((cs.drop o).take n) c) (h2:Ks w (cs.drop (o+n)) d):Ks w (cs.drop o) (c ++ d):=by
 have e:cs.drop o=(cs.drop o).take n ++ cs.drop (o+n):=by rw [<- List.drop_drop];exact (List.take_append_drop n _).symm
 rw [e];exact h1.append h2
theorem Ks.done {w:World} {cs:List Value} {o:Nat} (h:cs.length=o):Ks w (cs.drop o) []:=by
 rw [List.drop_of_length_le ad];exact .nil
theorem Ks.one {w:World} {v:Value} {a:AV} (h:av w (Z4 w) kf v a):Ks w [v] [a]:=by
 refine ⟨rfl,fun j x u b c=>?_⟩;cases j with
 | zero=>simp at b c;subst b c;exact h
 | succ j=>simp at b
def iw (P:Program) (t:TypeId) {A:Type} (wf:A->Prop) (c:A->List AV):Prop :=
 ∀ (H:Type) (enc:TypeId×Value->H) (w:World) (n:Nat) (cs:List Value) (x:DataW H×List MemPlace),DataW.trod enc P w 0 (fun _=>true) true n t cs=some x->∃ y:A,wf y/\Ks w cs (c y)
variable {P:Program} {t e:TypeId}
theorem iw.int (a:P.underlying t=some (.int .i64)):iw P t wI cI:=by
 intro H enc w n cs x h;obtain ⟨n,rfl,_,hw⟩:=DataW.trod_int a h;refine ⟨n,?_,Ks.one (.atom _)⟩;simp [Lit.wf,IntKind.min,IntKind.max,IntKind.signed,IntKind.bits] at hw;exact ⟨ad,ad⟩
theorem iw.bool (a:P.underlying t=some .bool):iw P t wB cB:=by
 intro H enc w n cs x h;obtain ⟨b,rfl,_⟩:=DataW.trod_bool a h;exact ⟨b,trivial,Ks.one (.atom _)⟩
theorem iw.str (a:P.underlying t=some .string):iw P t wS cS:=by
 intro H enc w n cs x h;obtain ⟨s,rfl,_,b⟩:=DataW.trod_string a h;refine ⟨s,?_,Ks.one (.atom _)⟩;unfold maxLen at b;unfold wS;omega
theorem XV {a:Addr} (h:a.spot=none) (n:Nat):a.add n=⟨a.block,a.off+n,none⟩:=by
 obtain ⟨b,o,s⟩:=a;simp only at h;subst h;unfold Addr.add
 by_cases h:n=0<;>simp [h]
theorem iw.slice {A:Type} {wf:A->Prop} {c:A->List AV} (d:A) (J:P.underlying t=some (.slice e)) (he:iw P e wf c) {sz:Nat} (B:P.cellsOf e=sz) (K:0 < sz) (L:∀ y,(c y).length=sz) :
  iw P t (wL wf) (fun l=>[bJ c d l]):=by
 intro H enc w n cs x h;rcases Go.Deep.open_slice J h with ⟨rfl,_⟩ | ⟨a,len,cap,m,k,D,S,rfl,_,C,E,hm,_,p⟩
 ·refine ⟨[],⟨ao,ao⟩,Ks.one ?_⟩;exact .sl 0 0 0 (fun _ _=>default) (fun h=>absurd h (dX _)) (fun i h=>absurd h (dX _)) (fun i j h=>absurd h (dX _)) (fun i j c h=>absurd h (dX _)) (aV _)
 ·simp only [if_true] at hm;subst hm;rw [B] at p;have M:∀ i,i < len->∃ z:List Value×A,w.cells? 0 (a.add (i * sz)) sz=some z.1/\wf z.2/\Ks w z.1 (c z.2):=fun i hi=>by
   obtain ⟨G,h1,h2⟩:=p i ad;obtain ⟨y,u,N⟩:=he H enc w k G _ h2;exact ⟨(G,y),h1,u,N⟩
  haveI:Inhabited (List Value×A):=⟨([],d)⟩
  obtain ⟨Z,v⟩:=Go.Deep.choose_lt M;have f:((List.range len).map fun i=>(Z i).2).length=len:=ao;have O:∀ i,i < len->((List.range len).map fun i=>(Z i).2).getD i d=(Z i).2:=fun i hi=>by
   simp [List.getD,hi]
  have I:∀ i j,i < len->j < sz->w.cell? ((a.add (i * sz)).add j)=some ((Z i).1.getD j default):=fun i j hi r=>by
   obtain ⟨_,T,Q⟩:=World.cells?_some (v i hi).1;rw [Q j r];have:j < (Z i).1.length:=ad;simp [List.getD,this]
  have g:0 < len->a.spot=none/\a.block < w.heap.size:=fun q=>by
   have:=I 0 0 q K;simp only [Nat.zero_mul,Addr.add,if_true] at this;unfold World.cell? at this;split at this
   ·rename_i U V W R;refine ⟨?_,(Array.getElem?_eq_some_iff.1 R).1⟩;cases B:a.spot with
    | none=>rfl
    | some z=>simp [B] at this
   ·cases this
  refine ⟨(List.range len).map fun i=>(Z i).2,⟨by rw [f];unfold maxLen at E;omega,?_⟩,Ks.one ?_⟩
  ·intro y u;simp only [List.mem_map,qh] at u;obtain ⟨i,hi,rfl⟩:=u;exact (v i hi).2.1
  ·unfold bJ;rw [f];refine .sl a.block a.off sz (fun i j=>(Z i).1.getD j default) (fun q=>⟨?_,(g q).2⟩) (fun i hi=>L _) (fun i j hi r=>?_) (fun i j x hi p=>?_) C
   ·have:=(g q).1;obtain ⟨b,o,s⟩:=a;simp only at this;subst this;rfl
   ·have q:=(g ad).1;have:=I i j hi r;rwa [XV q,XV rfl] at this
   ·rw [O i hi] at p;have r:j < (c (Z i).2).length:=(eK.1 p).1;have F:j < (Z i).1.length:=by rw [(v i hi).2.2.1];exact r
    refine (v i hi).2.2.2 j x _ p ?_;simp [List.getD,F]
theorem uw {H:Type} {enc:TypeId×Value->H} {w:World} {fs:Array Field} {n:Nat} {cs:List Value} {x:DataW H×List MemPlace} (a:P.underlying t=some (.struct fs)) (h:DataW.trod enc P w 0 (fun _=>true) true n t cs=some x) :
  cs.length=P.cellsOf t/\∃ m,∀ (i:Nat) (f:Field),fs[i]?=some f->∃ y,DataW.trod enc P w 0 (fun _=>true) true m f.type ((cs.drop f.offset).take (P.cellsOf f.type))=some y:=by
 obtain ⟨xs,m,_,_,b,c,d⟩:=DataW.trod_struct a h;refine ⟨b,m,fun i f hi=>?_⟩;rw [d i f hi];have:i < xs.length:=by rw [c];exact (Array.getElem?_eq_some_iff.1 hi).1
 exact ⟨xs[i],ub this⟩
theorem kr {H:Type} {enc:TypeId×Value->H} {w:World} {fs:Array Field} {m:Nat} {cs:List Value} (g:∀ (i:Nat) (f:Field),fs[i]?=some f->∃ y,DataW.trod enc P w 0 (fun _=>true) true m f.type ((cs.drop f.offset).take (P.cellsOf f.type))=some y)
  (i:Nat) {te:TypeId} (o n:Nat) {A:Type} {wf:A->Prop} {c:A->List AV} (he:iw P te wf c) (hi:(fs[i]?).map (fun (f:Field)=>(f.type,f.offset))=some (te,o)) (h:P.cellsOf te=n):∃ y:A,wf y/\Ks w ((cs.drop o).take n) (c y):=by
 simp only [a4,aQ] at hi;obtain ⟨f,a,b,d⟩:=hi;obtain ⟨y,e⟩:=g i f a;rw [b,d,h] at e;exact he H enc w m _ y e
section
variable {H:Type} {enc:TypeId×Value->H} {w:World} {base:Nat} {v:Value} {d:DataW H} {ps:List MemPlace} {A:Type} {wf:A->Prop}
theorem aed {fs:Array Field} {c:A->List AV} (b:P.underlying t=some (.struct fs)) (e:iw P t wf c) (f:Value.okWide P w .any base t v) (h:DataW.Trod enc P w 0 (fun _=>true) true t v d ps):∃ y,wf y/\av w (Z4 w) kf v (.agg (c y)):=by
 obtain ⟨cs,rfl,_⟩:=okWide_struct b f;obtain ⟨n,g⟩:=h;obtain ⟨y,i,a⟩:=e H enc w n _ _ g;refine ⟨y,i,.agg (by simpa [Value.cells] using a.1) fun j x u k l=>a.2 j x u k (by simpa [Value.cells] using l)⟩
theorem RL.nil {S:Nat->Prop} {μ:Mu}:RL w S μ #[] []:=⟨rfl,fun j c v h=>by simp at h⟩
theorem rl1 {S:Nat->Prop} {μ:Mu} {b:Value} {d:AV} (f:av w S μ b d):RL w S μ #[b] [d]:=by
 refine ⟨rfl,fun j c v a e=>?_⟩
 match j with
 | 0=>simp at a e;subst a e;exact f
 | j+1=>simp at a
end
theorem acr {H:Type} {enc:TypeId×Value->H} (g:laidOutB P=true) {W i:World} (j:Below W.heap.size W i) (sp:Nat->Bool) :
  ∀ (e:List TypeId) (vs:List Value) (ds:List (DataW H)) (p:List MemPlace),(e.all fun t=>P.readableRec t && decide (t < P.types.size))=true->(∀ x∈p,x.block < W.heap.size)->(∀ x∈p,sp x.block=true) ->
   DataW.TrodAll enc P W 0 (fun _=>true) true e vs ds p->DataW.TrodAll enc P i 0 sp true e vs ds p
 | [],[],[],_,_,_,_,h=>h
 | t :: e,v :: vs,d :: ds,p,f,k,l,h=>by
  obtain ⟨a,b,h1,h2,rfl⟩:=h;simp only [List.all_cons,bd,decide_eq_true_eq] at f;refine ⟨a,b,?_,acr g j sp e vs ds b (by simpa using f.2) (fun x c=>k x (by simp [c])) (fun x c=>l x (by simp [c])) h2,rfl⟩;exact WideElems.Trod_stays g f.1.1 f.1.2 h1 (fun x c=>j.same (k x (by simp [c]))) (fun x c=>l x (by simp [c]))
theorem agx {H:Type} {enc:TypeId×Value->H} {f:FuncId} {fn:Func} {s:ChangeSpec} {apart fresh handsOn again:Bool} {W:World} {args:Array Value} {ds L:List (DataW H)} {before:List MemPlace} {tb:TypeId} {j:List AV}
  (l:s.vars=[]) (M:laidOutB P=true) (z:(fn.params.toList.all fun t=>P.readableRec t && decide (t < P.types.size))=true) (m:fn.resultTypes=#[tb]) (y:P.underlying tb=some .bool)
  (c:s.fn H ds={ results:=[.lit (.bool true)],args:=ds })
  (G:DataW.Whole enc P fn.params.toList s.vars apart W args.toList ds L before)
  (A:RL W (Z4 W) kf args j) (N:Sound P f j [] 0 (aB true) []) :
  Calls P f args W fun e g=>∃ v,e=.returned v/\s.post enc P fn apart fresh handsOn again W args v g:=by
 have B:Good (zW W (Z4 W) [] kf 0) [] (Z4 W) kf W:=by
  refine ⟨Fr.refl _ _,fun _ h=>h,fun _ h=>h,fun _ h=>.inl h,?_,fun k o pl h=>(by cases h),fun k O=>absurd O (dX _),MX.nil fun k o i h=>by cases h⟩;constructor<;>intros<;>simp_all [ay]
 refine (N W (Z4 W) kf args B (fun _ _=>rfl) A).mono fun e g ⟨v,S',ey,he,n,Q⟩=>?_;have C:Below W.heap.size W g:=⟨n.fr.os,n.fr.tape,n.fr.output,n.fr.size,fun b y=>n.fr.df b y (fun h=>h.elim (fun ⟨k,o,pl,h,_⟩=>by cases h) (fun ⟨k,i,x,v,⟨o,pl,h,_⟩,_⟩=>by cases h))⟩;have R:v=.bool true:=by cases Q;rfl
 subst he R;refine ⟨_,rfl,?_⟩;have d:=G;obtain ⟨p,q,S,I,rfl,D,E⟩:=G;rw [l] at I;obtain ⟨rfl,rfl⟩:=trodVars_none I;rw [List.append_nil] at d;have F:∀ x∈p,x.block < W.heap.size:=fun x a=>d.lt x a;have r:∀ sp:Nat->Bool,(∀ x∈p,sp x.block=true)->DataW.TrodAll enc P g 0 sp true fn.params.toList args.toList (s.fn H (ds ++ [])).args p:=fun sp T=>by
  rw [List.append_nil,c];exact acr M C sp _ _ _ _ z F T S
 have u:∀ sp:Nat->Bool,DataW.TrodVars enc P g sp s.vars (s.fn H (ds ++ [])).vars []:=fun sp=>by
  rw [List.append_nil,c,l];rfl
 have w:∀ (b:Nat) (sp:Nat->Bool) (J:Bool),DataW.TrodAll enc P g b sp J fn.resultTypes.toList ((Value.bool true).resultList fn.resultTypes.size) (s.fn H (ds ++ [])).results []:=fun b sp J=>by
  rw [List.append_nil,c,m];exact trodAll_mk1 (shut_bool y true)
 refine ⟨ds,[],p,[],p,[],d,w _ _ _,r _ (fun x a=>by simpa using F x a),u _,World.keptBut_mono (fun x a=>⟨a,Or.inr (Or.inl a)⟩) (C.frame _),fun _=>?_⟩;refine ⟨ok_one m rfl (okWide_bool_mk y _),(s.fn H (ds ++ [])).results ++ (s.fn H (ds ++ [])).args,_,p,⟨p,[],trodAll_append (r _ (fun _ _=>rfl)) (w _ _ _),u _,ao,?_,by simpa using E⟩,fun x a _=>a⟩
 ·intro b off K;exact (C.frozen (F _ K)).trans (D b off (by simpa using K))
end Go.Ab
namespace Go.Ab
def Fi:Obj->Bool
 | .loop _=>true
 | .deferred _=>true
 | .mapIter _ _ _ _=>true
 | _=>false
theorem Z6 (sz:Nat) (c:Array Value) (T:TypeId):Fi (IP sz c T)=false:=by
 cases sz<;>rfl
theorem Gj {w:World} {l:Nat} {o o':Obj} (h:w.heap[l]?=some o) (b:Fi o=true) (c:Fi o'=true) (a:Addr):(w.putObj l o').cell? a=w.cell? a:=by
 unfold World.cell?
 by_cases e:a.block=l
 ·rw [e,h,World.putObj_heap_same (Array.getElem?_eq_some_iff.1 h).1];cases o<;>cases o'<;>simp_all [Fi]
 ·rw [World.putObj_heap_other e]
theorem av.jR {w w':World} {S S':Nat->Prop} (k:∀ b,S b->S' b) (l:∀ a,w'.cell? a=w.cell? a) {μ:Mu} {v:Value} {x:AV} (h:av w S μ v x):av w' S' μ v x:=by
 induction h with
 | atom v=>exact .atom v
 | agg h1 _ c=>exact .agg h1 c
 | tup h1 _ c=>exact .tup h1 c
 | sl b off sz f h1 h2 h3 _ m c=>exact .sl b off sz f (fun g=>⟨(h1 g).1,k _ (h1 g).2⟩) h2 (fun i j hi n=>(l _).trans (h3 i j hi n)) c m
 | rp b o f h1 h2 _ c=>simp_all [rp,trans]
 | op pl h=>exact .op pl h
 | os pl h h1 h2 h3=>exact .os pl h h1 h2 h3
 | fn h1 h2 _ _ d e=>exact .fn h1 h2 d e
 | when _ p c=>exact .when c p
 | mp pl h=>exact .mp pl h
 | bn b h=>exact .bn b h
 | pt _ h2 c=>exact .pt c h2
 | ov pl h h1=>exact .ov pl h h1
 | Ll pl h h1 h2=>exact .Ll pl h h1 h2
 | nq _ h1 h2 c=>exact .nq c h1 h2
 | nil=>exact .nil
 | il=>exact .il
 | mr=>exact .mr
theorem kg.jR {w w':World} {S S':Nat->Prop} {μ:Mu} {o:Ob} {pl:Place} {c:Array Value} {T:TypeId} (h:kg w S μ o pl c T) (g:∀ b,S b->S' b) (d:∀ a,w'.cell? a=w.cell? a)
  (k:0 < pl.cap->w'.heap[pl.df]?=w.heap[pl.df]?) (l:0 < pl.cap->¬ S' pl.df):kg w' S' μ o pl c T :=
 { h with
  df:=fun d=>(k d).trans (h.df d)
  out:=l
  rep:=fun i j x v hi e f=>(h.rep i j x v hi e f).jR g d
  mp:=fun m=>let ⟨n,h1,h2,h3,h4⟩:=h.mp m;⟨n,h1,h2,h3,fun j x v e f=>(h4 j x v e f).jR g d⟩ }
theorem Good.Z7 {E:Env} {σ:fe} {S:Nat->Prop} {μ:Mu} {w:World} (g:Good E σ S μ w) {k:Nat} {o:Ob} {pl:Place} (b:ay σ k=some o) (hm:μ k=some pl) (d:0 < pl.cap) {l:Nat} {ob:Obj}
  (e:w.heap[l]?=some ob) (f:Fi ob=true):pl.df≠l:=by
 obtain ⟨lL,c,T,a,h⟩:=g.rep.ob k o b;rw [hm] at a;cases a;rintro rfl;rw [h.df d] at e;grind [Z6]
theorem Good.Z8 {E:Env} {σ:fe} {S:Nat->Prop} {μ:Mu} {w:World} (g:Good E σ S μ w) {k i:Nat} {x:Nat×Nat×(Nat->List AV)} {v:Value} {b:Nat} (d:kj w μ σ k i x v) (e:ptrTo v b) {l:Nat} {ob:Obj}
  (a:w.heap[l]?=some ob) (f:Fi ob=true):b≠l:=by
 obtain ⟨_,_,_,c,T,h⟩:=g.mx.df d e;rintro rfl;rw [h] at a;cases a;cases f
theorem Good.acs {E:Env} {σ:fe} {S:Nat->Prop} {μ:Mu} {w:World} (g:Good E σ S μ w) {l:Nat} {ob:Obj} (a:w.heap[l]?=some ob) (b:Fi ob=true):¬ ZG w σ μ l:=by
 rintro (⟨k,o,pl,c,hm,d,he⟩ | ⟨k,i,x,v,e,f⟩)
 ·exact g.Z7 c hm d a b he
 ·exact g.Z8 e f a b rfl
theorem MX.aux {fp e:Nat->Prop} {n0 f:Nat} {w w':World} {S S':Nat->Prop} {μ:Mu} {σ:fe} (h:MX fp n0 w S μ σ) (l:∀ b,S b->S' b) (g:∀ a,w'.cell? a=w.cell? a)
  (m:∀ k i x v b,kj w' μ σ k i x v->kj w μ σ k i x v->ptrTo v b->w'.heap[b]?=w.heap[b]?/\¬ S' b/\((fp b\/n0<=b)->(e b\/f<=b))):MX e f w' S' μ σ:=by
 have back:∀ {k i x v},kj w' μ σ k i x v->kj w μ σ k i x v:=fun ⟨o,pl,h1,h2,h3,h4⟩=>⟨o,pl,h1,h2,h3,by rw [<- g];exact h4⟩;refine ⟨fun k i x v d=>?_,fun k i x v b d=>h.obj k i x v b (back d),fun k i x v b k' i' x' v' d n=>h.two k i x v b k' i' x' v' (back d) (back n)⟩;obtain ⟨a,cap,rfl,h1,h2,h3⟩:=h.row _ _ _ _ (back d);refine ⟨a,cap,rfl,h1,h2,fun j=>?_⟩;obtain ⟨b,c,T,rfl,h4,p⟩:=h3 j;obtain ⟨q,r,s⟩:=m _ _ _ _ b d (back d) ⟨_,_,rfl,j⟩;exact ⟨b,c,T,rfl,h4.jR l g (fun _=>q) (fun _=>r),s p⟩
theorem Good.put {E:Env} {σ:fe} {S:Nat->Prop} {μ:Mu} {w:World} (g:Good E σ S μ w) {l:Nat} {o o':Obj} (h:w.heap[l]?=some o) (d:Fi o=true) (p:Fi o'=true) (q:E.w0.heap.size<=l\/E.fp l) :
  Good E σ S μ (w.putObj l o'):=by
 have e:=Gj h d p;refine ⟨⟨g.fr.os,g.fr.tape,g.fr.output,by simpa using g.fr.size,fun b a f=>?_⟩,g.S0,fun b a=>by simpa using g.S1 b a,g.S2,⟨fun k x j=>?_,g.rep.ne⟩,g.own,g.Lm,
  g.mx.aux (fun _ h=>h) e fun k i x v b _ m a=>⟨World.putObj_heap_other (g.Z8 m a h d),(g.mx.df m a).2.1,fun h=>h⟩⟩
 ·have r:b≠l:=by rintro rfl;rcases q with h | h;omega;exact f h
  rw [World.putObj_heap_other r];exact g.fr.df b a f
 ·obtain ⟨pl,c,T,hm,n⟩:=g.rep.ob k x j;exact ⟨pl,c,T,hm,n.jR (fun _ h=>h) e (fun s=>World.putObj_heap_other (g.Z7 j hm s h d)) n.out⟩
theorem Good.aux {E:Env} {σ:fe} {S:Nat->Prop} {μ:Mu} {w:World} (g:Good E σ S μ w) (o:Obj) (p:Fi o=true) :
  Ext w S μ (w.alloc o) (fun b=>S b\/b=w.heap.size) μ/\Good E σ (fun b=>S b\/b=w.heap.size) μ (w.alloc o):=by
 have a:∀ b,b < w.heap.size->(w.alloc o).heap[b]?=w.heap[b]?:=fun b d=>gI d;have l:(w.alloc o).heap[w.heap.size]?=some o:=World.alloc_heap_new w o;have e:Ext w S μ (w.alloc o) (fun b=>S b\/b=w.heap.size) μ:=⟨ao,fun _ h=>.inl h,fun b d=>a b (g.S1 b d),fun _ _ h=>h⟩;refine ⟨e,⟨g.fr.os,g.fr.tape,g.fr.output,by have:=g.fr.size;simp;omega,fun b d m=>(a b (sM d g.fr.size)).trans (g.fr.df b d m)⟩,fun b d=>.inl (g.S0 b d),?_,?_,⟨fun k x n=>?_,g.rep.ne⟩,g.own,g.Lm,g.Zx a (fun _ h=>.inl h) (fun b h=>h.elim .inl fun h=>.inr (Nat.le_of_eq h.symm))⟩
 ·rintro b (d | rfl)
  ·have:=g.S1 b d;simp;omega
  ·simp
 ·rintro b (d | rfl)
  ·exact g.S2 b d
  ·exact .inr g.fr.size
 ·obtain ⟨pl,c,T,hm,i⟩:=g.rep.ob k x n;have j:0 < pl.cap->pl.df < w.heap.size:=fun f=>ft (i.df f);refine ⟨pl,c,T,hm,i.ext e (fun f=>a _ (j f)) (fun f=>?_)⟩;rintro (h | h)
  ·exact i.out f h
  ·have:=j f;omega
def Kt (w:World) (S:Nat->Prop) (σ:fe) (μ:Mu) (m:Nat):Env:=⟨w,S,ZG w σ μ,μ,m⟩
theorem Good.base {E:Env} {σ:fe} {S:Nat->Prop} {μ:Mu} {w:World} (g:Good E σ S μ w) (m:Nat):Good (Kt w S σ μ m) σ S μ w :=
 ⟨Fr.refl _ _,fun _ h=>h,g.S1,fun _ h=>.inl h,g.rep,fun k o pl d hm e=>.inl (.inl ⟨k,o,pl,d,hm,e,rfl⟩),fun _ _=>rfl,
  g.mx.aux (fun _ h=>h) (fun _=>rfl) fun k i x v b a _ c=>⟨rfl,(g.mx.df a c).2.1,fun _=>.inl (.inr ⟨k,i,x,v,a,c⟩)⟩⟩
theorem Good.Z9 {E:Env} {σ l:fe} {S S':Nat->Prop} {μ ey:Mu} {w w':World} (g:Good E σ S μ w) {m:Nat} (hm:E.m0<=m) (a:Good (Kt w S σ μ m) l S' ey w'):Good E l S' ey w':=by
 have d:∀ b,ZG w σ μ b->E.fp b\/E.w0.heap.size<=b:=by
  rintro b (⟨k,o,pl,e,hm,f,rfl⟩ | ⟨k,i,x,v,j,c⟩)
  ·exact g.own k o pl e hm f
  ·exact (g.mx.df j c).2.2.1
 refine ⟨⟨a.fr.os.trans g.fr.os,a.fr.tape.trans g.fr.tape,a.fr.output.trans g.fr.output,gG g.fr.size a.fr.size,fun b c n=>?_⟩,fun b c=>a.S0 b (g.S0 b c),a.S1,fun b c=>?_,a.rep,fun k o pl e hm f=>?_,fun k p=>?_,
  a.mx.aux (fun _ h=>h) (fun _=>rfl) fun k i x v b j _ c=>⟨rfl,(a.mx.df j c).2.1,fun h=>h.elim (d b) fun h=>.inr (gG g.fr.size h)⟩⟩
 ·refine (a.fr.df b (sM c g.fr.size) fun h=>?_).trans (g.fr.df b c n);rcases d b h with h1 | h1
  ·exact n h1
  ·omega
 ·rcases a.S2 b c with h1 | h1
  ·exact g.S2 b h1
  ·exact .inr (gG g.fr.size h1)
 ·rcases a.own k o pl e hm f with h1 | h1
  ·exact d _ h1
  ·exact .inr (gG g.fr.size h1)
 ·rw [a.Lm k (sM p hm)];exact g.Lm k p
theorem Good.asO {E:Env} {σ:fe} {S:Nat->Prop} {μ:Mu} {w:World} (g:Good E σ S μ w) {l:Nat} {o o':Obj} (h:w.heap[l]?=some o) (a:Fi o=true) (p:Fi o'=true) (m:Nat) :
  Good (Kt (w.putObj l o') S σ μ m) σ S μ (w.putObj l o'):=by
 have e:=Gj h a p;refine ⟨Fr.refl _ _,fun _ h=>h,fun b d=>by simpa using g.S1 b d,fun _ h=>.inl h,⟨fun k x f=>?_,g.rep.ne⟩,fun k o pl a hm e=>.inl (.inl ⟨k,o,pl,a,hm,e,rfl⟩),fun _ _=>rfl,
  g.mx.aux (fun _ h=>h) e fun k i x v b q j d=>⟨World.putObj_heap_other (g.Z8 j d h a),(g.mx.df j d).2.1,fun _=>.inl (.inr ⟨k,i,x,v,q,d⟩)⟩⟩
 obtain ⟨pl,c,T,hm,n⟩:=g.rep.ob k x f;exact ⟨pl,c,T,hm,n.jR (fun _ h=>h) e (fun r=>World.putObj_heap_other (g.Z7 f hm r h a)) n.out⟩
def WI (P:Program) (E:Env) (nt:Nat) (c:Code) (st J6:St):Prop:=∀ (l:Nat) (tm:Array Value) (w:World),tm.size=nt->SZ E st tm w ->
 c.wpIn (FW (some l)) 0 P (fun e a w'=>e=.normal/\a.tmps.size=nt/\a.defers=[]/\SZ E J6 a.tmps w') ⟨tm,[]⟩ w
theorem WI.seq {P:Program} {E:Env} {nt:Nat} {x y:Code} {st a b:St} (h1:WI P E nt x st a) (h2:WI P E nt y a b):WI P E nt (.seq x y) st b:=by
 intro l tm w f g;refine wpIn_seq (wpIn_mono (h1 l tm w f g) ?_);rintro e ⟨t,ds⟩ w' ⟨rfl,c,d,h⟩;simp only at c d;subst d;exact h2 l t w' c h
theorem WI.block {P:Program} {E:Env} {nt:Nat} {id:Nat} {x:Code} {st b:St} (h1:WI P E nt x st b):WI P E nt (.block id x) st b:=by
 intro l tm w c d;refine wpIn_block (wpIn_mono (h1 l tm w c d) ?_);rintro e a w' ⟨rfl,f,g,h⟩;exact ⟨rfl,f,g,h⟩
theorem WI.rw {P:Program} {E:Env} {nt m:Nat} {c:Code} {orcs:List (Nat×qE)} {F:List Nat} {j:List (Nat×Wd)} {gV:FV} {nk:Nat} {st J6:St} (f:aG E m) {ps:List Prop}
  (h:Qc P nt m c orcs F j gV nk st=some (ps,J6)) (d:(((F.isEmpty && vJ orcs) || Nat.beq m 0) && noY orcs)=true) (k:bg ps):WI P E nt c st J6:=by
 intro l tm w n o;unfold Qc at h;split at h
 ·rename_i v s1 h1;split at h
  ·rename_i i s2 h2;simp only [aX,aQ] at h;obtain ⟨rfl,rfl⟩:=h;obtain ⟨p,q⟩:=bg.app k;obtain ⟨d,r⟩:=Be.1 d;have s:vJ orcs=true\/∀ b,¬ E.fp b:=by
    rcases Bool.or_eq_true_iff.1 d with h | h
    ·simp_all
    ·exact .inr (f.fp (bZ h))
   have g:F.isEmpty=true\/∀ b,¬ E.fp b:=by
    rcases Bool.or_eq_true_iff.1 d with h | h
    ·simp_all
    ·exact .inr (f.fp (bZ h))
   refine wpIn_mono (Gg (rd:=some l) (ds:=[]) s (Qa r) h1 p n o) ?_;rintro e a w' ⟨rfl,i,t,u⟩;refine ⟨rfl,i,t,P9 (by rw [f.m0];exact h2) q g u⟩
  ·cases h
 ·cases h
abbrev aaa (D:Nat):Deferred:={ target:=.collected D,args:=#[] }
def pP (P:Program) (E:Env) (D:Nat) (fn:FuncId) (nt:Nat) (dd:Value->World->Prop) (k:List Item) (st:St):Prop :=
 ∀ (tm:Array Value) (w:World),tm.size=nt->SZ E st tm w->∀ (b:Frame),b.fn=fn->b.kind=.normal->∀ cs,
  ∃ v w' fr,dd v w'/\Steps P (lone (b.at ⟨tm,[aaa D]⟩ k) cs w) (lone fr cs w')/\fr.fn=fn/\fr.leaving P w' (.returned v)
section
variable {P:Program} {E E9:Env} {D:Nat} {fn:FuncId} {nt:Nat} {dd:Value->World->Prop} {k k':List Item} {st J6:St}
theorem pP.step (h:pP P E D fn nt dd k' st) (c:∀ (b:Frame) (a:Act) (cs:List Frame) (w:World),step P (lone (b.at a k) cs w)=.next (lone (b.at a k') cs w)):pP P E D fn nt dd k st:=by
 intro tm w h1 h2 b h3 h4 cs;obtain ⟨v,w',fr,d,e,f,g⟩:=h tm w h1 h2 b h3 h4 cs;exact ⟨v,w',fr,d,.head (c b ⟨tm,[aaa D]⟩ cs w) e,f,g⟩
theorem pP.seq {x y:Code} (h:pP P E D fn nt dd (.code x :: .code y :: k) st):pP P E D fn nt dd (.code (.seq x y) :: k) st:=h.step fun _ _ _ _=>step_seq
theorem pP.inBlock {id:Nat} (h:pP P E D fn nt dd k st):pP P E D fn nt dd (.inBlock id :: k) st:=h.step fun _ _ _ _=>step_inBlock
theorem pP.rw {m:Nat} {c:Code} {orcs:List (Nat×qE)} {F:List Nat} {o:List (Nat×Wd)} {gV:FV} {nk:Nat} (f:aG E m) {ps:List Prop}
  (h:Qc P nt m c orcs F o gV nk st=some (ps,J6)) (a:(((F.isEmpty && vJ orcs) || Nat.beq m 0) && noY orcs)=true) (p:bg ps) (q:pP P E D fn nt dd k J6):pP P E D fn nt dd (.code c :: k) st:=by
 unfold Qc at h;split at h
 ·rename_i M s1 h1;split at h
  ·rename_i j s2 h2;simp only [aX,aQ] at h;obtain ⟨rfl,rfl⟩:=h;obtain ⟨r,s⟩:=bg.app p;obtain ⟨a,t⟩:=Be.1 a;have u:vJ orcs=true\/∀ b,¬ E.fp b:=by
    rcases Bool.or_eq_true_iff.1 a with h | h
    ·simp_all
    ·exact .inr (f.fp (bZ h))
   have g:F.isEmpty=true\/∀ b,¬ E.fp b:=by
    rcases Bool.or_eq_true_iff.1 a with h | h
    ·simp_all
    ·exact .inr (f.fp (bZ h))
   intro tm w x y b z A cs;have i:=(wpIn_wide (n:=0)).1 (Gg (rd:=none) (ds:=[aaa D]) u (Qa t) h1 r x y);obtain ⟨e,d,w',⟨rfl,j,l,B⟩,C⟩:=i b k cs;have G:d=⟨d.tmps,[aaa D]⟩:=by cases d;simp at l;simp [l]
   obtain ⟨v,H,fr,I,J,K,L⟩:=q d.tmps w' j (P9 (by rw [f.m0];exact h2) s g B) b z A cs;refine ⟨v,H,fr,I,Steps.trans C ?_,K,L⟩;rw [G];exact J
  ·cases h
 ·cases h
theorem pP.ret {c:Code} (n:∀ σ S μ w,Good E9 σ S μ w->Good E σ S μ w) (d:E.m0<=E9.m0) (j:E9.w0.heap[D]?=some (.deferred (some []))) (e:¬ E9.fp D) (i:E.w0.heap.size<=D) (ks:List Nat) (o:c=.ret)
  {f:Func} (p:P.funcs[fn]?=some f) {ps:List Prop} {res:AV} {l:fe} (h:Fh P f st=some (ps,res)) (q:IE st.mg ks=l) (r:bg ps):pP P E9 D fn nt (aH E l res) (.code c :: k) st:=by
 subst o q;intro tm w A s b m u cs;obtain ⟨S,μ,g,x,hm,y⟩:=s;have a:w.heap[D]?=some (.deferred (some [])):=(g.fr.df D (ft j) e).trans j;have z:SZ E st tm (w.putObj D (.deferred none)):=⟨S,μ,(n _ _ _ _ g).put a rfl rfl (.inl i),x,gG d hm,fun t=>(y t).jR (fun _ h=>h) (Gj a rfl rfl)⟩;obtain ⟨v,h1,h2⟩:=IY p h r z m u (.code .ret :: k);refine ⟨v,_,_,h1.akY ks,.head step_ret (.one (step_collected (fr:={ b.at ⟨tm,[aaa D]⟩ (.code .ret :: k) with mode:=.returning }) ao rfl rfl (run_takeDeferred a))),?_,h2⟩;exact m
theorem Td {f:FuncId} {d:Func} {c:Code} {m:Nat} {a:List AV} {σ l:fe} {res:AV} (p:P.funcs[f]?=some d) (q:d.body=some c) (r:d.ntmps=nt) (s:Nat.ble a.length nt=true)
  {w:World} {S:Nat->Prop} {μ:Mu} {vs:Array Value} (h:ar P (zW w S σ μ m) f nt (aH (zW w S σ μ m) l res) [.code c] ⟨BO a 0,σ,m⟩) (g:Good (zW w S σ μ m) σ S μ w) (u:∀ k,m<=k->μ k=none) (n:RL w S μ vs a) :
  Calls P f vs w fun e w'=>∃ v S' ey,e=.returned v/\Good (zW w S σ μ m) l S' ey w'/\av w' S' ey v res:=by
 simp only [Nat.ble_eq] at s;intro cs
 let b:Frame:={ (default:Frame) with fn:=f,kind:=.normal }
 have y:Frame.enter P f vs .normal=b.at ⟨vs ++ Array.replicate (nt - vs.size) undef,[]⟩ [.code c]:=by
  simp [Frame.enter,Frame.at,p,q,r,b]
 have z:=n.1;obtain ⟨v,w',fr,h1,h2,h3,h4⟩:=h (vs ++ Array.replicate (nt - vs.size) undef) w (by simp;omega) ⟨S,μ,g,u,aV _,fun t=>by
  show av w S μ _ (dT (BO a 0) t);rw [IZ,if_pos (Nat.zero_le _),Nat.sub_zero];cases o:a[t]? with
  | none=>exact .il
  | some x =>
   have i:t < vs.size:=by rw [z];exact (eK.1 o).1
   have j:(vs ++ Array.replicate (nt - vs.size) undef).getD t undef=vs[t]:=by
    simp [ke,Array.getElem?_append_left i,i]
   rw [j];exact n.2 t x _ o (hH i)⟩ b rfl rfl cs
 rw [<- y] at h2;obtain ⟨S',ey,A,j⟩:=h1;exact ⟨.returned v,w',fr,⟨v,S',ey,rfl,A,j⟩,h2,h3,h4⟩
theorem ar.range {m m1 A B:Nat} (hE:aG E m) {p:Operand} {ps:Array Tmp} {assign body c1:Code} {I:qE} {i:Nat->List AV} {C F:fe} {res x:AV} {n:FuncId} {Q:Func} {Xe:List Nat} {pD:x8}
  (R:I.E8=false) (Zr:I.ks.length=m1) (hf:P.funcs[n]?=some Q) (T:Q.body=some c1) (hn:Q.ntmps=B) (U:∀ l,Nat.ble (i l).length B=true)
  (V:∀ l,Ke P (fun g a s _ r X=>g=n/\a=i l/\s=C/\r=res/\X=F) st.nk st.mg (Bh st.tm p) [.atom (.func (.yield l) #[] #[])] I=some ⟨[n=n/\i l=i l/\C=C/\res=res/\F=F],x,Xe,pD⟩)
  (Y:∀ (z:Env) (l:Nat) (r:Loop),z.m0=m1->z.w0.heap[l]?=some (.loop r)->¬ z.fp l->r.state=.ready->r.pending=none->r.params=ps->r.assign=assign->r.body=body->r.tmps.size=nt ->
   (∀ t,av z.w0 z.S0 z.μ0 (r.tmps.getD t undef) ((dT st.tm t).nR (idx I.ks)))->ar P z n B (aH z F res) [.code c1] ⟨BO (i l) 0,C,m1⟩)
  (J:m<=A) (h9:A≠0) (Z:A<=st.nk+16)
  (aqd:∀ (E9:Env) (D:Nat),aG E9 A->(∀ σ S μ w,Good E9 σ S μ w->Good E σ S μ w)->E.m0<=E9.m0->E9.w0.heap[D]?=some (.deferred (some []))->¬ E9.fp D->E.w0.heap.size<=D->pP P E9 D fn nt dd k ⟨st.tm,iC st.mg pD,st.nk+16⟩) :
  ar P E fn nt dd (.code (.rangeFunc p ps assign body) :: k) st:=by
 intro tm w hs hr b tB pY cs;obtain ⟨S,μ,g,hk,hm,ht⟩:=hr;obtain ⟨e1,g1⟩:=g.aux (.deferred (some [])) rfl;obtain ⟨e2,g2⟩:=g1.aux (.loop { state:=.ready,pending:=none,fn:=b.fn,tmps:=tm,params:=ps,assign,body,defers:=w.heap.size }) rfl;obtain ⟨W,O⟩:∃ W,W=(w.alloc (.deferred (some []))).alloc (.loop { state:=.ready,pending:=none,fn:=b.fn,tmps:=tm,params:=ps,assign,body,defers:=w.heap.size }):=⟨_,rfl⟩;rw [<- O] at e2 g2;have afS:(Instr.enterLoop b.fn tm ps assign body none).run P w=.ok (w.heap.size+1,[aaa w.heap.size]) W:=by rw [O];exact run_enterLoop_outer _ _ _ _ _
 have hL:W.heap[w.heap.size+1]?=some (.loop { state:=.ready,pending:=none,fn:=b.fn,tmps:=tm,params:=ps,assign,body,defers:=w.heap.size }):=by
  rw [O];have:=World.alloc_heap_new (w.alloc (.deferred (some []))) (.loop { state:=.ready,pending:=none,fn:=b.fn,tmps:=tm,params:=ps,assign,body,defers:=w.heap.size });rwa [World.size_alloc] at this
 have hDf:W.heap[w.heap.size]?=some (.deferred (some [])):=by
  rw [O];exact (gI ao).trans (World.alloc_heap_new w _)
 have K:∀ b,b=w.heap.size\/b=w.heap.size+1->(S b\/b=w.heap.size)\/b=(w.alloc (.deferred (some []))).heap.size:=by
  rintro b (rfl | rfl)
  ·exact .inl (.inr rfl)
  ·exact .inr ao
 have G:∀ t,av W (fun b=>(S b\/b=w.heap.size)\/b=(w.alloc (.deferred (some []))).heap.size) μ (tm.getD t undef) (dT st.tm t):=fun t=>((ht t).ext e1).ext e2;have hfv:=HS (a:=⟨tm,[]⟩) G p;have asU:=V (w.heap.size+1);have hqs:bg [n=n/\i (w.heap.size+1)=i (w.heap.size+1)/\C=C/\res=res/\F=F]:=⟨⟨rfl,rfl,rfl,rfl,rfl⟩,trivial⟩;obtain ⟨asV,vs,o,anJ⟩:=NH (ob:=fun g a s _ r X=>g=n/\a=i (w.heap.size+1)/\s=C/\r=res/\X=F) g2 (fun j _=>hk _ ad) hm hfv
  (vargs:=#[.func (.yield (w.heap.size+1)) #[] #[]]) (by
   refine ⟨rfl,fun j c v hc hv=>?_⟩;cases j with
   | zero=>simp at hc hv;subst hc hv;exact .atom _
   | succ j=>simp at hc)
  (fun h=>by rw [R] at h;cases h) (by
   rintro asV as' bs awI awJ awK vs ⟨rfl,rfl,rfl,rfl,rfl⟩ g0 L rH;rw [Zr] at g0 L ⊢;refine Td hf T hn (U _) (Y _ (w.heap.size+1) _ rfl hL ?_ rfl rfl rfl rfl rfl hs fun t=>?_) g0 L rH
   ·exact g0.acs hL rfl
   ·exact ((G t).nR (f:=idx I.ks) (ey:=ot μ I.ks) (fun a b pl U T=>F7 a b pl U T)).mono (fun _ h=>.inl h) (fun _ _=>rfl) (fun _ _ h=>h)) asU hqs
 obtain ⟨e,w2,fr,⟨v,S2,u,rfl,ex,g3,Zq,hv⟩,anK,hfn,anL⟩:=anJ (({ b with roundOf:=none }:Frame).atR { tmps:=tm,defers:=[aaa w.heap.size] } (.inRangeFunc (w.heap.size+1) :: k) :: cs);have H:w2.heap[w.heap.size+1]?=some (.loop { state:=.ready,pending:=none,fn:=b.fn,tmps:=tm,params:=ps,assign,body,defers:=w.heap.size }):=(ex.df _ (K _ (.inr rfl))).trans hL;have hD2:w2.heap[w.heap.size]?=some (.deferred (some [])):=(ex.df _ (K _ (.inl rfl))).trans hDf;obtain ⟨q,y⟩:∃ q,q=w2.putObj (w.heap.size+1) (.loop { state:=.exhausted,pending:=none,fn:=b.fn,tmps:=tm,params:=ps,assign,body,defers:=w.heap.size }):=⟨_,rfl⟩;have Qd:(Instr.endLoop (w.heap.size+1)).run P w2=.ok none q:=by rw [y];exact run_endLoop H ao
 have hc3:∀ a,q.cell? a=w2.cell? a:=by rw [y];exact Gj H rfl rfl
 have g4:Good E (iC st.mg pD) S2 u q:=by rw [y];exact g3.put H rfl rfl (.inl (by have:=g.fr.size;omega))
 have M:q.heap[w.heap.size]?=some (.deferred (some [])):=by rw [y,World.putObj_heap_other ad];exact hD2
 have r9:SZ (Kt q S2 (iC st.mg pD) u A) ⟨st.tm,iC st.mg pD,st.nk+16⟩ tm q :=
  ⟨S2,u,g4.base A,fun k kn=>Zq k (.inr kn) (hk k (by have:st.nk+16<=k:=kn;omega)),Z,fun t=>((G t).ext ex).jR (fun _ h=>h) hc3⟩
 obtain ⟨v',w',fr',q1,q2,q3,q4⟩:=aqd (Kt q S2 (iC st.mg pD) u A) w.heap.size ⟨rfl,fun h=>absurd h h9⟩ (fun σ S μ w h=>g4.Z9 (by rw [hE.m0];exact J) h) (by rw [hE.m0];exact J) M
  (g4.acs M rfl) g.fr.size tm q hs r9 b tB pY cs
 refine ⟨v',w',fr',q1,?_,q3,q4⟩;have N:∀ (a:Act) (k:List Item),b.at a k=({ b with roundOf:=none }:Frame).atR a k:=fun a k=>by simp [Frame.at,Frame.atR]
 simp only [cb] at o;cases hd:(Deferred.ofValue ((⟨tm,[]⟩:Act).eval p) #[.func (.yield (w.heap.size+1)) #[] #[]]).run P W with
 | halt x w'=>rw [hd] at o;cases o
 | ok d wd =>
  rw [hd] at o;rw [N];refine .head (stepR_rangeFunc (b:={ b with roundOf:=none }) (a:=⟨tm,[]⟩) afS (show (resolve (⟨tm,[]⟩:Act).eval (rangeCall p (w.heap.size+1)) 0).run P W=.ok d wd by rw [<- hd];simp [resolve,Act.eval]) o) ?_;refine Steps.trans anK (.head (step_leave_returned anL) ?_);rw [finish_atR_inRangeFunc];refine .head (stepR_endRangeFunc Qd) ?_;rw [N] at q2;exact q2
end
section
variable {P:Program} {E E9:Env} {D:Nat} {fn:FuncId} {nt m:Nat} {dd:Value->World->Prop} {k k':List Item} {st J6:St}
theorem pP.U4 (h:U4 k=some k') (a:pP P E D fn nt dd k' st):pP P E D fn nt dd k st:=by
 unfold Ab.U4 at h;split at h
 ·cases h;exact a.seq
 ·cases h;exact a.step fun _ _ _ _=>step_block
 ·cases h;exact a.step fun _ _ _ _=>step_loop
 ·cases h;exact a.step fun _ _ _ _=>step_inLoop
 ·cases h;exact a.inBlock
 ·cases h;exact a.step fun _ _ _ _=>step_lone_go (by rfl)
 ·cases h;exact a.step fun _ _ _ _=>step_lone_go (by rfl)
 ·cases h;exact a.step fun _ _ _ _=>step_skip
 ·cases h;exact a.step fun _ _ _ _=>step_label
 ·exact a.step fun _ _ _ _=>step_exit h
 ·cases h
theorem pP.IC:∀ (n:Nat) {k:List Item},IC n k=some k'->pP P E D fn nt dd k' st->pP P E D fn nt dd k st
 | 0,k,h,a=>by simp only [Ab.IC,aX] at h;rw [h];exact a
 | n+1,k,h,a=>by
  simp only [Ab.IC] at h;split at h
  ·rename_i b h1;exact pP.U4 h1 (pP.IC n h a)
  ·cases h
theorem pP.sA (n:Nat) (k':List Item) (a:pP P E D fn nt dd k' st) (h:Ab.IC n k=some k':=by kernel_rfl):pP P E D fn nt dd k st:=pP.IC n h a
theorem WI.sB {c:Code} (id:Nat) (x:Code) {a:St} (h1:WI P E nt x st a) (b:c=.block id x:=by kernel_rfl):WI P E nt c st a:=by subst b;exact h1.block
end
end Go.Ab
