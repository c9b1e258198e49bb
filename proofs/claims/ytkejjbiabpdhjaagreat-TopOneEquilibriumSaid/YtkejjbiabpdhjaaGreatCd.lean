/- Abstract values over the heap of the machine, and functions read off its code (part 4). No conditions. -/
import Derived.Test.YtkejjbiabpdhjaaGreatCc
import Derived.ProofKit
import Derived.Deep.Slices
import Derived.OpenShut
import Derived.ChangeOld
import Derived.SizedLaws
import Derived.RangeFuncLeaves
set_option linter.unusedVariables false
set_option linter.unusedSimpArgs false
namespace Go.Ab
section
variable {P:Program} {E:Env} {m0 nk:Nat} {F:List Nat} {iu:D2}
theorem NB {σ:gp} {f:Nat->Option Nat}:∀ (l:D2) (ps:List Prop) (b:gp),Zv σ F f iu l=some (ps,b)->bO ps->∀ k o,aR b k=some o ->
  ∃ d p,(k,d)∈l/\FD σ F f iu d=some (p,o)/\bO p
 | [],ps,b,h,_,k,o,a=>by simp [Zv] at h;obtain ⟨_,rfl⟩:=h;simp [aR] at a
 | (k',d) :: r,ps,b,h,c,k,o,a=>by
  simp only [Zv] at h;split at h
  ·rename_i p o' q l i e;simp only [bu,bk] at h;obtain ⟨rfl,rfl⟩:=h;obtain ⟨j,g⟩:=bO.app c;simp only [aR] at a;split at a
   ·simp_all
   ·obtain ⟨m,n,s,t,u⟩:=NB r q l e g k o a;grind
  ·cases h
theorem Vx {σ:gp} {f:Nat->Option Nat} {tm:List (Nat×AV)} {R:Value->AV->Prop} {fr:Array Value} (b:∀ v,R v .qm)
  (c:∀ d t ps y,Rk σ F f iu d (iz tm t)=some (ps,y)->bO ps->R (fr.getD t undef) y):∀ (l:List (Nat×Wd)) (ps:List Prop) (a:List (Nat×AV)),
  Zu σ F f iu tm l=some (ps,a)->bO ps->∀ t,R (fr.getD t undef) (iz a t)
 | [],ps,a,h,_,t=>by simp [Zu] at h;obtain ⟨_,rfl⟩:=h;exact b _
 | (t',d) :: r,ps,a,h,e,t=>by
  simp only [Zu] at h;split at h
  ·rename_i p x q l g i;simp only [bu,bk] at h;obtain ⟨rfl,rfl⟩:=h;obtain ⟨j,k⟩:=bO.app e;simp only [iz];split
   ·rename_i hb;rw [<- dp hb];exact c d t' p x g j
   ·exact Vx b c r q l i k t
  ·cases h
theorem ahW {f:Nat}:∀ (l:D2) (a b:Nat) (x y:Od),sQ (l.filterMap (·.2.D6))=true->(a,x)∈l->(b,y)∈l->x.D6=some f->y.D6=some f->a=b:=by
 intro l
 induction l with
 | nil=>simp
 | cons z l k =>
  intro a b x y d m hb h j;have none:∀ c u,(c,u)∈l->u.D6=some f->idx (l.filterMap (·.2.D6)) f=none->False:=by
   intro c u n o hi;have p:f∈l.filterMap (·.2.D6):=List.mem_filterMap.2 ⟨(c,u),n,o⟩;obtain ⟨i,q⟩:=List.getElem?_of_mem p;exact sa _ _ hi i q
  rcases rJ.1 m with e | e
  ·rcases rJ.1 hb with g | g
   ·grind
   ·rw [<- e] at d;simp only [List.filterMap_cons,h,sQ,cy,Option.isNone_iff_eq_none] at d;grind
  ·rcases rJ.1 hb with g | g
   ·rw [<- g] at d;simp only [List.filterMap_cons,j,sQ,cy,Option.isNone_iff_eq_none] at d;grind
   ·refine k a b x y ?_ e g h j;simp only [List.filterMap_cons] at d;split at d
    ·exact d
    simp_all [sQ,cy]
theorem apx:∀ {as:List AV} {sz n:Nat} {g:Nat->List AV},Uf as [.mr sz n g]->as=[.mr sz n g]
 | [],_,_,_,h=>h.elim
 | a :: [],_,_,_,h=>by
  rcases h.1 with b | ⟨_,f,b⟩
  ·rw [b]
  ·cases b
 | _ :: _ :: _,_,_,_,h=>h.2.elim
theorem ahX {σ:gp} {f:Nat->Option Nat} {d:Od} {p:List Prop} {o:Ob} (h:FD σ F f iu d=some (p,o)) (m:bO p) {i:Nat} {x:Nat×Nat×(Nat->List AV)} (r:rowOf o i=some x) :
  ∃ a c,d.D6=some a/\aR σ a=some c/\rowOf c i=some x:=by
 obtain ⟨s,j,g⟩:=gF r;cases d with
 | ak a =>
  simp only [FD,bE,bk] at h;obtain ⟨c,e,_,rfl⟩:=h;exact ⟨a,c,rfl,e,(yy _ _ _ _).1 r⟩
 | arr a n gt =>
  simp only [FD] at h;split at h
  ·rename_i c e;split at h
   ·simp only [bu,bk] at h;obtain ⟨rfl,rfl⟩:=h;obtain ⟨k,p2,_⟩:=m;exact ⟨a,c,rfl,e,qM s (by rw [k];exact j) (by simp_all)⟩
   ·cases h
  ·cases h
 | arz a n gt =>
  simp only [FD] at h;split at h
  ·rename_i c e;split at h
   ·simp only [bu,bk] at h;obtain ⟨rfl,rfl⟩:=h;obtain ⟨k,p2,_⟩:=m;have:=p2 i j;have g:gt i=[.mr x.1 x.2.1 x.2.2]:=g;rw [g] at this;exact ⟨a,c,rfl,e,qM s (rH j k) (apx this)⟩
   ·cases h
  ·cases h
 | Fm a n l b =>
  simp only [FD] at h;split at h
  ·rename_i c t e q;split at h
   ·rename_i hb;simp only [bu,bk] at h;obtain ⟨rfl,rfl⟩:=h;obtain ⟨k,p2,u,_⟩:=m;simp only [cy,Bool.not_eq_true'] at hb;have g:aJ t b i=[.mr x.1 x.2.1 x.2.2]:=g;rw [<- Rj (u i j) q,p2 i j] at g;exact ⟨a,c,rfl,e,qM hb.1 (by rw [k];exact j) (aha g)⟩
   ·cases h
  ·cases h
 | nim gt =>
  simp only [FD,bu,bk] at h;grind
 | mp a cs =>
  simp only [FD] at h;split at h
  ·rename_i c e;split at h
   ·rename_i hb;simp only [bu,bk] at h;obtain ⟨rfl,rfl⟩:=h;simp_all
   ·cases h
  ·cases h
 | var a ds =>
  simp only [FD] at h;grind
 | nil sz gt =>
  simp only [FD] at h;grind
theorem Mb {st A4:St} {uf:List (Nat×Wd)} {ps:List Prop} (h:Kr E.m0 st F uf iu nk=some (ps,A4)) (hp:bO ps) (hF:F.isEmpty=true\/∀ b,¬ E.fp b) {fr:Array Value} {w:World} (hr:Rep E st fr w):Rep E A4 fr w:=by
 obtain ⟨S,μ,g,hk,hm,ht⟩:=hr;unfold Kr at h;split at h
 case h_2=>cases h
 rename_i p tm q gV hn htm gk;simp only [bu,bk] at h;obtain ⟨rfl,rfl⟩:=h;obtain ⟨Cr,Fl⟩:=bO.app hp;have N:=ahV hn;have e:Ext w S μ w (SF μ F st.r8 S) μ:=⟨aH _,fun _ h=>.inl h,fun _ _=>rfl,fun _ _ h=>h⟩;have K:∀ k o,aR gV k=some o->∃ pl c T,Uq E.m0 μ iu k=some pl/\kY w (SF μ F st.r8 S) (Uq E.m0 μ iu) o pl c T /\
   (0 < pl.cap->∃ f r,aR st.r8 f=some r/\μ f=some pl/\∃ d,(k,d)∈iu/\d.D6=some f):=by
  intro k o G;obtain ⟨d,pd,B,s,H⟩:=NB iu q gV gk Fl k o G;have mono:∀ {v:Value} {x:AV} {gn:Mu},aE w S gn v x->aE w (SF μ F st.r8 S) gn v x:=fun h=>h.mono (fun _ h=>.inl h) (fun _ _=>rfl) (fun _ _ h=>h);have out:∀ f r pl,aR st.r8 f=some r->μ f=some pl->f ∉ F->0 < pl.cap->¬ SF μ F st.r8 S pl.eC:=by
   rintro f r pl z A hnF X (m | ⟨Y,o1,Q,L,GS,JO,Cq,hb⟩)
   ·obtain ⟨oG,c,T,kZ,ahA⟩:=g.rep.ob f r z;rw [A] at kZ;cases kZ;exact ahA.out X m
   ·have jr:Y≠f:=fun h=>hnF (h ▸ L);exact g.rep.ne Y f o1 r Q pl jr GS z JO A Cq X hb
  cases d with
  | ak f =>
   simp only [FD,bE,bk] at s;obtain ⟨r,z,_,rfl⟩:=s;obtain ⟨pl,c,T,A,D⟩:=g.rep.ob f r z;have m:=D.ext e (fun _=>rfl) (out f r pl z A (N.fr k _ f B rfl));exact ⟨pl,c,T,by rw [Ks N B rfl];exact A,m.oK fun a b pl ha hb=>Qo N ha hb,fun _=>⟨f,r,z,A,_,B,rfl⟩⟩
  | arr f n gt =>
   simp only [FD] at s;split at s
   ·rename_i r z;split at s
    ·rename_i hb;simp only [bu,bk] at s;obtain ⟨rfl,rfl⟩:=s;obtain ⟨M,p2,_⟩:=H;obtain ⟨pl,c,T,A,D⟩:=g.rep.ob f r z;simp only [cy] at hb;have m:=D.ext e (fun _=>rfl) (out f r pl z A (N.fr k _ f B rfl));refine ⟨pl,c,T,by rw [Ks N B rfl];exact A,⟨m.sz,m.eC,m.cap,M ▸ m.len,m.out,fun i hi=>?_,fun i j x v hi C O=>?_,fun U=>absurd U (by simp_all)⟩,fun _=>⟨f,r,z,A,_,B,rfl⟩⟩
     ·show (gt i).length=_;rw [p2 i hi];exact m.Co i (by rw [M];exact hi)
     ·have C:(gt i)[j]?=some x:=C;rw [p2 i hi] at C;have:=m.rep i j x v (by rw [M];exact hi) C O;simp_all
    ·cases s
   ·cases s
  | arz f n gt =>
   simp only [FD] at s;split at s
   ·rename_i r z;split at s
    ·rename_i hb;simp only [bu,bk] at s;obtain ⟨rfl,rfl⟩:=s;obtain ⟨M,p2,_⟩:=H;obtain ⟨pl,c,T,A,D⟩:=g.rep.ob f r z;simp only [cy] at hb;have m:=D.ext e (fun _=>rfl) (out f r pl z A (N.fr k _ f B rfl));refine ⟨pl,c,T,by rw [Ks N B rfl];exact A,⟨m.sz,m.eC,m.cap,gf M m.len,m.out,fun i hi=>?_,fun i j x v hi C O=>?_,fun U=>absurd U (by have:=Nat.le_of_ble_eq_true hb.2;show r.sz≠0;omega)⟩,fun _=>⟨f,r,z,A,_,B,rfl⟩⟩
     ·show (gt i).length=_;rw [(p2 i hi).len];exact m.Co i (rH hi M)
     ·have C:(gt i)[j]?=some x:=C;obtain ⟨a,ha,hax⟩:=(p2 i hi).get C;have:=m.rep i j a v (rH hi M) ha O;rw [hb.1.1] at this;exact apw hax this
    ·cases s
   ·cases s
  | mp f cs =>
   simp only [FD] at s;split at s
   ·rename_i r z;split at s
    ·rename_i hb;simp only [bu,bk] at s;obtain ⟨rfl,rfl⟩:=s;obtain ⟨rfl,_⟩:=H;obtain ⟨pl,c,T,A,D⟩:=g.rep.ob f r z;simp only [cy] at hb;have Y4:=dp hb.2;have m:=D.ext e (fun _=>rfl) (out f r pl z A (N.fr k _ f B rfl));refine ⟨pl,c,T,by rw [Ks N B rfl];exact A,⟨m.sz,m.eC,m.cap,m.len,m.out,fun i hi=>absurd hi (by show ¬ i < r.len;omega),fun i j x v hi=>absurd hi (by show ¬ i < r.len;omega),fun U=>?_⟩,fun _=>⟨f,r,z,A,_,B,rfl⟩⟩;obtain ⟨m0,m1,m2,m3,m4⟩:=m.mp U;exact ⟨m0,m1,m2,rfl,m4⟩
    ·cases s
   ·cases s
  | nim gt =>
   simp only [FD,bu,bk] at s;obtain ⟨_,rfl⟩:=s;exact ⟨⟨0,0,1⟩,#[],0,adM N B,⟨rfl,fun h=>absurd h aD,aD,aD,fun h=>absurd h aD,fun i h=>absurd h aD,fun i j x v h=>absurd h aD,fun h=>absurd (show (1:Nat)=0 from h) ad⟩,fun h=>absurd h aD⟩
  | Fm f n l b =>
   simp only [FD] at s;split at s
   ·rename_i r l' z hl';split at s
    ·rename_i hb;simp only [bu,bk] at s;obtain ⟨rfl,rfl⟩:=s;obtain ⟨M,p2',p3,_⟩:=H;have p2:∀ i,i < n->aJ l' b i=AV.Dg (CM E.m0 iu) (r.get i):=fun i hi=>by rw [<- p2' i hi];exact (Rj (p3 i hi) hl').symm
     let gt:Nat->List AV:=aJ l' b
     obtain ⟨pl,c,T,A,D⟩:=g.rep.ob f r z;simp only [cy] at hb;have m:=D.ext e (fun _=>rfl) (out f r pl z A (N.fr k _ f B rfl));refine ⟨pl,c,T,by rw [Ks N B rfl];exact A,⟨m.sz,m.eC,m.cap,M ▸ m.len,m.out,fun i hi=>?_,fun i j x v hi C O=>?_,fun U=>absurd U (by have:=Nat.le_of_ble_eq_true hb.2;show r.sz≠0;omega)⟩,fun _=>⟨f,r,z,A,_,B,rfl⟩⟩
     ·show (aJ l' b i).length=_;rw [p2 i hi,Fz,List.length_map];exact m.Co i (by rw [M];exact hi)
     ·have C:(aJ l' b i)[j]?=some x:=C;rw [p2 i hi,Fz,List.getElem?_map] at C;simp only [bE] at C;obtain ⟨y,hy,rfl⟩:=C;have:=l7 (m.rep i j y v (by rw [M];exact hi) hy O);exact this.oK fun a b pl ha hb=>Qo N ha hb
    ·cases s
   ·cases s
  | var f ds =>
   simp only [FD] at s;split at s
   ·rename_i r z;split at s
    ·rename_i pw cs hb hcs;simp only [bu,bk] at s;obtain ⟨rfl,rfl⟩:=s;obtain ⟨pl,c,T,A,D⟩:=g.rep.ob f r z;simp only [cy] at hb;have hl1:=dp hb.1.2;have hz1:=Nat.le_of_ble_eq_true hb.2;have ha:aE w S μ (.agg ((List.range r.sz).map fun j=>(c[j]?).getD undef).toArray) (.agg (r.get 0)):=by
      refine .agg (by simp [D.Co 0 ad]) fun j x v C O=>?_;have hj:j < r.sz:=by
       have:=(gW.1 C).1;rwa [D.Co 0 ad] at this
      obtain ⟨u,P,_⟩:=fV D (i:=0) ad hj;have V:c[j]?=some u:=by simpa using P
      simp [List.getElem?_range hj,V] at O;exact l7 (D.rep 0 j x v ad C (by rw [<- O];simpa using P))
     have afe:=adO g N (.agg ds) (.agg (r.get 0)) _ pw (.agg cs) ha (by simp [Rk,hcs]) H;obtain ⟨vs,hvs,Uj,Nk⟩:=ue afe;cases hvs;have Z:cs.length=r.sz:=by simpa using Uj.symm
     refine ⟨pl,c,T,by rw [Ks N B rfl];exact A,⟨D.sz,D.eC,D.cap,by have:=D.len;show 1<=pl.cap;omega,out f r pl z A (N.fr k _ f B rfl),fun i hi=>Z,fun i j x v hi C O=>?_,fun U=>absurd U (by show r.sz≠0;omega)⟩,fun _=>⟨f,r,z,A,_,B,rfl⟩⟩;have hi0:i=0:=by have hi:i < 1:=hi;omega
     subst hi0;have C:cs[j]?=some x:=C;have hj:j < r.sz:=by rw [<- Z];exact (gW.1 C).1
     have zo:c[j]?=some v:=by simpa using O
     have:=Nk j x v C (by simp [List.getElem?_range hj,zo]);show aE w _ (if AV.qL cs then lI else _) v x;split
     ·rename_i hpp;exact this.pure (yu hpp C) lI
     ·exact this
    ·cases s
   ·cases s
  | nil sz gt =>
   simp only [FD] at s;split at s
   case h_2=>cases s
   rename_i auS;simp only [bu,bk] at s;obtain ⟨_,rfl⟩:=s;exact ⟨⟨0,0,sz⟩,#[],0,adN N B,⟨rfl,fun h=>absurd h aD,aD,aD,fun h=>absurd h aD,fun i h=>absurd h aD,fun i j x v h=>absurd h aD,fun h=>absurd (show sz=0 from h) (by have:=Nat.le_of_ble_eq_true auS;omega)⟩,fun h=>absurd h aD⟩
 have hrw:∀ k i x v,lV w (Uq E.m0 μ iu) gV k i x v->∃ f d,(k,d)∈iu/\d.D6=some f/\lV w μ st.r8 f i x v:=by
  rintro k i x v ⟨o,pl,m,J,I,h4⟩;obtain ⟨d,pd,B,s,H⟩:=NB iu q gV gk Fl k o m;obtain ⟨f,r,P,q2,q3⟩:=ahX s H J;rw [Ks N B P] at I;exact ⟨f,d,B,P,r,pl,q2,q3,I,h4⟩
 have hmx:MX E.fp E.w0.heap.size w (SF μ F st.r8 S) (Uq E.m0 μ iu) gV:=by
  have hφ:∀ k d f,(k,d)∈iu->d.D6=some f->((CN iu k).bind Od.D6).getD 0=f:=fun k d f m J=>by rw [zs N.nd m];simp [J]
  refine g.mx.tr (fun k=>((CN iu k).bind Od.D6).getD 0) (fun k i x v h=>?_) (fun k i x v k' i' x' v' h h' he=>?_) (fun _ h=>.inl h) (fun _ _=>rfl) (fun k i x v b _ h hb=>⟨rfl,?_,fun h=>h⟩) (fun k o pl m J I=>?_)
  ·obtain ⟨f,d,P,q2,q3⟩:=hrw k i x v h;show lV w μ st.r8 (((CN iu k).bind Od.D6).getD 0) i x v;rw [hφ k d f P q2];exact q3
  ·obtain ⟨f,d,P,q2,_⟩:=hrw k i x v h;obtain ⟨W,d',V,q2',_⟩:=hrw k' i' x' v' h';have he:((CN iu k).bind Od.D6).getD 0=((CN iu k').bind Od.D6).getD 0:=he;rw [hφ k d f P q2,hφ k' d' W V q2'] at he;exact ahW iu k k' d d' N.od P V q2 (he ▸ q2')
  ·rintro (m | ⟨Y,o1,Q,_,GS,JO,Cq,m⟩)
   ·exact (g.mx.eC h hb).2.1 m
   ·exact g.mx.obj _ _ _ _ _ h hb Y o1 Q GS JO Cq m
  ·obtain ⟨Q,c,T,e1,_,e3⟩:=K k o m;rw [J] at e1;cases e1;obtain ⟨f,r,z,A,_⟩:=e3 I;exact .inl ⟨f,r,pl,z,A,I,rfl⟩
 refine ⟨SF μ F st.r8 S,Uq E.m0 μ iu,⟨g.fr,fun b h=>.inl (g.S0 b h),?_,?_,⟨?_,?_⟩,?_,?_,hmx⟩,?_,N.m0,?_⟩
 ·rintro b (m | ⟨Y,o1,Q,L,GS,JO,Cq,rfl⟩)
  ·exact g.S1 b m
  ·obtain ⟨oG,c,T,kZ,ahA⟩:=g.rep.ob Y o1 GS;rw [JO] at kZ;cases kZ;exact gK (ahA.eC Cq)
 ·rintro b (m | ⟨Y,o1,Q,L,GS,JO,Cq,rfl⟩)
  ·exact g.S2 b m
  ·rcases g.own Y o1 Q GS JO Cq with J | J
   ·rcases hF with I | I
    ·rw [List.isEmpty_iff] at I;rw [I] at L;simp at L
    ·exact (I _ J).elim
   ·exact .inr J
 ·intro k o G;obtain ⟨pl,c,T,m,J,_⟩:=K k o G;exact ⟨pl,c,T,m,J⟩
 ·intro k k' o o' pl oG jr G auU DZ auV X r7;obtain ⟨Q,c,T,m,_,I⟩:=K k o G;obtain ⟨AZ,c',T',Qn,_,h3'⟩:=K k' o' auU;rw [DZ] at m;cases m;rw [auV] at Qn;cases Qn;obtain ⟨f,r,z,A,d,s,hdo⟩:=I X;obtain ⟨W,o0',auW,auX,d',hd',auY⟩:=h3' r7;have hkk:f≠W:=by
   rintro rfl;exact jr (ahW iu k k' d d' N.od s hd' hdo auY)
  exact g.rep.ne f W r o0' pl oG hkk z auW A auX X r7
 ·intro k o pl G DZ X;obtain ⟨Q,c,T,m,_,I⟩:=K k o G;rw [DZ] at m;cases m;obtain ⟨f,r,z,A,_⟩:=I X;exact g.own f r pl z A X
 ·intro k uD;unfold Uq;rw [if_pos uD];exact g.LO k uD
 ·intro k uD;have uD:nk<=k:=uD;have:=N.m0;unfold Uq;rw [if_neg ad];cases hg:CN iu k with
  | none=>rfl
  | some d =>
   have:=N.lt k d (Jr hg);omega
 ·exact Vx (R:=fun v x=>aE w (SF μ F st.r8 S) (Uq E.m0 μ iu) v x) (fun _=>.qm) (fun d t ps y m J=>adO g N d _ _ ps y (ht t) m J) uf p tm htm Cr
def aK (P:Program) (E:Env) (fn:FuncId) (nt:Nat) (eX:Value->World->Prop) (k:List Item) (st:St):Prop :=
 ∀ (tm:Array Value) (w:World),tm.size=nt->Rep E st tm w->∀ (b:Frame),b.fn=fn->b.kind=.normal->∀ cs,
  ∃ v w' fr,eX v w'/\Steps P (lone (b.at ⟨tm,[]⟩ k) cs w) (lone fr cs w')/\fr.fn=fn/\fr.leaving P w' (.returned v)
variable {fn:FuncId} {nt:Nat} {eX:Value->World->Prop} {k k':List Item} {st A4:St}
theorem aK.step (h:aK P E fn nt eX k' st) (c:∀ (b:Frame) (a:Act) (cs:List Frame) (w:World),step P (lone (b.at a k) cs w)=.next (lone (b.at a k') cs w)):aK P E fn nt eX k st:=by
 intro tm w d e b f g cs;obtain ⟨v,w',fr,i,j,l,m⟩:=h tm w d e b f g cs;exact ⟨v,w',fr,i,.head (c b ⟨tm,[]⟩ cs w) j,l,m⟩
theorem aK.seq {x y:Code} (h:aK P E fn nt eX (.code x :: .code y :: k) st):aK P E fn nt eX (.code (.seq x y) :: k) st:=h.step fun _ _ _ _=>step_seq
theorem aK.block {id:Nat} {c:Code} (h:aK P E fn nt eX (.code c :: .inBlock id :: k) st):aK P E fn nt eX (.code (.block id c) :: k) st:=h.step fun _ _ _ _=>step_block
theorem aK.inBlock {id:Nat} (h:aK P E fn nt eX k st):aK P E fn nt eX (.inBlock id :: k) st:=h.step fun _ _ _ _=>step_inBlock
theorem aK.loop {c:Code} (h:aK P E fn nt eX (.code c :: .inLoop c :: k) st):aK P E fn nt eX (.code (.loop c) :: k) st:=h.step fun _ _ _ _=>step_loop
theorem aK.inLoop {c:Code} (h:aK P E fn nt eX (.code c :: .inLoop c :: k) st):aK P E fn nt eX (.inLoop c :: k) st:=h.step fun _ _ _ _=>step_inLoop
theorem aK.skip (h:aK P E fn nt eX k st):aK P E fn nt eX (.code .skip :: k) st:=h.step fun _ _ _ _=>step_skip
theorem aK.label {l:Nat} (h:aK P E fn nt eX k st):aK P E fn nt eX (.code (.label l) :: k) st:=h.step fun _ _ _ _=>step_label
theorem aK.scope {c:Code} (h:aK P E fn nt eX (.code c :: .inScope c :: k) st):aK P E fn nt eX (.code (.scope c) :: k) st:=h.step fun _ _ _ _=>step_lone_go (by rfl)
theorem aK.inScope {c:Code} (h:aK P E fn nt eX k st):aK P E fn nt eX (.inScope c :: k) st:=h.step fun _ _ _ _=>step_lone_go (by rfl)
theorem aK.exit {id:Nat} (he:exitTo id k=some k') (h:aK P E fn nt eX k' st):aK P E fn nt eX (.code (.exit id) :: k) st:=h.step fun _ _ _ _=>step_exit he
theorem aK.cond {c:Operand} {x y:Code} {q:Bool} (p:GU st.tm c=.atom (.bool q)) (r:q=true->aK P E fn nt eX (.code x :: k) st) (s:q=false->aK P E fn nt eX (.code y :: k) st) :
  aK P E fn nt eX (.code (.cond c x y) :: k) st:=by
 intro tm w l d b m n cs;have t:=d;obtain ⟨S,μ,g,_,_,u⟩:=t;have e:=Jp (a:=⟨tm,[]⟩) u c;rw [p] at e;have e:=gh e;have o:=step_cond (P:=P) (b:=b) (k:=k) (cs:=cs) (w:=w) (x:=x) (y:=y) e;cases q with
 | true =>
  obtain ⟨v,w',fr,f,h,i,j⟩:=r rfl tm w l d b m n cs;exact ⟨v,w',fr,f,.head o h,i,j⟩
 | false =>
  obtain ⟨v,w',fr,f,h,i,j⟩:=s rfl tm w l d b m n cs;exact ⟨v,w',fr,f,.head o h,i,j⟩
structure ba (E:Env) (m:Nat):Prop where
 m0:E.m0=m
 fp:m=0->∀ b,¬ E.fp b
theorem aK.wk {m:Nat} (b:ba E m) {c:List (Nat×Wd)} {ps:List Prop} (h:Kr m st F c iu nk=some (ps,A4)) (d:(F.isEmpty || Nat.beq m 0)=true) (e:bO ps) (f:aK P E fn nt eX k A4):aK P E fn nt eX k st:=by
 have h':Kr E.m0 st F c iu nk=some (ps,A4):=by rw [b.m0];exact h
 refine fun tm w g i=>f tm w g (Mb h' e ?_ i);rcases Bool.or_eq_true_iff.1 d with a | a
 ·exact .inl a
 ·exact .inr (b.fp (dp a))
def Mc (P:Program) (nt:Nat) (c:Code) (orcs:List (Nat×tw)) (st:St):Option (List Prop×St) :=
 match c with
 | .region _ ops draw=>match A3 P nt ops.toList st.nk orcs ops.toList 0 st.tm st.r8 with
  | some a=>match !draw || (P.follows .mixedOrders && ahQ ops.toList a) with
   | true=>some (Q8 a,⟨Pm a st.tm,HO a st.r8,st.nk+16 * ops.size⟩)
   | false=>none
  | none=>none
 | _=>none
def zt:List (Nat×tw)->Bool
 | []=>true
 | (_,o) :: r=>!o.GP && zt r
def noY:List (Nat×tw)->Bool
 | []=>true
 | (_,o) :: r=>o.y.isNone && noY r
def YsP (P:Program) (E:Env):List (Nat×tw)->Prop
 | []=>True
 | (_,o) :: r=>(match o.y with
  | some y=>YOK P E y
  | none=>True)/\YsP P E r
theorem Vy:∀ {orcs:List (Nat×tw)},zt orcs=true->∀ i x,yB orcs i=some x->x.GP=true->False
 | [],_,i,x,h,_=>by simp [yB] at h
 | (a,o) :: r,b,i,x,h,c=>by
  simp only [zt,cy,Bool.not_eq_true'] at b;simp only [yB] at h;split at h
  ·simp_all
  ·exact Vy b.2 i x h c
theorem Rm {P:Program} {E:Env}:∀ {orcs:List (Nat×tw)},noY orcs=true->YsP P E orcs
 | [],_=>trivial
 | (a,o) :: r,b=>by
  simp only [noY,cy,Option.isNone_iff_eq_none] at b;refine ⟨?_,Rm b.2⟩;rw [b.1];trivial
theorem adQ {P:Program} {E:Env}:∀ {orcs:List (Nat×tw)},YsP P E orcs->∀ i x y,yB orcs i=some x->x.y=some y->YOK P E y
 | [],_,i,x,y,h,_=>by simp [yB] at h
 | (a,o) :: r,b,i,x,y,h,c=>by
  simp only [yB] at h;split at h
  ·cases h;have:=b.1;simp_all
  ·exact adQ b.2 i x y h c
theorem HP {rd:Option Nat} {ds:List Deferred} {c:Code} {orcs:List (Nat×tw)} (o:zt orcs=true\/∀ b,¬ E.fp b) (B:YsP P E orcs) {ps:List Prop} (h:Mc P nt c orcs st=some (ps,A4)) (u:bO ps)
  {tm:Array Value} {w:World} (v:tm.size=nt) (C:Rep E st tm w):c.wpIn (FW rd) 0 P (fun e a w=>e=.normal/\a.tmps.size=nt/\a.defers=ds/\Rep E A4 a.tmps w) ⟨tm,ds⟩ w:=by
 have o:∀ i,Zo P E (yB orcs i):=fun i=>⟨fun x p D=>o.elim (fun F=>(Vy F i x p D).elim) id,fun x y p q=>adQ B i x y p q⟩;unfold Mc at h;split at h
 case h_2=>cases h
 rename_i id ops draw;split at h
 case h_2=>cases h
 rename_i d f;split at h
 case h_2=>cases h
 rename_i r;simp only [bu,bk] at h;obtain ⟨rfl,rfl⟩:=h;obtain ⟨S,μ,g,G,hm,z⟩:=C
 let s:Exit->Act->World->Prop:=fun e a w=>e=.normal/\a.tmps.size=nt/\a.defers=ds/\Rep E ⟨Pm d st.tm,HO d st.r8,st.nk+16 * ops.size⟩ a.tmps w
 show (Code.region id ops draw).wpIn (FW rd) 0 P s ⟨tm,ds⟩ w;have A:∀ (a':Act) (w':World) (S':Nat->Prop) (gn:Mu),a'.tmps.size=nt->a'.defers=ds->Good E (HO d st.r8) S' gn w'->(∀ k,st.nk+16 * ops.size<=k->gn k=none)->(∀ t,aE w' S' gn (a'.tmps.getD t undef) (iz (Pm d st.tm) t)) ->
   s .normal a' w' :=
  fun a' w' S' gn H I J K L=>⟨rfl,H,I,S',gn,J,K,by grind,L⟩
 cases draw with
 | false =>
  refine wpIn_region ?_;have:=Vp (P:=P) (E:=E) (Q:=s) (rd:=rd) (ds:=ds) (nt:=nt) (nk:=st.nk) (ops:=ops) (orcs:=orcs) o hm ops.toList 0 ⟨tm,ds⟩ w st.tm st.r8 S μ d rfl aD v rfl g (by simpa using G) z f u A;rw [List.range_eq_range'];simpa using this
 | true =>
  simp only [Bool.not_true,Bool.false_or,cy] at r;refine wpIn_region_any r.1 ?_;have l:∀ (n j:Nat),(Array.replicate n false).getD j false=false:=by
   intro n j;simp only [Aa,Array.getElem?_replicate];split<;>rfl
  refine abx o hm f u r.2 A ops.size _ ⟨tm,ds⟩ _ S μ aD v rfl ?_ ?_ ?_ ?_ ?_
  ·simp_all
  ·omega
  ·rw [Nz d 0 st.r8 _ (fun m _=>l _ _)];exact g.drew
  ·simp_all
  ·intro t;rw [Ri d 0 st.tm _ (fun m _=>l _ _)];exact (z t).ext (Ext.drew w S μ)
theorem aK.region {c:Code} {orcs:List (Nat×tw)} (j:zt orcs=true\/∀ b,¬ E.fp b) (l:YsP P E orcs) {ps:List Prop} (h:Mc P nt c orcs st=some (ps,A4)) (m:bO ps) (o:aK P E fn nt eX k A4):aK P E fn nt eX (.code c :: k) st:=by
 intro tm w p q b r s cs;have d:c.wp P (fun e a w=>e=.normal/\a.tmps.size=nt/\a.defers=[]/\Rep E A4 a.tmps w) ⟨tm,[]⟩ w:=(wpIn_wide (n:=0)).1 (HP (rd:=none) (ds:=[]) j l h m p q);obtain ⟨e,a',w',⟨rfl,t,i,u⟩,f⟩:=d b k cs;have x:a'=⟨a'.tmps,[]⟩:=by cases a';simp at i;simp [i]
 obtain ⟨v,g,fr,y,z,A,B⟩:=o a'.tmps w' t u b r s cs;refine ⟨v,g,fr,y,Steps.trans f ?_,A,B⟩;rw [x];exact z
end
def bd (E:Env) (gV:gp) (res:AV) (v:Value) (w':World):Prop:=∃ S' gn,Good E gV S' gn w'/\aE w' S' gn v res
def Rn (P:Program) (st:St):List ResultVar->Option (List Prop×List AV)
 | []=>some ([],[])
 | .tmp t :: r=>(Rn P st r).map fun (p,l)=>(p,iz st.tm t :: l)
 | .cell a t :: r=>match HD P st.r8 t (iz st.tm a),Rn P st r with
  | some (p,x,_),some (q,l)=>some (p ++ q,x :: l)
  | _,_=>none
def ahY:List AV->AV
 | [x]=>x
 | l=>.tup l
def Ef (P:Program) (fn:Func) (st:St):Option (List Prop×AV):=(Rn P st fn.results.toList).map fun (p,l)=>(p,ahY l)
section
variable {P:Program} {E:Env} {fn:FuncId} {nt:Nat} {k:List Item} {st:St}
theorem WG {S:Nat->Prop} {μ:Mu} {w:World} (g:Good E st.r8 S μ w) {tm:Array Value} (e:∀ t,aE w S μ (tm.getD t undef) (iz st.tm t)) :
  ∀ (l:List ResultVar) (ps:List Prop) (xs:List AV),Rn P st l=some (ps,xs)->bO ps->∃ vs:List Value,
   (l.mapM fun r=>(match r with | .tmp t=>pure (tm.getD t undef) | .cell a t=>(do loadVar t (<- asAddr (tm.getD a undef)):Sem Value)):Sem (List Value)).run P w=.ok vs w/\vs.length=xs.length /\
   ∀ (j:Nat) c v,xs[j]?=some c->vs[j]?=some v->aE w S μ v c
 | [],ps,xs,h,_=>by
  simp [Rn] at h;simp_all
 | .tmp t :: r,ps,xs,h,f=>by
  simp only [Rn,bE,bk] at h;obtain ⟨⟨p,l⟩,i,rfl,rfl⟩:=h;obtain ⟨vs,s,k,u⟩:=WG g e r p l i f;refine ⟨tm.getD t undef :: vs,by simp_all,by simp [k],?_⟩;grind
 | .cell a t :: r,ps,xs,h,f=>by
  simp only [Rn] at h;split at h
  ·rename_i p x rd q l i y;simp only [bu,bk] at h;obtain ⟨rfl,rfl⟩:=h;obtain ⟨z,A⟩:=bO.app f;obtain ⟨vs,s,k,u⟩:=WG g e r q l y A;obtain ⟨v,n,B⟩:=Wn (P:=P) g (e a) i z;have m:∃ b,tm.getD a undef=.pointer (some b):=by
    cases C:tm.getD a undef with
    | pointer o =>
     cases o with
     | none=>simp_all [Instr.loadAt,Instr.sureAddr]
     | some b=>exact ⟨b,rfl⟩
    | _=>simp_all [Instr.loadAt,Instr.sureAddr]
   obtain ⟨b,d⟩:=m;rw [d] at n;simp only [Instr.loadAt,Instr.sureAddr,dk,Sem.run_pure,fZ] at n;have D:(asAddr (tm.getD a undef)).run P w=.ok b w:=by rw [d];rfl
   refine ⟨v :: vs,by simp_all,by simp [k],?_⟩;grind
  ·cases h
theorem Kt {f:Func} (o:P.funcs[fn]?=some f) {ps:List Prop} {res:AV} (h:Ef P f st=some (ps,res)) (q:bO ps) {tm:Array Value} {w:World} (s:Rep E st tm w) {b:Frame} (u:b.fn=fn) (z:b.kind=.normal) (todo:List Item) :
  ∃ v,bd E st.r8 res v w/\Frame.leaving P { b.at ⟨tm,[]⟩ todo with mode:=.returning } w (.returned v):=by
 obtain ⟨S,μ,g,_,_,A⟩:=s;simp only [Ef,bE,bk] at h;obtain ⟨⟨p,l⟩,B,rfl,rfl⟩:=h;obtain ⟨vs,C,d,n⟩:=WG g A f.results.toList p l B q;have hm:(f.results.mapM fun r=>(match r with | .tmp t=>pure (tm.getD t undef) | .cell a t=>(do loadVar t (<- asAddr (tm.getD a undef)):Sem Value)):Sem (Array Value)).run P w=.ok vs.toArray w:=by
  rw [Array.mapM_eq_mapM_toList];simp only [Sem.run_map,C,fZ]
 have e:∃ v,aE w S μ v (ahY l)/\(results f tm).run P w=.ok v w:=by
  refine ⟨if h:vs.toArray.size=1 then vs.toArray[0] else .tuple vs.toArray,?_,?_⟩
  ·cases l with
   | nil =>
    have:vs=[]:=List.length_eq_zero_iff.1 d;subst this;simp only [ahY];exact .tup rfl fun j c v i=>by simp at i
   | cons x r =>
    cases r with
    | nil =>
     simp at d;have k:vs.toArray.size=1:=by simpa using d
     rw [dif_pos k];exact n 0 x _ rfl (by simp [d])
    | cons y r =>
     simp at d;have k:¬ vs.toArray.size=1:=by simp;omega
     rw [dif_neg k];exact .tup (by simp [d]) fun j c v i m=>n j c v i (by simpa using m)
  ·unfold results;simp only [dk];exact (congrArg (fun r:Result (Array Value)=>r.andThen fun a w'=>Result.ok (if h:a.size=1 then a[0] else Value.tuple a) w') hm)
 obtain ⟨v,m,D⟩:=e;exact ⟨v,⟨S,μ,g,m⟩,rfl,rfl,z,f,by rw [<- o,<- u];rfl,D⟩
theorem aK.ret {f:Func} (c:P.funcs[fn]?=some f) {ps:List Prop} {res:AV} (h:Ef P f st=some (ps,res)) (d:bO ps):aK P E fn nt (bd E st.r8 res) (.code .ret :: k) st:=by
 intro tm w _ e b a g cs;obtain ⟨v,i,j⟩:=Kt c h d e a g (.code .ret :: k);exact ⟨v,w,_,i,.one step_ret,a,j⟩
theorem aK.fin {f:Func} (c:P.funcs[fn]?=some f) {ps:List Prop} {res:AV} (h:Ef P f st=some (ps,res)) (d:bO ps):aK P E fn nt (bd E st.r8 res) [] st:=by
 intro tm w _ e b a g cs;obtain ⟨v,i,j⟩:=Kt c h d e a g [];exact ⟨v,w,_,i,.one step_end,a,j⟩
def Ag:List AV->Nat->List (Nat×AV)
 | [],_=>[]
 | x :: r,i=>(i,x) :: Ag r (i+1)
theorem Ku:∀ (l:List AV) (i t:Nat),iz (Ag l i) t=if i<=t then (l[t - i]?).getD .qm else .qm
 | [],i,t=>by simp [Ag,iz]
 | x :: r,i,t=>by
  simp only [Ag,iz]
  by_cases h:i=t
  ·simp_all
  ·rw [tz h,Ku r (i+1) t];grind
theorem sor {f:FuncId} {fu:Func} {c:Code} {nt m:Nat} {a:List AV} {σ gV:gp} {res:AV} (r:P.funcs[f]?=some fu) (hb:fu.body=some c) (s:fu.ntmps=nt) (u:Nat.ble a.length nt=true)
  (y:m=0->σ=[]) (h:∀ E,ba E m->aK P E f nt (bd E gV res) [.code c] ⟨Ag a 0,σ,m⟩):Sound P f a σ m res gV:=by
 simp only [Nat.ble_eq] at u;intro w S μ vs g z n cs;have A:ba (BD w S σ μ m) m:=⟨rfl,fun hm b=>by
  rintro (⟨k,o,pl,d,_⟩ | ⟨k,i,x,v,⟨o,pl,d,_⟩,_⟩)<;>(rw [y hm] at d;simp [aR] at d)⟩
 let b:Frame:={ (default:Frame) with fn:=f,kind:=.normal }
 have e:Frame.enter P f vs .normal=b.at ⟨vs ++ Array.replicate (nt - vs.size) undef,[]⟩ [.code c]:=by
  simp [Frame.enter,Frame.at,r,hb,s,b]
 have B:=n.1;obtain ⟨v,w',fr,d,p,C,D⟩:=h _ A (vs ++ Array.replicate (nt - vs.size) undef) w (by simp;omega) ⟨S,μ,g,z,aH _,fun t=>by
  show aE w S μ _ (iz (Ag a 0) t);rw [Ku,if_pos (Nat.zero_le _),Nat.sub_zero];cases q:a[t]? with
  | none=>exact .qm
  | some x =>
   have j:t < vs.size:=by rw [B];exact (gW.1 q).1
   have l:(vs ++ Array.replicate (nt - vs.size) undef).getD t undef=vs[t]:=by
    simp [Aa,Array.getElem?_append_left j,j]
   rw [l];exact n.2 t x _ q (mT j)⟩ b rfl rfl cs
 rw [<- e] at p;obtain ⟨S',gn,F,l⟩:=d;exact ⟨.returned v,w',fr,⟨v,S',gn,rfl,F,l⟩,p,C,D⟩
end
def apB (f:Func):Code:=f.body.getD .skip
def cat:Code->List Bool->Code
 | c,[]=>c
 | .seq a _,false :: p=>cat a p
 | .seq _ b,true :: p=>cat b p
 | .cond _ a _,false :: p=>cat a p
 | .cond _ _ b,true :: p=>cat b p
 | .block _ b,_ :: p=>cat b p
 | .loop b,_ :: p=>cat b p
 | .scope b,_ :: p=>cat b p
 | c,_ :: _=>c
def WH:List Item->Option (List Item)
 | .code (.seq a b) :: k=>some (.code a :: .code b :: k)
 | .code (.block id c) :: k=>some (.code c :: .inBlock id :: k)
 | .code (.loop c) :: k=>some (.code c :: .inLoop c :: k)
 | .inLoop c :: k=>some (.code c :: .inLoop c :: k)
 | .inBlock _ :: k=>some k
 | .code (.scope c) :: k=>some (.code c :: .inScope c :: k)
 | .inScope _ :: k=>some k
 | .code .skip :: k=>some k
 | .code (.label _) :: k=>some k
 | .code (.exit id) :: k=>exitTo id k
 | _=>none
def NC:Nat->List Item->Option (List Item)
 | 0,k=>some k
 | n+1,k=>match WH k with
  | some k'=>NC n k'
  | none=>none
section
variable {P:Program} {E:Env} {fn:FuncId} {nt:Nat} {eX:Value->World->Prop} {k k':List Item} {st A4:St}
theorem aK.WH (h:WH k=some k') (a:aK P E fn nt eX k' st):aK P E fn nt eX k st:=by
 unfold Ab.WH at h;split at h
 ·cases h;exact a.seq
 ·cases h;exact a.block
 ·cases h;exact a.loop
 ·cases h;exact a.inLoop
 ·cases h;exact a.inBlock
 ·cases h;exact a.scope
 ·cases h;exact a.inScope
 ·cases h;exact a.skip
 ·cases h;exact a.label
 ·exact a.exit h
 ·cases h
theorem aK.NC:∀ (n:Nat) {k:List Item},NC n k=some k'->aK P E fn nt eX k' st->aK P E fn nt eX k st
 | 0,k,h,a=>by simp only [Ab.NC,bu] at h;rw [h];exact a
 | n+1,k,h,a=>by
  simp only [Ab.NC] at h;split at h
  ·rename_i c b;exact aK.WH b (aK.NC n h a)
  ·cases h
theorem aK.ahZ {c x y:Code} {o:Operand} {q:Bool} (a:c=.cond o x y) (b:GU st.tm o=.atom (.bool q)) (d:q=true->aK P E fn nt eX (.code x :: k) st) (e:q=false->aK P E fn nt eX (.code y :: k) st) :
  aK P E fn nt eX (.code c :: k) st:=by
 grind [aK.cond]
theorem aK.apC {c x y:Code} {o:Operand} {n:Nat} (t:c=.cond o x y) (u:GU st.tm o=.bn n) (z:n=0->aK P E fn nt eX (.code x :: k) st) (A:aK P E fn nt eX (.code y :: k) st) :
  aK P E fn nt eX (.code c :: k) st:=by
 subst t;intro tm w m d b p r cs;have B:=d;obtain ⟨S,μ,g,_,_,C⟩:=B;have e:=Jp (a:=⟨tm,[]⟩) C o;rw [u] at e;obtain ⟨q,D,F⟩:∃ q,(⟨tm,[]⟩:Act).eval o=.bool q/\(q=true->n=0):=by
  generalize (⟨tm,[]⟩:Act).eval o=v at e;cases e with
  | bn q h=>exact ⟨q,rfl,h⟩
 have s:=step_cond (P:=P) (b:=b) (k:=k) (cs:=cs) (w:=w) (x:=x) (y:=y) D;cases q with
 | true =>
  obtain ⟨v,w',fr,f,i,j,l⟩:=z (F rfl) tm w m d b p r cs;exact ⟨v,w',fr,f,.head s i,j,l⟩
 | false =>
  obtain ⟨v,w',fr,f,i,j,l⟩:=A tm w m d b p r cs;exact ⟨v,w',fr,f,.head s i,j,l⟩
end
def HQ:gp->List Nat->gp
 | σ,[]=>σ
 | σ,k :: r=>HQ (D4 σ k) r
theorem bd.amF {E:Env} {res:AV} {v:Value} {w:World}:∀ (ks:List Nat) {σ:gp},bd E σ res v w->bd E (HQ σ ks) res v w
 | [],_,h=>h
 | k :: r,_,⟨S,μ,g,a⟩=>bd.amF r ⟨S,μ,g.del k,a⟩
theorem aK.au1 {P:Program} {E:Env} {fn:FuncId} {nt:Nat} {k:List Item} {st:St} {c:Code} (ks:List Nat) (a:c=.ret) {f:Func} (d:P.funcs[fn]?=some f) {ps:List Prop} {res:AV} {gV:gp} (h:Ef P f st=some (ps,res))
  (e:HQ st.r8 ks=gV) (g:bO ps):aK P E fn nt (bd E gV res) (.code c :: k) st:=by
 subst a e;intro tm w i j b l m cs;obtain ⟨v,w',fr,n,o⟩:=aK.ret (E:=E) (nt:=nt) (k:=k) d h g tm w i j b l m cs;exact ⟨v,w',fr,n.amF ks,o⟩
theorem aK.au2 {P:Program} {E:Env} {fn:FuncId} {nt:Nat} {st:St} (ks:List Nat) {f:Func} (a:P.funcs[fn]?=some f) {ps:List Prop} {res:AV} {gV:gp} (h:Ef P f st=some (ps,res))
  (c:HQ st.r8 ks=gV) (d:bO ps):aK P E fn nt (bd E gV res) [] st:=by
 subst c;intro tm w e g b i j cs;obtain ⟨v,w',fr,k,l⟩:=aK.fin (E:=E) (nt:=nt) a h d tm w e g b i j cs;exact ⟨v,w',fr,k.amF ks,l⟩
def Kv (P:Program) (nt m:Nat) (c:Code) (orcs:List (Nat×tw)) (F:List Nat) (a:List (Nat×Wd)) (iu:D2) (nk:Nat) (st:St):Option (List Prop×St) :=
 match Mc P nt c orcs st with
 | some (ps,b)=>match Kr m b F a iu nk with
  | some (d,e)=>some (ps ++ d,e)
  | none=>none
 | none=>none
theorem aK.rw {P:Program} {E:Env} {fn:FuncId} {nt:Nat} {eX:Value->World->Prop} {k:List Item} {st A4:St} {m:Nat} {c:Code} {orcs:List (Nat×tw)} {F:List Nat} {d:List (Nat×Wd)} {iu:D2} {nk:Nat}
  (e:ba E m) {ps:List Prop} (h:Kv P nt m c orcs F d iu nk st=some (ps,A4)) (a:((F.isEmpty && zt orcs) || Nat.beq m 0)=true) (i:YsP P E orcs) (f:bO ps) (j:aK P E fn nt eX k A4):aK P E fn nt eX (.code c :: k) st:=by
 unfold Kv at h;split at h
 ·rename_i l s1 n;split at h
  ·rename_i o s2 p;simp only [bu,bk] at h;obtain ⟨rfl,rfl⟩:=h;obtain ⟨q,r⟩:=bO.app f;have g:(F.isEmpty || Nat.beq m 0)=true:=by
    rcases Bool.or_eq_true_iff.1 a with h | h
    ·simp [(CJ.1 h).1]
    ·simp [h]
   have s:zt orcs=true\/∀ b,¬ E.fp b:=by
    rcases Bool.or_eq_true_iff.1 a with h | h
    ·simp_all
    ·exact .inr (e.fp (dp h))
   grind [aK.region,aK.wk]
  ·cases h
 ·cases h
abbrev aI (n:Int):AV:=.atom (.int .i64 n)
abbrev aB (b:Bool):AV:=.atom (.bool b)
abbrev aS (s:ByteArray):AV:=.atom (.string s)
def cA {α:Type} (c:α->List AV) (d:α) (l:List α):AV:=.sl l.length fun i=>c (l.getD i d)
def cI (n:Int):List AV:=[aI n]
def cB (b:Bool):List AV:=[aB b]
def cS (s:ByteArray):List AV:=[aS s]
def cU (k:IntKind) (n:Int):List AV:=[.atom (.int k n)]
abbrev av (n:Int):Int:=IntKind.i64.wrap n
theorem ae {α:Type} {p:Prop} [Decidable p] {x:Option α} {r:α} (h:(if p then x else none)=some r):p/\x=some r:=by
 simp_all
theorem aW {α β:Type} {x:Option α} {f:α->Option β} {r:β} (h:x.bind f=some r):∃ a,x=some a/\f a=some r:=Option.bind_eq_some_iff.1 h
theorem aN {α:Type} {q:Bool} {x y:α} {r:α} (h:cond q x y=r) (hq:q=true):x=r:=by subst hq;exact h
theorem a9 {α:Type} {q:Bool} {x y:α} {r:α} (h:cond q x y=r) (hq:q=false):y=r:=by subst hq;exact h
def Alike (x y:AV):Prop:=∀ w S μ v,aE w S μ v x->aE w S μ v y
theorem Alike.refl (x:AV):Alike x x:=fun _ _ _ _ h=>h
theorem Alike.sl {n m:Nat} {g a:Nat->List AV} (d:n=m) (p:∀ i,i < m->a i=g i):Alike (.sl n g) (.sl m a):=by
 subst d;intro w S μ v h;cases h with
 | sl b off sz f e q k l o=>exact .sl b off sz f e (fun i hi=>by simp_all) k (fun i j c hi r=>l i j c hi (by simp_all)) o
theorem Alike.nil {g:Nat->List AV}:Alike .nil (.sl 0 g):=by
 intro w S μ v h;cases h;exact .sl 0 0 0 (fun _ _=>undef) (fun h=>absurd h ad) (fun i h=>absurd h ad) (fun i j h=>absurd h ad) (fun i j c h=>absurd h ad) (aH _)
inductive Kw:List AV->List AV->Prop where
 | nil:Kw [] []
 | cons {x y:AV} {xs ys:List AV}:Alike x y->Kw xs ys->Kw (x :: xs) (y :: ys)
theorem Kw.get {xs ys:List AV} (h:Kw xs ys):xs.length=ys.length/\∀ (j:Nat) y,ys[j]?=some y->∃ x,xs[j]?=some x/\Alike x y:=by
 induction h with
 | nil=>simp
 | cons a _ b =>
  grind
theorem Alike.agg {xs ys:List AV} (h:Kw xs ys):Alike (.agg xs) (.agg ys):=by
 intro w S μ v a;obtain ⟨b,c⟩:=h.get;cases a with
 | agg d e =>
  refine .agg (d.trans b) fun j y v f a=>?_;obtain ⟨x,g,i⟩:=c j y f;exact i _ _ _ _ (e j x v g a)
theorem Sound.conv {P:Program} {f:FuncId} {a b:List AV} {σ gV:gp} {m:Nat} {res:AV} (h:Sound P f a σ m res gV) (e:Kw b a):Sound P f b σ m res gV:=by
 obtain ⟨i,k⟩:=e.get;intro w S μ vs g l d;refine h w S μ vs g l ⟨d.1.trans i,fun j c v n o=>?_⟩;obtain ⟨x,p,q⟩:=k j c n;exact q _ _ _ _ (d.2 j x v p o)
def Us (k:IntKind) (a b:Int):Int:=k.wrap (BitVec.ofInt k.bits a ||| BitVec.ofInt k.bits b).toNat
def Zw (k:IntKind) (a b:Int):Int:=k.wrap (BitVec.ofInt k.bits a &&& BitVec.ofInt k.bits b).toNat
def Dl (k:IntKind) (a b:Int):Int:=k.wrap (a * 2 ^ (min b.toNat k.bits))
def iU (k:IntKind) (a b:Int):Int:=a.fdiv (2 ^ (min b.toNat k.bits))
theorem dR {n:Int} {m:Nat} (h:0<=n/\n < (m:Int)):n.toNat < m:=ad
theorem asl {a b:Bool} (h:(a && b)=true):a=true:=(CJ.1 h).1
theorem GV {a b:Bool} (h:a=true) (k:b=true):(a && b)=true:=by rw [h,k];rfl
theorem A5 {α:Type} (c:α->List AV) (d x:α) (n i:Nat) (hi:i < (List.replicate n x).length):c ((List.replicate n x).getD i d)=c x:=by
 simp_all
theorem yC {α:Type} (c:α->List AV) (d x:α) (n i:Nat) {z:List AV} (h:Uf z (c x)) (hi:i < (List.replicate n x).length):Uf z (c ((List.replicate n x).getD i d)):=by simp_all
theorem WJ {α:Type} (c:α->List AV) (d:α) (l:List α) (a b i:Nat) (hi:i < ((l.take b).drop a).length):c (((l.take b).drop a).getD i d)=c (l.getD (eu a i) d):=by
 have e:a+i < min b l.length:=by simp at hi;omega
 rw [fw];grind
theorem qO {α:Type} (c:α->List AV) (d:α) (l:List α) (i:Nat) (hi:i < l.length):c (l.getD i d)=(l.map c).getD i []:=by
 simp_all
theorem amG {α:Type} (l:List α) (a b:Nat) (c:a<=b) (d:b<=l.length):b - a=((l.take b).drop a).length:=by simp;omega
theorem Md {α:Type} (l:List α) (a b:Nat) (c:a<=b/\b<=l.length):b - a=((l.take b).drop a).length:=amG l a b c.1 c.2
theorem condSplit {α:Type} {q:Bool} {x y r:α} (h:cond q x y=r):(q=true/\x=r)\/(q=false/\y=r):=by grind
theorem CO {α:Type} (c:α->List AV) (d:α) (l m:List α) {n:Nat} {a b:Nat->List AV} (e:n=l.length) (f:∀ z,z < l.length->c (l.getD z d)=a z)
  (g:∀ z,z < m.length->c (m.getD z d)=b z) (i:Nat) (hi:i < (l ++ m).length):c ((l ++ m).getD i d)=if i < n then a i else b (i - n):=by
 grind
theorem zu {α:Type} {l m:List α} {n k:Nat} (a:n=l.length) (b:k=m.length):n+k=(l ++ m).length:=by subst a b;simp
theorem tE {α:Type} (c:α->List AV) (d:α) (l:List α) (k:Nat) (x:α) {g:Nat->List AV} (a:∀ z,z < l.length->c (l.getD z d)=g z) (i:Nat) (hi:i < (l.set k x).length) :
  c ((l.set k x).getD i d)=if i=k then c x else g i:=by
 grind
theorem dI {α:Type} {l:List α} {n k:Nat} {x:α} (a:n=l.length):n=(l.set k x).length:=by subst a;simp
def kp:List Nat->List (Nat×Wd)
 | []=>[]
 | t :: r=>(t,.ak) :: kp r
def kq:List Nat->D2
 | []=>[]
 | k :: r=>(k,.ak k) :: kq r
def vO (n:Nat) (cs:List AV):Ob:=⟨true,n,1,true,fun _=>cs⟩
def vN (n:Nat) (cs:List AV):Ob:=⟨true,n,1,false,fun _=>cs⟩
def aO {α:Type} (sz:Nat) (c:α->List AV) (d:α) (l:List α):Ob:=⟨false,sz,l.length,true,fun zi=>c (l.getD zi d)⟩
def aoj:Nat->Nat->List Bool->List Bool
 | 0,_,acc=>acc
 | k+1,n,acc=>match Nat.ble n 1 with
  | true=>acc
  | false=>aoj k (n / 2) (Nat.beq (n % 2) 1 :: acc)
def pth (n:Nat):List Bool:=aoj 400 n []
theorem o1:0 < 1:=Nat.one_pos
theorem z0 {n:Nat}:0+n<=n:=Nat.le_of_eq (Nat.zero_add _)
section
variable {P:Program} {E:Env} {fn:FuncId} {nt:Nat} {eX:Value->World->Prop} {k:List Item} {st:St} {m:Nat}
theorem aK.sA (n:Nat) (k':List Item) (a:aK P E fn nt eX k' st) (h:Ab.NC n k=some k':=by kernel_rfl):aK P E fn nt eX k st:=aK.NC n h a
theorem aK.sR (b:ba E m) (A4:St) (c:Code) (orcs:List (Nat×tw)) (F:List Nat) (d:List (Nat×Wd)) (iu:D2) (nk:Nat) (ps:List Prop) (e:bO ps) (f:aK P E fn nt eX k A4)
  (h:Kv P nt m c orcs F d iu nk st=some (ps,A4):=by kernel_rfl) (a:(((F.isEmpty && zt orcs) || Nat.beq m 0) && noY orcs)=true:=by rfl):aK P E fn nt eX (.code c :: k) st:=aK.rw b h (CJ.1 a).1 (Rm (CJ.1 a).2) e f
theorem aK.sRY (a:ba E m) (A4:St) (c:Code) (orcs:List (Nat×tw)) (F:List Nat) (b:List (Nat×Wd)) (iu:D2) (nk:Nat) (ps:List Prop) (d:bO ps) (e:YsP P E orcs) (f:aK P E fn nt eX k A4)
  (h:Kv P nt m c orcs F b iu nk st=some (ps,A4):=by kernel_rfl) (g:((F.isEmpty && zt orcs) || Nat.beq m 0)=true:=by rfl):aK P E fn nt eX (.code c :: k) st:=aK.rw a h g e d f
theorem aK.sW (a:ba E m) (A4:St) (F:List Nat) (b:List (Nat×Wd)) (iu:D2) (nk:Nat) (ps:List Prop) (c:bO ps) (d:aK P E fn nt eX k A4)
  (h:Kr m st F b iu nk=some (ps,A4):=by kernel_rfl) (e:(F.isEmpty || Nat.beq m 0)=true:=by rfl):aK P E fn nt eX k st:=aK.wk a h e c d
theorem aK.sC {c:Code} (t:Nat) (x y:Code) (q:Bool) (a:q=true->aK P E fn nt eX (.code x :: k) st) (b:q=false->aK P E fn nt eX (.code y :: k) st) (d:c=.cond (.tmp t) x y:=by kernel_rfl) (e:GU st.tm (.tmp t)=.atom (.bool q):=by kernel_rfl) :
  aK P E fn nt eX (.code c :: k) st:=aK.ahZ d e a b
theorem aK.sK0 {c:Code} (x y:Code) (a:aK P E fn nt eX (.code y :: k) st) (b:c=.cond (.const (.bool false)) x y:=by kernel_rfl):aK P E fn nt eX (.code c :: k) st :=
 aK.ahZ (q:=false) b rfl (fun h=>by cases h) (fun _=>a)
theorem aK.sT {c:Code} (f:Func) (ks:List Nat) (ps:List Prop) {res:AV} {gV:gp} (a:bO ps) (b:c=.ret:=by kernel_rfl) (d:P.funcs[fn]?=some f:=by kernel_rfl) (h:Ef P f st=some (ps,res):=by kernel_rfl)
  (e:HQ st.r8 ks=gV:=by rfl):aK P E fn nt (bd E gV res) (.code c :: k) st:=aK.au1 ks b d h e a
theorem aK.sF (f:Func) (ks:List Nat) (ps:List Prop) {res:AV} {gV:gp} (a:bO ps) (b:P.funcs[fn]?=some f:=by kernel_rfl) (h:Ef P f st=some (ps,res):=by kernel_rfl)
  (c:HQ st.r8 ks=gV:=by rfl):aK P E fn nt (bd E gV res) [] st:=aK.au2 ks b h c a
def nK (n:Nat) (k:List Item):List Item:=match Ab.NC n k with
 | some k'=>k'
 | none=>[]
def Ut:List Item->Code
 | .code c :: _=>c
 | _=>.ret
def tlK:List Item->List Item
 | _ :: k=>k
 | []=>[]
def cdX:Code->Code
 | .cond _ x _=>x
 | c=>c
def cdY:Code->Code
 | .cond _ _ y=>y
 | c=>c
def Uu (n:Nat) (k:List Item):Bool:=match Ab.NC n k with
 | some (.code _ :: _)=>true
 | _=>false
def nS (P:Program) (nt m:Nat) (c:Code) (orcs:List (Nat×tw)) (F:List Nat) (a:List (Nat×Wd)) (iu:D2) (nk:Nat) (st:St):St:=match Kv P nt m c orcs F a iu nk st with
 | some x=>x.2
 | none=>st
def nV (m:Nat) (st:St) (F:List Nat) (a:List (Nat×Wd)) (iu:D2) (nk:Nat):St:=match Kr m st F a iu nk with
 | some x=>x.2
 | none=>st
def WK:Option (List Prop×St)->Option (List Prop)
 | some x=>some x.1
 | none=>none
theorem Qp {n:Nat} {k:List Item} (h:Uu n k=true):Ab.NC n k=some (.code (Ut (nK n k)) :: tlK (nK n k)):=by
 unfold Uu at h;unfold nK;split at h
 ·rename_i c k' a;rw [a];rfl
 ·cases h
theorem Js {x:Option (List Prop×St)} {ps:List Prop} (h:WK x=some ps):∃ s,x=some (ps,s):=by
 cases x with
 | none=>cases h
 | some y=>cases h;exact ⟨y.2,rfl⟩
theorem rnR (c:ba E m) (n:Nat) (orcs:List (Nat×tw)) (F:List Nat) (a:List (Nat×Wd)) (iu:D2) (nk:Nat) {ps:List Prop} (d:bO ps)
  (g:aK P E fn nt eX (tlK (nK n k)) (nS P nt m (Ut (nK n k)) orcs F a iu nk st)) (e:Uu n k=true:=by kernel_rfl)
  (h:WK (Kv P nt m (Ut (nK n k)) orcs F a iu nk st)=some ps:=by kernel_rfl) (b:(((F.isEmpty && zt orcs) || Nat.beq m 0) && noY orcs)=true:=by kernel_rfl):aK P E fn nt eX k st:=by
 obtain ⟨s,f⟩:=Js h;refine aK.NC n (Qp e) (aK.rw c f (CJ.1 b).1 (Rm (CJ.1 b).2) d ?_);grind [nS,Ut,nK]
theorem rnW (a:ba E m) (n:Nat) (F:List Nat) (b:List (Nat×Wd)) (iu:D2) (nk:Nat) {ps:List Prop} (c:bO ps) {k':List Item} {A4:St} (d:aK P E fn nt eX k' A4)
  (e:Ab.NC n k=some k':=by kernel_rfl) (h:Kr m st F b iu nk=some (ps,A4):=by kernel_rfl) (f:(F.isEmpty || Nat.beq m 0)=true:=by kernel_rfl):aK P E fn nt eX k st :=
 aK.NC n e (aK.wk a h f c d)
theorem rnX (b:ba E m) (F:List Nat) (a:List (Nat×Wd)) (iu:D2) (nk:Nat) {ps:List Prop} (c:bO ps) (d:aK P E fn nt eX k (nV m st F a iu nk))
  (h:WK (Kr m st F a iu nk)=some ps:=by kernel_rfl) (e:(F.isEmpty || Nat.beq m 0)=true:=by kernel_rfl):aK P E fn nt eX k st:=by
 grind [Js,nV,aK.wk]
theorem dr (n t:Nat) {R:Type} {q:Bool} {x y r:R} (h:(bif q then x else y)=r) (a:q=true->x=r->aK P E fn nt eX (.code (cdX (Ut (nK n k))) :: tlK (nK n k)) st)
  (b:q=false->y=r->aK P E fn nt eX (.code (cdY (Ut (nK n k))) :: tlK (nK n k)) st) (c:Uu n k=true:=by kernel_rfl)
  (d:Ut (nK n k)=.cond (.tmp t) (cdX (Ut (nK n k))) (cdY (Ut (nK n k))):=by kernel_rfl) (e:GU st.tm (.tmp t)=.atom (.bool q):=by kernel_rfl):aK P E fn nt eX k st :=
 aK.NC n (Qp c) (aK.ahZ d e (fun hq=>a hq (by rw [hq] at h;exact h)) (fun hq=>b hq (by rw [hq] at h;exact h)))
theorem aK.nQ0 (n:Nat) (a:aK P E fn nt eX (.code (cdY (Ut (nK n k))) :: tlK (nK n k)) st) (b:Uu n k=true:=by kernel_rfl)
  (c:Ut (nK n k)=.cond (.const (.bool false)) (cdX (Ut (nK n k))) (cdY (Ut (nK n k))):=by kernel_rfl):aK P E fn nt eX k st:=aK.NC n (Qp b) (aK.sK0 _ _ a c)
theorem mh (i:ba E m) (n:Nat) (f:Func) (F:List Nat) (b:List (Nat×Wd)) (iu:D2) (nk:Nat) {ps:List Prop} (j:bO ps) (ks:List Nat) {a:List Prop} (l:bO a) {res:AV} {gV:gp}
  (o:Uu n k=true:=by kernel_rfl) (p:Ut (nK n k)=.ret:=by kernel_rfl) (h:WK (Kr m st F b iu nk)=some ps:=by kernel_rfl) (q:P.funcs[fn]?=some f:=by kernel_rfl)
  (c:Ef P f (nV m st F b iu nk)=some (a,res):=by kernel_rfl) (d:HQ (nV m st F b iu nk).r8 ks=gV:=by kernel_rfl) (r:(F.isEmpty || Nat.beq m 0)=true:=by kernel_rfl):aK P E fn nt (bd E gV res) k st:=by
 obtain ⟨s,g⟩:=Js h;have e:nV m st F b iu nk=s:=by unfold nV;rw [g]
 rw [e] at c d;exact aK.NC n (Qp o) (aK.wk i g r j (aK.sT f ks a l p q c d))
theorem rnF (c:ba E m) (n:Nat) (f:Func) (F:List Nat) (b:List (Nat×Wd)) (iu:D2) (nk:Nat) {ps:List Prop} (d:bO ps) (ks:List Nat) {a:List Prop} (e:bO a) {res:AV} {gV:gp}
  (g:Ab.NC n k=some []:=by kernel_rfl) (h:WK (Kr m st F b iu nk)=some ps:=by kernel_rfl) (i:P.funcs[fn]?=some f:=by kernel_rfl)
  (j:Ef P f (nV m st F b iu nk)=some (a,res):=by kernel_rfl) (l:HQ (nV m st F b iu nk).r8 ks=gV:=by kernel_rfl) (o:(F.isEmpty || Nat.beq m 0)=true:=by kernel_rfl):aK P E fn nt (bd E gV res) k st:=by
 grind [Js,nV,aK.NC,aK.wk,aK.sF]
def asm (st:St) (k i sz len:Nat) (g:Nat->List AV):Option (List Prop) :=
 match aR st.r8 k with
 | some o=>match o.var with
  | false=>some [i < o.len,o.get i=[.mr sz len g]]
  | true=>none
 | none=>none
def stO (st:St) (k i sz len:Nat) (g:Nat->List AV):St :=
 match aR st.r8 k with
 | some o=>⟨st.tm,sset (sset st.r8 k ⟨false,o.sz,o.len,false,fun m=>if m=i then [.os st.nk 0 len] else o.get m⟩) st.nk ⟨false,sz,len,true,g⟩,st.nk+16⟩
 | none=>st
theorem rnO (a i sz len:Nat) (g:Nat->List AV) {ps:List Prop} (e:bO ps) (f:aK P E fn nt eX k (stO st a i sz len g)) (h:asm st a i sz len g=some ps:=by kernel_rfl):aK P E fn nt eX k st:=by
 refine fun tm w j l=>f tm w j ?_;obtain ⟨S,μ,g0,m,hm,p⟩:=l;unfold asm at h;unfold stO;cases b:aR st.r8 a with
 | none=>rw [b] at h;cases h
 | some o =>
  rw [b] at h;simp only at h ⊢;cases c:o.var with
  | true=>rw [c] at h;cases h
  | false =>
   rw [c] at h;simp only [bu] at h;subst h;obtain ⟨r,p2,_⟩:=e;obtain ⟨q,s,u⟩:=g0.opn (m st.nk (aH _)) hm b (qM (x:=(sz,len,g)) c r p2);exact ⟨S,dQ μ st.nk q,u,fun n d=>by
    have d:st.nk+16<=n:=d;unfold dQ;grind,by grind,fun t=>(p t).ext s⟩
def asn (st:St) (k q i:Nat):Option (List Prop) :=
 match Wz st.r8 k q i with
 | some x=>some x.1
 | none=>none
def stL (st:St) (k q i:Nat):St :=
 match Wz st.r8 k q i with
 | some x=>⟨st.tm,js st.r8 x.2,st.nk⟩
 | none=>st
theorem rnL (a q i:Nat) {ps:List Prop} (c:bO ps) (d:aK P E fn nt eX k (stL st a q i)) (h:asn st a q i=some ps:=by kernel_rfl):aK P E fn nt eX k st:=by
 refine fun tm w e f=>d tm w e ?_;obtain ⟨S,μ,g0,g,hm,j⟩:=f;unfold asn at h;unfold stL;cases b:Wz st.r8 a q i with
 | none=>rw [b] at h;cases h
 | some x =>
  rw [b] at h;simp only [bu] at h;subst h;exact ⟨S,μ,Vk b c g0,g,hm,j⟩
def mR {α:Type} (sz:Nat) (c:α->List AV) (d:α) (l:List α):List AV:=[.mr sz l.length (fun i=>c (l.getD i d))]
def aM {α:Type} (sz:Nat) (c:α->List AV) (d:α) (l:List (List α)):Ob:=⟨false,1,l.length,false,fun m=>mR sz c d (l.getD m [])⟩
theorem Me {α:Type} {sz:Nat} {c:α->List AV} {d:α} (E:List (List α)) (i q n:Nat) (row:List α) (r:List (Nat×Nat×Nat)) (hi:i < E.length) (f:∀ x∈r,x.1≠i) :
  ∀ m,m < (E.set i row).length->aJ r (fun m=>mR sz c d ((E.set i row).getD m [])) m=if m=i then mR sz c d row else aJ ((i,q,n) :: r) (fun m=>mR sz c d (E.getD m [])) m:=by
 intro m _;have gen:∀ (r:List (Nat×Nat×Nat)),m≠i->aJ r (fun m=>mR sz c d ((E.set i row).getD m [])) m=aJ r (fun m=>mR sz c d (E.getD m [])) m:=by
  intro r hm
  induction r with
  | nil=>simp only [aJ,lH];rw [List.getElem?_set_ne (fun h=>hm h.symm)]
  | cons x r g =>
   grind [aJ]
 by_cases hm:m=i
 ·subst hm;rw [if_pos rfl];clear gen
  induction r with
  | nil=>simp only [aJ,lH];rw [List.getElem?_set_self hi];rfl
  | cons x r g =>
   obtain ⟨a,b,e⟩:=x;have j:m≠a:=fun h=>f (a,b,e) List.mem_cons_self h.symm;simp_all [aJ,if_neg,List.mem_cons_of_mem]
 simp_all [if_neg,aJ]
theorem Eg {α:Type} {sz:Nat} {c:α->List AV} {d:α} (E:List (List α)) (i q n:Nat) (r:List (Nat×Nat×Nat)) (f:∀ x∈r,x.1≠i) :
  ∀ m,m < E.length->aJ r (fun m=>mR sz c d (E.getD m [])) m=if m=i then mR sz c d (E.getD i []) else aJ ((i,q,n) :: r) (fun m=>mR sz c d (E.getD m [])) m:=by
 intro m _
 by_cases hm:m=i
 ·subst hm;rw [if_pos rfl]
  induction r with
  | nil=>rfl
  | cons x r g =>
   obtain ⟨a,b,e⟩:=x;have j:m≠a:=fun h=>f (a,b,e) List.mem_cons_self h.symm;simp_all [aJ,if_neg,List.mem_cons_of_mem]
 simp_all [if_neg,aJ]
theorem ah2 {α:Type} {sz:Nat} {c:α->List AV} {d:α} (E:List (List α)) (i q n:Nat) (row:List α) (r:List (Nat×Nat×Nat)) (he:E.getD i []=row) (a:∀ x∈r,x.1≠i) :
  ∀ m,m < E.length->aJ r (fun m=>mR sz c d (E.getD m [])) m=if m=i then mR sz c d row else aJ ((i,q,n) :: r) (fun m=>mR sz c d (E.getD m [])) m:=by
 subst he;exact Eg E i q n r a
theorem zw {α:Type} (E:List (List α)) (row:List α):(E ++ [row]).getD E.length []=row:=aD
theorem apD {α:Type} (E:List α) (row:α):E.length < (E ++ [row]).length:=aD
theorem amJ {α:Type} {sz:Nat} {c:α->List AV} {d:α} (E:List (List α)) (row:List α) {q n a:Nat} {b:Nat->List AV} (h:n=a) (hb:b 0=[.os q 0 n]) :
  ∀ m,m < (E ++ [row]).length->aJ [(E.length,q,a)] (fun m=>mR sz c d ((E ++ [row]).getD m [])) m=if m < E.length then mR sz c d (E.getD m []) else b (m - E.length):=by
 intro m hm;subst h;simp only [rI,List.length_singleton] at hm;simp only [aJ];grind
theorem amK {b:Nat->List AV} {a:Nat} (i k n c N:Nat) (d:a=i):∀ m,m < N->aJ [(i,k,c)] b m=if m=a then [.os k 0 c] else aJ [(i,k,n)] b m:=by
 grind [aJ]
theorem gO {c:Prop} [Decidable c] {x:AV} {l:List AV} (h:c):(if c then [x] else l)[0]?=some x:=by rw [if_pos h];rfl
theorem Ro {i:Nat}:∀ x∈([]:List (Nat×Nat×Nat)),x.1≠i:=fun _ h=>by simp at h
theorem neC {i j k n:Nat} {r:List (Nat×Nat×Nat)} (h:j≠i) (a:∀ x∈r,x.1≠i):∀ x∈(j,k,n) :: r,x.1≠i:=fun x b=>by
 grind
theorem pc {p:Prop} {ps:List Prop} (h:p) (t:bO ps):bO (p :: ps):=⟨h,t⟩
theorem pn:bO []:=trivial
theorem z1 (n:Nat):0+n<=n:=z0
theorem dK {α:Type} (c:α->List AV) (d:α) (l:List α) (k:Nat) (x:α) (i:Nat) (hi:i < (l.set k x).length):c ((l.set k x).getD i d)=if i=k then c x else (fun zi=>c (l.getD zi d)) i :=
 tE c d l k x (fun _ _=>rfl) i hi
theorem bm {α:Type} (l:List α) (k:Nat) (x:α):l.length=(l.set k x).length:=dI rfl
theorem bL {α:Type} (l m:List α):l.length+m.length=(l ++ m).length:=zu rfl rfl
end
section
variable {P:Program} {kt:TypeId} {A B:Type} (ck:A->AV) (cv:B->AV) {eq:A->A->Bool} (h:∀ a b,J6 P kt (ck a) (ck b)=some (eq a b))
include h
end
def I:Bool:=true
def wI (x:Int):Prop:=-9223372036854775808<=x/\x<=9223372036854775807
def wK (k:IntKind) (x:Int):Prop:=k.min<=x/\x<=k.max
def wB (_:Bool):Prop:=True
def wL {A:Type} (wf:A->Prop) (l:List A):Prop:=l.length<=9223372036854775807/\∀ y,y∈l->wf y
def wV {α:Type} (l:List α) (i j:Nat):List α:=l.take i ++ l.drop j ++ l.drop (i+(l.length - j))
theorem Qq {α:Type} {l:List α} {i j:Nat} (h:i<=j/\j<=l.length):l.length=(wV l i j).length:=by simp [wV];omega
theorem adS {α:Type} (c:α->List AV) (d:α) (l:List α) (i j:Nat) (h:i<=j/\j<=l.length) (z:Nat) (a:z < (wV l i j).length) :
  c ((wV l i j).getD z d)=if z < i - 0 then c (l.getD z d) else if z < (i - 0)+(l.length - j) then c (l.getD (eu j (z - (i - 0))) d) else c (l.getD z d):=by
 have a:=Qq h ▸ a;have b:(l.take i).length=i:=by simp;omega
 have e:(l.take i ++ l.drop j).length=i+(l.length - j):=by simp;omega
 simp only [wV,Nat.sub_zero,lH,fw];grind
theorem ND {α:Type} {l:List α} {a n:Nat} (h:0 < n/\a+n<=l.length):a=(l.take a).length:=by simp;omega
theorem abA {α:Type} (c:α->List AV) (d:α) (l:List α) (a z:Nat) (b:z < (l.take a).length):c ((l.take a).getD z d)=c (l.getD z d):=by
 grind
abbrev rh {α:Type} (c:α->List AV) (d:α) (l:List α):Wd:=.sl l.length fun i=>c (l.getD i d)
abbrev ri {α:Type} (k:Nat) (c:α->List AV) (d:α) (l:List α):Od:=.arr k l.length fun i=>c (l.getD i d)
theorem LR {α:Type} (c:α->List AV) (d:α) (l m:List α) (i:Nat) (hi:i < (l ++ m).length):c ((l ++ m).getD i d)=if i < l.length then c (l.getD i d) else (m.map c).getD (i - l.length) [] :=
 CO c d l m rfl (fun _ _=>rfl) (qO c d m) i hi
theorem eR {α:Type} (c:α->List AV) (d:α) (l:List α) (i:Nat) (_:i < l.length):c (l.getD i d)=c (l.getD i d):=rfl
theorem eZ {α:Type} (c:α->List AV) (d:α) (l:List α) (i:Nat) (_:i < l.length):c (l.getD i d)=c (l.getD (eu 0 i) d):=rfl
theorem lR {α:Type} (n:Nat) (d:α):n=(List.replicate n d).length:=tx.symm
theorem lQ {α:Type} (n:Nat) (d:α):(List.replicate n d).length<=n:=Nat.le_of_eq tx
theorem oN (l:List (List AV)) (h:l.all AV.xe=true:=by rfl) (i:Nat) (_:i < l.length):AV.xe (l.getD (eu 0 i) [])=true:=by
 rw [show eu 0 i=i from rfl];have:=List.all_eq_true.1 h;grind
theorem fL {α:Type} (c:α->List AV) (d:α) (l:List α) (h:∀ x,AV.GM (c x)=true:=by exact fun _=>rfl) (i:Nat) (_:i < l.length):AV.GM (c (l.getD i d))=true:=h _
noncomputable def bt (f:Func) (n:Nat):Code:=cat (apB f) (pth n)
theorem sO {P:Program} {f:FuncId} {m:Nat} {a:List AV} {σ gV:gp} {res:AV} (fu:Func) (nt:Nat) (h:∀ E,ba E m->aK P E f nt (bd E gV res) [.code (bt fu 1)] ⟨Ag a 0,σ,m⟩)
  (b:m=0->σ=[]:=by first | exact fun _=>rfl | exact fun h=>absurd h ay) (c:P.funcs[f]?=some fu:=by kernel_rfl) (hb:fu.body=some (bt fu 1):=by kernel_rfl) (d:fu.ntmps=nt:=by kernel_rfl) (e:Nat.ble a.length nt=true:=by kernel_rfl) :
  Sound P f a σ m res gV:=sor c hb d e b h
section
variable {P:Program} {E:Env} {fn:FuncId} {nt:Nat} {eX:Value->World->Prop} {k:List Item} {st:St} {m:Nat}
theorem bK (b:ba E m) (n:Nat) (orcs:List (Nat×tw)) (a:List (Nat×Wd)) (iu:D2) (nk:Nat) {ps:List Prop} (c:bO ps) (d:aK P E fn nt eX (tlK (nK n k)) (nS P nt m (Ut (nK n k)) orcs [] a iu nk st)) (e:Uu n k=true:=by kernel_rfl)
  (h:WK (Kv P nt m (Ut (nK n k)) orcs [] a iu nk st)=some ps:=by kernel_rfl) (f:((zt orcs || Nat.beq m 0) && noY orcs)=true:=by kernel_rfl):aK P E fn nt eX k st:=rnR b n orcs [] a iu nk c d e h f
theorem dV (b:ba E m) (n:Nat) (a:List (Nat×Wd)) (iu:D2) (nk:Nat) {ps:List Prop} (c:bO ps) (d:aK P E fn nt eX (tlK (nK n k)) (nS P nt m (Ut (nK n k)) [] [] a iu nk st)) (e:Uu n k=true:=by kernel_rfl)
  (h:WK (Kv P nt m (Ut (nK n k)) [] [] a iu nk st)=some ps:=by kernel_rfl):aK P E fn nt eX k st:=rnR b n [] [] a iu nk c d e h rfl
theorem ax (b:ba E m) (n:Nat) (a:List (Nat×Wd)) (iu:D2) (nk:Nat) (c:aK P E fn nt eX (tlK (nK n k)) (nS P nt m (Ut (nK n k)) [] [] a iu nk st)) (d:Uu n k=true:=by kernel_rfl)
  (h:WK (Kv P nt m (Ut (nK n k)) [] [] a iu nk st)=some []:=by kernel_rfl):aK P E fn nt eX k st:=rnR b n [] [] a iu nk pn c d h rfl
theorem cY (b:ba E m) (n:Nat) (a:List (Nat×Wd)) (iu:D2) (nk:Nat) {k':List Item} {A4:St} (c:aK P E fn nt eX k' A4)
  (d:Ab.NC n k=some k':=by kernel_rfl) (h:Kr m st [] a iu nk=some ([],A4):=by kernel_rfl):aK P E fn nt eX k st:=rnW b n [] a iu nk pn c d h rfl
theorem iG (b:ba E m) (n:Nat) (f:Func) (a:List (Nat×Wd)) (iu:D2) (nk:Nat) {res:AV} {gV:gp}
  (c:Uu n k=true:=by kernel_rfl) (d:Ut (nK n k)=.ret:=by kernel_rfl) (h:WK (Kr m st [] a iu nk)=some []:=by kernel_rfl) (e:P.funcs[fn]?=some f:=by kernel_rfl)
  (g:Ef P f (nV m st [] a iu nk)=some ([],res):=by kernel_rfl) (i:HQ (nV m st [] a iu nk).r8 []=gV:=by kernel_rfl):aK P E fn nt (bd E gV res) k st :=
 mh b n f [] a iu nk pn [] pn c d h e g i rfl
end
section
variable {E:Env} {σ:gp} {S:Nat->Prop} {μ:Mu} {w:World}
end
section
variable {E:Env} {σ:gp} {S:Nat->Prop} {μ:Mu} {w:World}
end
open Go.ChangeShapes Go.WideShapes Go.ChangeAt Go.RowKit
def abB (w:World) (b:Nat):Prop:=b < w.heap.size
def NF (w:World) (cs:List Value) (c:List AV):Prop :=
 cs.length=c.length/\∀ (j:Nat) (a:AV) (v:Value),c[j]?=some a->cs[j]?=some v->aE w (abB w) lI v a
theorem NF.nil {w:World}:NF w [] []:=⟨rfl,fun j a v h=>by simp at h⟩
theorem NF.append {w:World} {a b:List Value} {c d:List AV} (e:NF w a c) (h:NF w b d):NF w (a ++ b) (c ++ d):=by
 refine ⟨by simp [e.1,h.1],fun j x v f g=>?_⟩
 by_cases i:j < a.length
 ·rw [mg (by rw [<- e.1];exact i)] at f;rw [mg i] at g;exact e.2 j x v f g
 ·rw [o5 (by rw [<- e.1];omega)] at f;rw [o5 ad] at g;rw [<- e.1] at f;exact h.2 _ x v f g
theorem NF.step {w:World} {cs:List Value} {o n:Nat} {c d:List AV} (a:NF w ((cs.drop o).take n) c) (b:NF w (cs.drop (o+n)) d):NF w (cs.drop o) (c ++ d):=by
 have e:cs.drop o=(cs.drop o).take n ++ cs.drop (o+n):=by rw [<- List.drop_drop];exact (List.take_append_drop n _).symm
 rw [e];exact a.append b
theorem NF.done {w:World} {cs:List Value} {o:Nat} (h:cs.length=o):NF w (cs.drop o) []:=by
 rw [List.drop_of_length_le ad];exact .nil
theorem NF.one {w:World} {v:Value} {a:AV} (h:aE w (abB w) lI v a):NF w [v] [a]:=by
 refine ⟨rfl,fun j x u b c=>?_⟩;cases j with
 | zero=>simp at b c;subst b c;exact h
 | succ j=>simp at b
def si (P:Program) (t:TypeId) {A:Type} (wf:A->Prop) (c:A->List AV):Prop :=
 ∀ (H:Type) (enc:TypeId×Value->H) (w:World) (n:Nat) (cs:List Value) (x:DataW H×List MemPlace),DataW.trod enc P w 0 (fun _=>true) true n t cs=some x->∃ y:A,wf y/\NF w cs (c y)
variable {P:Program} {t e:TypeId}
theorem si.int (a:P.underlying t=some (.int .i64)):si P t wI cI:=by
 intro H enc w n cs x h;obtain ⟨n,rfl,_,hw⟩:=DataW.trod_int a h;refine ⟨n,?_,NF.one (.atom _)⟩;simp [Lit.wf,IntKind.min,IntKind.max,IntKind.signed,IntKind.bits] at hw;exact ⟨ad,ad⟩
theorem si.au6 {k:IntKind} (a:P.underlying t=some (.int k)):si P t (wK k) (cU k):=by
 intro H enc w n cs x h;obtain ⟨n,rfl,_,hw⟩:=DataW.trod_int a h;refine ⟨n,?_,NF.one (.atom _)⟩;simp [Lit.wf] at hw;exact ⟨hw.1,hw.2⟩
theorem si.bool (a:P.underlying t=some .bool):si P t wB cB:=by
 intro H enc w n cs x h;obtain ⟨b,rfl,_⟩:=DataW.trod_bool a h;exact ⟨b,trivial,NF.one (.atom _)⟩
theorem Zx {a:Addr} (h:a.spot=none) (n:Nat):a.add n=⟨a.block,a.off+n,none⟩:=by
 obtain ⟨b,o,s⟩:=a;simp only at h;subst h;unfold Addr.add
 by_cases h:n=0<;>simp [h]
theorem si.slice {A:Type} {wf:A->Prop} {c:A->List AV} (d:A) (J:P.underlying t=some (.slice e)) (he:si P e wf c) {sz:Nat} (B:P.cellsOf e=sz) (K:0 < sz) (L:∀ y,(c y).length=sz) :
  si P t (wL wf) (fun l=>[cA c d l]):=by
 intro H enc w n cs x h;rcases Go.Deep.open_slice J h with ⟨rfl,_⟩ | ⟨a,len,cap,m,k,D,U,rfl,_,C,E,hm,_,p⟩
 ·refine ⟨[],⟨aD,aD⟩,NF.one ?_⟩;exact .sl 0 0 0 (fun _ _=>default) (fun h=>absurd h (iq _)) (fun i h=>absurd h (iq _)) (fun i j h=>absurd h (iq _)) (fun i j c h=>absurd h (iq _)) (aH _)
 ·simp only [if_true] at hm;subst hm;rw [B] at p;have M:∀ i,i < len->∃ z:List Value×A,w.cells? 0 (a.add (i * sz)) sz=some z.1/\wf z.2/\NF w z.1 (c z.2):=fun i hi=>by
   obtain ⟨G,N,O⟩:=p i ad;obtain ⟨y,u,Q⟩:=he H enc w k G _ O;exact ⟨(G,y),N,u,Q⟩
  haveI:Inhabited (List Value×A):=⟨([],d)⟩
  obtain ⟨Z,v⟩:=Go.Deep.choose_lt M;have f:((List.range len).map fun i=>(Z i).2).length=len:=aD;have R:∀ i,i < len->((List.range len).map fun i=>(Z i).2).getD i d=(Z i).2:=fun i hi=>by
   simp [List.getD,hi]
  have I:∀ i j,i < len->j < sz->w.cell? ((a.add (i * sz)).add j)=some ((Z i).1.getD j default):=fun i j hi r=>by
   obtain ⟨_,V,S⟩:=World.cells?_some (v i hi).1;rw [S j r];have:j < (Z i).1.length:=ad;simp [List.getD,this]
  have g:0 < len->a.spot=none/\a.block < w.heap.size:=fun q=>by
   have:=I 0 0 q K;simp only [Nat.zero_mul,Addr.add,if_true] at this;unfold World.cell? at this;split at this
   ·rename_i W X Y T;refine ⟨?_,(Array.getElem?_eq_some_iff.1 T).1⟩;cases B:a.spot with
    | none=>rfl
    | some z=>simp [B] at this
   ·cases this
  refine ⟨(List.range len).map fun i=>(Z i).2,⟨by rw [f];unfold maxLen at E;omega,?_⟩,NF.one ?_⟩
  ·intro y u;simp only [List.mem_map,List.mem_range] at u;obtain ⟨i,hi,rfl⟩:=u;exact (v i hi).2.1
  ·unfold cA;rw [f];refine .sl a.block a.off sz (fun i j=>(Z i).1.getD j default) (fun q=>⟨?_,(g q).2⟩) (fun i hi=>L _) (fun i j hi r=>?_) (fun i j x hi p=>?_) C
   ·have:=(g q).1;obtain ⟨b,o,s⟩:=a;simp only at this;subst this;rfl
   ·have q:=(g ad).1;have:=I i j hi r;rwa [Zx q,Zx rfl] at this
   ·rw [R i hi] at p;have r:j < (c (Z i).2).length:=(gW.1 p).1;have F:j < (Z i).1.length:=by rw [(v i hi).2.2.1];exact r
    refine (v i hi).2.2.2 j x _ p ?_;simp [List.getD,F]
theorem BG {H:Type} {enc:TypeId×Value->H} {w:World} {fs:Array Field} {n:Nat} {cs:List Value} {x:DataW H×List MemPlace} (a:P.underlying t=some (.struct fs)) (h:DataW.trod enc P w 0 (fun _=>true) true n t cs=some x) :
  cs.length=P.cellsOf t/\∃ m,∀ (i:Nat) (f:Field),fs[i]?=some f->∃ y,DataW.trod enc P w 0 (fun _=>true) true m f.type ((cs.drop f.offset).take (P.cellsOf f.type))=some y:=by
 obtain ⟨xs,m,_,_,b,c,d⟩:=DataW.trod_struct a h;refine ⟨b,m,fun i f hi=>?_⟩;rw [d i f hi];have:i < xs.length:=by rw [c];exact (Array.getElem?_eq_some_iff.1 hi).1
 exact ⟨xs[i],w9 this⟩
theorem Ah {H:Type} {enc:TypeId×Value->H} {w:World} {fs:Array Field} {m:Nat} {cs:List Value} (g:∀ (i:Nat) (f:Field),fs[i]?=some f->∃ y,DataW.trod enc P w 0 (fun _=>true) true m f.type ((cs.drop f.offset).take (P.cellsOf f.type))=some y)
  (i:Nat) {te:TypeId} (o n:Nat) {A:Type} {wf:A->Prop} {c:A->List AV} (he:si P te wf c) (hi:(fs[i]?).map (fun (f:Field)=>(f.type,f.offset))=some (te,o)) (h:P.cellsOf te=n):∃ y:A,wf y/\NF w ((cs.drop o).take n) (c y):=by
 simp only [bE,bk] at hi;obtain ⟨f,a,b,d⟩:=hi;obtain ⟨y,e⟩:=g i f a;rw [b,d,h] at e;exact he H enc w m _ y e
section
variable {H:Type} {enc:TypeId×Value->H} {w:World} {base:Nat} {v:Value} {d:DataW H} {ps:List MemPlace} {A:Type} {wf:A->Prop}
theorem afE {fs:Array Field} {c:A->List AV} (b:P.underlying t=some (.struct fs)) (e:si P t wf c) (f:Value.okWide P w .any base t v) (h:DataW.Trod enc P w 0 (fun _=>true) true t v d ps):∃ y,wf y/\aE w (abB w) lI v (.agg (c y)):=by
 obtain ⟨cs,rfl,_⟩:=okWide_struct b f;obtain ⟨n,g⟩:=h;obtain ⟨y,i,a⟩:=e H enc w n _ _ g;refine ⟨y,i,.agg (by simpa [Value.cells] using a.1) fun j x u k l=>a.2 j x u k (by simpa [Value.cells] using l)⟩
theorem rl1 {S:Nat->Prop} {μ:Mu} {b:Value} {d:AV} (f:aE w S μ b d):RL w S μ #[b] [d]:=by
 refine ⟨rfl,fun j c v a e=>?_⟩
 match j with
 | 0=>simp at a e;subst a e;exact f
 | j+1=>simp at a
end
theorem adT {H:Type} {enc:TypeId×Value->H} (i:laidOutB P=true) {W j:World} (hb:Below W.heap.size W j) (sp:Nat->Bool) :
  ∀ (e:List TypeId) (vs:List Value) (ds:List (DataW H)) (p:List MemPlace),(e.all fun t=>P.readableRec t && decide (t < P.types.size))=true->(∀ x∈p,x.block < W.heap.size)->(∀ x∈p,sp x.block=true) ->
   DataW.TrodAll enc P W 0 (fun _=>true) true e vs ds p->DataW.TrodAll enc P j 0 sp true e vs ds p
 | [],[],[],_,_,_,_,h=>h
 | t :: e,v :: vs,d :: ds,p,g,k,f,h=>by
  obtain ⟨a,b,l,m,rfl⟩:=h;simp only [List.all_cons,cy,decide_eq_true_eq] at g;refine ⟨a,b,?_,adT i hb sp e vs ds b (by simpa using g.2) (fun x c=>k x (by simp [c])) (fun x c=>f x (by simp [c])) m,rfl⟩;exact WideElems.Trod_stays i g.1.1 g.1.2 l (fun x c=>hb.same (k x (by simp [c]))) (fun x c=>f x (by simp [c]))
theorem ah4 {H:Type} {enc:TypeId×Value->H} {f:FuncId} {fn:Func} {s:ChangeSpec} {apart fresh handsOn again:Bool} {W:World} {args:Array Value} {ds K:List (DataW H)} {before:List MemPlace} {tb:TypeId} {avs:List AV}
  (l:s.vars=[]) (L:laidOutB P=true) (y:(fn.params.toList.all fun t=>P.readableRec t && decide (t < P.types.size))=true) (m:fn.resultTypes=#[tb]) (hb:P.underlying tb=some .bool)
  (c:s.fn H ds={ results:=[.lit (.bool true)],args:=ds })
  (F:DataW.Whole enc P fn.params.toList s.vars apart W args.toList ds K before)
  (z:RL W (abB W) lI args avs) (M:Sound P f avs [] 0 (aB true) []) :
  Calls P f args W fun e j=>∃ v,e=.returned v/\s.post enc P fn apart fresh handsOn again W args v j:=by
 have A:Good (BD W (abB W) [] lI 0) [] (abB W) lI W:=by
  refine ⟨Fr.refl _ _,fun _ h=>h,fun _ h=>h,fun _ h=>.inl h,?_,fun k o pl h=>(by cases h),fun k N=>absurd N (iq _),MX.nil fun k o i h=>by cases h⟩;constructor<;>intros<;>simp_all [aR]
 refine (M W (abB W) lI args A (fun _ _=>rfl) z).mono fun e j ⟨v,S',gn,he,n,O⟩=>?_;have d:Below W.heap.size W j:=⟨n.fr.os,n.fr.tape,n.fr.output,n.fr.size,fun b hb=>n.fr.eC b hb (fun h=>h.elim (fun ⟨k,o,pl,h,_⟩=>by cases h) (fun ⟨k,i,x,v,⟨o,pl,h,_⟩,_⟩=>by cases h))⟩;have Q:v=.bool true:=by cases O;rfl
 subst he Q;refine ⟨_,rfl,?_⟩;have g:=F;obtain ⟨p,q,R,G,rfl,B,C⟩:=F;rw [l] at G;obtain ⟨rfl,rfl⟩:=trodVars_none G;rw [List.append_nil] at g;have D:∀ x∈p,x.block < W.heap.size:=fun x a=>g.lt x a;have r:∀ sp:Nat->Bool,(∀ x∈p,sp x.block=true)->DataW.TrodAll enc P j 0 sp true fn.params.toList args.toList (s.fn H (ds ++ [])).args p:=fun sp E=>by
  rw [List.append_nil,c];exact adT L d sp _ _ _ _ y D E R
 have u:∀ sp:Nat->Bool,DataW.TrodVars enc P j sp s.vars (s.fn H (ds ++ [])).vars []:=fun sp=>by
  rw [List.append_nil,c,l];rfl
 have w:∀ (b:Nat) (sp:Nat->Bool) (I:Bool),DataW.TrodAll enc P j b sp I fn.resultTypes.toList ((Value.bool true).resultList fn.resultTypes.size) (s.fn H (ds ++ [])).results []:=fun b sp I=>by
  rw [List.append_nil,c,m];exact trodAll_mk1 (shut_bool hb true)
 refine ⟨ds,[],p,[],p,[],g,w _ _ _,r _ (fun x a=>by simpa using D x a),u _,World.keptBut_mono (fun x a=>⟨a,Or.inr (Or.inl a)⟩) (d.frame _),fun _=>?_⟩;refine ⟨ok_one m rfl (okWide_bool_mk hb _),(s.fn H (ds ++ [])).results ++ (s.fn H (ds ++ [])).args,_,p,⟨p,[],trodAll_append (r _ (fun _ _=>rfl)) (w _ _ _),u _,aD,?_,by simpa using C⟩,fun x a _=>a⟩
 ·intro b off J;exact (d.frozen (D _ J)).trans (B b off (by simpa using J))
end Go.Ab
namespace Go.Ab
def CP:Obj->Bool
 | .loop _=>true
 | .deferred _=>true
 | .mapIter _ _ _ _=>true
 | _=>false
theorem abD (sz:Nat) (c:Array Value) (T:TypeId):CP (Kh sz c T)=false:=by
 cases sz<;>rfl
theorem Eh {w:World} {l:Nat} {o o':Obj} (h:w.heap[l]?=some o) (b:CP o=true) (c:CP o'=true) (a:Addr):(w.putObj l o').cell? a=w.cell? a:=by
 unfold World.cell?
 by_cases e:a.block=l
 ·rw [e,h,World.putObj_heap_same (Array.getElem?_eq_some_iff.1 h).1];cases o<;>cases o'<;>simp_all [CP]
 ·rw [World.putObj_heap_other e]
theorem aE.qn {w w':World} {S S':Nat->Prop} (n:∀ b,S b->S' b) (p:∀ a,w'.cell? a=w.cell? a) {μ:Mu} {v:Value} {x:AV} (h:aE w S μ v x):aE w' S' μ v x:=by
 induction h with
 | atom v=>exact .atom v
 | agg c _ d=>exact .agg c d
 | tup c _ d=>exact .tup c d
 | sl b off sz f c e g _ q d=>exact .sl b off sz f (fun m=>⟨(c m).1,n _ (c m).2⟩) e (fun i j hi r=>(p _).trans (g i j hi r)) d q
 | rp b o f c e _ d=>simp_all [rp,trans]
 | op pl h=>exact .op pl h
 | os pl h c e g=>exact .os pl h c e g
 | fn c e _ _ k l=>exact .fn c e k l
 | when _ s d=>exact .when d s
 | mp pl h=>exact .mp pl h
 | bn b h=>exact .bn b h
 | pt _ e d=>exact .pt d e
 | ov pl h c=>exact .ov pl h c
 | PD pl h c e=>exact .PD pl h c e
 | nq _ c e d=>exact .nq d c e
 | nil=>exact .nil
 | qm=>exact .qm
 | mr=>exact .mr
theorem kY.qn {w w':World} {S S':Nat->Prop} {μ:Mu} {o:Ob} {pl:Place} {c:Array Value} {T:TypeId} (h:kY w S μ o pl c T) (g:∀ b,S b->S' b) (d:∀ a,w'.cell? a=w.cell? a)
  (hb:0 < pl.cap->w'.heap[pl.eC]?=w.heap[pl.eC]?) (k:0 < pl.cap->¬ S' pl.eC):kY w' S' μ o pl c T :=
 { h with
  eC:=fun d=>(hb d).trans (h.eC d)
  out:=k
  rep:=fun i j x v hi e f=>(h.rep i j x v hi e f).qn g d
  mp:=fun l=>let ⟨m,n,p,q,r⟩:=h.mp l;⟨m,n,p,q,fun j x v e f=>(r j x v e f).qn g d⟩ }
theorem Good.WL {E:Env} {σ:gp} {S:Nat->Prop} {μ:Mu} {w:World} (g:Good E σ S μ w) {k:Nat} {o:Ob} {pl:Place} (b:aR σ k=some o) (hm:μ k=some pl) (d:0 < pl.cap) {l:Nat} {ob:Obj}
  (e:w.heap[l]?=some ob) (f:CP ob=true):pl.eC≠l:=by
 obtain ⟨oG,c,T,a,h⟩:=g.rep.ob k o b;rw [hm] at a;cases a;rintro rfl;rw [h.eC d] at e;grind [abD]
theorem Good.abE {E:Env} {σ:gp} {S:Nat->Prop} {μ:Mu} {w:World} (g:Good E σ S μ w) {k i:Nat} {x:Nat×Nat×(Nat->List AV)} {v:Value} {b:Nat} (d:lV w μ σ k i x v) (hb:ptrTo v b) {l:Nat} {ob:Obj}
  (a:w.heap[l]?=some ob) (e:CP ob=true):b≠l:=by
 obtain ⟨_,_,_,c,T,h⟩:=g.mx.eC d hb;rintro rfl;rw [h] at a;cases a;cases e
theorem Good.adU {E:Env} {σ:gp} {S:Nat->Prop} {μ:Mu} {w:World} (g:Good E σ S μ w) {l:Nat} {ob:Obj} (a:w.heap[l]?=some ob) (b:CP ob=true):¬ afk w σ μ l:=by
 rintro (⟨k,o,pl,c,hm,d,he⟩ | ⟨k,i,x,v,e,hb⟩)
 ·exact g.WL c hm d a b he
 ·exact g.abE e hb a b rfl
theorem MX.aux {fp e:Nat->Prop} {n0 f:Nat} {w w':World} {S S':Nat->Prop} {μ:Mu} {σ:gp} (h:MX fp n0 w S μ σ) (q:∀ b,S b->S' b) (n:∀ a,w'.cell? a=w.cell? a)
  (r:∀ k i x v b,lV w' μ σ k i x v->lV w μ σ k i x v->ptrTo v b->w'.heap[b]?=w.heap[b]?/\¬ S' b/\((fp b\/n0<=b)->(e b\/f<=b))):MX e f w' S' μ σ:=by
 have back:∀ {k i x v},lV w' μ σ k i x v->lV w μ σ k i x v:=fun ⟨o,pl,g,j,l,m⟩=>⟨o,pl,g,j,l,by rw [<- n];exact m⟩;refine ⟨fun k i x v d=>?_,fun k i x v b d=>h.obj k i x v b (back d),fun k i x v b k' i' x' v' d s=>h.two k i x v b k' i' x' v' (back d) (back s)⟩;obtain ⟨a,cap,rfl,g,j,l⟩:=h.row _ _ _ _ (back d);refine ⟨a,cap,rfl,g,j,fun p=>?_⟩;obtain ⟨b,c,T,rfl,m,t⟩:=l p;obtain ⟨u,p2,y⟩:=r _ _ _ _ b d (back d) ⟨_,_,rfl,p⟩;exact ⟨b,c,T,rfl,m.qn q n (fun _=>u) (fun _=>p2),y t⟩
theorem Good.put {E:Env} {σ:gp} {S:Nat->Prop} {μ:Mu} {w:World} (g:Good E σ S μ w) {l:Nat} {o o':Obj} (h:w.heap[l]?=some o) (a:CP o=true) (n:CP o'=true) (p:E.w0.heap.size<=l\/E.fp l) :
  Good E σ S μ (w.putObj l o'):=by
 have d:=Eh h a n;refine ⟨⟨g.fr.os,g.fr.tape,g.fr.output,by simpa using g.fr.size,fun b hb e=>?_⟩,g.S0,fun b hb=>by simpa using g.S1 b hb,g.S2,⟨fun k x f=>?_,g.rep.ne⟩,g.own,g.LO,
  g.mx.aux (fun _ h=>h) d fun k i x v b _ j hb=>⟨World.putObj_heap_other (g.abE j hb h a),(g.mx.eC j hb).2.1,fun h=>h⟩⟩
 ·have q:b≠l:=by rintro rfl;rcases p with h | h;omega;exact e h
  rw [World.putObj_heap_other q];exact g.fr.eC b hb e
 ·obtain ⟨pl,c,T,hm,m⟩:=g.rep.ob k x f;exact ⟨pl,c,T,hm,m.qn (fun _ h=>h) d (fun r=>World.putObj_heap_other (g.WL f hm r h a)) m.out⟩
theorem Good.aux {E:Env} {σ:gp} {S:Nat->Prop} {μ:Mu} {w:World} (g:Good E σ S μ w) (o:Obj) (n:CP o=true) :
  Ext w S μ (w.alloc o) (fun b=>S b\/b=w.heap.size) μ/\Good E σ (fun b=>S b\/b=w.heap.size) μ (w.alloc o):=by
 have a:∀ b,b < w.heap.size->(w.alloc o).heap[b]?=w.heap[b]?:=fun b hb=>jq hb;have j:(w.alloc o).heap[w.heap.size]?=some o:=World.alloc_heap_new w o;have e:Ext w S μ (w.alloc o) (fun b=>S b\/b=w.heap.size) μ:=⟨aD,fun _ h=>.inl h,fun b hb=>a b (g.S1 b hb),fun _ _ h=>h⟩;refine ⟨e,⟨g.fr.os,g.fr.tape,g.fr.output,by have:=g.fr.size;simp;omega,fun b hb l=>(a b (rH hb g.fr.size)).trans (g.fr.eC b hb l)⟩,fun b hb=>.inl (g.S0 b hb),?_,?_,⟨fun k x m=>?_,g.rep.ne⟩,g.own,g.LO,g.aa8 a (fun _ h=>.inl h) (fun b h=>h.elim .inl fun h=>.inr (Nat.le_of_eq h.symm))⟩
 ·rintro b (hb | rfl)
  ·have:=g.S1 b hb;simp;omega
  ·simp
 ·rintro b (hb | rfl)
  ·exact g.S2 b hb
  ·exact .inr g.fr.size
 ·obtain ⟨pl,c,T,hm,f⟩:=g.rep.ob k x m;have i:0 < pl.cap->pl.eC < w.heap.size:=fun d=>gK (f.eC d);refine ⟨pl,c,T,hm,f.ext e (fun d=>a _ (i d)) (fun d=>?_)⟩;rintro (h | h)
  ·exact f.out d h
  ·have:=i d;omega
def Ei (w:World) (S:Nat->Prop) (σ:gp) (μ:Mu) (m:Nat):Env:=⟨w,S,afk w σ μ,μ,m⟩
theorem Good.base {E:Env} {σ:gp} {S:Nat->Prop} {μ:Mu} {w:World} (g:Good E σ S μ w) (m:Nat):Good (Ei w S σ μ m) σ S μ w :=
 ⟨Fr.refl _ _,fun _ h=>h,g.S1,fun _ h=>.inl h,g.rep,fun k o pl c hm d=>.inl (.inl ⟨k,o,pl,c,hm,d,rfl⟩),fun _ _=>rfl,
  g.mx.aux (fun _ h=>h) (fun _=>rfl) fun k i x v b a _ hb=>⟨rfl,(g.mx.eC a hb).2.1,fun _=>.inl (.inr ⟨k,i,x,v,a,hb⟩)⟩⟩
theorem Good.apF {E:Env} {σ gV:gp} {S S':Nat->Prop} {μ gn:Mu} {w w':World} (g:Good E σ S μ w) {m:Nat} (hm:E.m0<=m) (a:Good (Ei w S σ μ m) gV S' gn w'):Good E gV S' gn w':=by
 have d:∀ b,afk w σ μ b->E.fp b\/E.w0.heap.size<=b:=by
  rintro b (⟨k,o,pl,e,hm,f,rfl⟩ | ⟨k,i,x,v,j,hb⟩)
  ·exact g.own k o pl e hm f
  ·exact (g.mx.eC j hb).2.2.1
 refine ⟨⟨a.fr.os.trans g.fr.os,a.fr.tape.trans g.fr.tape,a.fr.output.trans g.fr.output,gf g.fr.size a.fr.size,fun b hb l=>?_⟩,fun b hb=>a.S0 b (g.S0 b hb),a.S1,fun b hb=>?_,a.rep,fun k o pl e hm f=>?_,fun k n=>?_,
  a.mx.aux (fun _ h=>h) (fun _=>rfl) fun k i x v b j _ hb=>⟨rfl,(a.mx.eC j hb).2.1,fun h=>h.elim (d b) fun h=>.inr (gf g.fr.size h)⟩⟩
 ·refine (a.fr.eC b (rH hb g.fr.size) fun h=>?_).trans (g.fr.eC b hb l);rcases d b h with c | c
  ·exact l c
  ·omega
 ·rcases a.S2 b hb with c | c
  ·exact g.S2 b c
  ·exact .inr (gf g.fr.size c)
 ·rcases a.own k o pl e hm f with c | c
  ·exact d _ c
  ·exact .inr (gf g.fr.size c)
 ·rw [a.LO k (rH n hm)];exact g.LO k n
theorem Good.au8 {E:Env} {σ:gp} {S:Nat->Prop} {μ:Mu} {w:World} (g:Good E σ S μ w) {l:Nat} {o o':Obj} (h:w.heap[l]?=some o) (a:CP o=true) (n:CP o'=true) (m:Nat) :
  Good (Ei (w.putObj l o') S σ μ m) σ S μ (w.putObj l o'):=by
 have d:=Eh h a n;refine ⟨Fr.refl _ _,fun _ h=>h,fun b hb=>by simpa using g.S1 b hb,fun _ h=>.inl h,⟨fun k x e=>?_,g.rep.ne⟩,fun k o pl a hm d=>.inl (.inl ⟨k,o,pl,a,hm,d,rfl⟩),fun _ _=>rfl,
  g.mx.aux (fun _ h=>h) d fun k i x v b p f hb=>⟨World.putObj_heap_other (g.abE f hb h a),(g.mx.eC f hb).2.1,fun _=>.inl (.inr ⟨k,i,x,v,p,hb⟩)⟩⟩
 obtain ⟨pl,c,T,hm,j⟩:=g.rep.ob k x e;exact ⟨pl,c,T,hm,j.qn (fun _ h=>h) d (fun q=>World.putObj_heap_other (g.WL e hm q h a)) j.out⟩
def WI (P:Program) (E:Env) (nt:Nat) (c:Code) (st A4:St):Prop:=∀ (l:Nat) (tm:Array Value) (w:World),tm.size=nt->Rep E st tm w ->
 c.wpIn (FW (some l)) 0 P (fun e a w'=>e=.normal/\a.tmps.size=nt/\a.defers=[]/\Rep E A4 a.tmps w') ⟨tm,[]⟩ w
theorem WI.seq {P:Program} {E:Env} {nt:Nat} {x y:Code} {st b a:St} (f:WI P E nt x st b) (g:WI P E nt y b a):WI P E nt (.seq x y) st a:=by
 intro l tm w h i;refine wpIn_seq (wpIn_mono (f l tm w h i) ?_);rintro e ⟨t,ds⟩ w' ⟨rfl,c,d,j⟩;simp only at c d;subst d;exact g l t w' c j
theorem WI.block {P:Program} {E:Env} {nt:Nat} {id:Nat} {x:Code} {st b:St} (c:WI P E nt x st b):WI P E nt (.block id x) st b:=by
 intro l tm w d f;refine wpIn_block (wpIn_mono (c l tm w d f) ?_);rintro e a w' ⟨rfl,g,h,i⟩;exact ⟨rfl,g,h,i⟩
theorem WI.rw {P:Program} {E:Env} {nt m:Nat} {c:Code} {orcs:List (Nat×tw)} {F:List Nat} {j:List (Nat×Wd)} {iu:D2} {nk:Nat} {st A4:St} (f:ba E m) {ps:List Prop}
  (h:Kv P nt m c orcs F j iu nk st=some (ps,A4)) (d:(((F.isEmpty && zt orcs) || Nat.beq m 0) && noY orcs)=true) (k:bO ps):WI P E nt c st A4:=by
 intro l tm w n o;unfold Kv at h;split at h
 ·rename_i y s1 p;split at h
  ·rename_i i s2 q;simp only [bu,bk] at h;obtain ⟨rfl,rfl⟩:=h;obtain ⟨r,s⟩:=bO.app k;obtain ⟨d,t⟩:=CJ.1 d;have u:zt orcs=true\/∀ b,¬ E.fp b:=by
    rcases Bool.or_eq_true_iff.1 d with h | h
    ·simp_all
    ·exact .inr (f.fp (dp h))
   have g:F.isEmpty=true\/∀ b,¬ E.fp b:=by
    rcases Bool.or_eq_true_iff.1 d with h | h
    ·simp_all
    ·exact .inr (f.fp (dp h))
   refine wpIn_mono (HP (rd:=some l) (ds:=[]) u (Rm t) p r n o) ?_;rintro e a w' ⟨rfl,i,v,x⟩;refine ⟨rfl,i,v,Mb (by rw [f.m0];exact q) s g x⟩
  ·cases h
 ·cases h
def y5 (r:Loop) (vs:Array Value):Array Value:=(r.params.zip vs).foldl (fun tmps (t,a)=>tmps.setIfInBounds t a) r.tmps
theorem ah5 {P:Program} {E:Env} {l nt:Nat} {r:Loop} (hl:E.w0.heap[l]?=some (.loop r)) (PG:¬ E.fp l) (Hh:r.state=.ready) (hpd:r.pending=none) (hm:1<=E.m0) {as:List AV} {o o':Ob}
  (YT:o.pr=true) (au9:o'.pr=true) (QN:o'.sz≠0) (has:AV.qL as=true) (hps:r.params.size=as.length) {st0 Q st2:St} (h0:st0.r8=[(0,o)]) (hn0:st0.nk=1) (h2:st2.r8=[(0,o')])
  (mV:∀ (w:World) (S:Nat->Prop) (μ:Mu) (vs:Array Value),RL w S μ vs as->μ 0=E.μ0 0->(y5 r vs).size=nt/\∀ t,aE w S μ ((y5 r vs).getD t undef) (iz st0.tm t))
  (hA:∀ E',ba E' 1->WI P E' nt r.assign st0 Q) (hB:∀ E',ba E' 1->WI P E' nt r.body Q st2)
  (U:o.var=true:=by rfl) (zo:o'.var=true:=by rfl):YOK P E ⟨l,as,0,o,o'⟩:=by
 intro w S μ σ vs g H I;simp only at H I ⊢;have R:=I;have z:w.heap[l]?=some (.loop r):=(g.fr.eC l (gK hl) PG).trans hl;obtain ⟨pl,c0,T0,J,gk⟩:=g.rep.ob 0 o I;have hE0:μ 0=E.μ0 0:=g.LO 0 ad;refine ⟨r.fn,y5 r vs,r.assign,r.body,run_yield z (by rw [H.1,hps]),?_⟩;refine roundIn_of_wpIn trivial ?_;obtain ⟨f,ava⟩:∃ f:Mu,f=fun k=>if k=0 then μ 0 else none:=⟨_,rfl⟩
 have K:f 0=μ 0:=by rw [ava];rfl
 have Q3:∀ k,1<=k->f k=none:=fun k n=>by grind
 have gA0:Good (Ei w S [(0,o)] f 1) [(0,o)] S f w:=by
  refine ⟨Fr.refl _ _,fun _ h=>h,g.S1,fun _ h=>.inl h,⟨fun k x d=>?_,fun k k' x x' p p' jr d CK=>?_⟩,fun k o pl I hm m=>.inl (.inl ⟨k,o,pl,I,hm,m,rfl⟩),fun _ _=>rfl,MX.nil fun k x i d=>?_⟩
  rotate_right
  ·grind [aR,tA]
  ·simp only [aR] at d;split at d
   ·rename_i hb;cases d;rw [<- dp hb];exact ⟨pl,c0,T0,K.trans J,{ gk with rep:=fun i j x v hi d U=>by have:=gk.rep i j x v hi d U;rw [YT] at this ⊢;exact this }⟩
   ·cases d
  ·simp only [aR] at d CK;split at d
   ·rename_i hb;split at CK
    ·rename_i D5;exact absurd ((dp hb).symm.trans (dp D5)) jr
    ·cases CK
   ·cases d
 have avb:RL w S f vs as:=⟨H.1,fun j c v m U=>(H.2 j c v m U).pure (yu has m) f⟩;obtain ⟨w7,mV⟩:=mV w S f vs avb (K.trans hE0);have rA0:Rep (Ei w S [(0,o)] f 1) st0 (y5 r vs) w:=⟨S,f,by rw [h0];exact gA0,fun k n=>Q3 k (by rw [hn0] at n;exact n),by rw [hn0];exact aH _,mV⟩;have hEA:ba (Ei w S [(0,o)] f 1) 1:=⟨rfl,fun h=>absurd h ay⟩;refine wpIn_mono (hA _ hEA l _ w w7 rA0) ?_;rintro e ⟨tm1,ds1⟩ w1 ⟨rfl,q1,q2,S1,A,D,hk1,QM,ht1⟩;simp only at q1 q2 ht1;subst q2;have avc:l < w.heap.size:=gK z;have nfA:∀ b ob,w.heap[b]?=some ob->CP ob=true->¬ (Ei w S [(0,o)] f 1).fp b:=by
  exact fun b ob hb ha=>gA0.adU hb ha
 have L:w1.heap[l]?=some (.loop r):=(D.fr.eC l avc (nfA l _ z rfl)).trans z;show ∃ ayM,_/\_;refine ⟨_,run_beginRound L Hh,?_⟩;obtain ⟨q,s⟩:∃ q,q=w1.putObj l (.loop { r with state:=.busy }):=⟨_,rfl⟩;have g2:Good (Ei q S1 Q.r8 A 1) Q.r8 S1 A q:=by rw [s];exact D.au8 L rfl rfl 1
 have Ui:∀ a,q.cell? a=w1.cell? a:=by rw [s];exact Eh L rfl rfl
 have hs2:q.heap.size=w1.heap.size:=by rw [s];simp
 have Nb:∀ b,b≠l->q.heap[b]?=w1.heap[b]?:=fun b hb=>by rw [s];exact World.putObj_heap_other hb
 have V:q.heap[l]?=some (.loop { r with state:=.busy }):=by rw [s];exact World.putObj_heap_same (gK L)
 have I:q.os=w1.os/\q.tape=w1.tape/\q.output=w1.output:=by rw [s];exact ⟨rfl,rfl,rfl⟩
 rw [<- s];have rB:Rep (Ei q S1 Q.r8 A 1) Q tm1 q:=⟨S1,A,g2,hk1,QM,fun t=>(ht1 t).qn (fun _ h=>h) Ui⟩;refine wpIn_mono (hB _ ⟨rfl,fun h=>absurd h ay⟩ l _ q q1 rB) ?_;rintro e ⟨tm2,ds2⟩ M ⟨rfl,-,-,S2,μ2,F,-,-,-⟩;have nfB:∀ b ob,q.heap[b]?=some ob->CP ob=true->¬ (Ei q S1 Q.r8 A 1).fp b:=by
  exact fun b ob hb ha=>g2.adU hb ha
 have W:M.heap[l]?=some (.loop { r with state:=.busy }):=(F.fr.eC l (gK V) (nfB l _ V rfl)).trans V;refine ⟨_,_,run_endRound none W,rfl,fun b=>S b\/(S2 b/\w.heap.size<=b),?_⟩;obtain ⟨B,C⟩:∃ B,B=M.putObj l (.loop { { r with state:=.busy } with state:=if (none:Option Code).isNone=true then .ready else .done,pending:=none }):=⟨_,rfl⟩;rw [<- C];have hc4:∀ a,B.cell? a=M.cell? a:=by rw [C];exact Eh W rfl rfl
 have N:B.heap.size=M.heap.size:=by rw [C];simp
 have ho4:∀ b,b≠l->B.heap[b]?=M.heap[b]?:=fun b hb=>by rw [C];exact World.putObj_heap_other hb
 have hl4:B.heap[l]?=some (.loop r):=by
  rw [C,World.putObj_heap_same (gK W)];obtain ⟨G,X,a3,a4,a5,a6,a7,a8⟩:=r;simp only at Hh hpd;subst Hh hpd;rfl
 have Y:B.os=M.os/\B.tape=M.tape/\B.output=M.output:=by rw [C];exact ⟨rfl,rfl,rfl⟩
 have O:w.heap.size<=q.heap.size:=by rw [hs2];exact D.fr.size
 have ah6:q.heap.size<=M.heap.size:=F.fr.size
 -- what has not changed
 have Z:∀ b,(Ei w S [(0,o)] f 1).fp b->0 < pl.cap/\pl.eC=b:=by
  rintro b (⟨k,x,p,d,hm,m,hb⟩ | ⟨k,i,x,v,⟨o2,p,d,u,_⟩,_⟩)
  ·simp only [aR] at d;split at d
   ·rename_i hb0;rw [<- dp hb0,K,J] at hm;cases hm;exact ⟨m,hb⟩
   ·cases d
  ·simp only [aR] at d;split at d
   ·cases d;rw [tA U] at u;cases u
   ·cases d
 have same:∀ b,b < w.heap.size->¬ (0 < pl.cap/\pl.eC=b)->B.heap[b]?=w.heap[b]?:=by
  intro b hb hn
  by_cases e:b=l
  ·rw [e,hl4,z]
  ·rw [ho4 b e];refine (F.fr.eC b (rH hb O) ?_).trans ((Nb b e).trans (D.fr.eC b hb fun h=>hn (Z b h)));rintro (⟨k,x,p,d,hm,m,rfl⟩ | ⟨k,i,x,v,zo,D5⟩)
   ·rcases D.own k x p d hm m with h | h
    ·exact hn (Z _ h)
    ·have:p.eC < w.heap.size:=hb;have h:w.heap.size<=p.eC:=h;omega
   ·have Nk:lV w1 A Q.r8 k i x v:=by
     obtain ⟨o2,p,G,X,a3,a4⟩:=zo;exact ⟨o2,p,G,X,a3,by rw [<- Ui];exact a4⟩
    rcases (D.mx.eC Nk D5).2.2.1 with h | h
    ·exact hn (Z _ h)
    ·have h:w.heap.size<=b:=h;omega
 have hSS:∀ b,S2 b->S b\/(S2 b/\w.heap.size<=b):=by
  intro b hb;rcases F.S2 b hb with h | h
  ·rcases D.S2 b h with h | h
   ·exact .inl h
   ·exact .inr ⟨hb,h⟩
  ·exact .inr ⟨hb,gf O h⟩
 have nS:0 < pl.cap->¬ S pl.eC:=gk.out;have ext:Ext w S μ B (fun b=>S b\/(S2 b/\w.heap.size<=b)) μ:=by
  refine ⟨by rw [N];exact gf O ah6,fun _ h=>.inl h,fun b hb=>same b (g.S1 b hb) ?_,fun _ _ h=>h⟩;rintro ⟨m,rfl⟩;exact nS m hb
 have hmx:MX E.fp E.w0.heap.size B (fun b=>S b\/(S2 b/\w.heap.size<=b)) μ (sset σ 0 o'):=by
  refine g.mx.tr id (fun k i x v h=>?_) (fun _ _ _ _ _ _ _ _ _ _ h=>h) (fun _ h=>.inl h) (fun b hb=>ext.eC b hb) (fun k i x v b _ h hb=>?_) (fun k o2 p h1 h2 h3=>?_)
  ·obtain ⟨o2,p,G,X,a3,a4⟩:=h;rw [bP] at G
   by_cases n:0=k
   ·rw [if_pos n] at G;cases G;rw [tA zo] at X;cases X
   ·rw [if_neg n] at G;refine lV.D6 (w':=B) (gn:=μ) (gV:=σ) g.rep ⟨o2,p,G,X,a3,a4⟩ (fun o3 b1=>by rw [G] at b1;cases b1;exact ⟨o2,G,X⟩) (fun p h=>h) (fun o3 p3 b1 b2 b3=>?_);obtain ⟨p4,c4,T4,hm4,l6⟩:=g.rep.ob k o3 b1;have b2:μ k=some p3:=b2;rw [b2] at hm4;cases hm4;exact same _ (gK (l6.eC b3)) fun ⟨r7,he⟩=>g.rep.ne 0 k _ o3 pl p3 n R b1 J b2 r7 b3 he
  ·obtain ⟨q1,q2,q3,_⟩:=g.mx.eC h hb;refine ⟨same b q1 fun ⟨r7,he⟩=>g.mx.obj _ _ _ _ _ h hb 0 _ pl R J r7 he,?_,fun h=>h⟩;rintro (h1 | ⟨_,h1⟩)
   ·exact q2 h1
   ·omega
  ·rw [bP] at h1
   by_cases n:0=k
   ·subst n;exact .inl ⟨0,_,p,R,h2,h3,rfl⟩
   ·rw [if_neg n] at h1;exact .inl ⟨k,o2,p,h1,h2,h3,rfl⟩
 refine ⟨ext,⟨?_,fun b hb=>.inl (g.S0 b hb),?_,?_,⟨?_,?_⟩,?_,g.LO,hmx⟩⟩
 ·refine ⟨?_,?_,?_,?_,fun b hb hf=>?_⟩
  ·rw [Y.1,F.fr.os];show q.os=_;rw [I.1,D.fr.os];exact g.fr.os
  ·rw [Y.2.1,F.fr.tape];show q.tape=_;rw [I.2.1,D.fr.tape];exact g.fr.tape
  ·rw [Y.2.2,F.fr.output];show q.output=_;rw [I.2.2,D.fr.output];exact g.fr.output
  ·rw [N];exact gf g.fr.size (gf O ah6)
  ·refine (same b (rH hb g.fr.size) ?_).trans (g.fr.eC b hb hf);rintro ⟨m,rfl⟩;rcases g.own 0 _ pl R J m with h | h
   ·exact hf h
   ·omega
 ·rintro b (hb | ⟨hb,_⟩)
  ·have:=g.S1 b hb;rw [N];omega
  ·rw [N];exact F.S1 b hb
 ·rintro b (hb | ⟨_,hb⟩)
  ·exact g.S2 b hb
  ·exact .inr (gf g.fr.size hb)
 ·intro k x d;rw [bP] at d
  by_cases n:0=k
  ·rw [if_pos n] at d;cases d;subst n;obtain ⟨p,c,T,hm,u⟩:=F.rep.ob 0 o' (by rw [h2];rfl);have U4:μ2 0=μ 0:=(F.LO 0 (by show 0 < 1;omega)).trans ((D.LO 0 (by show 0 < 1;omega)).trans K);rw [U4,J] at hm;cases hm;refine ⟨pl,c,T,J,⟨u.sz,fun m=>?_,u.cap,u.len,fun m=>?_,u.Co,fun i j x v hi d U=>?_,fun hz=>absurd hz QN⟩⟩
   ·rw [ho4 _ (g.WL R J m z rfl)];exact u.eC m
   ·rintro (h | ⟨h,_⟩)
    ·exact nS m h
    ·exact u.out m h
   ·have:=u.rep i j x v hi d U;rw [au9] at this ⊢;exact this.qn hSS hc4
  ·rw [if_neg n] at d;obtain ⟨p,c,T,hm,u⟩:=g.rep.ob k x d;refine ⟨p,c,T,hm,u.ext ext (fun m=>same _ (gK (u.eC m)) ?_) (fun m=>?_)⟩
   ·rintro ⟨r7,he⟩;exact g.rep.ne 0 k _ x pl p n R d J hm r7 m he
   ·rintro (h | ⟨_,h⟩)
    ·exact u.out m h
    ·have:=gK (u.eC m);omega
 ·intro k k' x x' p p' jr d CK hm kZ m r7;have D6:∀ k x,aR (sset σ 0 o') k=some x->∃ y,aR σ k=some y:=by
   intro k x d;rw [bP] at d
   by_cases n:0=k
   ·subst n;exact ⟨_,R⟩
   ·rw [if_neg n] at d;exact ⟨x,d⟩
  obtain ⟨y,hy⟩:=D6 k x d;obtain ⟨y',hy'⟩:=D6 k' x' CK;exact g.rep.ne k k' y y' p p' jr hy hy' hm kZ m r7
 ·intro k x p d hm m;rw [bP] at d
  by_cases n:0=k
  ·subst n;exact g.own 0 _ p R hm m
  ·rw [if_neg n] at d;exact g.own k x p d hm m
abbrev abH (D:Nat):Deferred:={ target:=.collected D,args:=#[] }
def jM (P:Program) (E:Env) (D:Nat) (fn:FuncId) (nt:Nat) (eX:Value->World->Prop) (k:List Item) (st:St):Prop :=
 ∀ (tm:Array Value) (w:World),tm.size=nt->Rep E st tm w->∀ (b:Frame),b.fn=fn->b.kind=.normal->∀ cs,
  ∃ v w' fr,eX v w'/\Steps P (lone (b.at ⟨tm,[abH D]⟩ k) cs w) (lone fr cs w')/\fr.fn=fn/\fr.leaving P w' (.returned v)
section
variable {P:Program} {E E9:Env} {D:Nat} {fn:FuncId} {nt:Nat} {eX:Value->World->Prop} {k k':List Item} {st A4:St}
theorem jM.step (h:jM P E D fn nt eX k' st) (c:∀ (b:Frame) (a:Act) (cs:List Frame) (w:World),step P (lone (b.at a k) cs w)=.next (lone (b.at a k') cs w)):jM P E D fn nt eX k st:=by
 intro tm w d e b f g cs;obtain ⟨v,w',fr,i,j,l,m⟩:=h tm w d e b f g cs;exact ⟨v,w',fr,i,.head (c b ⟨tm,[abH D]⟩ cs w) j,l,m⟩
theorem jM.seq {x y:Code} (h:jM P E D fn nt eX (.code x :: .code y :: k) st):jM P E D fn nt eX (.code (.seq x y) :: k) st:=h.step fun _ _ _ _=>step_seq
theorem jM.inBlock {id:Nat} (h:jM P E D fn nt eX k st):jM P E D fn nt eX (.inBlock id :: k) st:=h.step fun _ _ _ _=>step_inBlock
theorem jM.rw {m:Nat} {c:Code} {orcs:List (Nat×tw)} {F:List Nat} {p:List (Nat×Wd)} {iu:D2} {nk:Nat} (d:ba E m) {ps:List Prop}
  (h:Kv P nt m c orcs F p iu nk st=some (ps,A4)) (a:(((F.isEmpty && zt orcs) || Nat.beq m 0) && noY orcs)=true) (q:bO ps) (r:jM P E D fn nt eX k A4):jM P E D fn nt eX (.code c :: k) st:=by
 unfold Kv at h;split at h
 ·rename_i N s1 s;split at h
  ·rename_i l s2 t;simp only [bu,bk] at h;obtain ⟨rfl,rfl⟩:=h;obtain ⟨u,x⟩:=bO.app q;obtain ⟨a,y⟩:=CJ.1 a;have z:zt orcs=true\/∀ b,¬ E.fp b:=by
    rcases Bool.or_eq_true_iff.1 a with h | h
    ·simp_all
    ·exact .inr (d.fp (dp h))
   have f:F.isEmpty=true\/∀ b,¬ E.fp b:=by
    rcases Bool.or_eq_true_iff.1 a with h | h
    ·simp_all
    ·exact .inr (d.fp (dp h))
   intro tm w A B b C G cs;have g:=(wpIn_wide (n:=0)).1 (HP (rd:=none) (ds:=[abH D]) z (Rm y) s u A B);obtain ⟨e,a',w',⟨rfl,l,o,H⟩,i⟩:=g b k cs;have I:a'=⟨a'.tmps,[abH D]⟩:=by cases a';simp at o;simp [o]
   obtain ⟨v,j,fr,J,K,L,M⟩:=r a'.tmps w' l (Mb (by rw [d.m0];exact t) x f H) b C G cs;refine ⟨v,j,fr,J,Steps.trans i ?_,L,M⟩;rw [I];exact K
  ·cases h
 ·cases h
theorem jM.ret {c:Code} (l:∀ σ S μ w,Good E9 σ S μ w->Good E σ S μ w) (d:E.m0<=E9.m0) (i:E9.w0.heap[D]?=some (.deferred (some []))) (m:¬ E9.fp D) (e:E.w0.heap.size<=D) (ks:List Nat) (n:c=.ret)
  {f:Func} (o:P.funcs[fn]?=some f) {ps:List Prop} {res:AV} {gV:gp} (h:Ef P f st=some (ps,res)) (p:HQ st.r8 ks=gV) (q:bO ps):jM P E9 D fn nt (bd E gV res) (.code c :: k) st:=by
 subst n p;intro tm w B r b j s cs;obtain ⟨S,μ,g,u,hm,x⟩:=r;have a:w.heap[D]?=some (.deferred (some [])):=(g.fr.eC D (gK i) m).trans i;have y:Rep E st tm (w.putObj D (.deferred none)):=⟨S,μ,(l _ _ _ _ g).put a rfl rfl (.inl e),u,gf d hm,fun t=>(x t).qn (fun _ h=>h) (Eh a rfl rfl)⟩;obtain ⟨v,z,A⟩:=Kt o h q y j s (.code .ret :: k);refine ⟨v,_,_,z.amF ks,.head step_ret (.one (step_collected (fr:={ b.at ⟨tm,[abH D]⟩ (.code .ret :: k) with mode:=.returning }) aD rfl rfl (run_takeDeferred a))),?_,A⟩;exact j
theorem Uv {f:FuncId} {fu:Func} {c:Code} {m:Nat} {a:List AV} {σ gV:gp} {res:AV} (p:P.funcs[f]?=some fu) (hb:fu.body=some c) (q:fu.ntmps=nt) (r:Nat.ble a.length nt=true)
  {w:World} {S:Nat->Prop} {μ:Mu} {vs:Array Value} (h:aK P (BD w S σ μ m) f nt (bd (BD w S σ μ m) gV res) [.code c] ⟨Ag a 0,σ,m⟩) (g:Good (BD w S σ μ m) σ S μ w) (s:∀ k,m<=k->μ k=none) (l:RL w S μ vs a) :
  Calls P f vs w fun e w'=>∃ v S' gn,e=.returned v/\Good (BD w S σ μ m) gV S' gn w'/\aE w' S' gn v res:=by
 simp only [Nat.ble_eq] at r;intro cs
 let b:Frame:={ (default:Frame) with fn:=f,kind:=.normal }
 have d:Frame.enter P f vs .normal=b.at ⟨vs ++ Array.replicate (nt - vs.size) undef,[]⟩ [.code c]:=by
  simp [Frame.enter,Frame.at,p,hb,q,b]
 have u:=l.1;obtain ⟨v,w',fr,y,n,z,A⟩:=h (vs ++ Array.replicate (nt - vs.size) undef) w (by simp;omega) ⟨S,μ,g,s,aH _,fun t=>by
  show aE w S μ _ (iz (Ag a 0) t);rw [Ku,if_pos (Nat.zero_le _),Nat.sub_zero];cases o:a[t]? with
  | none=>exact .qm
  | some x =>
   have i:t < vs.size:=by rw [u];exact (gW.1 o).1
   have j:(vs ++ Array.replicate (nt - vs.size) undef).getD t undef=vs[t]:=by
    simp [Aa,Array.getElem?_append_left i,i]
   rw [j];exact l.2 t x _ o (mT i)⟩ b rfl rfl cs
 rw [<- d] at n;obtain ⟨S',gn,B,j⟩:=y;exact ⟨.returned v,w',fr,⟨v,S',gn,rfl,B,j⟩,n,z,A⟩
theorem aK.range {m m1 m9 nt1:Nat} (hE:ba E m) {n:Operand} {ps:Array Tmp} {assign body c1:Code} {orc:tw} {avs:Nat->List AV} {zr gV:gp} {res x:AV} {gid:FuncId} {fu:Func} {rds:List Nat} {upd:Ae}
  (I:orc.GP=false) (J:orc.ks.length=m1) (hf:P.funcs[gid]?=some fu) (hb:fu.body=some c1) (hn:fu.ntmps=nt1) (K:∀ l,Nat.ble (avs l).length nt1=true)
  (L:∀ l,L4 P (fun g a s _ r M=>g=gid/\a=avs l/\s=zr/\r=res/\M=gV) st.nk st.r8 (GU st.tm n) [.atom (.func (.yield l) #[] #[])] orc=some ⟨[gid=gid/\avs l=avs l/\zr=zr/\res=res/\gV=gV],x,rds,upd⟩)
  (N:∀ (u:Env) (l:Nat) (r:Loop),u.m0=m1->u.w0.heap[l]?=some (.loop r)->¬ u.fp l->r.state=.ready->r.pending=none->r.params=ps->r.assign=assign->r.body=body->r.tmps.size=nt ->
   (∀ t,aE u.w0 u.S0 u.μ0 (r.tmps.getD t undef) ((iz st.tm t).oK (idx orc.ks)))->aK P u gid nt1 (bd u gV res) [.code c1] ⟨Ag (avs l) 0,zr,m1⟩)
  (A:m<=m9) (h9:m9≠0) (O:m9<=st.nk+16)
  (Q:∀ (E9:Env) (D:Nat),ba E9 m9->(∀ σ S μ w,Good E9 σ S μ w->Good E σ S μ w)->E.m0<=E9.m0->E9.w0.heap[D]?=some (.deferred (some []))->¬ E9.fp D->E.w0.heap.size<=D->jM P E9 D fn nt eX k ⟨st.tm,js st.r8 upd,st.nk+16⟩) :
  aK P E fn nt eX (.code (.rangeFunc n ps assign body) :: k) st:=by
 intro tm w hs hr b z7 vA cs;obtain ⟨S,μ,g,hk,hm,ht⟩:=hr;obtain ⟨e1,g1⟩:=g.aux (.deferred (some [])) rfl;obtain ⟨e2,g2⟩:=g1.aux (.loop { state:=.ready,pending:=none,fn:=b.fn,tmps:=tm,params:=ps,assign,body,defers:=w.heap.size }) rfl;obtain ⟨W,H⟩:∃ W,W=(w.alloc (.deferred (some []))).alloc (.loop { state:=.ready,pending:=none,fn:=b.fn,tmps:=tm,params:=ps,assign,body,defers:=w.heap.size }):=⟨_,rfl⟩;rw [<- H] at e2 g2;have R:(Instr.enterLoop b.fn tm ps assign body none).run P w=.ok (w.heap.size+1,[abH w.heap.size]) W:=by rw [H];exact run_enterLoop_outer _ _ _ _ _
 have T:W.heap[w.heap.size+1]?=some (.loop { state:=.ready,pending:=none,fn:=b.fn,tmps:=tm,params:=ps,assign,body,defers:=w.heap.size }):=by
  rw [H];have:=World.alloc_heap_new (w.alloc (.deferred (some []))) (.loop { state:=.ready,pending:=none,fn:=b.fn,tmps:=tm,params:=ps,assign,body,defers:=w.heap.size });rwa [World.size_alloc] at this
 have U:W.heap[w.heap.size]?=some (.deferred (some [])):=by
  rw [H];exact (jq aD).trans (World.alloc_heap_new w _)
 have B:∀ b,b=w.heap.size\/b=w.heap.size+1->(S b\/b=w.heap.size)\/b=(w.alloc (.deferred (some []))).heap.size:=by
  rintro b (rfl | rfl)
  ·exact .inl (.inr rfl)
  ·exact .inr aD
 have y:∀ t,aE W (fun b=>(S b\/b=w.heap.size)\/b=(w.alloc (.deferred (some []))).heap.size) μ (tm.getD t undef) (iz st.tm t):=fun t=>((ht t).ext e1).ext e2;have V:=Jp (a:=⟨tm,[]⟩) y n;have X:=L (w.heap.size+1);have Y:bO [gid=gid/\avs (w.heap.size+1)=avs (w.heap.size+1)/\zr=zr/\res=res/\gV=gV]:=⟨⟨rfl,rfl,rfl,rfl,rfl⟩,trivial⟩;obtain ⟨Z,vs,i,apJ⟩:=Ph (ob:=fun g a s _ r M=>g=gid/\a=avs (w.heap.size+1)/\s=zr/\r=res/\M=gV) g2 (fun j _=>hk _ ad) hm V
  (vargs:=#[.func (.yield (w.heap.size+1)) #[] #[]]) (by
   refine ⟨rfl,fun j c v hc hv=>?_⟩;cases j with
   | zero=>simp at hc hv;subst hc hv;exact .atom _
   | succ j=>simp at hc)
  (fun h=>by rw [I] at h;cases h) (by
   rintro Z as' bs ayT ayU ayV vs ⟨rfl,rfl,rfl,rfl,rfl⟩ g0 C Cu;rw [J] at g0 C ⊢;refine Uv hf hb hn (K _) (N _ (w.heap.size+1) _ rfl T ?_ rfl rfl rfl rfl rfl hs fun t=>?_) g0 C Cu
   ·exact g0.adU T rfl
   ·exact ((y t).oK (f:=idx orc.ks) (gn:=pz μ orc.ks) (fun a b pl K hb=>HI a b pl K hb)).mono (fun _ h=>.inl h) (fun _ _=>rfl) (fun _ _ h=>h)) X Y
 obtain ⟨e,w2,fr,⟨v,S2,p,rfl,ex,g3,U4,hv⟩,apK,hfn,apL⟩:=apJ (({ b with roundOf:=none }:Frame).atR { tmps:=tm,defers:=[abH w.heap.size] } (.inRangeFunc (w.heap.size+1) :: k) :: cs);have z:w2.heap[w.heap.size+1]?=some (.loop { state:=.ready,pending:=none,fn:=b.fn,tmps:=tm,params:=ps,assign,body,defers:=w.heap.size }):=(ex.eC _ (B _ (.inr rfl))).trans T;have hD2:w2.heap[w.heap.size]?=some (.deferred (some [])):=(ex.eC _ (B _ (.inl rfl))).trans U;obtain ⟨o,q⟩:∃ o,o=w2.putObj (w.heap.size+1) (.loop { state:=.exhausted,pending:=none,fn:=b.fn,tmps:=tm,params:=ps,assign,body,defers:=w.heap.size }):=⟨_,rfl⟩;have avl:(Instr.endLoop (w.heap.size+1)).run P w2=.ok none o:=by rw [q];exact run_endLoop z aD
 have hc3:∀ a,o.cell? a=w2.cell? a:=by rw [q];exact Eh z rfl rfl
 have g4:Good E (js st.r8 upd) S2 p o:=by rw [q];exact g3.put z rfl rfl (.inl (by have:=g.fr.size;omega))
 have F:o.heap[w.heap.size]?=some (.deferred (some [])):=by rw [q,World.putObj_heap_other ad];exact hD2
 have r9:Rep (Ei o S2 (js st.r8 upd) p m9) ⟨st.tm,js st.r8 upd,st.nk+16⟩ tm o :=
  ⟨S2,p,g4.base m9,fun k uD=>U4 k (.inr uD) (hk k (by have:st.nk+16<=k:=uD;omega)),O,fun t=>((y t).ext ex).qn (fun _ h=>h) hc3⟩
 obtain ⟨v',w',fr',q1,q2,q3,q4⟩:=Q (Ei o S2 (js st.r8 upd) p m9) w.heap.size ⟨rfl,fun h=>absurd h h9⟩ (fun σ S μ w h=>g4.apF (by rw [hE.m0];exact A) h) (by rw [hE.m0];exact A) F
  (g4.adU F rfl) g.fr.size tm o hs r9 b z7 vA cs
 refine ⟨v',w',fr',q1,?_,q3,q4⟩;have G:∀ (a:Act) (k:List Item),b.at a k=({ b with roundOf:=none }:Frame).atR a k:=fun a k=>by simp [Frame.at,Frame.atR]
 simp only [dk] at i;cases hd:(Deferred.ofValue ((⟨tm,[]⟩:Act).eval n) #[.func (.yield (w.heap.size+1)) #[] #[]]).run P W with
 | halt x w'=>rw [hd] at i;cases i
 | ok d wd =>
  rw [hd] at i;rw [G];refine .head (stepR_rangeFunc (b:={ b with roundOf:=none }) (a:=⟨tm,[]⟩) R (show (resolve (⟨tm,[]⟩:Act).eval (rangeCall n (w.heap.size+1)) 0).run P W=.ok d wd by rw [<- hd];simp [resolve,Act.eval]) i) ?_;refine Steps.trans apK (.head (step_leave_returned apL) ?_);rw [finish_atR_inRangeFunc];refine .head (stepR_endRangeFunc avl) ?_;rw [G] at q2;exact q2
end
def rfA:Code->Code
 | .rangeFunc _ _ a _=>a
 | c=>c
def rfB:Code->Code
 | .rangeFunc _ _ _ b=>b
 | c=>c
section
variable {P:Program} {E E9:Env} {D:Nat} {fn:FuncId} {nt m:Nat} {eX:Value->World->Prop} {k k':List Item} {st A4:St}
theorem jM.WH (h:WH k=some k') (a:jM P E D fn nt eX k' st):jM P E D fn nt eX k st:=by
 unfold Ab.WH at h;split at h
 ·cases h;exact a.seq
 ·cases h;exact a.step fun _ _ _ _=>step_block
 ·cases h;exact a.step fun _ _ _ _=>step_loop
 ·cases h;exact a.step fun _ _ _ _=>step_inLoop
 ·cases h;exact a.inBlock
 ·cases h;exact a.step fun _ _ _ _=>step_lone_go (by rfl)
 ·cases h;exact a.step fun _ _ _ _=>step_lone_go (by rfl)
 ·cases h;exact a.step fun _ _ _ _=>step_skip
 ·cases h;exact a.step fun _ _ _ _=>step_label
 ·exact a.step fun _ _ _ _=>step_exit h
 ·cases h
theorem jM.NC:∀ (n:Nat) {k:List Item},NC n k=some k'->jM P E D fn nt eX k' st->jM P E D fn nt eX k st
 | 0,k,h,a=>by simp only [Ab.NC,bu] at h;rw [h];exact a
 | n+1,k,h,a=>by
  simp only [Ab.NC] at h;split at h
  ·rename_i c b;exact jM.WH b (jM.NC n h a)
  ·cases h
theorem jM.sA (n:Nat) (k':List Item) (a:jM P E D fn nt eX k' st) (h:Ab.NC n k=some k':=by kernel_rfl):jM P E D fn nt eX k st:=jM.NC n h a
theorem jM.sR (a:ba E m) (A4:St) (c:Code) (orcs:List (Nat×tw)) (F:List Nat) (b:List (Nat×Wd)) (iu:D2) (nk:Nat) (ps:List Prop) (d:bO ps) (e:jM P E D fn nt eX k A4)
  (h:Kv P nt m c orcs F b iu nk st=some (ps,A4):=by kernel_rfl) (f:(((F.isEmpty && zt orcs) || Nat.beq m 0) && noY orcs)=true:=by rfl):jM P E D fn nt eX (.code c :: k) st:=jM.rw a h f d e
theorem jM.sW (b:ba E m) (A4:St) (F:List Nat) (c:List (Nat×Wd)) (iu:D2) (nk:Nat) (ps:List Prop) (d:bO ps) (e:jM P E D fn nt eX k A4)
  (h:Kr m st F c iu nk=some (ps,A4):=by kernel_rfl) (f:(F.isEmpty || Nat.beq m 0)=true:=by rfl):jM P E D fn nt eX k st:=by
 have h':Kr E.m0 st F c iu nk=some (ps,A4):=by rw [b.m0];exact h
 refine fun tm w g i=>e tm w g (Mb h' d ?_ i);rcases Bool.or_eq_true_iff.1 f with a | a
 ·exact .inl a
 ·exact .inr (b.fp (dp a))
theorem jM.sT {c:Code} (d:∀ σ S μ w,Good E9 σ S μ w->Good E σ S μ w) (a:E.m0<=E9.m0) (e:E9.w0.heap[D]?=some (.deferred (some []))) (g:¬ E9.fp D) (b:E.w0.heap.size<=D)
  (f:Func) (ks:List Nat) (ps:List Prop) {res:AV} {gV:gp} (i:bO ps) (j:c=.ret:=by kernel_rfl) (l:P.funcs[fn]?=some f:=by kernel_rfl) (h:Ef P f st=some (ps,res):=by kernel_rfl)
  (m:HQ st.r8 ks=gV:=by rfl):jM P E9 D fn nt (bd E gV res) (.code c :: k) st:=jM.ret d a e g b ks j l h m i
theorem WI.sR (a:ba E m) (st A4:St) (c:Code) (orcs:List (Nat×tw)) (F:List Nat) (b:List (Nat×Wd)) (iu:D2) (nk:Nat) (ps:List Prop) (d:bO ps)
  (h:Kv P nt m c orcs F b iu nk st=some (ps,A4):=by kernel_rfl) (e:(((F.isEmpty && zt orcs) || Nat.beq m 0) && noY orcs)=true:=by rfl):WI P E nt c st A4:=WI.rw a h e d
theorem WI.sS {c:Code} (x y:Code) {b a:St} (d:WI P E nt x st b) (e:WI P E nt y b a) (f:c=.seq x y:=by kernel_rfl):WI P E nt c st a:=by subst f;exact d.seq e
theorem WI.sB {c:Code} (id:Nat) (x:Code) {a:St} (b:WI P E nt x st a) (d:c=.block id x:=by kernel_rfl):WI P E nt c st a:=by subst d;exact b.block
end
theorem WM (r:Loop) (vs:Array Value):(y5 r vs).size=r.tmps.size:=by
 unfold y5;rw [<- Array.foldl_toList];generalize (r.params.zip vs).toList=l;generalize r.tmps=t
 induction l generalizing t with
 | nil=>rfl
 | cons x l a=>simp_all
theorem VA {r:Loop} {nt s p q:Nat} (g:r.params=#[p,q]) (z:r.tmps.size=nt) (A:s≠p) (B:s≠q) (C:p≠q) (G:p < nt) (hq:q < nt) {f:Env} {x y:AV} (m:aE f.w0 f.S0 f.μ0 (r.tmps.getD s undef) (.op 0 0 0))
  {w:World} {S:Nat->Prop} {μ:Mu} {vs:Array Value} (k:RL w S μ vs [x,y]) (D:μ 0=f.μ0 0) :
  (y5 r vs).size=nt/\∀ t,aE w S μ ((y5 r vs).getD t undef) (iz [(s,.op 0 0 0),(p,x),(q,y)] t):=by
 refine ⟨(WM r vs).trans z,fun t=>?_⟩;obtain ⟨E,n⟩:=k;obtain ⟨a,b,rfl⟩:∃ a b,vs=#[a,b]:=by
  obtain ⟨l⟩:=vs
  match l,E with
  | [a,b],_=>exact ⟨a,b,rfl⟩
 have F:=n 0 x a rfl rfl;have rb:=n 1 y b rfl rfl;have e:y5 r #[a,b]=(r.tmps.setIfInBounds p a).setIfInBounds q b:=by simp [y5,g]
 rw [e];have o:∀ (T:Array Value) (i j:Nat) (v:Value),i < T.size->(T.setIfInBounds i v).getD j undef=if i=j then v else T.getD j undef:=by
  intro T i j v hi;simp only [Aa,Array.getElem?_setIfInBounds];split
  ·rfl
  ·rfl
 rw [o _ _ _ _ (by simp;omega),o _ _ _ _ ad];simp only [iz]
 by_cases u:s=t
 ·subst u;rw [xc rfl,if_neg (fun h=>B h.symm),if_neg (fun h=>A h.symm)];generalize r.tmps.getD s undef=v at m;cases m with
  | op pl h=>exact .op pl (D.trans h)
 ·rw [tz u]
  by_cases c:p=t
  ·subst c;rw [xc rfl,if_neg (fun h=>C h.symm),if_pos rfl];exact F
  ·rw [tz c]
   by_cases d:q=t
   ·subst d;rw [xc rfl,if_pos rfl];exact rb
   ·rw [tz d];exact .qm
end Go.Ab
