/- Abstract values over the heap of the machine, and functions read off its code (part 4). No conditions. -/
import Derived.Test.YtdigjibahkjfdaaGreatCc
import Derived.ProofKit
import Derived.Deep.Slices
import Derived.OpenShut
import Derived.ChangeOld
import Derived.SizedLaws
import Derived.RangeFuncLeaves
set_option linter.unusedVariables false
set_option linter.unusedSimpArgs false
namespace Go.Ab
section
variable {P:Program} {E:Env} {m0 nk:Nat} {F:List Nat} {eN:xZ}
theorem De {σ:du} {f:Nat→Option Nat}:∀ (l:xZ) (ps:List Prop) (τ:du),K9 σ F f eN l=some (ps,τ)→aW ps→∀ k o,au τ k=some o →
  ∃ d p,(k,d)∈l∧w9 σ F f eN d=some (p,o)∧aW p
 | [],ps,τ,h,_,k,o,hk=>by simp [K9] at h;obtain ⟨_,rfl⟩:=h;simp [au] at hk
 | (k',d) :: r,ps,τ,h,hp,k,o,hk=>by
  simp only [K9] at h
  split at h
  ·rename_i p o' q l e1 e2
   simp only [az,ay] at h
   obtain ⟨rfl,rfl⟩:=h
   obtain ⟨ug,vE⟩:=aW.app hp
   simp only [au] at hk
   split at hk
   ·rename_i hb
    cases hk
    rw [← bm hb]
    exact ⟨d,p,by simp,e1,ug⟩
   ·obtain ⟨d',p',h1,h2,h3⟩:=De r q l e2 vE k o hk
    exact ⟨d',p',List.mem_cons_of_mem _ h1,h2,h3⟩
  ·cases h
theorem IL {σ:du} {f:Nat→Option Nat} {tm:List (Nat×AV)} {R:Value→AV→Prop} {fr:Array Value} (ZL:∀ v,R v .mV)
  (hv:∀ d t ps y,FY σ F f eN d (cJ tm t)=some (ps,y)→aW ps→R (fr.getD t undef) y):∀ (l:List (Nat×Wd)) (ps:List Prop) (MM:List (Nat×AV)),
  K8 σ F f eN tm l=some (ps,MM)→aW ps→∀ t,R (fr.getD t undef) (cJ MM t)
 | [],ps,MM,h,_,t=>by simp [K8] at h;obtain ⟨_,rfl⟩:=h;exact ZL _
 | (t',d) :: r,ps,MM,h,hp,t=>by
  simp only [K8] at h
  split at h
  ·rename_i p x q l e1 e2
   simp only [az,ay] at h
   obtain ⟨rfl,rfl⟩:=h
   obtain ⟨ug,vE⟩:=aW.app hp
   simp only [cJ]
   split
   ·rename_i hb
    rw [← bm hb]
    exact hv d t' p x e1 ug
   ·exact IL ZL hv r q l e2 vE t
  ·cases h
theorem RN {k0:Nat}:∀ (l:xZ) (a b:Nat) (x y:Od),mH (l.filterMap (·.2.vB))=true→(a,x)∈l→(b,y)∈l→x.vB=some k0→y.vB=some k0→a=b:=by
 intro l
 induction l with
 | nil=>intro a b x y _ h;simp at h
 | cons z l ih =>
  intro a b x y hn ha hb hx hy
  have none:∀ c u,(c,u)∈l→u.vB=some k0→idx (l.filterMap (·.2.vB)) k0=none→False:=by
   intro c u hc hu hi
   have mn:k0∈l.filterMap (·.2.vB):=List.mem_filterMap.2 ⟨(c,u),hc,hu⟩
   obtain ⟨i,oY⟩:=List.getElem?_of_mem mn
   exact md _ _ hi i oY
  rcases jw.1 ha with UB | UB
  ·rcases jw.1 hb with nM | nM
   ·rw [← UB] at nM;cases nM;rfl
   ·rw [← UB] at hn
    simp only [List.filterMap_cons,hx,mH,aV,Option.isNone_iff_eq_none] at hn
    exact (none b y nM hy hn.1).elim
  ·rcases jw.1 hb with nM | nM
   ·rw [← nM] at hn
    simp only [List.filterMap_cons,hy,mH,aV,Option.isNone_iff_eq_none] at hn
    exact (none a x UB hx hn.1).elim
   ·refine ih a b x y ?_ UB nM hx hy
    simp only [List.filterMap_cons] at hn
    split at hn
    ·exact hn
    ·simp only [mH,aV] at hn;exact hn.2
theorem XA:∀ {as:List AV} {sz n:Nat} {g:Nat→List AV},Ks as [.mr sz n g]→as=[.mr sz n g]
 | [],_,_,_,h=>h.elim
 | a :: [],_,_,_,h=>by
  rcases h.1 with h1 | ⟨_,f,h1⟩
  ·rw [h1]
  ·cases h1
 | _ :: _ :: _,_,_,_,h=>h.2.elim
theorem RO {σ:du} {f:Nat→Option Nat} {d:Od} {p:List Prop} {o:Ob} (h:w9 σ F f eN d=some (p,o)) (hp:aW p) {i:Nat} {x:Nat×Nat×(Nat→List AV)} (hr:rowOf o i=some x) :
  ∃ k0 o0,d.vB=some k0∧au σ k0=some o0∧rowOf o0 i=some x:=by
 obtain ⟨r1,r2,r3⟩:=dk hr
 cases d with
 | ai k0 =>
  simp only [w9,aJ,ay] at h
  obtain ⟨o0,pk,_,rfl⟩:=h
  exact ⟨k0,o0,rfl,pk,(qB _ _ _ _).1 hr⟩
 | arr k0 n gt =>
  simp only [w9] at h
  split at h
  ·rename_i o0 pk
   split at h
   ·simp only [az,ay] at h
    obtain ⟨rfl,rfl⟩:=h
    obtain ⟨p1,p2,_⟩:=hp
    exact ⟨k0,o0,rfl,pk,kM r1 (by rw [p1];exact r2) (by rw [← p2 i r2];exact r3)⟩
   ·cases h
  ·cases h
 | RJ k0 n gt =>
  simp only [w9] at h
  split at h
  ·rename_i o0 pk
   split at h
   ·simp only [az,ay] at h
    obtain ⟨rfl,rfl⟩:=h
    obtain ⟨p1,p2,_⟩:=hp
    have:=p2 i r2
    have r3:gt i=[.mr x.1 x.2.1 x.2.2]:=r3
    rw [r3] at this
    exact ⟨k0,o0,rfl,pk,kM r1 (lX r2 p1) (XA this)⟩
   ·cases h
  ·cases h
 | po k0 n l b =>
  simp only [w9] at h
  split at h
  ·rename_i o0 l' pk hl'
   split at h
   ·rename_i hb
    simp only [az,ay] at h
    obtain ⟨rfl,rfl⟩:=h
    obtain ⟨p1,p2,p3,_⟩:=hp
    simp only [aV,Bool.not_eq_true'] at hb
    have r3:bk l' b i=[.mr x.1 x.2.1 x.2.2]:=r3
    rw [← FX (p3 i r2) hl',p2 i r2] at r3
    exact ⟨k0,o0,rfl,pk,kM hb.1 (by rw [p1];exact r2) (QY r3)⟩
   ·cases h
  ·cases h
 | Wu gt =>
  simp only [w9,az,ay] at h
  obtain ⟨_,rfl⟩:=h
  exact absurd r2 (dP _)
 | mp k0 cs =>
  simp only [w9] at h
  split at h
  ·rename_i o0 pk
   split at h
   ·rename_i hb
    simp only [az,ay] at h
    obtain ⟨rfl,rfl⟩:=h
    simp only [aV] at hb
    have:=bm hb.2
    exact absurd r2 (by show ¬ i < o0.len;omega)
   ·cases h
  ·cases h
 | var k0 ds =>
  simp only [w9] at h
  split at h
  ·split at h
   ·simp only [az,ay] at h
    obtain ⟨rfl,rfl⟩:=h
    cases r1
   ·cases h
  ·cases h
 | nil sz gt =>
  simp only [w9] at h
  split at h
  ·simp only [az,ay] at h
   obtain ⟨_,rfl⟩:=h
   exact absurd r2 (dP _)
  ·cases h
theorem BL {st uh:St} {rV:List (Nat×Wd)} {ps:List Prop} (h:Dd E.m0 st F rV eN nk=some (ps,uh)) (hp:aW ps) (hF:F.isEmpty=true∨∀ b,¬ E.fp b) {fr:Array Value} {w:World} (hr:HC E st fr w):HC E uh fr w:=by
 obtain ⟨S,μ,g,hk,hm,ht⟩:=hr
 unfold Dd at h
 split at h
 case h_2=>cases h
 rename_i p tm q dx hn ZM cE
 simp only [az,ay] at h
 obtain ⟨rfl,rfl⟩:=h
 obtain ⟨ug,vE⟩:=aW.app hp
 have N:=RM hn
 have e:Ext w S μ w (SF μ F st.jk S) μ:=⟨aP _,fun _ h=>.inl h,fun _ _=>rfl,fun _ _ h=>h⟩
 have UT:∀ k o,au dx k=some o→∃ pl c T,HK E.m0 μ eN k=some pl∧gy w (SF μ F st.jk S) (HK E.m0 μ eN) o pl c T ∧
   (0 < pl.cap→∃ k0 o0,au st.jk k0=some o0∧μ k0=some pl∧∃ d,(k,d)∈eN∧d.vB=some k0):=by
  intro k o UL
  obtain ⟨d,pd,rh,hd,Qw⟩:=De eN q dx cE vE k o UL
  have mono:∀ {v:Value} {x:AV} {cD:Mu},aq w S cD v x→aq w (SF μ F st.jk S) cD v x:=fun h=>h.mono (fun _ h=>.inl h) (fun _ _=>rfl) (fun _ _ h=>h)
  have out:∀ k0 o0 pl,au st.jk k0=some o0→μ k0=some pl→k0 ∉ F→0 < pl.cap→¬ SF μ F st.jk S pl.b6:=by
   rintro k0 o0 pl pk oc hnF hc (h1 | ⟨k1,o1,Bn,UK,w6,Kq,td,hb⟩)
   ·obtain ⟨iJ,c,T,fy,Rl⟩:=g.rep.ob k0 o0 pk
    rw [oc] at fy;cases fy
    exact Rl.out hc h1
   ·have ec:k1≠k0:=fun h=>hnF (h ▸ UK)
    exact g.rep.ne k1 k0 o1 o0 Bn pl ec w6 pk Kq oc td hc hb
  cases d with
  | ai k0 =>
   simp only [w9,aJ,ay] at hd
   obtain ⟨o0,pk,_,rfl⟩:=hd
   obtain ⟨pl,c,T,oc,u6⟩:=g.rep.ob k0 o0 pk
   have h1:=u6.ext e (fun _=>rfl) (out k0 o0 pl pk oc (N.fr k _ k0 rh rfl))
   exact ⟨pl,c,T,by rw [AO N rh rfl];exact oc,h1.jx fun a b pl ha hb=>E6 N ha hb,fun _=>⟨k0,o0,pk,oc,_,rh,rfl⟩⟩
  | arr k0 n gt =>
   simp only [w9] at hd
   split at hd
   ·rename_i o0 pk
    split at hd
    ·rename_i hb
     simp only [az,ay] at hd
     obtain ⟨rfl,rfl⟩:=hd
     obtain ⟨p1,p2,_⟩:=Qw
     obtain ⟨pl,c,T,oc,u6⟩:=g.rep.ob k0 o0 pk
     simp only [aV] at hb
     have h1:=u6.ext e (fun _=>rfl) (out k0 o0 pl pk oc (N.fr k _ k0 rh rfl))
     refine ⟨pl,c,T,by rw [AO N rh rfl];exact oc,⟨h1.sz,h1.b6,h1.cap,p1 ▸ h1.len,h1.out,fun i hi=>?_,fun i j x v hi hx hv=>?_,fun hz=>absurd hz (by have:=Nat.le_of_ble_eq_true hb.2;show o0.sz≠0;omega)⟩,fun _=>⟨k0,o0,pk,oc,_,rh,rfl⟩⟩
     ·show (gt i).length=_
      rw [p2 i hi];exact h1.tz i (by rw [p1];exact hi)
     ·have hx:(gt i)[j]?=some x:=hx
      rw [p2 i hi] at hx
      have:=h1.rep i j x v (by rw [p1];exact hi) hx hv
      rw [hb.1.1] at this
      exact this
    ·cases hd
   ·cases hd
  | RJ k0 n gt =>
   simp only [w9] at hd
   split at hd
   ·rename_i o0 pk
    split at hd
    ·rename_i hb
     simp only [az,ay] at hd
     obtain ⟨rfl,rfl⟩:=hd
     obtain ⟨p1,p2,_⟩:=Qw
     obtain ⟨pl,c,T,oc,u6⟩:=g.rep.ob k0 o0 pk
     simp only [aV] at hb
     have h1:=u6.ext e (fun _=>rfl) (out k0 o0 pl pk oc (N.fr k _ k0 rh rfl))
     refine ⟨pl,c,T,by rw [AO N rh rfl];exact oc,⟨h1.sz,h1.b6,h1.cap,dp p1 h1.len,h1.out,fun i hi=>?_,fun i j x v hi hx hv=>?_,fun hz=>absurd hz (by have:=Nat.le_of_ble_eq_true hb.2;show o0.sz≠0;omega)⟩,fun _=>⟨k0,o0,pk,oc,_,rh,rfl⟩⟩
     ·show (gt i).length=_
      rw [(p2 i hi).len];exact h1.tz i (lX hi p1)
     ·have hx:(gt i)[j]?=some x:=hx
      obtain ⟨a,ha,hax⟩:=(p2 i hi).get hx
      have:=h1.rep i j a v (lX hi p1) ha hv
      rw [hb.1.1] at this
      exact Xz hax this
    ·cases hd
   ·cases hd
  | mp k0 cs =>
   simp only [w9] at hd
   split at hd
   ·rename_i o0 pk
    split at hd
    ·rename_i hb
     simp only [az,ay] at hd
     obtain ⟨rfl,rfl⟩:=hd
     obtain ⟨rfl,_⟩:=Qw
     obtain ⟨pl,c,T,oc,u6⟩:=g.rep.ob k0 o0 pk
     simp only [aV] at hb
     have KG:=bm hb.2
     have h1:=u6.ext e (fun _=>rfl) (out k0 o0 pl pk oc (N.fr k _ k0 rh rfl))
     refine ⟨pl,c,T,by rw [AO N rh rfl];exact oc,⟨h1.sz,h1.b6,h1.cap,h1.len,h1.out,fun i hi=>absurd hi (by show ¬ i < o0.len;omega),fun i j x v hi=>absurd hi (by show ¬ i < o0.len;omega),fun hz=>?_⟩,fun _=>⟨k0,o0,pk,oc,_,rh,rfl⟩⟩
     obtain ⟨m0,m1,m2,m3,m4⟩:=h1.mp hz
     exact ⟨m0,m1,m2,rfl,m4⟩
    ·cases hd
   ·cases hd
  | Wu gt =>
   simp only [w9,az,ay] at hd
   obtain ⟨_,rfl⟩:=hd
   exact ⟨⟨0,0,1⟩,#[],0,Ok N rh,⟨rfl,fun h=>absurd h (by simp),by simp,by simp,fun h=>absurd h (by simp),fun i h=>absurd h (by simp),fun i j x v h=>absurd h (by simp),fun h=>absurd (show (1:Nat)=0 from h) (by omega)⟩,fun h=>absurd h (by simp)⟩
  | po k0 n l b =>
   simp only [w9] at hd
   split at hd
   ·rename_i o0 l' pk hl'
    split at hd
    ·rename_i hb
     simp only [az,ay] at hd
     obtain ⟨rfl,rfl⟩:=hd
     obtain ⟨p1,p2',p3,_⟩:=Qw
     have p2:∀ i,i < n→bk l' b i=AV.uY (uC E.m0 eN) (o0.get i):=fun i hi=>by rw [← p2' i hi];exact (FX (p3 i hi) hl').symm
     let gt:Nat→List AV:=bk l' b
     obtain ⟨pl,c,T,oc,u6⟩:=g.rep.ob k0 o0 pk
     simp only [aV] at hb
     have h1:=u6.ext e (fun _=>rfl) (out k0 o0 pl pk oc (N.fr k _ k0 rh rfl))
     refine ⟨pl,c,T,by rw [AO N rh rfl];exact oc,⟨h1.sz,h1.b6,h1.cap,p1 ▸ h1.len,h1.out,fun i hi=>?_,fun i j x v hi hx hv=>?_,fun hz=>absurd hz (by have:=Nat.le_of_ble_eq_true hb.2;show o0.sz≠0;omega)⟩,fun _=>⟨k0,o0,pk,oc,_,rh,rfl⟩⟩
     ·show (bk l' b i).length=_
      rw [p2 i hi,wX,List.length_map];exact h1.tz i (by rw [p1];exact hi)
     ·have hx:(bk l' b i)[j]?=some x:=hx
      rw [p2 i hi,wX,List.getElem?_map] at hx
      simp only [aJ] at hx
      obtain ⟨y,hy,rfl⟩:=hx
      have:=ig (h1.rep i j y v (by rw [p1];exact hi) hy hv)
      exact this.jx fun a b pl ha hb=>E6 N ha hb
    ·cases hd
   ·cases hd
  | var k0 ds =>
   simp only [w9] at hd
   split at hd
   ·rename_i o0 pk
    split at hd
    ·rename_i pw cs hb Xc
     simp only [az,ay] at hd
     obtain ⟨rfl,rfl⟩:=hd
     obtain ⟨pl,c,T,oc,u6⟩:=g.rep.ob k0 o0 pk
     simp only [aV] at hb
     have Wk:=bm hb.1.2
     have hz1:=Nat.le_of_ble_eq_true hb.2
     have ha:aq w S μ (.agg ((List.range o0.sz).map fun j=>(c[j]?).getD undef).toArray) (.agg (o0.get 0)):=by
      refine .agg (by simp [u6.tz 0 (by omega)]) fun j x v hx hv=>?_
      have hj:j < o0.sz:=by
       have:=(dd.1 hx).1
       rwa [u6.tz 0 (by omega)] at this
      obtain ⟨u,q1,_⟩:=di u6 (i:=0) (by omega) hj
      have RP:c[j]?=some u:=by simpa using q1
      simp [List.getElem?_range hj,RP] at hv
      exact ig (u6.rep 0 j x v (by omega) hx (by rw [← hv];simpa using q1))
     have Mm:=Om g N (.agg ds) (.agg (o0.get 0)) _ pw (.agg cs) ha (by simp [FY,Xc]) Qw
     obtain ⟨vs,XB,HD,CH⟩:=nO Mm
     cases XB
     have hlen:cs.length=o0.sz:=by simpa using HD.symm
     refine ⟨pl,c,T,by rw [AO N rh rfl];exact oc,⟨u6.sz,u6.b6,u6.cap,by have:=u6.len;show 1≤pl.cap;omega,out k0 o0 pl pk oc (N.fr k _ k0 rh rfl),fun i hi=>hlen,fun i j x v hi hx hv=>?_,fun hz=>absurd hz (by show o0.sz≠0;omega)⟩,fun _=>⟨k0,o0,pk,oc,_,rh,rfl⟩⟩
     have hi0:i=0:=by have hi:i < 1:=hi;omega
     subst hi0
     have hx:cs[j]?=some x:=hx
     have hj:j < o0.sz:=by rw [← hlen];exact (dd.1 hx).1
     have oJ:c[j]?=some v:=by simpa using hv
     have:=CH j x v hx (by simp [List.getElem?_range hj,oJ])
     show aq w _ (if AV.lG cs then fV else _) v x
     split
     ·rename_i hpp
      exact this.pure (ph hpp hx) fV
     ·exact this
    ·cases hd
   ·cases hd
  | nil sz gt =>
   simp only [w9] at hd
   split at hd
   case h_2=>cases hd
   rename_i aco
   simp only [az,ay] at hd
   obtain ⟨_,rfl⟩:=hd
   exact ⟨⟨0,0,sz⟩,#[],0,Ol N rh,⟨rfl,fun h=>absurd h (by simp),by simp,by simp,fun h=>absurd h (by simp),fun i h=>absurd h (by simp),fun i j x v h=>absurd h (by simp),fun h=>absurd (show sz=0 from h) (by have:=Nat.le_of_ble_eq_true aco;omega)⟩,fun h=>absurd h (by simp)⟩
 have ZA:∀ k i x v,gR w (HK E.m0 μ eN) dx k i x v→∃ k0 d,(k,d)∈eN∧d.vB=some k0∧gR w μ st.jk k0 i x v:=by
  rintro k i x v ⟨o,pl,h1,h2,h3,h4⟩
  obtain ⟨d,pd,rh,hd,Qw⟩:=De eN q dx cE vE k o h1
  obtain ⟨k0,o0,q1,q2,q3⟩:=RO hd Qw h2
  rw [AO N rh q1] at h3
  exact ⟨k0,d,rh,q1,o0,pl,q2,q3,h3,h4⟩
 have TM:MX E.fp E.w0.heap.size w (SF μ F st.jk S) (HK E.m0 μ eN) dx:=by
  have hφ:∀ k d k0,(k,d)∈eN→d.vB=some k0→((uD eN k).bind Od.vB).getD 0=k0:=fun k d k0 h1 h2=>by rw [rf N.nd h1];simp [h2]
  refine g.mx.tr (fun k=>((uD eN k).bind Od.vB).getD 0) (fun k i x v h=>?_) (fun k i x v k' i' x' v' h h' he=>?_) (fun _ h=>.inl h) (fun _ _=>rfl) (fun k i x v b _ h hb=>⟨rfl,?_,fun h=>h⟩) (fun k o pl h1 h2 h3=>?_)
  ·obtain ⟨k0,d,q1,q2,q3⟩:=ZA k i x v h
   show gR w μ st.jk (((uD eN k).bind Od.vB).getD 0) i x v
   rw [hφ k d k0 q1 q2];exact q3
  ·obtain ⟨k0,d,q1,q2,_⟩:=ZA k i x v h
   obtain ⟨ZN,d',RP,TV,_⟩:=ZA k' i' x' v' h'
   have he:((uD eN k).bind Od.vB).getD 0=((uD eN k').bind Od.vB).getD 0:=he
   rw [hφ k d k0 q1 q2,hφ k' d' ZN RP TV] at he
   exact RN eN k k' d d' N.od q1 RP q2 (he ▸ TV)
  ·rintro (h1 | ⟨k1,o1,Bn,_,w6,Kq,td,h1⟩)
   ·exact (g.mx.b6 h hb).2.1 h1
   ·exact g.mx.obj _ _ _ _ _ h hb k1 o1 Bn w6 Kq td h1
  ·obtain ⟨Bn,c,T,e1,_,e3⟩:=UT k o h1
   rw [h2] at e1;cases e1
   obtain ⟨k0,o0,pk,oc,_⟩:=e3 h3
   exact .inl ⟨k0,o0,pl,pk,oc,h3,rfl⟩
 refine ⟨SF μ F st.jk S,HK E.m0 μ eN,⟨g.fr,fun b h=>.inl (g.S0 b h),?_,?_,⟨?_,?_⟩,?_,?_,TM⟩,?_,N.m0,?_⟩
 ·rintro b (h1 | ⟨k1,o1,Bn,UK,w6,Kq,td,rfl⟩)
  ·exact g.S1 b h1
  ·obtain ⟨iJ,c,T,fy,Rl⟩:=g.rep.ob k1 o1 w6
   rw [Kq] at fy;cases fy
   exact cr (Rl.b6 td)
 ·rintro b (h1 | ⟨k1,o1,Bn,UK,w6,Kq,td,rfl⟩)
  ·exact g.S2 b h1
  ·rcases g.own k1 o1 Bn w6 Kq td with h2 | h2
   ·rcases hF with h3 | h3
    ·rw [List.isEmpty_iff] at h3;rw [h3] at UK;simp at UK
    ·exact (h3 _ h2).elim
   ·exact .inr h2
 ·intro k o UL
  obtain ⟨pl,c,T,h1,h2,_⟩:=UT k o UL
  exact ⟨pl,c,T,h1,h2⟩
 ·intro k k' o o' pl iJ ec UL acq qP UU hc jr
  obtain ⟨Bn,c,T,h1,_,h3⟩:=UT k o UL
  obtain ⟨qA,c',T',It,_,h3'⟩:=UT k' o' acq
  rw [qP] at h1;cases h1
  rw [UU] at It;cases It
  obtain ⟨k0,o0,pk,oc,d,hd,hdo⟩:=h3 hc
  obtain ⟨ZN,o0',acr,acs,d',Wn,acu⟩:=h3' jr
  have Mz:k0≠ZN:=by
   rintro rfl
   exact ec (RN eN k k' d d' N.od hd Wn hdo acu)
  exact g.rep.ne k0 ZN o0 o0' pl iJ Mz pk acr oc acs hc jr
 ·intro k o pl UL qP hc
  obtain ⟨Bn,c,T,h1,_,h3⟩:=UT k o UL
  rw [qP] at h1;cases h1
  obtain ⟨k0,o0,pk,oc,_⟩:=h3 hc
  exact g.own k0 o0 pl pk oc hc
 ·intro k lj
  unfold HK
  rw [if_pos lj];exact g.Bo k lj
 ·intro k lj
  have lj:nk≤k:=lj
  have:=N.m0
  unfold HK
  rw [if_neg (by omega)]
  cases hg:uD eN k with
  | none=>rfl
  | some d =>
   have:=N.lt k d (zK hg)
   omega
 ·exact IL (R:=fun v x=>aq w (SF μ F st.jk S) (HK E.m0 μ eN) v x) (fun _=>.mV) (fun d t ps y h1 h2=>Om g N d _ _ ps y (ht t) h1 h2) rV p tm ZM ug
def aw (P:Program) (E:Env) (fn:FuncId) (nt:Nat) (cG:Value→World→Prop) (k:List Item) (st:St):Prop :=
 ∀ (tm:Array Value) (w:World),tm.size=nt→HC E st tm w→∀ (b:Frame),b.fn=fn→b.kind=.normal→∀ cs,
  ∃ v w' fr,cG v w'∧Steps P (lone (b.at ⟨tm,[]⟩ k) cs w) (lone fr cs w')∧fr.fn=fn∧fr.leaving P w' (.returned v)
variable {fn:FuncId} {nt:Nat} {cG:Value→World→Prop} {k k':List Item} {st uh:St}
theorem aw.step (h:aw P E fn nt cG k' st) (hs:∀ (b:Frame) (a:Act) (cs:List Frame) (w:World),step P (lone (b.at a k) cs w)=.next (lone (b.at a k') cs w)):aw P E fn nt cG k st:=by
 intro tm w h1 h2 b h3 h4 cs
 obtain ⟨v,w',fr,q1,q2,q3,q4⟩:=h tm w h1 h2 b h3 h4 cs
 exact ⟨v,w',fr,q1,.head (hs b ⟨tm,[]⟩ cs w) q2,q3,q4⟩
theorem aw.seq {x y:Code} (h:aw P E fn nt cG (.code x :: .code y :: k) st):aw P E fn nt cG (.code (.seq x y) :: k) st:=h.step fun _ _ _ _=>step_seq
theorem aw.block {id:Nat} {c:Code} (h:aw P E fn nt cG (.code c :: .inBlock id :: k) st):aw P E fn nt cG (.code (.block id c) :: k) st:=h.step fun _ _ _ _=>step_block
theorem aw.inBlock {id:Nat} (h:aw P E fn nt cG k st):aw P E fn nt cG (.inBlock id :: k) st:=h.step fun _ _ _ _=>step_inBlock
theorem aw.loop {c:Code} (h:aw P E fn nt cG (.code c :: .inLoop c :: k) st):aw P E fn nt cG (.code (.loop c) :: k) st:=h.step fun _ _ _ _=>step_loop
theorem aw.inLoop {c:Code} (h:aw P E fn nt cG (.code c :: .inLoop c :: k) st):aw P E fn nt cG (.inLoop c :: k) st:=h.step fun _ _ _ _=>step_inLoop
theorem aw.skip (h:aw P E fn nt cG k st):aw P E fn nt cG (.code .skip :: k) st:=h.step fun _ _ _ _=>step_skip
theorem aw.label {l:Nat} (h:aw P E fn nt cG k st):aw P E fn nt cG (.code (.label l) :: k) st:=h.step fun _ _ _ _=>step_label
theorem aw.scope {c:Code} (h:aw P E fn nt cG (.code c :: .inScope c :: k) st):aw P E fn nt cG (.code (.scope c) :: k) st:=h.step fun _ _ _ _=>step_lone_go (by simp [stepG,stepG.exec,Frame.at])
theorem aw.inScope {c:Code} (h:aw P E fn nt cG k st):aw P E fn nt cG (.inScope c :: k) st:=h.step fun _ _ _ _=>step_lone_go (by simp [stepG,stepG.exec,Frame.at])
theorem aw.exit {id:Nat} (he:exitTo id k=some k') (h:aw P E fn nt cG k' st):aw P E fn nt cG (.code (.exit id) :: k) st:=h.step fun _ _ _ _=>step_exit he
theorem aw.cond {c:Operand} {x y:Code} {q:Bool} (hc:xH st.tm c=.atom (.bool q)) (h1:q=true→aw P E fn nt cG (.code x :: k) st) (h2:q=false→aw P E fn nt cG (.code y :: k) st) :
  aw P E fn nt cG (.code (.cond c x y) :: k) st:=by
 intro tm w hs hr b nM lP cs
 have Av:=hr
 obtain ⟨S,μ,g,_,_,ht⟩:=Av
 have e:=zG (a:=⟨tm,[]⟩) ht c
 rw [hc] at e
 have e:=db e
 have zs:=step_cond (P:=P) (b:=b) (k:=k) (cs:=cs) (w:=w) (x:=x) (y:=y) e
 cases q with
 | true =>
  obtain ⟨v,w',fr,q1,q2,q3,q4⟩:=h1 rfl tm w hs hr b nM lP cs
  exact ⟨v,w',fr,q1,.head zs q2,q3,q4⟩
 | false =>
  obtain ⟨v,w',fr,q1,q2,q3,q4⟩:=h2 rfl tm w hs hr b nM lP cs
  exact ⟨v,w',fr,q1,.head zs q2,q3,q4⟩
structure aQ (E:Env) (m:Nat):Prop where
 m0:E.m0=m
 fp:m=0→∀ b,¬ E.fp b
theorem aw.wk {m:Nat} (hE:aQ E m) {rV:List (Nat×Wd)} {ps:List Prop} (h:Dd m st F rV eN nk=some (ps,uh)) (hF:(F.isEmpty || Nat.beq m 0)=true) (hp:aW ps) (hr:aw P E fn nt cG k uh):aw P E fn nt cG k st:=by
 have h':Dd E.m0 st F rV eN nk=some (ps,uh):=by rw [hE.m0];exact h
 refine fun tm w h1 h2=>hr tm w h1 (BL h' hp ?_ h2)
 rcases Bool.or_eq_true_iff.1 hF with h3 | h3
 ·exact .inl h3
 ·exact .inr (hE.fp (bm h3))
def BM (P:Program) (nt:Nat) (c:Code) (orcs:List (Nat×lZ)) (st:St):Option (List Prop×St) :=
 match c with
 | .region _ ops draw=>match oK P nt ops.toList st.nk orcs ops.toList 0 st.tm st.jk with
  | some bG=>match !draw || (P.follows .mixedOrders && RA ops.toList bG) with
   | true=>some (w8 bG,⟨vL bG st.tm,qF bG st.jk,st.nk+16 * ops.size⟩)
   | false=>none
  | none=>none
 | _=>none
def om:List (Nat×lZ)→Bool
 | []=>true
 | (_,o) :: r=>!o.wY && om r
def On:List (Nat×lZ)→Bool
 | []=>true
 | (_,o) :: r=>o.y.isNone && On r
def XC (P:Program) (E:Env):List (Nat×lZ)→Prop
 | []=>True
 | (_,o) :: r=>(match o.y with
  | some y=>Xs P E y
  | none=>True)∧XC P E r
theorem Df:∀ {orcs:List (Nat×lZ)},om orcs=true→∀ i x,l3 orcs i=some x→x.wY=true→False
 | [],_,i,x,h,_=>by simp [l3] at h
 | (a,o) :: r,hn,i,x,h,hx=>by
  simp only [om,aV,Bool.not_eq_true'] at hn
  simp only [l3] at h
  split at h
  ·cases h;rw [hn.1] at hx;cases hx
  ·exact Df hn.2 i x h hx
theorem Dg {P:Program} {E:Env}:∀ {orcs:List (Nat×lZ)},On orcs=true→XC P E orcs
 | [],_=>trivial
 | (a,o) :: r,hn=>by
  simp only [On,aV,Option.isNone_iff_eq_none] at hn
  refine ⟨?_,Dg hn.2⟩
  rw [hn.1];trivial
theorem Jw {P:Program} {E:Env}:∀ {orcs:List (Nat×lZ)},XC P E orcs→∀ i x y,l3 orcs i=some x→x.y=some y→Xs P E y
 | [],_,i,x,y,h,_=>by simp [l3] at h
 | (a,o) :: r,hn,i,x,y,h,hx=>by
  simp only [l3] at h
  split at h
  ·cases h
   have:=hn.1
   rw [hx] at this;exact this
  ·exact Jw hn.2 i x y h hx
theorem yG {rd:Option Nat} {ds:List Deferred} {c:Code} {orcs:List (Nat×lZ)} (hz:om orcs=true∨∀ b,¬ E.fp b) (hy:XC P E orcs) {ps:List Prop} (h:BM P nt c orcs st=some (ps,uh)) (hp:aW ps)
  {tm:Array Value} {w:World} (hs:tm.size=nt) (xX:HC E st tm w):c.wpIn (FW rd) 0 P (fun e a w=>e=.normal∧a.tmps.size=nt∧a.defers=ds∧HC E uh a.tmps w) ⟨tm,ds⟩ w:=by
 have hz:∀ i,FM P E (l3 orcs i):=fun i=>⟨fun x hx hf=>hz.elim (fun hn=>(Df hn i x hx hf).elim) id,fun x y hx PL=>Jw hy i x y hx PL⟩
 unfold BM at h
 split at h
 case h_2=>cases h
 rename_i id ops draw
 split at h
 case h_2=>cases h
 rename_i bG TX
 split at h
 case h_2=>cases h
 rename_i hd
 simp only [az,ay] at h
 obtain ⟨rfl,rfl⟩:=h
 obtain ⟨S,μ,g,hk,hm,ht⟩:=xX
 let Q0:Exit→Act→World→Prop:=fun e a w=>e=.normal∧a.tmps.size=nt∧a.defers=ds∧HC E ⟨vL bG st.tm,qF bG st.jk,st.nk+16 * ops.size⟩ a.tmps w
 show (Code.region id ops draw).wpIn (FW rd) 0 P Q0 ⟨tm,ds⟩ w
 have hQ:∀ (a':Act) (w':World) (S':Nat→Prop) (cD:Mu),a'.tmps.size=nt→a'.defers=ds→Good E (qF bG st.jk) S' cD w'→(∀ k,st.nk+16 * ops.size≤k→cD k=none)→(∀ t,aq w' S' cD (a'.tmps.getD t undef) (cJ (vL bG st.tm) t)) →
   Q0 .normal a' w' :=
  fun a' w' S' cD q1 q2 q3 q4 q5=>⟨rfl,q1,q2,S',cD,q3,q4,by show E.m0≤st.nk+16 * ops.size;omega,q5⟩
 cases draw with
 | false =>
  refine wpIn_region ?_
  have:=C9 (P:=P) (E:=E) (Q:=Q0) (rd:=rd) (ds:=ds) (nt:=nt) (nk:=st.nk) (ops:=ops) (orcs:=orcs) hz hm ops.toList 0 ⟨tm,ds⟩ w st.tm st.jk S μ bG rfl (by simp) hs rfl g (by simpa using hk) ht TX hp hQ
  rw [List.range_eq_range']
  simpa using this
 | true =>
  simp only [Bool.not_true,Bool.false_or,aV] at hd
  refine wpIn_region_any hd.1 ?_
  have PM:∀ (n j:Nat),(Array.replicate n false).getD j false=false:=by
   intro n j
   simp only [fm,Array.getElem?_replicate]
   split<;>rfl
  refine MO hz hm TX hp hd.2 hQ ops.size _ ⟨tm,ds⟩ _ S μ (by simp) hs rfl ?_ ?_ ?_ ?_ ?_
  ·intro j hj;rw [PM] at hj;cases hj
  ·omega
  ·rw [zI bG 0 st.jk _ (fun m _=>PM _ _)];exact g.drew
  ·intro k' lj _
   exact hk k' lj
  ·intro t
   rw [BJ bG 0 st.tm _ (fun m _=>PM _ _)]
   exact (ht t).ext (Ext.drew w S μ)
theorem aw.region {c:Code} {orcs:List (Nat×lZ)} (hz:om orcs=true∨∀ b,¬ E.fp b) (hy:XC P E orcs) {ps:List Prop} (h:BM P nt c orcs st=some (ps,uh)) (hp:aW ps) (hr:aw P E fn nt cG k uh):aw P E fn nt cG (.code c :: k) st:=by
 intro tm w hs xX b nM lP cs
 have XD:c.wp P (fun e a w=>e=.normal∧a.tmps.size=nt∧a.defers=[]∧HC E uh a.tmps w) ⟨tm,[]⟩ w:=(wpIn_wide (n:=0)).1 (yG (rd:=none) (ds:=[]) hz hy h hp hs xX)
 obtain ⟨e,a',w',⟨rfl,q1,q2,q3⟩,MQ⟩:=XD b k cs
 have ha:a'=⟨a'.tmps,[]⟩:=by cases a';simp at q2;simp [q2]
 obtain ⟨v,NM,fr,r1,r2,r3,r4⟩:=hr a'.tmps w' q1 q3 b nM lP cs
 refine ⟨v,NM,fr,r1,Steps.trans MQ ?_,r3,r4⟩
 rw [ha];exact r2
end
end Go.Ab
namespace Go.Ab
def aY (E:Env) (dx:du) (res:AV) (v:Value) (w':World):Prop:=∃ S' cD,Good E dx S' cD w'∧aq w' S' cD v res
def F0 (P:Program) (st:St):List ResultVar→Option (List Prop×List AV)
 | []=>some ([],[])
 | .tmp t :: r=>(F0 P st r).map fun (p,l)=>(p,cJ st.tm t :: l)
 | .cell a t :: r=>match ym P st.jk t (cJ st.tm a),F0 P st r with
  | some (p,x,_),some (q,l)=>some (p ++ q,x :: l)
  | _,_=>none
def RR:List AV→AV
 | [x]=>x
 | l=>.tup l
def xL (P:Program) (fn:Func) (st:St):Option (List Prop×AV):=(F0 P st fn.results.toList).map fun (p,l)=>(p,RR l)
section
variable {P:Program} {E:Env} {fn:FuncId} {nt:Nat} {k:List Item} {st:St}
theorem Jx {S:Nat→Prop} {μ:Mu} {w:World} (g:Good E st.jk S μ w) {tm:Array Value} (ht:∀ t,aq w S μ (tm.getD t undef) (cJ st.tm t)) :
  ∀ (l:List ResultVar) (ps:List Prop) (xs:List AV),F0 P st l=some (ps,xs)→aW ps→∃ vs:List Value,
   (l.mapM fun r=>(match r with | .tmp t=>pure (tm.getD t undef) | .cell a t=>(do loadVar t (← asAddr (tm.getD a undef)):Sem Value)):Sem (List Value)).run P w=.ok vs w∧vs.length=xs.length ∧
   ∀ (j:Nat) c v,xs[j]?=some c→vs[j]?=some v→aq w S μ v c
 | [],ps,xs,h,_=>by
  simp [F0] at h;obtain ⟨_,rfl⟩:=h
  exact ⟨[],by simp,rfl,fun j c v hc=>by simp at hc⟩
 | .tmp t :: r,ps,xs,h,hp=>by
  simp only [F0,aJ,ay] at h
  obtain ⟨⟨p,l⟩,h1,rfl,rfl⟩:=h
  obtain ⟨vs,q1,q2,q3⟩:=Jx g ht r p l h1 hp
  refine ⟨tm.getD t undef :: vs,by simp only [List.mapM_cons,bH,Sem.run_pure,cN,q1],by simp [q2],?_⟩
  intro j c v hc hv
  cases j with
  | zero=>simp at hc hv;subst hc hv;have:=ht t;rw [fm] at this;exact this
  | succ j=>exact q3 j c v (by simpa using hc) (by simpa using hv)
 | .cell a t :: r,ps,xs,h,hp=>by
  simp only [F0] at h
  split at h
  ·rename_i p x rd q l h1 h2
   simp only [az,ay] at h
   obtain ⟨rfl,rfl⟩:=h
   obtain ⟨ug,vE⟩:=aW.app hp
   obtain ⟨vs,q1,q2,q3⟩:=Jx g ht r q l h2 vE
   obtain ⟨v,r1,r2⟩:=Jh (P:=P) g (ht a) h1 ug
   have MR:∃ ad,tm.getD a undef=.pointer (some ad):=by
    cases hv:tm.getD a undef with
    | pointer o =>
     cases o with
     | none=>rw [hv] at r1;simp [Instr.loadAt,Instr.sureAddr] at r1
     | some ad=>exact ⟨ad,rfl⟩
    | _=>rw [hv] at r1;simp [Instr.loadAt,Instr.sureAddr] at r1
   obtain ⟨ad,had⟩:=MR
   rw [had] at r1
   simp only [Instr.loadAt,Instr.sureAddr,bH,Sem.run_pure,cN] at r1
   have hA:(asAddr (tm.getD a undef)).run P w=.ok ad w:=by rw [had];rfl
   refine ⟨v :: vs,by rw [List.mapM_cons];simp only [bH,hA,Sem.run_pure,cN,r1,q1],by simp [q2],?_⟩
   intro j c u hc hu
   cases j with
   | zero=>simp at hc hu;subst hc hu;exact r2
   | succ j=>exact q3 j c u (by simpa using hc) (by simpa using hu)
  ·cases h
theorem AP {f:Func} (hf:P.funcs[fn]?=some f) {ps:List Prop} {res:AV} (h:xL P f st=some (ps,res)) (hp:aW ps) {tm:Array Value} {w:World} (hr:HC E st tm w) {b:Frame} (nM:b.fn=fn) (lP:b.kind=.normal) (todo:List Item) :
  ∃ v,aY E st.jk res v w∧Frame.leaving P { b.at ⟨tm,[]⟩ todo with mode:=.returning } w (.returned v):=by
 obtain ⟨S,μ,g,_,_,ht⟩:=hr
 simp only [xL,aJ,ay] at h
 obtain ⟨⟨p,l⟩,h1,rfl,rfl⟩:=h
 obtain ⟨vs,q1,q2,q3⟩:=Jx g ht f.results.toList p l h1 hp
 have hm:(f.results.mapM fun r=>(match r with | .tmp t=>pure (tm.getD t undef) | .cell a t=>(do loadVar t (← asAddr (tm.getD a undef)):Sem Value)):Sem (Array Value)).run P w=.ok vs.toArray w:=by
  rw [Array.mapM_eq_mapM_toList]
  simp only [Sem.run_map,q1,cN]
 have La:∃ v,aq w S μ v (RR l)∧(results f tm).run P w=.ok v w:=by
  refine ⟨if h:vs.toArray.size=1 then vs.toArray[0] else .tuple vs.toArray,?_,?_⟩
  ·cases l with
   | nil =>
    have:vs=[]:=List.length_eq_zero_iff.1 q2
    subst this
    simp only [RR]
    exact .tup rfl fun j c v hc=>by simp at hc
   | cons x r =>
    cases r with
    | nil =>
     simp at q2
     have hs:vs.toArray.size=1:=by simpa using q2
     rw [dif_pos hs]
     exact q3 0 x _ rfl (by simp [q2])
    | cons y r =>
     simp at q2
     have hs:¬ vs.toArray.size=1:=by simp;omega
     rw [dif_neg hs]
     exact .tup (by simp [q2]) fun j c v hc hv=>q3 j c v hc (by simpa using hv)
  ·unfold results
   simp only [bH]
   exact (congrArg (fun r:Result (Array Value)=>r.andThen fun a w'=>Result.ok (if h:a.size=1 then a[0] else Value.tuple a) w') hm)
 obtain ⟨v,hv,jc⟩:=La
 exact ⟨v,⟨S,μ,g,hv⟩,rfl,rfl,lP,f,by rw [← hf,← nM];rfl,jc⟩
theorem aw.ret {f:Func} (hf:P.funcs[fn]?=some f) {ps:List Prop} {res:AV} (h:xL P f st=some (ps,res)) (hp:aW ps):aw P E fn nt (aY E st.jk res) (.code .ret :: k) st:=by
 intro tm w _ hr b nM lP cs
 obtain ⟨v,h1,h2⟩:=AP hf h hp hr nM lP (.code .ret :: k)
 exact ⟨v,w,_,h1,.one step_ret,nM,h2⟩
theorem aw.fin {f:Func} (hf:P.funcs[fn]?=some f) {ps:List Prop} {res:AV} (h:xL P f st=some (ps,res)) (hp:aW ps):aw P E fn nt (aY E st.jk res) [] st:=by
 intro tm w _ hr b nM lP cs
 obtain ⟨v,h1,h2⟩:=AP hf h hp hr nM lP []
 exact ⟨v,w,_,h1,.one step_end,nM,h2⟩
def tG:List AV→Nat→List (Nat×AV)
 | [],_=>[]
 | x :: r,i=>(i,x) :: tG r (i+1)
theorem AQ:∀ (l:List AV) (i t:Nat),cJ (tG l i) t=if i≤t then (l[t - i]?).getD .mV else .mV
 | [],i,t=>by simp [tG,cJ]
 | x :: r,i,t=>by
  simp only [tG,cJ]
  by_cases h:i=t
  ·rw [ko h,if_pos (by omega)];simp [h]
  ·rw [lR h,AQ r (i+1) t]
   by_cases h2:i+1≤t
   ·rw [if_pos h2,if_pos (by omega),show t - i=(t - (i+1))+1 by omega];simp
   ·rw [if_neg h2,if_neg (by omega)]
theorem sor {f:FuncId} {fu:Func} {c:Code} {nt m:Nat} {args:List AV} {σ dx:du} {res:AV} (hf:P.funcs[f]?=some fu) (hb:fu.body=some c) (hn:fu.ntmps=nt) (ha:Nat.ble args.length nt=true)
  (Jy:m=0→σ=[]) (h:∀ E,aQ E m→aw P E f nt (aY E dx res) [.code c] ⟨tG args 0,σ,m⟩):Sound P f args σ m res dx:=by
 simp only [Nat.ble_eq] at ha
 intro w S μ vs g hk hl cs
 have hE:aQ (tC w S σ μ m) m:=⟨rfl,fun hm b=>by
  rintro (⟨k,o,pl,h1,_⟩ | ⟨k,i,x,v,⟨o,pl,h1,_⟩,_⟩)<;>(rw [Jy hm] at h1;simp [au] at h1)⟩
 let b:Frame:={ (default:Frame) with fn:=f,kind:=.normal }
 have MT:Frame.enter P f vs .normal=b.at ⟨vs ++ Array.replicate (nt - vs.size) undef,[]⟩ [.code c]:=by
  simp [Frame.enter,Frame.at,hf,hb,hn,b]
 have kr:=hl.1
 obtain ⟨v,w',fr,h1,h2,h3,h4⟩:=h _ hE (vs ++ Array.replicate (nt - vs.size) undef) w (by simp;omega) ⟨S,μ,g,hk,aP _,fun t=>by
  show aq w S μ _ (cJ (tG args 0) t)
  rw [AQ,if_pos (Nat.zero_le _),Nat.sub_zero]
  cases hx:args[t]? with
  | none=>exact .mV
  | some x =>
   have ft:t < vs.size:=by rw [kr];exact (dd.1 hx).1
   have hv:(vs ++ Array.replicate (nt - vs.size) undef).getD t undef=vs[t]:=by
    simp [fm,Array.getElem?_append_left ft,ft]
   rw [hv]
   exact hl.2 t x _ hx (dN ft)⟩ b rfl rfl cs
 rw [← MT] at h2
 obtain ⟨S',cD,g',hv⟩:=h1
 exact ⟨.returned v,w',fr,⟨v,S',cD,rfl,g',hv⟩,h2,h3,h4⟩
end
end Go.Ab
namespace Go.Ab
def XE (f:Func):Code:=f.body.getD .skip
def cat:Code→List Bool→Code
 | c,[]=>c
 | .seq a _,false :: p=>cat a p
 | .seq _ b,true :: p=>cat b p
 | .cond _ a _,false :: p=>cat a p
 | .cond _ _ b,true :: p=>cat b p
 | .block _ b,_ :: p=>cat b p
 | .loop b,_ :: p=>cat b p
 | .scope b,_ :: p=>cat b p
 | c,_ :: _=>c
def Jz:List Item→Option (List Item)
 | .code (.seq a b) :: k=>some (.code a :: .code b :: k)
 | .code (.block id c) :: k=>some (.code c :: .inBlock id :: k)
 | .code (.loop c) :: k=>some (.code c :: .inLoop c :: k)
 | .inLoop c :: k=>some (.code c :: .inLoop c :: k)
 | .inBlock _ :: k=>some k
 | .code (.scope c) :: k=>some (.code c :: .inScope c :: k)
 | .inScope _ :: k=>some k
 | .code .skip :: k=>some k
 | .code (.label _) :: k=>some k
 | .code (.exit id) :: k=>exitTo id k
 | _=>none
def CA:Nat→List Item→Option (List Item)
 | 0,k=>some k
 | n+1,k=>match Jz k with
  | some k'=>CA n k'
  | none=>none
section
variable {P:Program} {E:Env} {fn:FuncId} {nt:Nat} {cG:Value→World→Prop} {k k':List Item} {st uh:St}
theorem aw.Jz (h:Jz k=some k') (hr:aw P E fn nt cG k' st):aw P E fn nt cG k st:=by
 unfold Ab.Jz at h
 split at h
 ·cases h;exact hr.seq
 ·cases h;exact hr.block
 ·cases h;exact hr.loop
 ·cases h;exact hr.inLoop
 ·cases h;exact hr.inBlock
 ·cases h;exact hr.scope
 ·cases h;exact hr.inScope
 ·cases h;exact hr.skip
 ·cases h;exact hr.label
 ·exact hr.exit h
 ·cases h
theorem aw.CA:∀ (n:Nat) {k:List Item},CA n k=some k'→aw P E fn nt cG k' st→aw P E fn nt cG k st
 | 0,k,h,hr=>by simp only [Ab.CA,az] at h;rw [h];exact hr
 | n+1,k,h,hr=>by
  simp only [Ab.CA] at h
  split at h
  ·rename_i k1 h1
   exact aw.Jz h1 (aw.CA n h hr)
  ·cases h
theorem aw.Wv {c x y:Code} {o:Operand} {q:Bool} (hx:c=.cond o x y) (hc:xH st.tm o=.atom (.bool q)) (h1:q=true→aw P E fn nt cG (.code x :: k) st) (h2:q=false→aw P E fn nt cG (.code y :: k) st) :
  aw P E fn nt cG (.code c :: k) st:=by
 subst hx;exact aw.cond hc h1 h2
theorem aw.XF {c x y:Code} {o:Operand} {n:Nat} (hx:c=.cond o x y) (hc:xH st.tm o=.bn n) (h1:n=0→aw P E fn nt cG (.code x :: k) st) (h2:aw P E fn nt cG (.code y :: k) st) :
  aw P E fn nt cG (.code c :: k) st:=by
 subst hx
 intro tm w hs hr b nM lP cs
 have Av:=hr
 obtain ⟨S,μ,g,_,_,ht⟩:=Av
 have e:=zG (a:=⟨tm,[]⟩) ht o
 rw [hc] at e
 obtain ⟨q,e1,e2⟩:∃ q,(⟨tm,[]⟩:Act).eval o=.bool q∧(q=true→n=0):=by
  generalize (⟨tm,[]⟩:Act).eval o=v at e
  cases e with
  | bn q h=>exact ⟨q,rfl,h⟩
 have zs:=step_cond (P:=P) (b:=b) (k:=k) (cs:=cs) (w:=w) (x:=x) (y:=y) e1
 cases q with
 | true =>
  obtain ⟨v,w',fr,q1,q2,q3,q4⟩:=h1 (e2 rfl) tm w hs hr b nM lP cs
  exact ⟨v,w',fr,q1,.head zs q2,q3,q4⟩
 | false =>
  obtain ⟨v,w',fr,q1,q2,q3,q4⟩:=h2 tm w hs hr b nM lP cs
  exact ⟨v,w',fr,q1,.head zs q2,q3,q4⟩
end
def Aw:du→List Nat→du
 | σ,[]=>σ
 | σ,k :: r=>Aw (qz σ k) r
theorem aY.UW {E:Env} {res:AV} {v:Value} {w:World}:∀ (ks:List Nat) {σ:du},aY E σ res v w→aY E (Aw σ ks) res v w
 | [],_,h=>h
 | k :: r,_,⟨S,μ,g,hv⟩=>aY.UW r ⟨S,μ,g.del k,hv⟩
theorem aw.acv {P:Program} {E:Env} {fn:FuncId} {nt:Nat} {k:List Item} {st:St} {c:Code} (ks:List Nat) (hx:c=.ret) {f:Func} (hf:P.funcs[fn]?=some f) {ps:List Prop} {res:AV} {dx:du} (h:xL P f st=some (ps,res))
  (Jy:Aw st.jk ks=dx) (hp:aW ps):aw P E fn nt (aY E dx res) (.code c :: k) st:=by
 subst hx Jy
 intro tm w h1 h2 b h3 h4 cs
 obtain ⟨v,w',fr,q1,q2⟩:=aw.ret (E:=E) (nt:=nt) (k:=k) hf h hp tm w h1 h2 b h3 h4 cs
 exact ⟨v,w',fr,q1.UW ks,q2⟩
theorem aw.acw {P:Program} {E:Env} {fn:FuncId} {nt:Nat} {st:St} (ks:List Nat) {f:Func} (hf:P.funcs[fn]?=some f) {ps:List Prop} {res:AV} {dx:du} (h:xL P f st=some (ps,res))
  (Jy:Aw st.jk ks=dx) (hp:aW ps):aw P E fn nt (aY E dx res) [] st:=by
 subst Jy
 intro tm w h1 h2 b h3 h4 cs
 obtain ⟨v,w',fr,q1,q2⟩:=aw.fin (E:=E) (nt:=nt) hf h hp tm w h1 h2 b h3 h4 cs
 exact ⟨v,w',fr,q1.UW ks,q2⟩
def Eo (P:Program) (nt m:Nat) (c:Code) (orcs:List (Nat×lZ)) (F:List Nat) (rV:List (Nat×Wd)) (eN:xZ) (nk:Nat) (st:St):Option (List Prop×St) :=
 match BM P nt c orcs st with
 | some (ps,s1)=>match Dd m s1 F rV eN nk with
  | some (qs,s2)=>some (ps ++ qs,s2)
  | none=>none
 | none=>none
theorem aw.rw {P:Program} {E:Env} {fn:FuncId} {nt:Nat} {cG:Value→World→Prop} {k:List Item} {st uh:St} {m:Nat} {c:Code} {orcs:List (Nat×lZ)} {F:List Nat} {rV:List (Nat×Wd)} {eN:xZ} {nk:Nat}
  (hE:aQ E m) {ps:List Prop} (h:Eo P nt m c orcs F rV eN nk st=some (ps,uh)) (hF:((F.isEmpty && om orcs) || Nat.beq m 0)=true) (hy:XC P E orcs) (hp:aW ps) (hr:aw P E fn nt cG k uh):aw P E fn nt cG (.code c :: k) st:=by
 unfold Eo at h
 split at h
 ·rename_i p1 s1 h1
  split at h
  ·rename_i q1 s2 h2
   simp only [az,ay] at h
   obtain ⟨rfl,rfl⟩:=h
   obtain ⟨ug,vE⟩:=aW.app hp
   have ZO:(F.isEmpty || Nat.beq m 0)=true:=by
    rcases Bool.or_eq_true_iff.1 hF with h | h
    ·simp [(lW.1 h).1]
    ·simp [h]
   have hz:om orcs=true∨∀ b,¬ E.fp b:=by
    rcases Bool.or_eq_true_iff.1 hF with h | h
    ·exact .inl (lW.1 h).2
    ·exact .inr (hE.fp (bm h))
   exact aw.region hz hy h1 ug (aw.wk hE h2 ZO vE hr)
  ·cases h
 ·cases h
abbrev aI (n:Int):AV:=.atom (.int .i64 n)
abbrev aB (b:Bool):AV:=.atom (.bool b)
abbrev aS (s:ByteArray):AV:=.atom (.string s)
def aK {α:Type} (c:α→List AV) (d:α) (l:List α):AV:=.sl l.length fun i=>c (l.getD i d)
def cI (n:Int):List AV:=[aI n]
def cB (b:Bool):List AV:=[aB b]
def cS (s:ByteArray):List AV:=[aS s]
def cU (k:IntKind) (n:Int):List AV:=[.atom (.int k n)]
abbrev ao (n:Int):Int:=IntKind.i64.wrap n
theorem ab {α:Type} {p:Prop} [Decidable p] {x:Option α} {r:α} (h:(if p then x else none)=some r):p∧x=some r:=by
 by_cases hp:p
 ·rw [if_pos hp] at h;exact ⟨hp,h⟩
 ·rw [if_neg hp] at h;cases h
theorem bq {α β:Type} {x:Option α} {f:α→Option β} {r:β} (h:x.bind f=some r):∃ a,x=some a∧f a=some r:=Option.bind_eq_some_iff.1 h
theorem ax {α:Type} {q:Bool} {x y:α} {r:α} (h:cond q x y=r) (hq:q=true):x=r:=by subst hq;exact h
theorem aL {α:Type} {q:Bool} {x y:α} {r:α} (h:cond q x y=r) (hq:q=false):y=r:=by subst hq;exact h
def Alike (x y:AV):Prop:=∀ w S μ v,aq w S μ v x→aq w S μ v y
theorem Alike.refl (x:AV):Alike x x:=fun _ _ _ _ h=>h
theorem Alike.sl {n m:Nat} {g g':Nat→List AV} (hn:n=m) (hg:∀ i,i < m→g' i=g i):Alike (.sl n g) (.sl m g'):=by
 subst hn
 intro w S μ v h
 cases h with
 | sl b off sz f h1 h2 h3 h4 h5=>exact .sl b off sz f h1 (fun i hi=>by rw [hg i hi];exact h2 i hi) h3 (fun i j c hi hc=>h4 i j c hi (by rw [← hg i hi];exact hc)) h5
theorem Alike.nil {g:Nat→List AV}:Alike .nil (.sl 0 g):=by
 intro w S μ v h
 cases h
 exact .sl 0 0 0 (fun _ _=>undef) (fun h=>absurd h (by omega)) (fun i h=>absurd h (by omega)) (fun i j h=>absurd h (by omega)) (fun i j c h=>absurd h (by omega)) (aP _)
theorem Alike.rp {cs:List AV}:Alike (.rp cs 0) (.pt true cs):=fun _ _ _ _ h=>.pt (fun _=>h) (fun h=>by cases h)
inductive AR:List AV→List AV→Prop where
 | nil:AR [] []
 | cons {x y:AV} {xs ys:List AV}:Alike x y→AR xs ys→AR (x :: xs) (y :: ys)
theorem AR.get {xs ys:List AV} (h:AR xs ys):xs.length=ys.length∧∀ (j:Nat) y,ys[j]?=some y→∃ x,xs[j]?=some x∧Alike x y:=by
 induction h with
 | nil=>exact ⟨rfl,fun j y h=>by simp at h⟩
 | cons h1 _ ih =>
  refine ⟨by simp [ih.1],?_⟩
  intro j y hy
  cases j with
  | zero=>simp at hy;subst hy;exact ⟨_,rfl,h1⟩
  | succ j=>exact ih.2 j y (by simpa using hy)
theorem Alike.agg {xs ys:List AV} (h:AR xs ys):Alike (.agg xs) (.agg ys):=by
 intro w S μ v hv
 obtain ⟨h1,h2⟩:=h.get
 cases hv with
 | agg q1 q2 =>
  refine .agg (q1.trans h1) fun j y v hy hv=>?_
  obtain ⟨x,hx,ha⟩:=h2 j y hy
  exact ha _ _ _ _ (q2 j x v hx hv)
theorem Sound.conv {P:Program} {f:FuncId} {args Ww:List AV} {σ dx:du} {m:Nat} {res:AV} (h:Sound P f args σ m res dx) (ha:AR Ww args):Sound P f Ww σ m res dx:=by
 obtain ⟨h1,h2⟩:=ha.get
 intro w S μ vs g hk hl
 refine h w S μ vs g hk ⟨hl.1.trans h1,fun j c v hc hv=>?_⟩
 obtain ⟨x,hx,sG⟩:=h2 j c hc
 exact sG _ _ _ _ (hl.2 j x v hx hv)
def vM (k:IntKind) (a b:Int):Int:=k.wrap (BitVec.ofInt k.bits a ||| BitVec.ofInt k.bits b).toNat
def vP (k:IntKind) (a b:Int):Int:=k.wrap (BitVec.ofInt k.bits a &&& BitVec.ofInt k.bits b).toNat
def iK (k:IntKind) (a b:Int):Int:=k.wrap (a * 2 ^ (min b.toNat k.bits))
def ot (k:IntKind) (a b:Int):Int:=a.fdiv (2 ^ (min b.toNat k.bits))
theorem dm {n:Int} {m:Nat} (h:0≤n∧n < (m:Int)):n.toNat < m:=by omega
theorem uE {a b:Bool} (h:a=true) (k:b=true):(a && b)=true:=by rw [h,k];rfl
theorem UX {α:Type} (c:α→List AV) (d:α) (l:List α) (k:Nat) (x:α) (i:Nat) (hi:i < (l.set k x).length) :
  c ((l.set k x).getD i d)=if i=k then c x else c (l.getD i d):=by
 have oY:i < l.length:=by simpa using hi
 by_cases h:i=k
 ·subst h;simp [oY]
 ·rw [if_neg h]
  have:¬ k=i:=fun e=>h e.symm
  simp [ee,this]
theorem UY {α:Type} (c:α→List AV) (d:α) (l m:List α) (i:Nat) (_:i < (l ++ m).length) :
  c ((l ++ m).getD i d)=if i < l.length then c (l.getD i d) else c (m.getD (i - l.length) d):=by
 by_cases h:i < l.length
 ·rw [if_pos h];simp [ee,eE h]
 ·rw [if_neg h];simp [ee,gF (Nat.le_of_not_lt h)]
theorem qQ {α:Type} (c:α→List AV) (d x:α) (n i:Nat) (hi:i < (List.replicate n x).length):c ((List.replicate n x).getD i d)=c x:=by
 have:i < n:=by simpa using hi
 simp [ee,this]
theorem oZ {α:Type} (c:α→List AV) (d x:α) (n i:Nat) {z:List AV} (h:Ks z (c x)) (hi:i < (List.replicate n x).length):Ks z (c ((List.replicate n x).getD i d)):=by rw [qQ c d x n i hi];exact h
theorem JA {α:Type} (c:α→List AV) (d:α) (l:List α) (a b i:Nat) (hi:i < ((l.take b).drop a).length):c (((l.take b).drop a).getD i d)=c (l.getD (bQ a i) d):=by
 have h1:a+i < min b l.length:=by simp at hi;omega
 rw [dq]
 simp only [ee,kf,kg]
 rw [if_pos (by omega)]
theorem dU {α:Type} (c:α→List AV) (d:α) (l:List α) (i:Nat) (hi:i < l.length):c (l.getD i d)=(l.map c).getD i []:=by
 simp [ee,hi]
theorem UZ {α:Type} (l:List α) (a b:Nat) (h1:a≤b) (h2:b≤l.length):b - a=((l.take b).drop a).length:=by simp;omega
theorem BN {α:Type} (l:List α) (a b:Nat) (h1:a≤b∧b≤l.length):b - a=((l.take b).drop a).length:=UZ l a b h1.1 h1.2
end Go.Ab
namespace Go.Ab
theorem condSplit {α:Type} {q:Bool} {x y r:α} (h:cond q x y=r):(q=true∧x=r)∨(q=false∧y=r):=by cases q with
 | true=>exact .inl ⟨rfl,h⟩
 | false=>exact .inr ⟨rfl,h⟩
theorem dY {α:Type} (c:α→List AV) (d:α) (l m:List α) {n:Nat} {g1 g2:Nat→List AV} (hn:n=l.length) (h1:∀ z,z < l.length→c (l.getD z d)=g1 z)
  (h2:∀ z,z < m.length→c (m.getD z d)=g2 z) (i:Nat) (hi:i < (l ++ m).length):c ((l ++ m).getD i d)=if i < n then g1 i else g2 (i - n):=by
 subst hn
 rw [UY c d l m i hi]
 by_cases h:i < l.length
 ·rw [if_pos h,if_pos h,h1 i h]
 ·rw [if_neg h,if_neg h,h2 (i - l.length) (by simp at hi;omega)]
theorem bD {α:Type} {l m:List α} {n k:Nat} (hn:n=l.length) (hk:k=m.length):n+k=(l ++ m).length:=by subst hn hk;simp
theorem yH {α:Type} (c:α→List AV) (d:α) (l:List α) (k:Nat) (x:α) {g:Nat→List AV} (h1:∀ z,z < l.length→c (l.getD z d)=g z) (i:Nat) (hi:i < (l.set k x).length) :
  c ((l.set k x).getD i d)=if i=k then c x else g i:=by
 rw [UX c d l k x i hi,h1 i (by simpa using hi)]
theorem m7 {α:Type} {l:List α} {n k:Nat} {x:α} (hn:n=l.length):n=(l.set k x).length:=by subst hn;simp
def kp:List Nat→List (Nat×Wd)
 | []=>[]
 | t :: r=>(t,.ai) :: kp r
def kq:List Nat→xZ
 | []=>[]
 | k :: r=>(k,.ai k) :: kq r
def vO (n:Nat) (cs:List AV):Ob:=⟨true,n,1,true,fun _=>cs⟩
def vN (n:Nat) (cs:List AV):Ob:=⟨true,n,1,false,fun _=>cs⟩
def aO {α:Type} (sz:Nat) (c:α→List AV) (d:α) (l:List α):Ob:=⟨false,sz,l.length,true,fun zi=>c (l.getD zi d)⟩
def Wx:Nat→Nat→List Bool→List Bool
 | 0,_,acc=>acc
 | k+1,n,acc=>match Nat.ble n 1 with
  | true=>acc
  | false=>Wx k (n / 2) (Nat.beq (n % 2) 1 :: acc)
def XG (n:Nat):List Bool:=Wx 400 n []
theorem o1:0 < 1:=Nat.one_pos
theorem z0 {n:Nat}:0+n≤n:=Nat.le_of_eq (Nat.zero_add _)
section
variable {P:Program} {E:Env} {fn:FuncId} {nt:Nat} {cG:Value→World→Prop} {k:List Item} {st:St} {m:Nat}
theorem aw.sA (n:Nat) (k':List Item) (hr:aw P E fn nt cG k' st) (h:Ab.CA n k=some k':=by kernel_rfl):aw P E fn nt cG k st:=aw.CA n h hr
theorem aw.sR (hE:aQ E m) (uh:St) (c:Code) (orcs:List (Nat×lZ)) (F:List Nat) (rV:List (Nat×Wd)) (eN:xZ) (nk:Nat) (ps:List Prop) (hp:aW ps) (hr:aw P E fn nt cG k uh)
  (h:Eo P nt m c orcs F rV eN nk st=some (ps,uh):=by kernel_rfl) (hF:(((F.isEmpty && om orcs) || Nat.beq m 0) && On orcs)=true:=by rfl):aw P E fn nt cG (.code c :: k) st:=aw.rw hE h (lW.1 hF).1 (Dg (lW.1 hF).2) hp hr
theorem aw.sRY (hE:aQ E m) (uh:St) (c:Code) (orcs:List (Nat×lZ)) (F:List Nat) (rV:List (Nat×Wd)) (eN:xZ) (nk:Nat) (ps:List Prop) (hp:aW ps) (hy:XC P E orcs) (hr:aw P E fn nt cG k uh)
  (h:Eo P nt m c orcs F rV eN nk st=some (ps,uh):=by kernel_rfl) (hF:((F.isEmpty && om orcs) || Nat.beq m 0)=true:=by rfl):aw P E fn nt cG (.code c :: k) st:=aw.rw hE h hF hy hp hr
theorem aw.sW (hE:aQ E m) (uh:St) (F:List Nat) (rV:List (Nat×Wd)) (eN:xZ) (nk:Nat) (ps:List Prop) (hp:aW ps) (hr:aw P E fn nt cG k uh)
  (h:Dd m st F rV eN nk=some (ps,uh):=by kernel_rfl) (hF:(F.isEmpty || Nat.beq m 0)=true:=by rfl):aw P E fn nt cG k st:=aw.wk hE h hF hp hr
theorem aw.sC {c:Code} (t:Nat) (x y:Code) (q:Bool) (h1:q=true→aw P E fn nt cG (.code x :: k) st) (h2:q=false→aw P E fn nt cG (.code y :: k) st) (hx:c=.cond (.tmp t) x y:=by kernel_rfl) (hc:xH st.tm (.tmp t)=.atom (.bool q):=by kernel_rfl) :
  aw P E fn nt cG (.code c :: k) st:=aw.Wv hx hc h1 h2
theorem aw.sT {c:Code} (f:Func) (ks:List Nat) (ps:List Prop) {res:AV} {dx:du} (hp:aW ps) (hx:c=.ret:=by kernel_rfl) (hf:P.funcs[fn]?=some f:=by kernel_rfl) (h:xL P f st=some (ps,res):=by kernel_rfl)
  (Jy:Aw st.jk ks=dx:=by rfl):aw P E fn nt (aY E dx res) (.code c :: k) st:=aw.acv ks hx hf h Jy hp
theorem aw.sF (f:Func) (ks:List Nat) (ps:List Prop) {res:AV} {dx:du} (hp:aW ps) (hf:P.funcs[fn]?=some f:=by kernel_rfl) (h:xL P f st=some (ps,res):=by kernel_rfl)
  (Jy:Aw st.jk ks=dx:=by rfl):aw P E fn nt (aY E dx res) [] st:=aw.acw ks hf h Jy hp
def nK (n:Nat) (k:List Item):List Item:=match Ab.CA n k with
 | some k'=>k'
 | none=>[]
def Bp:List Item→Code
 | .code c :: _=>c
 | _=>.ret
def U0:List Item→List Item
 | _ :: k=>k
 | []=>[]
def cdX:Code→Code
 | .cond _ x _=>x
 | c=>c
def cdY:Code→Code
 | .cond _ _ y=>y
 | c=>c
def Lb (n:Nat) (k:List Item):Bool:=match Ab.CA n k with
 | some (.code _ :: _)=>true
 | _=>false
def nS (P:Program) (nt m:Nat) (c:Code) (orcs:List (Nat×lZ)) (F:List Nat) (rV:List (Nat×Wd)) (eN:xZ) (nk:Nat) (st:St):St:=match Eo P nt m c orcs F rV eN nk st with
 | some x=>x.2
 | none=>st
def nV (m:Nat) (st:St) (F:List Nat) (rV:List (Nat×Wd)) (eN:xZ) (nk:Nat):St:=match Dd m st F rV eN nk with
 | some x=>x.2
 | none=>st
def HL:Option (List Prop×St)→Option (List Prop)
 | some x=>some x.1
 | none=>none
theorem zL {n:Nat} {k:List Item} (h:Lb n k=true):Ab.CA n k=some (.code (Bp (nK n k)) :: U0 (nK n k)):=by
 unfold Lb at h
 unfold nK
 split at h
 ·rename_i c k' h1;rw [h1];rfl
 ·cases h
theorem nP {x:Option (List Prop×St)} {ps:List Prop} (h:HL x=some ps):∃ s,x=some (ps,s):=by
 cases x with
 | none=>cases h
 | some y=>cases h;exact ⟨y.2,rfl⟩
theorem ah (hE:aQ E m) (n:Nat) (orcs:List (Nat×lZ)) (F:List Nat) (rV:List (Nat×Wd)) (eN:xZ) (nk:Nat) {ps:List Prop} (hp:aW ps)
  (hr:aw P E fn nt cG (U0 (nK n k)) (nS P nt m (Bp (nK n k)) orcs F rV eN nk st)) (h0:Lb n k=true:=by kernel_rfl)
  (h:HL (Eo P nt m (Bp (nK n k)) orcs F rV eN nk st)=some ps:=by kernel_rfl) (hF:(((F.isEmpty && om orcs) || Nat.beq m 0) && On orcs)=true:=by kernel_rfl):aw P E fn nt cG k st:=by
 obtain ⟨s,hs⟩:=nP h
 refine aw.CA n (zL h0) (aw.rw hE hs (lW.1 hF).1 (Dg (lW.1 hF).2) hp ?_)
 have e:nS P nt m (Bp (nK n k)) orcs F rV eN nk st=s:=by unfold nS;rw [hs]
 rw [← e];exact hr
theorem dh (hE:aQ E m) (n:Nat) (F:List Nat) (rV:List (Nat×Wd)) (eN:xZ) (nk:Nat) {ps:List Prop} (hp:aW ps) {k':List Item} {uh:St} (hr:aw P E fn nt cG k' uh)
  (h0:Ab.CA n k=some k':=by kernel_rfl) (h:Dd m st F rV eN nk=some (ps,uh):=by kernel_rfl) (hF:(F.isEmpty || Nat.beq m 0)=true:=by kernel_rfl):aw P E fn nt cG k st :=
 aw.CA n h0 (aw.wk hE h hF hp hr)
theorem Kt (hE:aQ E m) (F:List Nat) (rV:List (Nat×Wd)) (eN:xZ) (nk:Nat) {ps:List Prop} (hp:aW ps) (hr:aw P E fn nt cG k (nV m st F rV eN nk))
  (h:HL (Dd m st F rV eN nk)=some ps:=by kernel_rfl) (hF:(F.isEmpty || Nat.beq m 0)=true:=by kernel_rfl):aw P E fn nt cG k st:=by
 obtain ⟨s,hs⟩:=nP h
 have e:nV m st F rV eN nk=s:=by unfold nV;rw [hs]
 rw [e] at hr
 exact aw.wk hE hs hF hp hr
theorem dK (n t:Nat) {R:Type} {q:Bool} {x y r:R} (h:(bif q then x else y)=r) (h1:q=true→x=r→aw P E fn nt cG (.code (cdX (Bp (nK n k))) :: U0 (nK n k)) st)
  (h2:q=false→y=r→aw P E fn nt cG (.code (cdY (Bp (nK n k))) :: U0 (nK n k)) st) (h0:Lb n k=true:=by kernel_rfl)
  (hx:Bp (nK n k)=.cond (.tmp t) (cdX (Bp (nK n k))) (cdY (Bp (nK n k))):=by kernel_rfl) (hc:xH st.tm (.tmp t)=.atom (.bool q):=by kernel_rfl):aw P E fn nt cG k st :=
 aw.CA n (zL h0) (aw.Wv hx hc (fun hq=>h1 hq (by rw [hq] at h;exact h)) (fun hq=>h2 hq (by rw [hq] at h;exact h)))
theorem dw (hE:aQ E m) (n:Nat) (f:Func) (F:List Nat) (rV:List (Nat×Wd)) (eN:xZ) (nk:Nat) {ps:List Prop} (hp:aW ps) (ks:List Nat) {UF:List Prop} (vE:aW UF) {res:AV} {dx:du}
  (h0:Lb n k=true:=by kernel_rfl) (hx:Bp (nK n k)=.ret:=by kernel_rfl) (h:HL (Dd m st F rV eN nk)=some ps:=by kernel_rfl) (hf:P.funcs[fn]?=some f:=by kernel_rfl)
  (h2:xL P f (nV m st F rV eN nk)=some (UF,res):=by kernel_rfl) (Jy:Aw (nV m st F rV eN nk).jk ks=dx:=by kernel_rfl) (hF:(F.isEmpty || Nat.beq m 0)=true:=by kernel_rfl):aw P E fn nt (aY E dx res) k st:=by
 obtain ⟨s,hs⟩:=nP h
 have e:nV m st F rV eN nk=s:=by unfold nV;rw [hs]
 rw [e] at h2 Jy
 exact aw.CA n (zL h0) (aw.wk hE hs hF hp (aw.sT f ks UF vE hx hf h2 Jy))
theorem rnF (hE:aQ E m) (n:Nat) (f:Func) (F:List Nat) (rV:List (Nat×Wd)) (eN:xZ) (nk:Nat) {ps:List Prop} (hp:aW ps) (ks:List Nat) {UF:List Prop} (vE:aW UF) {res:AV} {dx:du}
  (h0:Ab.CA n k=some []:=by kernel_rfl) (h:HL (Dd m st F rV eN nk)=some ps:=by kernel_rfl) (hf:P.funcs[fn]?=some f:=by kernel_rfl)
  (h2:xL P f (nV m st F rV eN nk)=some (UF,res):=by kernel_rfl) (Jy:Aw (nV m st F rV eN nk).jk ks=dx:=by kernel_rfl) (hF:(F.isEmpty || Nat.beq m 0)=true:=by kernel_rfl):aw P E fn nt (aY E dx res) k st:=by
 obtain ⟨s,hs⟩:=nP h
 have e:nV m st F rV eN nk=s:=by unfold nV;rw [hs]
 rw [e] at h2 Jy
 exact aw.CA n h0 (aw.wk hE hs hF hp (aw.sF f ks UF vE hf h2 Jy))
def ZP (st:St) (k i sz len:Nat) (g:Nat→List AV):Option (List Prop) :=
 match au st.jk k with
 | some o=>match o.var with
  | false=>some [i < o.len,o.get i=[.mr sz len g]]
  | true=>none
 | none=>none
def stO (st:St) (k i sz len:Nat) (g:Nat→List AV):St :=
 match au st.jk k with
 | some o=>⟨st.tm,sset (sset st.jk k ⟨false,o.sz,o.len,false,fun m=>if m=i then [.os st.nk 0 len] else o.get m⟩) st.nk ⟨false,sz,len,true,g⟩,st.nk+16⟩
 | none=>st
theorem RU (k1 i sz len:Nat) (g:Nat→List AV) {ps:List Prop} (hp:aW ps) (hr:aw P E fn nt cG k (stO st k1 i sz len g)) (h:ZP st k1 i sz len g=some ps:=by kernel_rfl):aw P E fn nt cG k st:=by
 refine fun tm w h1 h2=>hr tm w h1 ?_
 obtain ⟨S,μ,g0,hk,hm,ht⟩:=h2
 unfold ZP at h
 unfold stO
 cases ho:au st.jk k1 with
 | none=>rw [ho] at h;cases h
 | some o =>
  rw [ho] at h
  simp only at h ⊢
  cases hv:o.var with
  | true=>rw [hv] at h;cases h
  | false =>
   rw [hv] at h
   simp only [az] at h
   subst h
   obtain ⟨p1,p2,_⟩:=hp
   obtain ⟨q,e1,e2⟩:=g0.opn (hk st.nk (aP _)) hm ho (kM (x:=(sz,len,g)) hv p1 p2)
   exact ⟨S,cm μ st.nk q,e2,fun n hn=>by
    have hn:st.nk+16≤n:=hn
    unfold cm;rw [if_neg (by omega)];exact hk n (by omega),by show E.m0≤st.nk+16;omega,fun t=>(ht t).ext e1⟩
def ZQ (st:St) (k q i:Nat):Option (List Prop) :=
 match Jq st.jk k q i with
 | some x=>some x.1
 | none=>none
def stL (st:St) (k q i:Nat):St :=
 match Jq st.jk k q i with
 | some x=>⟨st.tm,eX st.jk x.2,st.nk⟩
 | none=>st
theorem PN (k1 q i:Nat) {ps:List Prop} (hp:aW ps) (hr:aw P E fn nt cG k (stL st k1 q i)) (h:ZQ st k1 q i=some ps:=by kernel_rfl):aw P E fn nt cG k st:=by
 refine fun tm w h1 h2=>hr tm w h1 ?_
 obtain ⟨S,μ,g0,hk,hm,ht⟩:=h2
 unfold ZQ at h
 unfold stL
 cases hc:Jq st.jk k1 q i with
 | none=>rw [hc] at h;cases h
 | some x =>
  rw [hc] at h
  simp only [az] at h
  subst h
  exact ⟨S,μ,Iz hc hp g0,hk,hm,ht⟩
def mR {α:Type} (sz:Nat) (c:α→List AV) (d:α) (l:List α):List AV:=[.mr sz l.length (fun i=>c (l.getD i d))]
def aM {α:Type} (sz:Nat) (c:α→List AV) (d:α) (l:List (List α)):Ob:=⟨false,1,l.length,false,fun m=>mR sz c d (l.getD m [])⟩
theorem BO {α:Type} {sz:Nat} {c:α→List AV} {d:α} (E:List (List α)) (i q n:Nat) (row:List α) (r:List (Nat×Nat×Nat)) (hi:i < E.length) (hr:∀ x∈r,x.1≠i) :
  ∀ m,m < (E.set i row).length→bk r (fun m=>mR sz c d ((E.set i row).getD m [])) m=if m=i then mR sz c d row else bk ((i,q,n) :: r) (fun m=>mR sz c d (E.getD m [])) m:=by
 intro m _
 have gen:∀ (r:List (Nat×Nat×Nat)),m≠i→bk r (fun m=>mR sz c d ((E.set i row).getD m [])) m=bk r (fun m=>mR sz c d (E.getD m [])) m:=by
  intro r hm
  induction r with
  | nil=>simp only [bk,ee];rw [List.getElem?_set_ne (fun h=>hm h.symm)]
  | cons x r ih =>
   obtain ⟨a,b,e⟩:=x
   simp only [bk,ih]
 by_cases hm:m=i
 ·subst hm
  rw [if_pos rfl]
  clear gen
  induction r with
  | nil=>simp only [bk,ee];rw [List.getElem?_set_self hi];rfl
  | cons x r ih =>
   obtain ⟨a,b,e⟩:=x
   have h1:m≠a:=fun h=>hr (a,b,e) List.mem_cons_self h.symm
   simp only [bk]
   rw [if_neg h1]
   exact ih fun x hx=>hr x (List.mem_cons_of_mem _ hx)
 ·rw [if_neg hm]
  simp only [bk]
  rw [if_neg hm]
  exact gen r hm
theorem ri {α:Type} {sz:Nat} {c:α→List AV} {d:α} (E:List (List α)) (i q n:Nat) (r:List (Nat×Nat×Nat)) (hr:∀ x∈r,x.1≠i) :
  ∀ m,m < E.length→bk r (fun m=>mR sz c d (E.getD m [])) m=if m=i then mR sz c d (E.getD i []) else bk ((i,q,n) :: r) (fun m=>mR sz c d (E.getD m [])) m:=by
 intro m _
 by_cases hm:m=i
 ·subst hm
  rw [if_pos rfl]
  induction r with
  | nil=>rfl
  | cons x r ih =>
   obtain ⟨a,b,e⟩:=x
   have h1:m≠a:=fun h=>hr (a,b,e) List.mem_cons_self h.symm
   simp only [bk]
   rw [if_neg h1]
   exact ih fun x hx=>hr x (List.mem_cons_of_mem _ hx)
 ·rw [if_neg hm]
  simp only [bk]
  rw [if_neg hm]
theorem RV {α:Type} {sz:Nat} {c:α→List AV} {d:α} (E:List (List α)) (i q n:Nat) (row:List α) (r:List (Nat×Nat×Nat)) (he:E.getD i []=row) (hr:∀ x∈r,x.1≠i) :
  ∀ m,m < E.length→bk r (fun m=>mR sz c d (E.getD m [])) m=if m=i then mR sz c d row else bk ((i,q,n) :: r) (fun m=>mR sz c d (E.getD m [])) m:=by
 subst he;exact ri E i q n r hr
theorem rj {α:Type} (E:List (List α)) (row:List α):(E ++ [row]).getD E.length []=row:=by simp
theorem XH {α:Type} (E:List α) (row:α):E.length < (E ++ [row]).length:=by simp
theorem U1 {α:Type} {sz:Nat} {c:α→List AV} {d:α} (E:List (List α)) (row:List α) {q n n2:Nat} {b:Nat→List AV} (h:n=n2) (hb:b 0=[.os q 0 n]) :
  ∀ m,m < (E ++ [row]).length→bk [(E.length,q,n2)] (fun m=>mR sz c d ((E ++ [row]).getD m [])) m=if m < E.length then mR sz c d (E.getD m []) else b (m - E.length):=by
 intro m hm
 subst h
 simp only [mN,List.length_singleton] at hm
 simp only [bk]
 by_cases h1:m=E.length
 ·subst h1;rw [if_pos rfl,if_neg (sN _),Nat.sub_self,hb]
 ·rw [if_neg h1,if_pos (by omega),ee,eE (by omega),ee]
theorem U2 {b:Nat→List AV} {i1:Nat} (i k n n1 N:Nat) (h1:i1=i):∀ m,m < N→bk [(i,k,n1)] b m=if m=i1 then [.os k 0 n1] else bk [(i,k,n)] b m:=by
 intro m _
 subst h1
 simp only [bk]
 split
 ·rfl
 ·rfl
theorem gO {c:Prop} [Decidable c] {x:AV} {l:List AV} (h:c):(if c then [x] else l)[0]?=some x:=by rw [if_pos h];rfl
theorem Dh {i:Nat}:∀ x∈([]:List (Nat×Nat×Nat)),x.1≠i:=fun _ h=>by simp at h
theorem neC {i j k n:Nat} {r:List (Nat×Nat×Nat)} (h:j≠i) (hr:∀ x∈r,x.1≠i):∀ x∈(j,k,n) :: r,x.1≠i:=fun x hx=>by
 rcases jw.1 hx with rfl | hx
 ·exact h
 ·exact hr x hx
theorem pc {p:Prop} {ps:List Prop} (h:p) (t:aW ps):aW (p :: ps):=⟨h,t⟩
theorem pn:aW []:=trivial
theorem z1 (n:Nat):0+n≤n:=z0
theorem cH {α:Type} (c:α→List AV) (d:α) (l:List α) (k:Nat) (x:α) (i:Nat) (hi:i < (l.set k x).length):c ((l.set k x).getD i d)=if i=k then c x else (fun zi=>c (l.getD zi d)) i :=
 yH c d l k x (fun _ _=>rfl) i hi
theorem aG {α:Type} (l:List α) (k:Nat) (x:α):l.length=(l.set k x).length:=m7 rfl
end
def rk {A B:Type} (ck:A→AV) (cv:B→AV):List (A×B)→List AV
 | []=>[]
 | p :: r=>ck p.1 :: cv p.2 :: rk ck cv r
def o6 {A B:Type} (eq:A→A→Bool):List (A×B)→A→B→List (A×B)
 | [],x,y=>[(x,y)]
 | p :: r,x,y=>cond (eq p.1 x) ((p.1,y) :: r) (p :: o6 eq r x y)
theorem U3 {P:Program} {kt:TypeId} (k:IntKind):∀ a b:Int,xG P kt (.atom (.int k a)) (.atom (.int k b))=some (a == b):=fun a b=>by simp [xG]
section
variable {P:Program} {kt:TypeId} {A B:Type} (ck:A→AV) (cv:B→AV) {eq:A→A→Bool} (h:∀ a b,xG P kt (ck a) (ck b)=some (eq a b))
include h
theorem yI:∀ (l:List (A×B)) (x:A) (y:B),AM P kt (rk ck cv l) (ck x) (cv y)=some (rk ck cv (o6 eq l x y))
 | [],x,y=>rfl
 | p :: r,x,y=>by
  simp only [rk,AM,h,o6]
  cases eq p.1 x with
  | true=>rfl
  | false=>simp only [yI r x y];rfl
end
def I:Bool:=true
def wI (x:Int):Prop:=-9223372036854775808≤x∧x≤9223372036854775807
def wK (k:IntKind) (x:Int):Prop:=k.min≤x∧x≤k.max
def wB (_:Bool):Prop:=True
def wL {A:Type} (wf:A→Prop) (l:List A):Prop:=l.length≤9223372036854775807∧∀ y,y∈l→wf y
def kQ {α:Type} (l:List α) (i j:Nat):List α:=l.take i ++ l.drop j ++ l.drop (i+(l.length - j))
theorem E7 {α:Type} {l:List α} {i j:Nat} (h:i≤j∧j≤l.length):l.length=(kQ l i j).length:=by simp [kQ];omega
theorem Oo {α:Type} (c:α→List AV) (d:α) (l:List α) (i j:Nat) (h:i≤j∧j≤l.length) (z:Nat) (hz:z < (kQ l i j).length) :
  c ((kQ l i j).getD z d)=if z < i - 0 then c (l.getD z d) else if z < (i - 0)+(l.length - j) then c (l.getD (bQ j (z - (i - 0))) d) else c (l.getD z d):=by
 have hz:=E7 h ▸ hz
 have e1:(l.take i).length=i:=by simp;omega
 have e2:(l.take i ++ l.drop j).length=i+(l.length - j):=by simp;omega
 simp only [kQ,Nat.sub_zero,ee,dq]
 by_cases h1:z < i
 ·rw [if_pos h1,eE (by omega),eE (by omega),kg,if_pos h1]
 ·rw [if_neg h1]
  by_cases h2:z < i+(l.length - j)
  ·rw [if_pos h2,eE (by omega),gF (by omega),e1,kf]
  ·rw [if_neg h2,gF (by omega),e2,kf]
   rw [show i+(l.length - j)+(z - (i+(l.length - j)))=z by omega]
theorem JB {α:Type} {l:List α} {a n:Nat} (h:0 < n∧a+n≤l.length):a=(l.take a).length:=by simp;omega
theorem RX {α:Type} (c:α→List AV) (d:α) (l:List α) (a z:Nat) (hz:z < (l.take a).length):c ((l.take a).getD z d)=c (l.getD z d):=by
 simp only [ee,kg]
 rw [if_pos (by simp at hz;omega)]
def Qx:Nat→List AV
 | 0=>[]
 | n+1=>.mV :: Qx n
theorem U4 (n:Nat):(Qx n).length=n:=by induction n with
 | zero=>rfl
 | succ n ih=>simp [Qx,ih]
theorem Oq {n j:Nat} {x:AV} (h:(Qx n)[j]?=some x):x=.mV:=by
 induction n generalizing j with
 | zero=>simp [Qx] at h
 | succ n ih=>cases j with
  | zero=>simpa [Qx] using h.symm
  | succ j=>exact ih (by simpa [Qx] using h)
theorem aw.split {P:Program} {E:Env} {fn:FuncId} {nt:Nat} {cG:Value→World→Prop} {kk:List Item} {s0:St} (t k off m:Nat) (o:Ob) (ht:cJ s0.tm t=.os k off m) (ho:au s0.jk k=some o) (hv:(!o.var && Nat.ble 1 o.sz)=true) (hm:bQ off m=o.len)
  (h1:aw P E fn nt cG kk ⟨s0.tm,sset s0.jk k ⟨false,o.sz,bQ off m+1,o.pr,fun i=>if i < bQ off m then o.get i else Qx o.sz⟩,s0.nk⟩)
  (h2:aw P E fn nt cG kk ⟨(t,.Cy k off m) :: s0.tm,s0.jk,s0.nk⟩):aw P E fn nt cG kk s0:=by
 intro tm w hs hr b hb hk cs
 obtain ⟨S,μ,g,lj,oc,ZM⟩:=hr
 simp only [aV,Bool.not_eq_true',Nat.ble_eq] at hv
 have ZR:=ZM t
 rw [show cJ s0.tm t=_ from ht] at ZR
 generalize La:tm.getD t undef=v at ZR
 cases ZR with
 | os pl qP q1 q2 q3 =>
  rename_i cap a
  obtain ⟨iJ,c,T,UU,cE⟩:=g.rep.ob k o ho
  rw [qP] at UU;cases UU
  have ez:bQ off m=off+m:=dq _ _
  by_cases hc:m < cap
  ·have wN:0 < pl.cap:=by omega
   have gw:=g.write ho qP wN cE (by omega) ⟨false,o.sz,bQ off m+1,o.pr,fun i=>if i < bQ off m then o.get i else Qx o.sz⟩ c rfl rfl (show bQ off m+1≤pl.cap by omega) (fun i hi=>by
    show (if i < bQ off m then o.get i else Qx o.sz).length=o.sz
    split
    ·exact cE.tz i (by omega)
    ·exact U4 _) (fun i j x v hi hx hv=>by
    have hx:(if i < bQ off m then o.get i else Qx o.sz)[j]?=some x:=hx
    split at hx
    ·exact cE.rep i j x v (by omega) hx hv
    ·rw [Oq hx];exact .mV) (fun i x hx=>⟨(by
    obtain ⟨_,r2,r3⟩:=dk hx
    have r3:(if i < bQ off m then o.get i else Qx o.sz)=[.mr x.1 x.2.1 x.2.2]:=r3
    split at r3
    ·exact kM hv.1 (by omega) r3
    ·have:=Oq (n:=o.sz) (j:=0) (x:=.mr x.1 x.2.1 x.2.2) (by rw [r3];rfl)
     cases this),rfl⟩)
   have hw:w.setRow pl.b6 c=w:=setRow_self w pl.b6 c T (0,0) ((cE.b6 wN).trans (by rw [fx (by omega)]))
   rw [hw] at gw
   exact h1 tm w hs ⟨S,μ,gw.2,lj,oc,ZM⟩ b hb hk cs
  ·have:cap=m:=by omega
   subst this
   refine h2 tm w hs ⟨S,μ,g,lj,oc,fun t'=>?_⟩ b hb hk cs
   show aq w S μ (tm.getD t' undef) (cJ ((t,.Cy k off cap) ::  s0.tm) t')
   simp only [cJ]
   split
   ·rename_i hb
    rw [← bm hb,La]
    exact .Cy pl qP q1 q3
   ·exact ZM t'
noncomputable def both {A:Type} (x y:Option A):Option A:=open Classical in if x=y then x else none
theorem PO {A:Type} {x y:Option A} {r:A} (h:both x y=some r):x=some r∧y=some r:=by
 unfold both at h
 split at h
 ·rename_i e;exact ⟨h,e ▸ h⟩
 ·cases h
theorem PQ {A:Type} (x:Option A):both x x=x:=by unfold both;rw [if_pos rfl]
end Go.Ab
namespace Go.Ab
open Go.ChangeShapes Go.WideShapes Go.ChangeAt Go.RowKit
def JC (w:World) (b:Nat):Prop:=b < w.heap.size
def D4 (w:World) (cs:List Value) (c:List AV):Prop :=
 cs.length=c.length∧∀ (j:Nat) (a:AV) (v:Value),c[j]?=some a→cs[j]?=some v→aq w (JC w) fV v a
theorem D4.nil {w:World}:D4 w [] []:=⟨rfl,fun j a v h=>by simp at h⟩
theorem D4.append {w:World} {a b:List Value} {c d:List AV} (h1:D4 w a c) (h2:D4 w b d):D4 w (a ++ b) (c ++ d):=by
 refine ⟨by simp [h1.1,h2.1],fun j x v hx hv=>?_⟩
 by_cases hj:j < a.length
 ·rw [eE (by rw [← h1.1];exact hj)] at hx
  rw [eE hj] at hv
  exact h1.2 j x v hx hv
 ·rw [gF (by rw [← h1.1];omega)] at hx
  rw [gF (by omega)] at hv
  rw [← h1.1] at hx
  exact h2.2 _ x v hx hv
theorem D4.step {w:World} {cs:List Value} {o n:Nat} {c d:List AV} (h1:D4 w ((cs.drop o).take n) c) (h2:D4 w (cs.drop (o+n)) d):D4 w (cs.drop o) (c ++ d):=by
 have e:cs.drop o=(cs.drop o).take n ++ cs.drop (o+n):=by rw [← List.drop_drop];exact (List.take_append_drop n _).symm
 rw [e];exact h1.append h2
theorem D4.done {w:World} {cs:List Value} {o:Nat} (h:cs.length=o):D4 w (cs.drop o) []:=by
 rw [List.drop_of_length_le (by omega)];exact .nil
theorem D4.one {w:World} {v:Value} {a:AV} (h:aq w (JC w) fV v a):D4 w [v] [a]:=by
 refine ⟨rfl,fun j x u hx hu=>?_⟩
 cases j with
 | zero=>simp at hx hu;subst hx hu;exact h
 | succ j=>simp at hx
def mf (P:Program) (t:TypeId) {A:Type} (wf:A→Prop) (c:A→List AV):Prop :=
 ∀ (H:Type) (enc:TypeId×Value→H) (w:World) (n:Nat) (cs:List Value) (x:DataW H×List MemPlace),DataW.trod enc P w 0 (fun _=>true) true n t cs=some x→∃ y:A,wf y∧D4 w cs (c y)
variable {P:Program} {t e:TypeId}
theorem mf.int (ht:P.underlying t=some (.int .i64)):mf P t wI cI:=by
 intro H enc w n cs x h
 obtain ⟨n,rfl,_,hw⟩:=DataW.trod_int ht h
 refine ⟨n,?_,D4.one (.atom _)⟩
 simp [Lit.wf,IntKind.min,IntKind.max,IntKind.signed,IntKind.bits] at hw
 exact ⟨by omega,by omega⟩
theorem mf.acy {k:IntKind} (ht:P.underlying t=some (.int k)):mf P t (wK k) (cU k):=by
 intro H enc w n cs x h
 obtain ⟨n,rfl,_,hw⟩:=DataW.trod_int ht h
 refine ⟨n,?_,D4.one (.atom _)⟩
 simp [Lit.wf] at hw
 exact ⟨hw.1,hw.2⟩
theorem mf.bool (ht:P.underlying t=some .bool):mf P t wB cB:=by
 intro H enc w n cs x h
 obtain ⟨b,rfl,_⟩:=DataW.trod_bool ht h
 exact ⟨b,trivial,D4.one (.atom _)⟩
theorem Lc {a:Addr} (h:a.spot=none) (n:Nat):a.add n=⟨a.block,a.off+n,none⟩:=by
 obtain ⟨b,o,s⟩:=a
 simp only at h;subst h
 unfold Addr.add
 by_cases h:n=0<;>simp [h]
theorem mf.slice {A:Type} {wf:A→Prop} {c:A→List AV} (d:A) (ht:P.underlying t=some (.slice e)) (he:mf P e wf c) {sz:Nat} (hs:P.cellsOf e=sz) (hz:0 < sz) (hc:∀ y,(c y).length=sz) :
  mf P t (wL wf) (fun l=>[aK c d l]):=by
 intro H enc w n cs x h
 rcases Go.Deep.open_slice ht h with ⟨rfl,_⟩ | ⟨a,len,cap,m,k,D,Pl,rfl,_,hlc,hcm,hm,_,hx⟩
 ·refine ⟨[],⟨by simp,by simp⟩,D4.one ?_⟩
  exact .sl 0 0 0 (fun _ _=>default) (fun h=>absurd h (dP _)) (fun i h=>absurd h (dP _)) (fun i j h=>absurd h (dP _)) (fun i j c h=>absurd h (dP _)) (aP _)
 ·simp only [if_true] at hm
  subst hm
  rw [hs] at hx
  have sG:∀ i,i < len→∃ z:List Value×A,w.cells? 0 (a.add (i * sz)) sz=some z.1∧wf z.2∧D4 w z.1 (c z.2):=fun i hi=>by
   obtain ⟨Is,h1,h2⟩:=hx i (by omega)
   obtain ⟨y,hy,Hy⟩:=he H enc w k Is _ h2
   exact ⟨(Is,y),h1,hy,Hy⟩
  haveI:Inhabited (List Value×A):=⟨([],d)⟩
  obtain ⟨Z,hZ⟩:=Go.Deep.choose_lt sG
  have hlen:((List.range len).map fun i=>(Z i).2).length=len:=by simp
  have oa:∀ i,i < len→((List.range len).map fun i=>(Z i).2).getD i d=(Z i).2:=fun i hi=>by
   simp [List.getD,hi]
  have sI:∀ i j,i < len→j < sz→w.cell? ((a.add (i * sz)).add j)=some ((Z i).1.getD j default):=fun i j hi hj=>by
   obtain ⟨_,hl,hg⟩:=World.cells?_some (hZ i hi).1
   rw [hg j hj]
   have:j < (Z i).1.length:=by omega
   simp [List.getD,this]
  have RY:0 < len→a.spot=none∧a.block < w.heap.size:=fun h0=>by
   have:=sI 0 0 h0 hz
   simp only [Nat.zero_mul,Addr.add,if_true] at this
   unfold World.cell? at this
   split at this
   ·rename_i cc tt ff hh
    refine ⟨?_,(Array.getElem?_eq_some_iff.1 hh).1⟩
    cases hs:a.spot with
    | none=>rfl
    | some z=>simp [hs] at this
   ·cases this
  refine ⟨(List.range len).map fun i=>(Z i).2,⟨by rw [hlen];unfold maxLen at hcm;omega,?_⟩,D4.one ?_⟩
  ·intro y hy
   simp only [List.mem_map,mO] at hy
   obtain ⟨i,hi,rfl⟩:=hy
   exact (hZ i hi).2.1
  ·unfold aK
   rw [hlen]
   refine .sl a.block a.off sz (fun i j=>(Z i).1.getD j default) (fun h0=>⟨?_,(RY h0).2⟩) (fun i hi=>hc _) (fun i j hi hj=>?_) (fun i j x hi hx=>?_) hlc
   ·have:=(RY h0).1
    obtain ⟨b,o,s⟩:=a
    simp only at this;subst this;rfl
   ·have h0:=(RY (by omega)).1
    have:=sI i j hi hj
    rwa [Lc h0,Lc rfl] at this
   ·rw [oa i hi] at hx
    have hj:j < (c (Z i).2).length:=(dd.1 hx).1
    have Qv:j < (Z i).1.length:=by rw [(hZ i hi).2.2.1];exact hj
    refine (hZ i hi).2.2.2 j x _ hx ?_
    simp [List.getD,Qv]
theorem xa {H:Type} {enc:TypeId×Value→H} {w:World} {fs:Array Field} {n:Nat} {cs:List Value} {x:DataW H×List MemPlace} (ht:P.underlying t=some (.struct fs)) (h:DataW.trod enc P w 0 (fun _=>true) true n t cs=some x) :
  cs.length=P.cellsOf t∧∃ m,∀ (i:Nat) (f:Field),fs[i]?=some f→∃ y,DataW.trod enc P w 0 (fun _=>true) true m f.type ((cs.drop f.offset).take (P.cellsOf f.type))=some y:=by
 obtain ⟨xs,m,_,_,hl,hx,hf⟩:=DataW.trod_struct ht h
 refine ⟨hl,m,fun i f hi=>?_⟩
 rw [hf i f hi]
 have:i < xs.length:=by rw [hx];exact (Array.getElem?_eq_some_iff.1 hi).1
 exact ⟨xs[i],ke this⟩
theorem xc {H:Type} {enc:TypeId×Value→H} {w:World} {fs:Array Field} {m:Nat} {cs:List Value} (hf:∀ (i:Nat) (f:Field),fs[i]?=some f→∃ y,DataW.trod enc P w 0 (fun _=>true) true m f.type ((cs.drop f.offset).take (P.cellsOf f.type))=some y)
  (i:Nat) {te:TypeId} (o n:Nat) {A:Type} {wf:A→Prop} {c:A→List AV} (he:mf P te wf c) (hi:(fs[i]?).map (fun (f:Field)=>(f.type,f.offset))=some (te,o)) (hn:P.cellsOf te=n):∃ y:A,wf y∧D4 w ((cs.drop o).take n) (c y):=by
 simp only [aJ,ay] at hi
 obtain ⟨f,YS,YT,hf3⟩:=hi
 obtain ⟨y,hy⟩:=hf i f YS
 rw [YT,hf3,hn] at hy
 exact he H enc w m _ y hy
section
variable {H:Type} {enc:TypeId×Value→H} {w:World} {base:Nat} {v:Value} {d:DataW H} {ps:List MemPlace} {A:Type} {wf:A→Prop}
theorem U5 {g:A→AV} (ho:mf P t wf (fun l=>[g l])) (hv:v.cells=#[v]) (h:DataW.Trod enc P w 0 (fun _=>true) true t v d ps):∃ y,wf y∧aq w (JC w) fV v (g y):=by
 obtain ⟨n,hn⟩:=h
 rw [hv] at hn
 obtain ⟨y,hy,hs⟩:=ho H enc w n _ _ hn
 exact ⟨y,hy,hs.2 0 _ _ rfl rfl⟩
theorem Ld {g:A→AV} (ht:P.underlying t=some (.slice e)) (ho:mf P t wf (fun l=>[g l])) (hv:Value.okWide P w .any base t v) (h:DataW.Trod enc P w 0 (fun _=>true) true t v d ps):∃ y,wf y∧aq w (JC w) fV v (g y):=by
 obtain ⟨a,l,c,rfl⟩:=okWide_slice ht hv
 exact U5 ho rfl h
theorem PR {fs:Array Field} {c:A→List AV} (ht:P.underlying t=some (.struct fs)) (ho:mf P t wf c) (hv:Value.okWide P w .any base t v) (h:DataW.Trod enc P w 0 (fun _=>true) true t v d ps):∃ y,wf y∧aq w (JC w) fV v (.agg (c y)):=by
 obtain ⟨cs,rfl,_⟩:=okWide_struct ht hv
 obtain ⟨n,hn⟩:=h
 obtain ⟨y,hy,hs⟩:=ho H enc w n _ _ hn
 refine ⟨y,hy,.agg (by simpa [Value.cells] using hs.1) fun j x u hx hu=>hs.2 j x u hx (by simpa [Value.cells] using hu)⟩
theorem RL.nil {S:Nat→Prop} {μ:Mu}:RL w S μ #[] []:=⟨rfl,fun j c v h=>by simp at h⟩
theorem rl3 {S:Nat→Prop} {μ:Mu} {v0 v1 v2:Value} {a0 a1 a2:AV} (h0:aq w S μ v0 a0) (h1:aq w S μ v1 a1) (h2:aq w S μ v2 a2):RL w S μ #[v0,v1,v2] [a0,a1,a2]:=by
 refine ⟨rfl,fun j c v hc hv=>?_⟩
 match j with
 | 0=>simp at hc hv;subst hc hv;exact h0
 | 1=>simp at hc hv;subst hc hv;exact h1
 | 2=>simp at hc hv;subst hc hv;exact h2
 | j+3=>simp at hc
end
theorem Ot {H:Type} {enc:TypeId×Value→H} (hl:laidOutB P=true) {W W':World} (hb:Below W.heap.size W W') (sp:Nat→Bool) :
  ∀ (ts:List TypeId) (vs:List Value) (ds:List (DataW H)) (p:List MemPlace),(ts.all fun t=>P.readableRec t && decide (t < P.types.size))=true→(∀ x∈p,x.block < W.heap.size)→(∀ x∈p,sp x.block=true) →
   DataW.TrodAll enc P W 0 (fun _=>true) true ts vs ds p→DataW.TrodAll enc P W' 0 sp true ts vs ds p
 | [],[],[],_,_,_,_,h=>h
 | t :: ts,v :: vs,d :: ds,p,hr,ft,Qq,h=>by
  obtain ⟨a,b,h1,h2,rfl⟩:=h
  simp only [List.all_cons,aV,decide_eq_true_eq] at hr
  refine ⟨a,b,?_,Ot hl hb sp ts vs ds b (by simpa using hr.2) (fun x hx=>ft x (by simp [hx])) (fun x hx=>Qq x (by simp [hx])) h2,rfl⟩
  exact WideElems.Trod_stays hl hr.1.1 hr.1.2 h1 (fun x hx=>hb.same (ft x (by simp [hx]))) (fun x hx=>Qq x (by simp [hx]))
theorem RZ {H:Type} {enc:TypeId×Value→H} {f:FuncId} {fn:Func} {s:ChangeSpec} {apart fresh handsOn again:Bool} {W:World} {args:Array Value} {ds gs:List (DataW H)} {before:List MemPlace} {tb:TypeId} {avs:List AV}
  (Wy:s.vars=[]) (hl:laidOutB P=true) (ZS:(fn.params.toList.all fun t=>P.readableRec t && decide (t < P.types.size))=true) (KP:fn.resultTypes=#[tb]) (hb:P.underlying tb=some .bool)
  (YN:s.fn H ds={ results:=[.lit (.bool true)],args:=ds })
  (hW:DataW.Whole enc P fn.params.toList s.vars apart W args.toList ds gs before)
  (ZT:RL W (JC W) fV args avs) (hs:Sound P f avs [] 0 (aB true) []) :
  Calls P f args W fun e W'=>∃ v,e=.returned v∧s.post enc P fn apart fresh handsOn again W args v W':=by
 have ZU:Good (tC W (JC W) [] fV 0) [] (JC W) fV W:=by
  refine ⟨Fr.refl _ _,fun _ h=>h,fun _ h=>h,fun _ h=>.inl h,?_,fun k o pl h=>(by cases h),fun k hk=>absurd hk (dP _),MX.nil fun k o i h=>by cases h⟩
  constructor<;>intros<;>simp_all [au]
 refine (hs W (JC W) fV args ZU (fun _ _=>rfl) ZT).mono fun e W' ⟨v,S',cD,he,hg,hv⟩=>?_
 have MU:Below W.heap.size W W':=⟨hg.fr.os,hg.fr.tape,hg.fr.output,hg.fr.size,fun b hb=>hg.fr.b6 b hb (fun h=>h.elim (fun ⟨k,o,pl,h,_⟩=>by cases h) (fun ⟨k,i,x,v,⟨o,pl,h,_⟩,_⟩=>by cases h))⟩
 have oJ:v=.bool true:=by cases hv;rfl
 subst he oJ
 refine ⟨_,rfl,?_⟩
 have hW':=hW
 obtain ⟨p,q,hA,hV,rfl,hfz,Us⟩:=hW
 rw [Wy] at hV
 obtain ⟨rfl,rfl⟩:=trodVars_none hV
 rw [List.append_nil] at hW'
 have ft:∀ x∈p,x.block < W.heap.size:=fun x hx=>hW'.lt x hx
 have hre:∀ sp:Nat→Bool,(∀ x∈p,sp x.block=true)→DataW.TrodAll enc P W' 0 sp true fn.params.toList args.toList (s.fn H (ds ++ [])).args p:=fun sp Qq=>by
  rw [List.append_nil,YN]
  exact Ot hl MU sp _ _ _ _ ZS ft Qq hA
 have XB:∀ sp:Nat→Bool,DataW.TrodVars enc P W' sp s.vars (s.fn H (ds ++ [])).vars []:=fun sp=>by
  rw [List.append_nil,YN,Wy];rfl
 have ZV:∀ (b:Nat) (sp:Nat→Bool) (hd:Bool),DataW.TrodAll enc P W' b sp hd fn.resultTypes.toList ((Value.bool true).resultList fn.resultTypes.size) (s.fn H (ds ++ [])).results []:=fun b sp hd=>by
  rw [List.append_nil,YN,KP]
  exact trodAll_mk1 (shut_bool hb true)
 refine ⟨ds,[],p,[],p,[],hW',ZV _ _ _,hre _ (fun x hx=>by simpa using ft x hx),XB _,World.keptBut_mono (fun x hx=>⟨hx,Or.inr (Or.inl hx)⟩) (MU.frame _),fun _=>?_⟩
 refine ⟨ok_one KP rfl (okWide_bool_mk hb _),(s.fn H (ds ++ [])).results ++ (s.fn H (ds ++ [])).args,_,p,⟨p,[],trodAll_append (hre _ (fun _ _=>rfl)) (ZV _ _ _),XB _,by simp,?_,by simpa using Us⟩,fun x hx _=>hx⟩
 ·intro b off hp
  exact (MU.frozen (ft _ hp)).trans (hfz b off (by simpa using hp))
end Go.Ab
namespace Go.Ab
def uF:Obj→Bool
 | .loop _=>true
 | .deferred _=>true
 | .mapIter _ _ _ _=>true
 | _=>false
theorem MV (sz:Nat) (c:Array Value) (T:TypeId):uF (AE sz c T)=false:=by
 cases sz<;>rfl
theorem tH {w:World} {l:Nat} {o o':Obj} (h:w.heap[l]?=some o) (ho:uF o=true) (m5:uF o'=true) (a:Addr):(w.putObj l o').cell? a=w.cell? a:=by
 unfold World.cell?
 by_cases e:a.block=l
 ·rw [e,h,World.putObj_heap_same (Array.getElem?_eq_some_iff.1 h).1]
  cases o<;>cases o'<;>simp_all [uF]
 ·rw [World.putObj_heap_other e]
theorem aq.fb {w w':World} {S S':Nat→Prop} (hS:∀ b,S b→S' b) (hc:∀ a,w'.cell? a=w.cell? a) {μ:Mu} {v:Value} {x:AV} (h:aq w S μ v x):aq w' S' μ v x:=by
 induction h with
 | atom v=>exact .atom v
 | agg h1 _ ih=>exact .agg h1 ih
 | tup h1 _ ih=>exact .tup h1 ih
 | sl b off sz f h1 h2 h3 _ h5 ih=>exact .sl b off sz f (fun hl=>⟨(h1 hl).1,hS _ (h1 hl).2⟩) h2 (fun i j hi hj=>(hc _).trans (h3 i j hi hj)) ih h5
 | rp b o f h1 h2 _ ih=>exact .rp b o f (hS _ h1) (fun j hj=>(hc _).trans (h2 j hj)) ih
 | op pl h=>exact .op pl h
 | os pl h h1 h2 h3=>exact .os pl h h1 h2 h3
 | fn h1 h2 _ _ Kk Kl=>exact .fn h1 h2 Kk Kl
 | when _ hu ih=>exact .when ih hu
 | mp pl h=>exact .mp pl h
 | bn b h=>exact .bn b h
 | pt _ h2 ih=>exact .pt ih h2
 | ov pl h h1=>exact .ov pl h h1
 | Cy pl h h1 h2=>exact .Cy pl h h1 h2
 | nq _ h1 h2 ih=>exact .nq ih h1 h2
 | nil=>exact .nil
 | mV=>exact .mV
 | mr=>exact .mr
theorem gy.fb {w w':World} {S S':Nat→Prop} {μ:Mu} {o:Ob} {pl:Place} {c:Array Value} {T:TypeId} (h:gy w S μ o pl c T) (hS:∀ b,S b→S' b) (hc:∀ a,w'.cell? a=w.cell? a)
  (hb:0 < pl.cap→w'.heap[pl.b6]?=w.heap[pl.b6]?) (ho:0 < pl.cap→¬ S' pl.b6):gy w' S' μ o pl c T :=
 { h with
  b6:=fun hc=>(hb hc).trans (h.b6 hc)
  out:=ho
  rep:=fun i j x v hi hx hv=>(h.rep i j x v hi hx hv).fb hS hc
  mp:=fun hz=>let ⟨h0,h1,h2,h3,h4⟩:=h.mp hz;⟨h0,h1,h2,h3,fun j x v hx hv=>(h4 j x v hx hv).fb hS hc⟩ }
theorem Good.JD {E:Env} {σ:du} {S:Nat→Prop} {μ:Mu} {w:World} (g:Good E σ S μ w) {k:Nat} {o:Ob} {pl:Place} (ho:au σ k=some o) (hm:μ k=some pl) (hc:0 < pl.cap) {l:Nat} {ob:Obj}
  (hl:w.heap[l]?=some ob) (ha:uF ob=true):pl.b6≠l:=by
 obtain ⟨iJ,c,T,fy,h⟩:=g.rep.ob k o ho
 rw [hm] at fy;cases fy
 rintro rfl
 rw [h.b6 hc] at hl
 cases hl
 rw [MV] at ha;cases ha
theorem Good.MW {E:Env} {σ:du} {S:Nat→Prop} {μ:Mu} {w:World} (g:Good E σ S μ w) {k i:Nat} {x:Nat×Nat×(Nat→List AV)} {v:Value} {b:Nat} (hv:gR w μ σ k i x v) (hb:ptrTo v b) {l:Nat} {ob:Obj}
  (hl:w.heap[l]?=some ob) (ha:uF ob=true):b≠l:=by
 obtain ⟨_,_,_,c,T,h⟩:=g.mx.b6 hv hb
 rintro rfl
 rw [h] at hl
 cases hl;cases ha
theorem Good.IM {E:Env} {σ:du} {S:Nat→Prop} {μ:Mu} {w:World} (g:Good E σ S μ w) {l:Nat} {ob:Obj} (hl:w.heap[l]?=some ob) (ha:uF ob=true):¬ Mx w σ μ l:=by
 rintro (⟨k,o,pl,ho,hm,hc,he⟩ | ⟨k,i,x,v,hv,hb⟩)
 ·exact g.JD ho hm hc hl ha he
 ·exact g.MW hv hb hl ha rfl
theorem MX.aux {fp Wc:Nat→Prop} {n0 We:Nat} {w w':World} {S S':Nat→Prop} {μ:Mu} {σ:du} (h:MX fp n0 w S μ σ) (hS:∀ b,S b→S' b) (hc:∀ a,w'.cell? a=w.cell? a)
  (hp:∀ k i x v b,gR w' μ σ k i x v→gR w μ σ k i x v→ptrTo v b→w'.heap[b]?=w.heap[b]?∧¬ S' b∧((fp b∨n0≤b)→(Wc b∨We≤b))):MX Wc We w' S' μ σ:=by
 have back:∀ {k i x v},gR w' μ σ k i x v→gR w μ σ k i x v:=fun ⟨o,pl,h1,h2,h3,h4⟩=>⟨o,pl,h1,h2,h3,by rw [← hc];exact h4⟩
 refine ⟨fun k i x v hv=>?_,fun k i x v b hv=>h.obj k i x v b (back hv),fun k i x v b k' i' x' v' hv oJ=>h.two k i x v b k' i' x' v' (back hv) (back oJ)⟩
 obtain ⟨a,cap,rfl,h1,h2,h3⟩:=h.row _ _ _ _ (back hv)
 refine ⟨a,cap,rfl,h1,h2,fun wN=>?_⟩
 obtain ⟨b,c,T,rfl,h4,h5⟩:=h3 wN
 obtain ⟨p1,p2,p3⟩:=hp _ _ _ _ b hv (back hv) ⟨_,_,rfl,wN⟩
 exact ⟨b,c,T,rfl,h4.fb hS hc (fun _=>p1) (fun _=>p2),p3 h5⟩
theorem Good.put {E:Env} {σ:du} {S:Nat→Prop} {μ:Mu} {w:World} (g:Good E σ S μ w) {l:Nat} {o o':Obj} (h:w.heap[l]?=some o) (ho:uF o=true) (m5:uF o'=true) (hl:E.w0.heap.size≤l∨E.fp l) :
  Good E σ S μ (w.putObj l o'):=by
 have hc:=tH h ho m5
 refine ⟨⟨g.fr.os,g.fr.tape,g.fr.output,by simpa using g.fr.size,fun b hb hf=>?_⟩,g.S0,fun b hb=>by simpa using g.S1 b hb,g.S2,⟨fun k x hx=>?_,g.rep.ne⟩,g.own,g.Bo,
  g.mx.aux (fun _ h=>h) hc fun k i x v b _ hv hb=>⟨World.putObj_heap_other (g.MW hv hb h ho),(g.mx.b6 hv hb).2.1,fun h=>h⟩⟩
 ·have ec:b≠l:=by rintro rfl;rcases hl with h | h;omega;exact hf h
  rw [World.putObj_heap_other ec];exact g.fr.b6 b hb hf
 ·obtain ⟨pl,c,T,hm,hr⟩:=g.rep.ob k x hx
  exact ⟨pl,c,T,hm,hr.fb (fun _ h=>h) hc (fun rY=>World.putObj_heap_other (g.JD hx hm rY h ho)) hr.out⟩
theorem Good.aux {E:Env} {σ:du} {S:Nat→Prop} {μ:Mu} {w:World} (g:Good E σ S μ w) (o:Obj) (ho:uF o=true) :
  Ext w S μ (w.alloc o) (fun b=>S b∨b=w.heap.size) μ∧Good E σ (fun b=>S b∨b=w.heap.size) μ (w.alloc o):=by
 have hold:∀ b,b < w.heap.size→(w.alloc o).heap[b]?=w.heap[b]?:=fun b hb=>eh hb
 have QG:(w.alloc o).heap[w.heap.size]?=some o:=World.alloc_heap_new w o
 have e:Ext w S μ (w.alloc o) (fun b=>S b∨b=w.heap.size) μ:=⟨by simp,fun _ h=>.inl h,fun b hb=>hold b (g.S1 b hb),fun _ _ h=>h⟩
 refine ⟨e,⟨g.fr.os,g.fr.tape,g.fr.output,by have:=g.fr.size;simp;omega,fun b hb hf=>(hold b (lX hb g.fr.size)).trans (g.fr.b6 b hb hf)⟩,fun b hb=>.inl (g.S0 b hb),?_,?_,⟨fun k x hx=>?_,g.rep.ne⟩,g.own,g.Bo,g.Ml hold (fun _ h=>.inl h) (fun b h=>h.elim .inl fun h=>.inr (Nat.le_of_eq h.symm))⟩
 ·rintro b (hb | rfl)
  ·have:=g.S1 b hb;simp;omega
  ·simp
 ·rintro b (hb | rfl)
  ·exact g.S2 b hb
  ·exact .inr g.fr.size
 ·obtain ⟨pl,c,T,hm,hr⟩:=g.rep.ob k x hx
  have ft:0 < pl.cap→pl.b6 < w.heap.size:=fun hc=>cr (hr.b6 hc)
  refine ⟨pl,c,T,hm,hr.ext e (fun hc=>hold _ (ft hc)) (fun hc=>?_)⟩
  rintro (h | h)
  ·exact hr.out hc h
  ·have:=ft hc;omega
def rl (w:World) (S:Nat→Prop) (σ:du) (μ:Mu) (m:Nat):Env:=⟨w,S,Mx w σ μ,μ,m⟩
theorem Good.base {E:Env} {σ:du} {S:Nat→Prop} {μ:Mu} {w:World} (g:Good E σ S μ w) (m:Nat):Good (rl w S σ μ m) σ S μ w :=
 ⟨Fr.refl _ _,fun _ h=>h,g.S1,fun _ h=>.inl h,g.rep,fun k o pl ho hm hc=>.inl (.inl ⟨k,o,pl,ho,hm,hc,rfl⟩),fun _ _=>rfl,
  g.mx.aux (fun _ h=>h) (fun _=>rfl) fun k i x v b hv _ hb=>⟨rfl,(g.mx.b6 hv hb).2.1,fun _=>.inl (.inr ⟨k,i,x,v,hv,hb⟩)⟩⟩
theorem Good.MY {E:Env} {σ dx:du} {S S':Nat→Prop} {μ cD:Mu} {w w':World} (g:Good E σ S μ w) {m:Nat} (hm:E.m0≤m) (g':Good (rl w S σ μ m) dx S' cD w'):Good E dx S' cD w':=by
 have HI:∀ b,Mx w σ μ b→E.fp b∨E.w0.heap.size≤b:=by
  rintro b (⟨k,o,pl,ho,hm,hc,rfl⟩ | ⟨k,i,x,v,hv,hb⟩)
  ·exact g.own k o pl ho hm hc
  ·exact (g.mx.b6 hv hb).2.2.1
 refine ⟨⟨g'.fr.os.trans g.fr.os,g'.fr.tape.trans g.fr.tape,g'.fr.output.trans g.fr.output,dp g.fr.size g'.fr.size,fun b hb hf=>?_⟩,fun b hb=>g'.S0 b (g.S0 b hb),g'.S1,fun b hb=>?_,g'.rep,fun k o pl ho hm hc=>?_,fun k hk=>?_,
  g'.mx.aux (fun _ h=>h) (fun _=>rfl) fun k i x v b hv _ hb=>⟨rfl,(g'.mx.b6 hv hb).2.1,fun h=>h.elim (HI b) fun h=>.inr (dp g.fr.size h)⟩⟩
 ·refine (g'.fr.b6 b (lX hb g.fr.size) fun h=>?_).trans (g.fr.b6 b hb hf)
  rcases HI b h with h1 | h1
  ·exact hf h1
  ·omega
 ·rcases g'.S2 b hb with h1 | h1
  ·exact g.S2 b h1
  ·exact .inr (dp g.fr.size h1)
 ·rcases g'.own k o pl ho hm hc with h1 | h1
  ·exact HI _ h1
  ·exact .inr (dp g.fr.size h1)
 ·rw [g'.Bo k (lX hk hm)];exact g.Bo k hk
theorem Good.ZW {E:Env} {σ:du} {S:Nat→Prop} {μ:Mu} {w:World} (g:Good E σ S μ w) {l:Nat} {o o':Obj} (h:w.heap[l]?=some o) (ho:uF o=true) (m5:uF o'=true) (m:Nat) :
  Good (rl (w.putObj l o') S σ μ m) σ S μ (w.putObj l o'):=by
 have hc:=tH h ho m5
 refine ⟨Fr.refl _ _,fun _ h=>h,fun b hb=>by simpa using g.S1 b hb,fun _ h=>.inl h,⟨fun k x hx=>?_,g.rep.ne⟩,fun k o pl ho hm hc=>.inl (.inl ⟨k,o,pl,ho,hm,hc,rfl⟩),fun _ _=>rfl,
  g.mx.aux (fun _ h=>h) hc fun k i x v b oJ hv hb=>⟨World.putObj_heap_other (g.MW hv hb h ho),(g.mx.b6 hv hb).2.1,fun _=>.inl (.inr ⟨k,i,x,v,oJ,hb⟩)⟩⟩
 obtain ⟨pl,c,T,hm,hr⟩:=g.rep.ob k x hx
 exact ⟨pl,c,T,hm,hr.fb (fun _ h=>h) hc (fun rY=>World.putObj_heap_other (g.JD hx hm rY h ho)) hr.out⟩
def WI (P:Program) (E:Env) (nt:Nat) (c:Code) (st uh:St):Prop:=∀ (l:Nat) (tm:Array Value) (w:World),tm.size=nt→HC E st tm w →
 c.wpIn (FW (some l)) 0 P (fun e a w'=>e=.normal∧a.tmps.size=nt∧a.defers=[]∧HC E uh a.tmps w') ⟨tm,[]⟩ w
theorem WI.seq {P:Program} {E:Env} {nt:Nat} {x y:Code} {st IP Wz:St} (h1:WI P E nt x st IP) (h2:WI P E nt y IP Wz):WI P E nt (.seq x y) st Wz:=by
 intro l tm w hs hr
 refine wpIn_seq (wpIn_mono (h1 l tm w hs hr) ?_)
 rintro e ⟨t,ds⟩ w' ⟨rfl,q1,q2,q3⟩
 simp only at q1 q2
 subst q2
 exact h2 l t w' q1 q3
theorem WI.block {P:Program} {E:Env} {nt:Nat} {id:Nat} {x:Code} {st IP:St} (h1:WI P E nt x st IP):WI P E nt (.block id x) st IP:=by
 intro l tm w hs hr
 refine wpIn_block (wpIn_mono (h1 l tm w hs hr) ?_)
 rintro e a w' ⟨rfl,q1,q2,q3⟩
 exact ⟨rfl,q1,q2,q3⟩
theorem WI.rw {P:Program} {E:Env} {nt m:Nat} {c:Code} {orcs:List (Nat×lZ)} {F:List Nat} {rV:List (Nat×Wd)} {eN:xZ} {nk:Nat} {st uh:St} (hE:aQ E m) {ps:List Prop}
  (h:Eo P nt m c orcs F rV eN nk st=some (ps,uh)) (hF:(((F.isEmpty && om orcs) || Nat.beq m 0) && On orcs)=true) (hp:aW ps):WI P E nt c st uh:=by
 intro l tm w hs hr
 unfold Eo at h
 split at h
 ·rename_i p1 s1 h1
  split at h
  ·rename_i q1 s2 h2
   simp only [az,ay] at h
   obtain ⟨rfl,rfl⟩:=h
   obtain ⟨ug,vE⟩:=aW.app hp
   obtain ⟨hF,hY⟩:=lW.1 hF
   have hz:om orcs=true∨∀ b,¬ E.fp b:=by
    rcases Bool.or_eq_true_iff.1 hF with h | h
    ·exact .inl (lW.1 h).2
    ·exact .inr (hE.fp (bm h))
   have ZO:F.isEmpty=true∨∀ b,¬ E.fp b:=by
    rcases Bool.or_eq_true_iff.1 hF with h | h
    ·exact .inl (lW.1 h).1
    ·exact .inr (hE.fp (bm h))
   refine wpIn_mono (yG (rd:=some l) (ds:=[]) hz (Dg hY) h1 ug hs hr) ?_
   rintro e a w' ⟨rfl,q1,q2,q3⟩
   refine ⟨rfl,q1,q2,BL (by rw [hE.m0];exact h2) vE ZO q3⟩
  ·cases h
 ·cases h
def qR (r:Loop) (vs:Array Value):Array Value:=(r.params.zip vs).foldl (fun tmps (t,a)=>tmps.setIfInBounds t a) r.tmps
theorem XI {P:Program} {E:Env} {l nt:Nat} {r:Loop} (hl:E.w0.heap[l]?=some (.loop r)) (HI:¬ E.fp l) (zs:r.state=.ready) (Qw:r.pending=none) (hm:1≤E.m0) {as:List AV} {o o':Ob}
  (DV:o.pr=true) (acA:o'.pr=true) (Fs:o'.sz≠0) (has:AV.lG as=true) (Wp:r.params.size=as.length) {st0 IP Wz:St} (h0:st0.jk=[(0,o)]) (Ms:st0.nk=1) (h2:Wz.jk=[(0,o')])
  (mn:∀ (w:World) (S:Nat→Prop) (μ:Mu) (vs:Array Value),RL w S μ vs as→μ 0=E.YJ 0→(qR r vs).size=nt∧∀ t,aq w S μ ((qR r vs).getD t undef) (cJ st0.tm t))
  (hA:∀ E',aQ E' 1→WI P E' nt r.assign st0 IP) (hB:∀ E',aQ E' 1→WI P E' nt r.body IP Wz)
  (hv:o.var=true:=by rfl) (oJ:o'.var=true:=by rfl):Xs P E ⟨l,as,0,o,o'⟩:=by
 intro w S μ σ vs g Px ho
 simp only at Px ho ⊢
 have pk:=ho
 have Qy:w.heap[l]?=some (.loop r):=(g.fr.b6 l (cr hl) HI).trans hl
 obtain ⟨pl,c0,T0,oc,cE⟩:=g.rep.ob 0 o ho
 have hE0:μ 0=E.YJ 0:=g.Bo 0 (by omega)
 refine ⟨r.fn,qR r vs,r.assign,r.body,run_yield Qy (by rw [Px.1,Wp]),?_⟩
 refine roundIn_of_wpIn trivial ?_
 obtain ⟨Ou,ZX⟩:∃ Ou:Mu,Ou=fun k=>if k=0 then μ 0 else none:=⟨_,rfl⟩
 have U6:Ou 0=μ 0:=by rw [ZX];rfl
 have FG:∀ k,1≤k→Ou k=none:=fun k hk=>by rw [ZX];exact if_neg (by omega)
 have gA0:Good (rl w S [(0,o)] Ou 1) [(0,o)] S Ou w:=by
  refine ⟨Fr.refl _ _,fun _ h=>h,g.S1,fun _ h=>.inl h,⟨fun k x hx=>?_,fun k k' x x' p p' ec hx sG=>?_⟩,fun k o pl ho hm hc=>.inl (.inl ⟨k,o,pl,ho,hm,hc,rfl⟩),fun _ _=>rfl,MX.nil fun k x i hx=>?_⟩
  rotate_right
  ·simp only [au] at hx
   split at hx
   ·cases hx;exact mY hv i
   ·cases hx
  ·simp only [au] at hx
   split at hx
   ·rename_i hb
    cases hx
    rw [← bm hb]
    exact ⟨pl,c0,T0,U6.trans oc,{ cE with rep:=fun i j x v hi hx hv=>by have:=cE.rep i j x v hi hx hv;rw [DV] at this ⊢;exact this }⟩
   ·cases hx
  ·simp only [au] at hx sG
   split at hx
   ·rename_i hb
    split at sG
    ·rename_i q0
     exact absurd ((bm hb).symm.trans (bm q0)) ec
    ·cases sG
   ·cases hx
 have acB:RL w S Ou vs as:=⟨Px.1,fun j c v hc hv=>(Px.2 j c v hc hv).pure (ph has hc) Ou⟩
 obtain ⟨kr,mn⟩:=mn w S Ou vs acB (U6.trans hE0)
 have rA0:HC (rl w S [(0,o)] Ou 1) st0 (qR r vs) w:=⟨S,Ou,by rw [h0];exact gA0,fun k hk=>FG k (by rw [Ms] at hk;exact hk),by rw [Ms];exact aP _,mn⟩
 have hEA:aQ (rl w S [(0,o)] Ou 1) 1:=⟨rfl,fun h=>absurd h (by decide)⟩
 refine wpIn_mono (hA _ hEA l _ w kr rA0) ?_
 rintro e ⟨ZG,ds1⟩ w1 ⟨rfl,q1,q2,S1,YU,g1,ZY,Hv,XJ⟩
 simp only at q1 q2 XJ
 subst q2
 have acC:l < w.heap.size:=cr Qy
 have nfA:∀ b ob,w.heap[b]?=some ob→uF ob=true→¬ (rl w S [(0,o)] Ou 1).fp b:=by
  exact fun b ob hb ha=>gA0.IM hb ha
 have U7:w1.heap[l]?=some (.loop r):=(g1.fr.b6 l acC (nfA l _ Qy rfl)).trans Qy
 show ∃ agj,_∧_
 refine ⟨_,run_beginRound U7 zs,?_⟩
 obtain ⟨W2,U8⟩:∃ W2,W2=w1.putObj l (.loop { r with state:=.busy }):=⟨_,rfl⟩
 have g2:Good (rl W2 S1 IP.jk YU 1) IP.jk S1 YU W2:=by rw [U8];exact g1.ZW U7 rfl rfl 1
 have Fm:∀ a,W2.cell? a=w1.cell? a:=by rw [U8];exact tH U7 rfl rfl
 have Mh:W2.heap.size=w1.heap.size:=by rw [U8];simp
 have Cz:∀ b,b≠l→W2.heap[b]?=w1.heap[b]?:=fun b hb=>by rw [U8];exact World.putObj_heap_other hb
 have ZF:W2.heap[l]?=some (.loop { r with state:=.busy }):=by rw [U8];exact World.putObj_heap_same (cr U7)
 have ho:W2.os=w1.os∧W2.tape=w1.tape∧W2.output=w1.output:=by rw [U8];exact ⟨rfl,rfl,rfl⟩
 rw [← U8]
 have rB:HC (rl W2 S1 IP.jk YU 1) IP ZG W2:=⟨S1,YU,g2,ZY,Hv,fun t=>(XJ t).fb (fun _ h=>h) Fm⟩
 refine wpIn_mono (hB _ ⟨rfl,fun h=>absurd h (by decide)⟩ l _ W2 q1 rB) ?_
 rintro e ⟨tm2,ds2⟩ w3 ⟨rfl,-,-,S2,YV,g3,-,-,-⟩
 have nfB:∀ b ob,W2.heap[b]?=some ob→uF ob=true→¬ (rl W2 S1 IP.jk YU 1).fp b:=by
  exact fun b ob hb ha=>g2.IM hb ha
 have hl3:w3.heap[l]?=some (.loop { r with state:=.busy }):=(g3.fr.b6 l (cr ZF) (nfB l _ ZF rfl)).trans ZF
 refine ⟨_,_,run_endRound none hl3,rfl,fun b=>S b∨(S2 b∧w.heap.size≤b),?_⟩
 obtain ⟨W4,YW⟩:∃ W4,W4=w3.putObj l (.loop { { r with state:=.busy } with state:=if (none:Option Code).isNone=true then .ready else .done,pending:=none }):=⟨_,rfl⟩
 rw [← YW]
 have hc4:∀ a,W4.cell? a=w3.cell? a:=by rw [YW];exact tH hl3 rfl rfl
 have YX:W4.heap.size=w3.heap.size:=by rw [YW];simp
 have ho4:∀ b,b≠l→W4.heap[b]?=w3.heap[b]?:=fun b hb=>by rw [YW];exact World.putObj_heap_other hb
 have hl4:W4.heap[l]?=some (.loop r):=by
  rw [YW,World.putObj_heap_same (cr hl3)]
  obtain ⟨a1,a2,a3,a4,a5,a6,a7,a8⟩:=r
  simp only at zs Qw
  subst zs Qw
  rfl
 have XK:W4.os=w3.os∧W4.tape=w3.tape∧W4.output=w3.output:=by rw [YW];exact ⟨rfl,rfl,rfl⟩
 have Ov:w.heap.size≤W2.heap.size:=by rw [Mh];exact g1.fr.size
 have R0:W2.heap.size≤w3.heap.size:=g3.fr.size
 -- what has not changed
 have MZ:∀ b,(rl w S [(0,o)] Ou 1).fp b→0 < pl.cap∧pl.b6=b:=by
  rintro b (⟨k,x,p,hx,hm,hc,hb⟩ | ⟨k,i,x,v,⟨o2,p,hx,hr,_⟩,_⟩)
  ·simp only [au] at hx
   split at hx
   ·rename_i U9
    rw [← bm U9,U6,oc] at hm
    cases hm
    exact ⟨hc,hb⟩
   ·cases hx
  ·simp only [au] at hx
   split at hx
   ·cases hx;rw [mY hv] at hr;cases hr
   ·cases hx
 have same:∀ b,b < w.heap.size→¬ (0 < pl.cap∧pl.b6=b)→W4.heap[b]?=w.heap[b]?:=by
  intro b hb hn
  by_cases e:b=l
  ·rw [e,hl4,Qy]
  ·rw [ho4 b e]
   refine (g3.fr.b6 b (lX hb Ov) ?_).trans ((Cz b e).trans (g1.fr.b6 b hb fun h=>hn (MZ b h)))
   rintro (⟨k,x,p,hx,hm,hc,rfl⟩ | ⟨k,i,x,v,oJ,q0⟩)
   ·rcases g1.own k x p hx hm hc with h | h
    ·exact hn (MZ _ h)
    ·have:p.b6 < w.heap.size:=hb
     have h:w.heap.size≤p.b6:=h
     omega
   ·have CH:gR w1 YU IP.jk k i x v:=by
     obtain ⟨o2,p,a1,a2,a3,a4⟩:=oJ
     exact ⟨o2,p,a1,a2,a3,by rw [← Fm];exact a4⟩
    rcases (g1.mx.b6 CH q0).2.2.1 with h | h
    ·exact hn (MZ _ h)
    ·have h:w.heap.size≤b:=h
     omega
 have YO:∀ b,S2 b→S b∨(S2 b∧w.heap.size≤b):=by
  intro b hb
  rcases g3.S2 b hb with h | h
  ·rcases g1.S2 b h with h | h
   ·exact .inl h
   ·exact .inr ⟨hb,h⟩
  ·exact .inr ⟨hb,dp Ov h⟩
 have nS:0 < pl.cap→¬ S pl.b6:=cE.out
 have ext:Ext w S μ W4 (fun b=>S b∨(S2 b∧w.heap.size≤b)) μ:=by
  refine ⟨by rw [YX];exact dp Ov R0,fun _ h=>.inl h,fun b hb=>same b (g.S1 b hb) ?_,fun _ _ h=>h⟩
  rintro ⟨hc,rfl⟩
  exact nS hc hb
 have TM:MX E.fp E.w0.heap.size W4 (fun b=>S b∨(S2 b∧w.heap.size≤b)) μ (sset σ 0 o'):=by
  refine g.mx.tr id (fun k i x v h=>?_) (fun _ _ _ _ _ _ _ _ _ _ h=>h) (fun _ h=>.inl h) (fun b hb=>ext.b6 b hb) (fun k i x v b _ h hb=>?_) (fun k o2 p h1 h2 h3=>?_)
  ·obtain ⟨o2,p,a1,a2,a3,a4⟩:=h
   rw [bg] at a1
   by_cases hk:0=k
   ·rw [if_pos hk] at a1;cases a1
    rw [mY oJ] at a2;cases a2
   ·rw [if_neg hk] at a1
    refine gR.vB (w':=W4) (cD:=μ) (dx:=σ) g.rep ⟨o2,p,a1,a2,a3,a4⟩ (fun o3 b1=>by rw [a1] at b1;cases b1;exact ⟨o2,a1,a2⟩) (fun p h=>h) (fun o3 p3 b1 b2 b3=>?_)
    obtain ⟨p4,c4,T4,hm4,px⟩:=g.rep.ob k o3 b1
    have b2:μ k=some p3:=b2
    rw [b2] at hm4;cases hm4
    exact same _ (cr (px.b6 b3)) fun ⟨jr,he⟩=>g.rep.ne 0 k _ o3 pl p3 hk pk b1 oc b2 jr b3 he
  ·obtain ⟨q1,q2,q3,_⟩:=g.mx.b6 h hb
   refine ⟨same b q1 fun ⟨jr,he⟩=>g.mx.obj _ _ _ _ _ h hb 0 _ pl pk oc jr he,?_,fun h=>h⟩
   rintro (h1 | ⟨_,h1⟩)
   ·exact q2 h1
   ·omega
  ·rw [bg] at h1
   by_cases hk:0=k
   ·subst hk;exact .inl ⟨0,_,p,pk,h2,h3,rfl⟩
   ·rw [if_neg hk] at h1;exact .inl ⟨k,o2,p,h1,h2,h3,rfl⟩
 refine ⟨ext,⟨?_,fun b hb=>.inl (g.S0 b hb),?_,?_,⟨?_,?_⟩,?_,g.Bo,TM⟩⟩
 ·refine ⟨?_,?_,?_,?_,fun b hb hf=>?_⟩
  ·rw [XK.1,g3.fr.os];show W2.os=_;rw [ho.1,g1.fr.os];exact g.fr.os
  ·rw [XK.2.1,g3.fr.tape];show W2.tape=_;rw [ho.2.1,g1.fr.tape];exact g.fr.tape
  ·rw [XK.2.2,g3.fr.output];show W2.output=_;rw [ho.2.2,g1.fr.output];exact g.fr.output
  ·rw [YX];exact dp g.fr.size (dp Ov R0)
  ·refine (same b (lX hb g.fr.size) ?_).trans (g.fr.b6 b hb hf)
   rintro ⟨hc,rfl⟩
   rcases g.own 0 _ pl pk oc hc with h | h
   ·exact hf h
   ·omega
 ·rintro b (hb | ⟨hb,_⟩)
  ·have:=g.S1 b hb;rw [YX];omega
  ·rw [YX];exact g3.S1 b hb
 ·rintro b (hb | ⟨_,hb⟩)
  ·exact g.S2 b hb
  ·exact .inr (dp g.fr.size hb)
 ·intro k x hx
  rw [bg] at hx
  by_cases hk:0=k
  ·rw [if_pos hk] at hx
   cases hx
   subst hk
   obtain ⟨p,c,T,hm,hr⟩:=g3.rep.ob 0 o' (by rw [h2];rfl)
   have Hw:YV 0=μ 0:=(g3.Bo 0 (by show 0 < 1;omega)).trans ((g1.Bo 0 (by show 0 < 1;omega)).trans U6)
   rw [Hw,oc] at hm
   cases hm
   refine ⟨pl,c,T,oc,⟨hr.sz,fun hc=>?_,hr.cap,hr.len,fun hc=>?_,hr.tz,fun i j x v hi hx hv=>?_,fun hz=>absurd hz Fs⟩⟩
   ·rw [ho4 _ (g.JD pk oc hc Qy rfl)];exact hr.b6 hc
   ·rintro (h | ⟨h,_⟩)
    ·exact nS hc h
    ·exact hr.out hc h
   ·have:=hr.rep i j x v hi hx hv
    rw [acA] at this ⊢
    exact this.fb YO hc4
  ·rw [if_neg hk] at hx
   obtain ⟨p,c,T,hm,hr⟩:=g.rep.ob k x hx
   refine ⟨p,c,T,hm,hr.ext ext (fun hc=>same _ (cr (hr.b6 hc)) ?_) (fun hc=>?_)⟩
   ·rintro ⟨jr,he⟩
    exact g.rep.ne 0 k _ x pl p hk pk hx oc hm jr hc he
   ·rintro (h | ⟨_,h⟩)
    ·exact hr.out hc h
    ·have:=cr (hr.b6 hc);omega
 ·intro k k' x x' p p' ec hx sG hm fy hc jr
  have vB:∀ k x,au (sset σ 0 o') k=some x→∃ y,au σ k=some y:=by
   intro k x hx
   rw [bg] at hx
   by_cases hk:0=k
   ·subst hk;exact ⟨_,pk⟩
   ·rw [if_neg hk] at hx;exact ⟨x,hx⟩
  obtain ⟨y,hy⟩:=vB k x hx
  obtain ⟨y',Ub⟩:=vB k' x' sG
  exact g.rep.ne k k' y y' p p' ec hy Ub hm fy hc jr
 ·intro k x p hx hm hc
  rw [bg] at hx
  by_cases hk:0=k
  ·subst hk;exact g.own 0 _ p pk hm hc
  ·rw [if_neg hk] at hx;exact g.own k x p hx hm hc
abbrev M0 (D:Nat):Deferred:={ target:=.collected D,args:=#[] }
def gh (P:Program) (E:Env) (D:Nat) (fn:FuncId) (nt:Nat) (cG:Value→World→Prop) (k:List Item) (st:St):Prop :=
 ∀ (tm:Array Value) (w:World),tm.size=nt→HC E st tm w→∀ (b:Frame),b.fn=fn→b.kind=.normal→∀ cs,
  ∃ v w' fr,cG v w'∧Steps P (lone (b.at ⟨tm,[M0 D]⟩ k) cs w) (lone fr cs w')∧fr.fn=fn∧fr.leaving P w' (.returned v)
section
variable {P:Program} {E E9:Env} {D:Nat} {fn:FuncId} {nt:Nat} {cG:Value→World→Prop} {k k':List Item} {st uh:St}
theorem gh.step (h:gh P E D fn nt cG k' st) (hs:∀ (b:Frame) (a:Act) (cs:List Frame) (w:World),step P (lone (b.at a k) cs w)=.next (lone (b.at a k') cs w)):gh P E D fn nt cG k st:=by
 intro tm w h1 h2 b h3 h4 cs
 obtain ⟨v,w',fr,q1,q2,q3,q4⟩:=h tm w h1 h2 b h3 h4 cs
 exact ⟨v,w',fr,q1,.head (hs b ⟨tm,[M0 D]⟩ cs w) q2,q3,q4⟩
theorem gh.seq {x y:Code} (h:gh P E D fn nt cG (.code x :: .code y :: k) st):gh P E D fn nt cG (.code (.seq x y) :: k) st:=h.step fun _ _ _ _=>step_seq
theorem gh.inBlock {id:Nat} (h:gh P E D fn nt cG k st):gh P E D fn nt cG (.inBlock id :: k) st:=h.step fun _ _ _ _=>step_inBlock
theorem gh.rw {m:Nat} {c:Code} {orcs:List (Nat×lZ)} {F:List Nat} {rV:List (Nat×Wd)} {eN:xZ} {nk:Nat} (hE:aQ E m) {ps:List Prop}
  (h:Eo P nt m c orcs F rV eN nk st=some (ps,uh)) (hF:(((F.isEmpty && om orcs) || Nat.beq m 0) && On orcs)=true) (hp:aW ps) (hr:gh P E D fn nt cG k uh):gh P E D fn nt cG (.code c :: k) st:=by
 unfold Eo at h
 split at h
 ·rename_i p1 s1 h1
  split at h
  ·rename_i q1 s2 h2
   simp only [az,ay] at h
   obtain ⟨rfl,rfl⟩:=h
   obtain ⟨ug,vE⟩:=aW.app hp
   obtain ⟨hF,hY⟩:=lW.1 hF
   have hz:om orcs=true∨∀ b,¬ E.fp b:=by
    rcases Bool.or_eq_true_iff.1 hF with h | h
    ·exact .inl (lW.1 h).2
    ·exact .inr (hE.fp (bm h))
   have ZO:F.isEmpty=true∨∀ b,¬ E.fp b:=by
    rcases Bool.or_eq_true_iff.1 hF with h | h
    ·exact .inl (lW.1 h).1
    ·exact .inr (hE.fp (bm h))
   intro tm w hs xX b nM lP cs
   have XD:=(wpIn_wide (n:=0)).1 (yG (rd:=none) (ds:=[M0 D]) hz (Dg hY) h1 ug hs xX)
   obtain ⟨e,a',w',⟨rfl,q1,q2,q3⟩,MQ⟩:=XD b k cs
   have ha:a'=⟨a'.tmps,[M0 D]⟩:=by cases a';simp at q2;simp [q2]
   obtain ⟨v,NM,fr,r1,r2,r3,r4⟩:=hr a'.tmps w' q1 (BL (by rw [hE.m0];exact h2) vE ZO q3) b nM lP cs
   refine ⟨v,NM,fr,r1,Steps.trans MQ ?_,r3,r4⟩
   rw [ha];exact r2
  ·cases h
 ·cases h
theorem gh.ret {c:Code} (HB:∀ σ S μ w,Good E9 σ S μ w→Good E σ S μ w) (ZZ:E.m0≤E9.m0) (hD:E9.w0.heap[D]?=some (.deferred (some []))) (HI:¬ E9.fp D) (Z0:E.w0.heap.size≤D) (ks:List Nat) (hx:c=.ret)
  {f:Func} (hf:P.funcs[fn]?=some f) {ps:List Prop} {res:AV} {dx:du} (h:xL P f st=some (ps,res)) (Jy:Aw st.jk ks=dx) (hp:aW ps):gh P E9 D fn nt (aY E dx res) (.code c :: k) st:=by
 subst hx Jy
 intro tm w hs hr b nM lP cs
 obtain ⟨S,μ,g,hk,hm,ht⟩:=hr
 have hDw:w.heap[D]?=some (.deferred (some [])):=(g.fr.b6 D (cr hD) HI).trans hD
 have Av:HC E st tm (w.putObj D (.deferred none)):=⟨S,μ,(HB _ _ _ _ g).put hDw rfl rfl (.inl Z0),hk,dp ZZ hm,fun t=>(ht t).fb (fun _ h=>h) (tH hDw rfl rfl)⟩
 obtain ⟨v,h1,h2⟩:=AP hf h hp Av nM lP (.code .ret :: k)
 refine ⟨v,_,_,h1.UW ks,.head step_ret (.one (step_collected (fr:={ b.at ⟨tm,[M0 D]⟩ (.code .ret :: k) with mode:=.returning }) (by simp) rfl rfl (run_takeDeferred hDw))),?_,h2⟩
 exact nM
theorem HM {f:FuncId} {fu:Func} {c:Code} {m:Nat} {args:List AV} {σ dx:du} {res:AV} (hf:P.funcs[f]?=some fu) (hb:fu.body=some c) (hn:fu.ntmps=nt) (ha:Nat.ble args.length nt=true)
  {w:World} {S:Nat→Prop} {μ:Mu} {vs:Array Value} (h:aw P (tC w S σ μ m) f nt (aY (tC w S σ μ m) dx res) [.code c] ⟨tG args 0,σ,m⟩) (g:Good (tC w S σ μ m) σ S μ w) (hk:∀ k,m≤k→μ k=none) (hl:RL w S μ vs args) :
  Calls P f vs w fun e w'=>∃ v S' cD,e=.returned v∧Good (tC w S σ μ m) dx S' cD w'∧aq w' S' cD v res:=by
 simp only [Nat.ble_eq] at ha
 intro cs
 let b:Frame:={ (default:Frame) with fn:=f,kind:=.normal }
 have MT:Frame.enter P f vs .normal=b.at ⟨vs ++ Array.replicate (nt - vs.size) undef,[]⟩ [.code c]:=by
  simp [Frame.enter,Frame.at,hf,hb,hn,b]
 have kr:=hl.1
 obtain ⟨v,w',fr,h1,h2,h3,h4⟩:=h (vs ++ Array.replicate (nt - vs.size) undef) w (by simp;omega) ⟨S,μ,g,hk,aP _,fun t=>by
  show aq w S μ _ (cJ (tG args 0) t)
  rw [AQ,if_pos (Nat.zero_le _),Nat.sub_zero]
  cases hx:args[t]? with
  | none=>exact .mV
  | some x =>
   have ft:t < vs.size:=by rw [kr];exact (dd.1 hx).1
   have hv:(vs ++ Array.replicate (nt - vs.size) undef).getD t undef=vs[t]:=by
    simp [fm,Array.getElem?_append_left ft,ft]
   rw [hv]
   exact hl.2 t x _ hx (dN ft)⟩ b rfl rfl cs
 rw [← MT] at h2
 obtain ⟨S',cD,g',hv⟩:=h1
 exact ⟨.returned v,w',fr,⟨v,S',cD,rfl,g',hv⟩,h2,h3,h4⟩
theorem aw.range {m m1 m9 nt1:Nat} (hE:aQ E m) {Z1:Operand} {ps:Array Tmp} {assign body c1:Code} {orc:lZ} {avs:Nat→List AV} {rU dx:du} {res x:AV} {gid:FuncId} {fu:Func} {rds:List Nat} {upd:r7}
  (acF:orc.wY=false) (Uy:orc.ks.length=m1) (hf:P.funcs[gid]?=some fu) (hb:fu.body=some c1) (hn:fu.ntmps=nt1) (ha:∀ l,Nat.ble (avs l).length nt1=true)
  (PK:∀ l,Bz P (fun g a s _ r s'=>g=gid∧a=avs l∧s=rU∧r=res∧s'=dx) st.nk st.jk (xH st.tm Z1) [.atom (.func (.yield l) #[] #[])] orc=some ⟨[gid=gid∧avs l=avs l∧rU=rU∧res=res∧dx=dx],x,rds,upd⟩)
  (acG:∀ (E1:Env) (l:Nat) (r:Loop),E1.m0=m1→E1.w0.heap[l]?=some (.loop r)→¬ E1.fp l→r.state=.ready→r.pending=none→r.params=ps→r.assign=assign→r.body=body→r.tmps.size=nt →
   (∀ t,aq E1.w0 E1.S0 E1.YJ (r.tmps.getD t undef) ((cJ st.tm t).jx (idx orc.ks)))→aw P E1 gid nt1 (aY E1 dx res) [.code c1] ⟨tG (avs l) 0,rU,m1⟩)
  (hm9:m≤m9) (h9:m9≠0) (TP:m9≤st.nk+16)
  (Z2:∀ (E9:Env) (D:Nat),aQ E9 m9→(∀ σ S μ w,Good E9 σ S μ w→Good E σ S μ w)→E.m0≤E9.m0→E9.w0.heap[D]?=some (.deferred (some []))→¬ E9.fp D→E.w0.heap.size≤D→gh P E9 D fn nt cG k ⟨st.tm,eX st.jk upd,st.nk+16⟩) :
  aw P E fn nt cG (.code (.rangeFunc Z1 ps assign body) :: k) st:=by
 intro tm w hs hr b nM lP cs
 obtain ⟨S,μ,g,hk,hm,ht⟩:=hr
 obtain ⟨e1,g1⟩:=g.aux (.deferred (some [])) rfl
 obtain ⟨e2,g2⟩:=g1.aux (.loop { state:=.ready,pending:=none,fn:=b.fn,tmps:=tm,params:=ps,assign,body,defers:=w.heap.size }) rfl
 obtain ⟨W,hW⟩:∃ W,W=(w.alloc (.deferred (some []))).alloc (.loop { state:=.ready,pending:=none,fn:=b.fn,tmps:=tm,params:=ps,assign,body,defers:=w.heap.size }):=⟨_,rfl⟩
 rw [← hW] at e2 g2
 have Rb:(Instr.enterLoop b.fn tm ps assign body none).run P w=.ok (w.heap.size+1,[M0 w.heap.size]) W:=by rw [hW];exact run_enterLoop_outer _ _ _ _ _
 have hL:W.heap[w.heap.size+1]?=some (.loop { state:=.ready,pending:=none,fn:=b.fn,tmps:=tm,params:=ps,assign,body,defers:=w.heap.size }):=by
  rw [hW];have:=World.alloc_heap_new (w.alloc (.deferred (some []))) (.loop { state:=.ready,pending:=none,fn:=b.fn,tmps:=tm,params:=ps,assign,body,defers:=w.heap.size });rwa [World.size_alloc] at this
 have hDf:W.heap[w.heap.size]?=some (.deferred (some [])):=by
  rw [hW];exact (eh (by simp)).trans (World.alloc_heap_new w _)
 have hS1:∀ b,b=w.heap.size∨b=w.heap.size+1→(S b∨b=w.heap.size)∨b=(w.alloc (.deferred (some []))).heap.size:=by
  rintro b (rfl | rfl)
  ·exact .inl (.inr rfl)
  ·exact .inr (by simp)
 have htW:∀ t,aq W (fun b=>(S b∨b=w.heap.size)∨b=(w.alloc (.deferred (some []))).heap.size) μ (tm.getD t undef) (cJ st.tm t):=fun t=>((ht t).ext e1).ext e2
 have hfv:=zG (a:=⟨tm,[]⟩) htW Z1
 have acI:=PK (w.heap.size+1)
 have hqs:aW [gid=gid∧avs (w.heap.size+1)=avs (w.heap.size+1)∧rU=rU∧res=res∧dx=dx]:=⟨⟨rfl,rfl,rfl,rfl,rfl⟩,trivial⟩
 obtain ⟨acJ,vs,hinv,XL⟩:=DZ (ob:=fun g a s _ r s'=>g=gid∧a=avs (w.heap.size+1)∧s=rU∧r=res∧s'=dx) g2 (fun j _=>hk _ (by omega)) hm hfv
  (vargs:=#[.func (.yield (w.heap.size+1)) #[] #[]]) (by
   refine ⟨rfl,fun j c v hc hv=>?_⟩
   cases j with
   | zero=>simp at hc hv;subst hc hv;exact .atom _
   | succ j=>simp at hc)
  (fun h=>by rw [acF] at h;cases h) (by
   rintro acJ as' bs agq agr ags vs ⟨rfl,rfl,rfl,rfl,rfl⟩ g0 Ms qE
   rw [Uy] at g0 Ms ⊢
   refine HM hf hb hn (ha _) (acG _ (w.heap.size+1) _ rfl hL ?_ rfl rfl rfl rfl rfl hs fun t=>?_) g0 Ms qE
   ·exact g0.IM hL rfl
   ·exact ((htW t).jx (f:=idx orc.ks) (cD:=kz μ orc.ks) (fun a b pl ha hb=>yw a b pl ha hb)).mono (fun _ h=>.inl h) (fun _ _=>rfl) (fun _ _ h=>h)) acI hqs
 obtain ⟨e,w2,fr,⟨v,S2,YV,rfl,ex,g3,Hw,hv⟩,XM,YN,XN⟩:=XL (({ b with roundOf:=none }:Frame).atR { tmps:=tm,defers:=[M0 w.heap.size] } (.inRangeFunc (w.heap.size+1) :: k) :: cs)
 have hL2:w2.heap[w.heap.size+1]?=some (.loop { state:=.ready,pending:=none,fn:=b.fn,tmps:=tm,params:=ps,assign,body,defers:=w.heap.size }):=(ex.b6 _ (hS1 _ (.inr rfl))).trans hL
 have hD2:w2.heap[w.heap.size]?=some (.deferred (some [])):=(ex.b6 _ (hS1 _ (.inl rfl))).trans hDf
 obtain ⟨W3,hW3⟩:∃ W3,W3=w2.putObj (w.heap.size+1) (.loop { state:=.exhausted,pending:=none,fn:=b.fn,tmps:=tm,params:=ps,assign,body,defers:=w.heap.size }):=⟨_,rfl⟩
 have acL:(Instr.endLoop (w.heap.size+1)).run P w2=.ok none W3:=by rw [hW3];exact run_endLoop hL2 (by simp)
 have hc3:∀ a,W3.cell? a=w2.cell? a:=by rw [hW3];exact tH hL2 rfl rfl
 have g4:Good E (eX st.jk upd) S2 YV W3:=by rw [hW3];exact g3.put hL2 rfl rfl (.inl (by have:=g.fr.size;omega))
 have hD3:W3.heap[w.heap.size]?=some (.deferred (some [])):=by rw [hW3,World.putObj_heap_other (by omega)];exact hD2
 have r9:HC (rl W3 S2 (eX st.jk upd) YV m9) ⟨st.tm,eX st.jk upd,st.nk+16⟩ tm W3 :=
  ⟨S2,YV,g4.base m9,fun k lj=>Hw k (.inr lj) (hk k (by have:st.nk+16≤k:=lj;omega)),TP,fun t=>((htW t).ext ex).fb (fun _ h=>h) hc3⟩
 obtain ⟨v',w',fr',q1,q2,q3,q4⟩:=Z2 (rl W3 S2 (eX st.jk upd) YV m9) w.heap.size ⟨rfl,fun h=>absurd h h9⟩ (fun σ S μ w h=>g4.MY (by rw [hE.m0];exact hm9) h) (by rw [hE.m0];exact hm9) hD3
  (g4.IM hD3 rfl) g.fr.size tm W3 hs r9 b nM lP cs
 refine ⟨v',w',fr',q1,?_,q3,q4⟩
 have hat:∀ (a:Act) (k:List Item),b.at a k=({ b with roundOf:=none }:Frame).atR a k:=fun a k=>by simp [Frame.at,Frame.atR]
 simp only [bH] at hinv
 cases hd:(Deferred.ofValue ((⟨tm,[]⟩:Act).eval Z1) #[.func (.yield (w.heap.size+1)) #[] #[]]).run P W with
 | halt x w'=>rw [hd] at hinv;cases hinv
 | ok d wd =>
  rw [hd] at hinv
  rw [hat]
  refine .head (stepR_rangeFunc (b:={ b with roundOf:=none }) (a:=⟨tm,[]⟩) Rb (show (resolve (⟨tm,[]⟩:Act).eval (rangeCall Z1 (w.heap.size+1)) 0).run P W=.ok d wd by rw [← hd];simp [resolve,Act.eval]) hinv) ?_
  refine Steps.trans XM (.head (step_leave_returned XN) ?_)
  rw [finish_atR_inRangeFunc]
  refine .head (stepR_endRangeFunc acL) ?_
  rw [hat] at q2
  exact q2
end
def Z3:Code→Code
 | .rangeFunc _ _ a _=>a
 | c=>c
def rfB:Code→Code
 | .rangeFunc _ _ _ b=>b
 | c=>c
section
variable {P:Program} {E E9:Env} {D:Nat} {fn:FuncId} {nt m:Nat} {cG:Value→World→Prop} {k k':List Item} {st uh:St}
theorem gh.Jz (h:Jz k=some k') (hr:gh P E D fn nt cG k' st):gh P E D fn nt cG k st:=by
 unfold Ab.Jz at h
 split at h
 ·cases h;exact hr.seq
 ·cases h;exact hr.step fun _ _ _ _=>step_block
 ·cases h;exact hr.step fun _ _ _ _=>step_loop
 ·cases h;exact hr.step fun _ _ _ _=>step_inLoop
 ·cases h;exact hr.inBlock
 ·cases h;exact hr.step fun _ _ _ _=>step_lone_go (by simp [stepG,stepG.exec,Frame.at])
 ·cases h;exact hr.step fun _ _ _ _=>step_lone_go (by simp [stepG,stepG.exec,Frame.at])
 ·cases h;exact hr.step fun _ _ _ _=>step_skip
 ·cases h;exact hr.step fun _ _ _ _=>step_label
 ·exact hr.step fun _ _ _ _=>step_exit h
 ·cases h
theorem gh.CA:∀ (n:Nat) {k:List Item},CA n k=some k'→gh P E D fn nt cG k' st→gh P E D fn nt cG k st
 | 0,k,h,hr=>by simp only [Ab.CA,az] at h;rw [h];exact hr
 | n+1,k,h,hr=>by
  simp only [Ab.CA] at h
  split at h
  ·rename_i k1 h1
   exact gh.Jz h1 (gh.CA n h hr)
  ·cases h
theorem gh.sA (n:Nat) (k':List Item) (hr:gh P E D fn nt cG k' st) (h:Ab.CA n k=some k':=by kernel_rfl):gh P E D fn nt cG k st:=gh.CA n h hr
theorem gh.sR (hE:aQ E m) (uh:St) (c:Code) (orcs:List (Nat×lZ)) (F:List Nat) (rV:List (Nat×Wd)) (eN:xZ) (nk:Nat) (ps:List Prop) (hp:aW ps) (hr:gh P E D fn nt cG k uh)
  (h:Eo P nt m c orcs F rV eN nk st=some (ps,uh):=by kernel_rfl) (hF:(((F.isEmpty && om orcs) || Nat.beq m 0) && On orcs)=true:=by rfl):gh P E D fn nt cG (.code c :: k) st:=gh.rw hE h hF hp hr
theorem gh.sW (hE:aQ E m) (uh:St) (F:List Nat) (rV:List (Nat×Wd)) (eN:xZ) (nk:Nat) (ps:List Prop) (hp:aW ps) (hr:gh P E D fn nt cG k uh)
  (h:Dd m st F rV eN nk=some (ps,uh):=by kernel_rfl) (hF:(F.isEmpty || Nat.beq m 0)=true:=by rfl):gh P E D fn nt cG k st:=by
 have h':Dd E.m0 st F rV eN nk=some (ps,uh):=by rw [hE.m0];exact h
 refine fun tm w h1 h2=>hr tm w h1 (BL h' hp ?_ h2)
 rcases Bool.or_eq_true_iff.1 hF with h3 | h3
 ·exact .inl h3
 ·exact .inr (hE.fp (bm h3))
theorem gh.sT {c:Code} (HB:∀ σ S μ w,Good E9 σ S μ w→Good E σ S μ w) (ZZ:E.m0≤E9.m0) (hD:E9.w0.heap[D]?=some (.deferred (some []))) (HI:¬ E9.fp D) (Z0:E.w0.heap.size≤D)
  (f:Func) (ks:List Nat) (ps:List Prop) {res:AV} {dx:du} (hp:aW ps) (hx:c=.ret:=by kernel_rfl) (hf:P.funcs[fn]?=some f:=by kernel_rfl) (h:xL P f st=some (ps,res):=by kernel_rfl)
  (Jy:Aw st.jk ks=dx:=by rfl):gh P E9 D fn nt (aY E dx res) (.code c :: k) st:=gh.ret HB ZZ hD HI Z0 ks hx hf h Jy hp
theorem WI.sR (hE:aQ E m) (st uh:St) (c:Code) (orcs:List (Nat×lZ)) (F:List Nat) (rV:List (Nat×Wd)) (eN:xZ) (nk:Nat) (ps:List Prop) (hp:aW ps)
  (h:Eo P nt m c orcs F rV eN nk st=some (ps,uh):=by kernel_rfl) (hF:(((F.isEmpty && om orcs) || Nat.beq m 0) && On orcs)=true:=by rfl):WI P E nt c st uh:=WI.rw hE h hF hp
theorem WI.sS {c:Code} (x y:Code) {IP Wz:St} (h1:WI P E nt x st IP) (h2:WI P E nt y IP Wz) (hx:c=.seq x y:=by kernel_rfl):WI P E nt c st Wz:=by subst hx;exact h1.seq h2
theorem WI.sB {c:Code} (id:Nat) (x:Code) {IP:St} (h1:WI P E nt x st IP) (hx:c=.block id x:=by kernel_rfl):WI P E nt c st IP:=by subst hx;exact h1.block
end
theorem JE (r:Loop) (vs:Array Value):(qR r vs).size=r.tmps.size:=by
 unfold qR
 rw [← Array.foldl_toList]
 generalize (r.params.zip vs).toList=l
 generalize r.tmps=t
 induction l generalizing t with
 | nil=>rfl
 | cons x l ih=>simp only [List.foldl_cons];rw [ih];simp
theorem PS {r:Loop} {nt s p q:Nat} (Wp:r.params=#[p,q]) (kr:r.tmps.size=nt) (h1:s≠p) (h2:s≠q) (h3:p≠q) (hp:p < nt) (hq:q < nt) {E1:Env} {x y:AV} (hs:aq E1.w0 E1.S0 E1.YJ (r.tmps.getD s undef) (.op 0 0 0))
  {w:World} {S:Nat→Prop} {μ:Mu} {vs:Array Value} (Px:RL w S μ vs [x,y]) (Hw:μ 0=E1.YJ 0) :
  (qR r vs).size=nt∧∀ t,aq w S μ ((qR r vs).getD t undef) (cJ [(s,.op 0 0 0),(p,x),(q,y)] t):=by
 refine ⟨(JE r vs).trans kr,fun t=>?_⟩
 obtain ⟨hv,hr⟩:=Px
 obtain ⟨a,b,rfl⟩:∃ a b,vs=#[a,b]:=by
  obtain ⟨l⟩:=vs
  match l,hv with
  | [a,b],_=>exact ⟨a,b,rfl⟩
 have ra:=hr 0 x a rfl rfl
 have rb:=hr 1 y b rfl rfl
 have e:qR r #[a,b]=(r.tmps.setIfInBounds p a).setIfInBounds q b:=by simp [qR,Wp]
 rw [e]
 have gd:∀ (T:Array Value) (i j:Nat) (v:Value),i < T.size→(T.setIfInBounds i v).getD j undef=if i=j then v else T.getD j undef:=by
  intro T i j v hi
  simp only [fm,Array.getElem?_setIfInBounds]
  split
  ·rename_i h;subst h;simp [hi]
  ·rfl
 rw [gd _ _ _ _ (by simp;omega),gd _ _ _ _ (by omega)]
 simp only [cJ]
 by_cases ht:s=t
 ·subst ht
  rw [ko rfl,if_neg (fun h=>h2 h.symm),if_neg (fun h=>h1 h.symm)]
  generalize r.tmps.getD s undef=v at hs
  cases hs with
  | op pl h=>exact .op pl (Hw.trans h)
 ·rw [lR ht]
  by_cases ht2:p=t
  ·subst ht2
   rw [ko rfl,if_neg (fun h=>h3 h.symm),if_pos rfl];exact ra
  ·rw [lR ht2]
   by_cases ht3:q=t
   ·subst ht3
    rw [ko rfl,if_pos rfl];exact rb
   ·rw [lR ht3];exact .mV
end Go.Ab
