/- Abstract values over the heap of the machine, and functions read off its code (part 4). No conditions. -/
import Derived.Test.YtdigjibahkjfdaaGreatCc
import Derived.ProofKit
import Derived.Deep.Slices
import Derived.OpenShut
import Derived.ChangeOld
import Derived.SizedLaws
import Derived.RangeFuncLeaves
set_option linter.unusedVariables false
set_option linter.unusedSimpArgs false
namespace Go.Ab
section
variable {P:Program} {E:Env} {m0 nk:Nat} {F:List Nat} {eN:xG}
theorem CL {σ:dp} {f:Nat→Option Nat}:∀ (l:xG) (ps:List Prop) (τ:dp),KL σ F f eN l=some (ps,τ)→aX ps→∀ k o,av τ k=some o →
  ∃ d p,(k,d)∈l∧wN σ F f eN d=some (p,o)∧aX p
 | [],ps,τ,h,_,k,o,hk=>by simp [KL] at h;obtain ⟨_,rfl⟩:=h;simp [av] at hk
 | (k',d) :: r,ps,τ,h,hp,k,o,hk=>by
  simp only [KL] at h
  split at h
  ·rename_i p o' q l e1 e2
   simp only [aD,aA] at h
   obtain ⟨rfl,rfl⟩:=h
   obtain ⟨tX,vk⟩:=aX.app hp
   simp only [av] at hk
   split at hk
   ·rename_i hb
    cases hk
    rw [← bp hb]
    exact ⟨d,p,by simp,e1,tX⟩
   ·obtain ⟨d',p',h1,h2,h3⟩:=CL r q l e2 vk k o hk
    exact ⟨d',p',List.mem_cons_of_mem _ h1,h2,h3⟩
  ·cases h
theorem Ii {σ:dp} {f:Nat→Option Nat} {tm:List (Nat×AV)} {R:Value→AV→Prop} {fr:Array Value} (Zf:∀ v,R v .mU)
  (hv:∀ d t ps y,FB σ F f eN d (cL tm t)=some (ps,y)→aX ps→R (fr.getD t undef) y):∀ (l:List (Nat×Wd)) (ps:List Prop) (Ms:List (Nat×AV)),
  KK σ F f eN tm l=some (ps,Ms)→aX ps→∀ t,R (fr.getD t undef) (cL Ms t)
 | [],ps,Ms,h,_,t=>by simp [KK] at h;obtain ⟨_,rfl⟩:=h;exact Zf _
 | (t',d) :: r,ps,Ms,h,hp,t=>by
  simp only [KK] at h
  split at h
  ·rename_i p x q l e1 e2
   simp only [aD,aA] at h
   obtain ⟨rfl,rfl⟩:=h
   obtain ⟨tX,vk⟩:=aX.app hp
   simp only [cL]
   split
   ·rename_i hb
    rw [← bp hb]
    exact hv d t' p x e1 tX
   ·exact Ii Zf hv r q l e2 vk t
  ·cases h
theorem Rn {k0:Nat}:∀ (l:xG) (a b:Nat) (x y:Od),mD (l.filterMap (·.2.vf))=true→(a,x)∈l→(b,y)∈l→x.vf=some k0→y.vf=some k0→a=b:=by
 intro l
 induction l with
 | nil=>intro a b x y _ h;simp at h
 | cons z l ih =>
  intro a b x y hn ha hb hx hy
  have none:∀ c u,(c,u)∈l→u.vf=some k0→idx (l.filterMap (·.2.vf)) k0=none→False:=by
   intro c u hc hu hi
   have nH:k0∈l.filterMap (·.2.vf):=List.mem_filterMap.2 ⟨(c,u),hc,hu⟩
   obtain ⟨i,o8⟩:=List.getElem?_of_mem nH
   exact md _ _ hi i o8
  rcases jq.1 ha with Uc | Uc
  ·rcases jq.1 hb with nJ | nJ
   ·rw [← Uc] at nJ;cases nJ;rfl
   ·rw [← Uc] at hn
    simp only [List.filterMap_cons,hx,mD,a9,Option.isNone_iff_eq_none] at hn
    exact (none b y nJ hy hn.1).elim
  ·rcases jq.1 hb with nJ | nJ
   ·rw [← nJ] at hn
    simp only [List.filterMap_cons,hy,mD,a9,Option.isNone_iff_eq_none] at hn
    exact (none a x Uc hx hn.1).elim
   ·refine ih a b x y ?_ Uc nJ hx hy
    simp only [List.filterMap_cons] at hn
    split at hn
    ·exact hn
    ·simp only [mD,a9] at hn;exact hn.2
theorem Xb:∀ {as:List AV} {sz n:Nat} {g:Nat→List AV},KJ as [.mr sz n g]→as=[.mr sz n g]
 | [],_,_,_,h=>h.elim
 | a :: [],_,_,_,h=>by
  rcases h.1 with h1 | ⟨_,f,h1⟩
  ·rw [h1]
  ·cases h1
 | _ :: _ :: _,_,_,_,h=>h.2.elim
theorem Ro {σ:dp} {f:Nat→Option Nat} {d:Od} {p:List Prop} {o:Ob} (h:wN σ F f eN d=some (p,o)) (hp:aX p) {i:Nat} {x:Nat×Nat×(Nat→List AV)} (hr:rowOf o i=some x) :
  ∃ k0 o0,d.vf=some k0∧av σ k0=some o0∧rowOf o0 i=some x:=by
 obtain ⟨r1,r2,r3⟩:=di hr
 cases d with
 | ak k0 =>
  simp only [wN,aL,aA] at h
  obtain ⟨o0,py,_,rfl⟩:=h
  exact ⟨k0,o0,rfl,py,(qw _ _ _ _).1 hr⟩
 | arr k0 n gt =>
  simp only [wN] at h
  split at h
  ·rename_i o0 py
   split at h
   ·simp only [aD,aA] at h
    obtain ⟨rfl,rfl⟩:=h
    obtain ⟨p1,p2,_⟩:=hp
    exact ⟨k0,o0,rfl,py,kG r1 (by rw [p1];exact r2) (by rw [← p2 i r2];exact r3)⟩
   ·cases h
  ·cases h
 | Tz k0 n gt =>
  simp only [wN] at h
  split at h
  ·rename_i o0 py
   split at h
   ·simp only [aD,aA] at h
    obtain ⟨rfl,rfl⟩:=h
    obtain ⟨p1,p2,_⟩:=hp
    have:=p2 i r2
    have r3:gt i=[.mr x.1 x.2.1 x.2.2]:=r3
    rw [r3] at this
    exact ⟨k0,o0,rfl,py,kG r1 (lV r2 p1) (Xb this)⟩
   ·cases h
  ·cases h
 | pz k0 n l b =>
  simp only [wN] at h
  split at h
  ·rename_i o0 l' py hl'
   split at h
   ·rename_i hb
    simp only [aD,aA] at h
    obtain ⟨rfl,rfl⟩:=h
    obtain ⟨p1,p2,p3,_⟩:=hp
    simp only [a9,Bool.not_eq_true'] at hb
    have r3:bk l' b i=[.mr x.1 x.2.1 x.2.2]:=r3
    rw [← FA (p3 i r2) hl',p2 i r2] at r3
    exact ⟨k0,o0,rfl,py,kG hb.1 (by rw [p1];exact r2) (QD r3)⟩
   ·cases h
  ·cases h
 | V6 gt =>
  simp only [wN,aD,aA] at h
  obtain ⟨_,rfl⟩:=h
  exact absurd r2 (dN _)
 | mp k0 cs =>
  simp only [wN] at h
  split at h
  ·rename_i o0 py
   split at h
   ·rename_i hb
    simp only [aD,aA] at h
    obtain ⟨rfl,rfl⟩:=h
    simp only [a9] at hb
    have:=bp hb.2
    exact absurd r2 (by show ¬ i < o0.len;omega)
   ·cases h
  ·cases h
 | var k0 ds =>
  simp only [wN] at h
  split at h
  ·split at h
   ·simp only [aD,aA] at h
    obtain ⟨rfl,rfl⟩:=h
    cases r1
   ·cases h
  ·cases h
 | nil sz gt =>
  simp only [wN] at h
  split at h
  ·simp only [aD,aA] at h
   obtain ⟨_,rfl⟩:=h
   exact absurd r2 (dN _)
  ·cases h
theorem Bw {st tY:St} {rR:List (Nat×Wd)} {ps:List Prop} (h:CK E.m0 st F rR eN nk=some (ps,tY)) (hp:aX ps) (hF:F.isEmpty=true∨∀ b,¬ E.fp b) {fr:Array Value} {w:World} (hr:Hc E st fr w):Hc E tY fr w:=by
 obtain ⟨S,μ,g,hk,hm,ht⟩:=hr
 unfold CK at h
 split at h
 case h_2=>cases h
 rename_i p tm q dr hn Zg cD
 simp only [aD,aA] at h
 obtain ⟨rfl,rfl⟩:=h
 obtain ⟨tX,vk⟩:=aX.app hp
 have N:=Rm hn
 have e:Ext w S μ w (SF μ F st.jf S) μ:=⟨aR _,fun _ h=>.inl h,fun _ _=>rfl,fun _ _ h=>h⟩
 have Uv:∀ k o,av dr k=some o→∃ pl c T,Hm E.m0 μ eN k=some pl∧gr w (SF μ F st.jf S) (Hm E.m0 μ eN) o pl c T ∧
   (0 < pl.cap→∃ k0 o0,av st.jf k0=some o0∧μ k0=some pl∧∃ d,(k,d)∈eN∧d.vf=some k0):=by
  intro k o Um
  obtain ⟨d,pd,qX,hd,Qb⟩:=CL eN q dr cD vk k o Um
  have mono:∀ {v:Value} {x:AV} {cC:Mu},ar w S cC v x→ar w (SF μ F st.jf S) cC v x:=fun h=>h.mono (fun _ h=>.inl h) (fun _ _=>rfl) (fun _ _ h=>h)
  have out:∀ k0 o0 pl,av st.jf k0=some o0→μ k0=some pl→k0 ∉ F→0 < pl.cap→¬ SF μ F st.jf S pl.b7:=by
   rintro k0 o0 pl py oc hnF hc (h1 | ⟨k1,o1,A8,Ul,wH,J5,s5,hb⟩)
   ·obtain ⟨iB,c,T,fw,QZ⟩:=g.rep.ob k0 o0 py
    rw [oc] at fw;cases fw
    exact QZ.out hc h1
   ·have eE:k1≠k0:=fun h=>hnF (h ▸ Ul)
    exact g.rep.ne k1 k0 o1 o0 A8 pl eE wH py J5 oc s5 hc hb
  cases d with
  | ak k0 =>
   simp only [wN,aL,aA] at hd
   obtain ⟨o0,py,_,rfl⟩:=hd
   obtain ⟨pl,c,T,oc,uO⟩:=g.rep.ob k0 o0 py
   have h1:=uO.ext e (fun _=>rfl) (out k0 o0 pl py oc (N.fr k _ k0 qX rfl))
   exact ⟨pl,c,T,by rw [AB N qX rfl];exact oc,h1.jr fun a b pl ha hb=>EJ N ha hb,fun _=>⟨k0,o0,py,oc,_,qX,rfl⟩⟩
  | arr k0 n gt =>
   simp only [wN] at hd
   split at hd
   ·rename_i o0 py
    split at hd
    ·rename_i hb
     simp only [aD,aA] at hd
     obtain ⟨rfl,rfl⟩:=hd
     obtain ⟨p1,p2,_⟩:=Qb
     obtain ⟨pl,c,T,oc,uO⟩:=g.rep.ob k0 o0 py
     simp only [a9] at hb
     have h1:=uO.ext e (fun _=>rfl) (out k0 o0 pl py oc (N.fr k _ k0 qX rfl))
     refine ⟨pl,c,T,by rw [AB N qX rfl];exact oc,⟨h1.sz,h1.b7,h1.cap,p1 ▸ h1.len,h1.out,fun i hi=>?_,fun i j x v hi hx hv=>?_,fun hz=>absurd hz (by have:=Nat.le_of_ble_eq_true hb.2;show o0.sz≠0;omega)⟩,fun _=>⟨k0,o0,py,oc,_,qX,rfl⟩⟩
     ·show (gt i).length=_
      rw [p2 i hi];exact h1.tj i (by rw [p1];exact hi)
     ·have hx:(gt i)[j]?=some x:=hx
      rw [p2 i hi] at hx
      have:=h1.rep i j x v (by rw [p1];exact hi) hx hv
      rw [hb.1.1] at this
      exact this
    ·cases hd
   ·cases hd
  | Tz k0 n gt =>
   simp only [wN] at hd
   split at hd
   ·rename_i o0 py
    split at hd
    ·rename_i hb
     simp only [aD,aA] at hd
     obtain ⟨rfl,rfl⟩:=hd
     obtain ⟨p1,p2,_⟩:=Qb
     obtain ⟨pl,c,T,oc,uO⟩:=g.rep.ob k0 o0 py
     simp only [a9] at hb
     have h1:=uO.ext e (fun _=>rfl) (out k0 o0 pl py oc (N.fr k _ k0 qX rfl))
     refine ⟨pl,c,T,by rw [AB N qX rfl];exact oc,⟨h1.sz,h1.b7,h1.cap,dj p1 h1.len,h1.out,fun i hi=>?_,fun i j x v hi hx hv=>?_,fun hz=>absurd hz (by have:=Nat.le_of_ble_eq_true hb.2;show o0.sz≠0;omega)⟩,fun _=>⟨k0,o0,py,oc,_,qX,rfl⟩⟩
     ·show (gt i).length=_
      rw [(p2 i hi).len];exact h1.tj i (lV hi p1)
     ·have hx:(gt i)[j]?=some x:=hx
      obtain ⟨a,ha,hax⟩:=(p2 i hi).get hx
      have:=h1.rep i j a v (lV hi p1) ha hv
      rw [hb.1.1] at this
      exact Xa hax this
    ·cases hd
   ·cases hd
  | mp k0 cs =>
   simp only [wN] at hd
   split at hd
   ·rename_i o0 py
    split at hd
    ·rename_i hb
     simp only [aD,aA] at hd
     obtain ⟨rfl,rfl⟩:=hd
     obtain ⟨rfl,_⟩:=Qb
     obtain ⟨pl,c,T,oc,uO⟩:=g.rep.ob k0 o0 py
     simp only [a9] at hb
     have Ki:=bp hb.2
     have h1:=uO.ext e (fun _=>rfl) (out k0 o0 pl py oc (N.fr k _ k0 qX rfl))
     refine ⟨pl,c,T,by rw [AB N qX rfl];exact oc,⟨h1.sz,h1.b7,h1.cap,h1.len,h1.out,fun i hi=>absurd hi (by show ¬ i < o0.len;omega),fun i j x v hi=>absurd hi (by show ¬ i < o0.len;omega),fun hz=>?_⟩,fun _=>⟨k0,o0,py,oc,_,qX,rfl⟩⟩
     obtain ⟨m0,m1,m2,m3,m4⟩:=h1.mp hz
     exact ⟨m0,m1,m2,rfl,m4⟩
    ·cases hd
   ·cases hd
  | V6 gt =>
   simp only [wN,aD,aA] at hd
   obtain ⟨_,rfl⟩:=hd
   exact ⟨⟨0,0,1⟩,#[],0,NT N qX,⟨rfl,fun h=>absurd h (by simp),by simp,by simp,fun h=>absurd h (by simp),fun i h=>absurd h (by simp),fun i j x v h=>absurd h (by simp),fun h=>absurd (show (1:Nat)=0 from h) (by omega)⟩,fun h=>absurd h (by simp)⟩
  | pz k0 n l b =>
   simp only [wN] at hd
   split at hd
   ·rename_i o0 l' py hl'
    split at hd
    ·rename_i hb
     simp only [aD,aA] at hd
     obtain ⟨rfl,rfl⟩:=hd
     obtain ⟨p1,p2',p3,_⟩:=Qb
     have p2:∀ i,i < n→bk l' b i=AV.uL (ur E.m0 eN) (o0.get i):=fun i hi=>by rw [← p2' i hi];exact (FA (p3 i hi) hl').symm
     let gt:Nat→List AV:=bk l' b
     obtain ⟨pl,c,T,oc,uO⟩:=g.rep.ob k0 o0 py
     simp only [a9] at hb
     have h1:=uO.ext e (fun _=>rfl) (out k0 o0 pl py oc (N.fr k _ k0 qX rfl))
     refine ⟨pl,c,T,by rw [AB N qX rfl];exact oc,⟨h1.sz,h1.b7,h1.cap,p1 ▸ h1.len,h1.out,fun i hi=>?_,fun i j x v hi hx hv=>?_,fun hz=>absurd hz (by have:=Nat.le_of_ble_eq_true hb.2;show o0.sz≠0;omega)⟩,fun _=>⟨k0,o0,py,oc,_,qX,rfl⟩⟩
     ·show (bk l' b i).length=_
      rw [p2 i hi,wD,List.length_map];exact h1.tj i (by rw [p1];exact hi)
     ·have hx:(bk l' b i)[j]?=some x:=hx
      rw [p2 i hi,wD,List.getElem?_map] at hx
      simp only [aL] at hx
      obtain ⟨y,hy,rfl⟩:=hx
      have:=hH (h1.rep i j y v (by rw [p1];exact hi) hy hv)
      exact this.jr fun a b pl ha hb=>EJ N ha hb
    ·cases hd
   ·cases hd
  | var k0 ds =>
   simp only [wN] at hd
   split at hd
   ·rename_i o0 py
    split at hd
    ·rename_i pw cs hb WD
     simp only [aD,aA] at hd
     obtain ⟨rfl,rfl⟩:=hd
     obtain ⟨pl,c,T,oc,uO⟩:=g.rep.ob k0 o0 py
     simp only [a9] at hb
     have WH:=bp hb.1.2
     have hz1:=Nat.le_of_ble_eq_true hb.2
     have ha:ar w S μ (.agg ((List.range o0.sz).map fun j=>(c[j]?).getD undef).toArray) (.agg (o0.get 0)):=by
      refine .agg (by simp [uO.tj 0 (by omega)]) fun j x v hx hv=>?_
      have hj:j < o0.sz:=by
       have:=(dd.1 hx).1
       rwa [uO.tj 0 (by omega)] at this
      obtain ⟨u,q1,_⟩:=dh uO (i:=0) (by omega) hj
      have Rp:c[j]?=some u:=by simpa using q1
      simp [List.getElem?_range hj,Rp] at hv
      exact hH (uO.rep 0 j x v (by omega) hx (by rw [← hv];simpa using q1))
     have L3:=NV g N (.agg ds) (.agg (o0.get 0)) _ pw (.agg cs) ha (by simp [FB,WD]) Qb
     obtain ⟨vs,Xc,Hf,Cl⟩:=nL L3
     cases Xc
     have hlen:cs.length=o0.sz:=by simpa using Hf.symm
     refine ⟨pl,c,T,by rw [AB N qX rfl];exact oc,⟨uO.sz,uO.b7,uO.cap,by have:=uO.len;show 1≤pl.cap;omega,out k0 o0 pl py oc (N.fr k _ k0 qX rfl),fun i hi=>hlen,fun i j x v hi hx hv=>?_,fun hz=>absurd hz (by show o0.sz≠0;omega)⟩,fun _=>⟨k0,o0,py,oc,_,qX,rfl⟩⟩
     have hi0:i=0:=by have hi:i < 1:=hi;omega
     subst hi0
     have hx:cs[j]?=some x:=hx
     have hj:j < o0.sz:=by rw [← hlen];exact (dd.1 hx).1
     have oM:c[j]?=some v:=by simpa using hv
     have:=Cl j x v hx (by simp [List.getElem?_range hj,oM])
     show ar w _ (if AV.lD cs then fZ else _) v x
     split
     ·rename_i hpp
      exact this.pure (po hpp hx) fZ
     ·exact this
    ·cases hd
   ·cases hd
  | nil sz gt =>
   simp only [wN] at hd
   split at hd
   case h_2=>cases hd
   rename_i abH
   simp only [aD,aA] at hd
   obtain ⟨_,rfl⟩:=hd
   exact ⟨⟨0,0,sz⟩,#[],0,NU N qX,⟨rfl,fun h=>absurd h (by simp),by simp,by simp,fun h=>absurd h (by simp),fun i h=>absurd h (by simp),fun i j x v h=>absurd h (by simp),fun h=>absurd (show sz=0 from h) (by have:=Nat.le_of_ble_eq_true abH;omega)⟩,fun h=>absurd h (by simp)⟩
 have Y6:∀ k i x v,gR w (Hm E.m0 μ eN) dr k i x v→∃ k0 d,(k,d)∈eN∧d.vf=some k0∧gR w μ st.jf k0 i x v:=by
  rintro k i x v ⟨o,pl,h1,h2,h3,h4⟩
  obtain ⟨d,pd,qX,hd,Qb⟩:=CL eN q dr cD vk k o h1
  obtain ⟨k0,o0,q1,q2,q3⟩:=Ro hd Qb h2
  rw [AB N qX q1] at h3
  exact ⟨k0,d,qX,q1,o0,pl,q2,q3,h3,h4⟩
 have Tm:MX E.fp E.w0.heap.size w (SF μ F st.jf S) (Hm E.m0 μ eN) dr:=by
  have hφ:∀ k d k0,(k,d)∈eN→d.vf=some k0→((uu eN k).bind Od.vf).getD 0=k0:=fun k d k0 h1 h2=>by rw [qW N.nd h1];simp [h2]
  refine g.mx.tr (fun k=>((uu eN k).bind Od.vf).getD 0) (fun k i x v h=>?_) (fun k i x v k' i' x' v' h h' he=>?_) (fun _ h=>.inl h) (fun _ _=>rfl) (fun k i x v b _ h hb=>⟨rfl,?_,fun h=>h⟩) (fun k o pl h1 h2 h3=>?_)
  ·obtain ⟨k0,d,q1,q2,q3⟩:=Y6 k i x v h
   show gR w μ st.jf (((uu eN k).bind Od.vf).getD 0) i x v
   rw [hφ k d k0 q1 q2];exact q3
  ·obtain ⟨k0,d,q1,q2,_⟩:=Y6 k i x v h
   obtain ⟨Zh,d',Rp,Tv,_⟩:=Y6 k' i' x' v' h'
   have he:((uu eN k).bind Od.vf).getD 0=((uu eN k').bind Od.vf).getD 0:=he
   rw [hφ k d k0 q1 q2,hφ k' d' Zh Rp Tv] at he
   exact Rn eN k k' d d' N.od q1 Rp q2 (he ▸ Tv)
  ·rintro (h1 | ⟨k1,o1,A8,_,wH,J5,s5,h1⟩)
   ·exact (g.mx.b7 h hb).2.1 h1
   ·exact g.mx.obj _ _ _ _ _ h hb k1 o1 A8 wH J5 s5 h1
  ·obtain ⟨A8,c,T,e1,_,e3⟩:=Uv k o h1
   rw [h2] at e1;cases e1
   obtain ⟨k0,o0,py,oc,_⟩:=e3 h3
   exact .inl ⟨k0,o0,pl,py,oc,h3,rfl⟩
 refine ⟨SF μ F st.jf S,Hm E.m0 μ eN,⟨g.fr,fun b h=>.inl (g.S0 b h),?_,?_,⟨?_,?_⟩,?_,?_,Tm⟩,?_,N.m0,?_⟩
 ·rintro b (h1 | ⟨k1,o1,A8,Ul,wH,J5,s5,rfl⟩)
  ·exact g.S1 b h1
  ·obtain ⟨iB,c,T,fw,QZ⟩:=g.rep.ob k1 o1 wH
   rw [J5] at fw;cases fw
   exact cm (QZ.b7 s5)
 ·rintro b (h1 | ⟨k1,o1,A8,Ul,wH,J5,s5,rfl⟩)
  ·exact g.S2 b h1
  ·rcases g.own k1 o1 A8 wH J5 s5 with h2 | h2
   ·rcases hF with h3 | h3
    ·rw [List.isEmpty_iff] at h3;rw [h3] at Ul;simp at Ul
    ·exact (h3 _ h2).elim
   ·exact .inr h2
 ·intro k o Um
  obtain ⟨pl,c,T,h1,h2,_⟩:=Uv k o Um
  exact ⟨pl,c,T,h1,h2⟩
 ·intro k k' o o' pl iB eE Um abJ qJ Uw hc jk
  obtain ⟨A8,c,T,h1,_,h3⟩:=Uv k o Um
  obtain ⟨qu,c',T',Kx,_,Zi⟩:=Uv k' o' abJ
  rw [qJ] at h1;cases h1
  rw [Uw] at Kx;cases Kx
  obtain ⟨k0,o0,py,oc,d,hd,hdo⟩:=h3 hc
  obtain ⟨Zh,o0',abK,abL,d',VX,abM⟩:=Zi jk
  have Mf:k0≠Zh:=by
   rintro rfl
   exact eE (Rn eN k k' d d' N.od hd VX hdo abM)
  exact g.rep.ne k0 Zh o0 o0' pl iB Mf py abK oc abL hc jk
 ·intro k o pl Um qJ hc
  obtain ⟨A8,c,T,h1,_,h3⟩:=Uv k o Um
  rw [qJ] at h1;cases h1
  obtain ⟨k0,o0,py,oc,_⟩:=h3 hc
  exact g.own k0 o0 pl py oc hc
 ·intro k ld
  unfold Hm
  rw [if_pos ld];exact g.A9 k ld
 ·intro k ld
  have ld:nk≤k:=ld
  have:=N.m0
  unfold Hm
  rw [if_neg (by omega)]
  cases hg:uu eN k with
  | none=>rfl
  | some d =>
   have:=N.lt k d (zx hg)
   omega
 ·exact Ii (R:=fun v x=>ar w (SF μ F st.jf S) (Hm E.m0 μ eN) v x) (fun _=>.mU) (fun d t ps y h1 h2=>NV g N d _ _ ps y (ht t) h1 h2) rR p tm Zg tX
def az (P:Program) (E:Env) (fn:FuncId) (nt:Nat) (cF:Value→World→Prop) (k:List Item) (st:St):Prop :=
 ∀ (tm:Array Value) (w:World),tm.size=nt→Hc E st tm w→∀ (b:Frame),b.fn=fn→b.kind=.normal→∀ cs,
  ∃ v w' fr,cF v w'∧Steps P (lone (b.at ⟨tm,[]⟩ k) cs w) (lone fr cs w')∧fr.fn=fn∧fr.leaving P w' (.returned v)
variable {fn:FuncId} {nt:Nat} {cF:Value→World→Prop} {k k':List Item} {st tY:St}
theorem az.step (h:az P E fn nt cF k' st) (hs:∀ (b:Frame) (a:Act) (cs:List Frame) (w:World),step P (lone (b.at a k) cs w)=.next (lone (b.at a k') cs w)):az P E fn nt cF k st:=by
 intro tm w h1 h2 b h3 h4 cs
 obtain ⟨v,w',fr,q1,q2,q3,q4⟩:=h tm w h1 h2 b h3 h4 cs
 exact ⟨v,w',fr,q1,.head (hs b ⟨tm,[]⟩ cs w) q2,q3,q4⟩
theorem az.seq {x y:Code} (h:az P E fn nt cF (.code x :: .code y :: k) st):az P E fn nt cF (.code (.seq x y) :: k) st:=h.step fun _ _ _ _=>step_seq
theorem az.block {id:Nat} {c:Code} (h:az P E fn nt cF (.code c :: .inBlock id :: k) st):az P E fn nt cF (.code (.block id c) :: k) st:=h.step fun _ _ _ _=>step_block
theorem az.inBlock {id:Nat} (h:az P E fn nt cF k st):az P E fn nt cF (.inBlock id :: k) st:=h.step fun _ _ _ _=>step_inBlock
theorem az.loop {c:Code} (h:az P E fn nt cF (.code c :: .inLoop c :: k) st):az P E fn nt cF (.code (.loop c) :: k) st:=h.step fun _ _ _ _=>step_loop
theorem az.inLoop {c:Code} (h:az P E fn nt cF (.code c :: .inLoop c :: k) st):az P E fn nt cF (.inLoop c :: k) st:=h.step fun _ _ _ _=>step_inLoop
theorem az.skip (h:az P E fn nt cF k st):az P E fn nt cF (.code .skip :: k) st:=h.step fun _ _ _ _=>step_skip
theorem az.label {l:Nat} (h:az P E fn nt cF k st):az P E fn nt cF (.code (.label l) :: k) st:=h.step fun _ _ _ _=>step_label
theorem az.scope {c:Code} (h:az P E fn nt cF (.code c :: .inScope c :: k) st):az P E fn nt cF (.code (.scope c) :: k) st:=h.step fun _ _ _ _=>step_lone_go (by simp [stepG,stepG.exec,Frame.at])
theorem az.inScope {c:Code} (h:az P E fn nt cF k st):az P E fn nt cF (.inScope c :: k) st:=h.step fun _ _ _ _=>step_lone_go (by simp [stepG,stepG.exec,Frame.at])
theorem az.exit {id:Nat} (he:exitTo id k=some k') (h:az P E fn nt cF k' st):az P E fn nt cF (.code (.exit id) :: k) st:=h.step fun _ _ _ _=>step_exit he
theorem az.cond {c:Operand} {x y:Code} {q:Bool} (hc:xl st.tm c=.atom (.bool q)) (h1:q=true→az P E fn nt cF (.code x :: k) st) (h2:q=false→az P E fn nt cF (.code y :: k) st) :
  az P E fn nt cF (.code (.cond c x y) :: k) st:=by
 intro tm w hs hr b nJ lN cs
 have Ag:=hr
 obtain ⟨S,μ,g,_,_,ht⟩:=Ag
 have e:=zs (a:=⟨tm,[]⟩) ht c
 rw [hc] at e
 have e:=db e
 have y8:=step_cond (P:=P) (b:=b) (k:=k) (cs:=cs) (w:=w) (x:=x) (y:=y) e
 cases q with
 | true =>
  obtain ⟨v,w',fr,q1,q2,q3,q4⟩:=h1 rfl tm w hs hr b nJ lN cs
  exact ⟨v,w',fr,q1,.head y8 q2,q3,q4⟩
 | false =>
  obtain ⟨v,w',fr,q1,q2,q3,q4⟩:=h2 rfl tm w hs hr b nJ lN cs
  exact ⟨v,w',fr,q1,.head y8 q2,q3,q4⟩
structure aQ (E:Env) (m:Nat):Prop where
 m0:E.m0=m
 fp:m=0→∀ b,¬ E.fp b
theorem az.wk {m:Nat} (hE:aQ E m) {rR:List (Nat×Wd)} {ps:List Prop} (h:CK m st F rR eN nk=some (ps,tY)) (hF:(F.isEmpty || Nat.beq m 0)=true) (hp:aX ps) (hr:az P E fn nt cF k tY):az P E fn nt cF k st:=by
 have h':CK E.m0 st F rR eN nk=some (ps,tY):=by rw [hE.m0];exact h
 refine fun tm w h1 h2=>hr tm w h1 (Bw h' hp ?_ h2)
 rcases Bool.or_eq_true_iff.1 hF with h3 | h3
 ·exact .inl h3
 ·exact .inr (hE.fp (bp h3))
def Bx (P:Program) (nt:Nat) (c:Code) (orcs:List (Nat×lW)) (st:St):Option (List Prop×St) :=
 match c with
 | .region _ ops draw=>match oN P nt ops.toList st.nk orcs ops.toList 0 st.tm st.jf with
  | some bI=>match !draw || (P.follows .mixedOrders && Re ops.toList bI) with
   | true=>some (wM bI,⟨vw bI st.tm,qA bI st.jf,st.nk+16 * ops.size⟩)
   | false=>none
  | none=>none
 | _=>none
def ou:List (Nat×lW)→Bool
 | []=>true
 | (_,o) :: r=>!o.wE && ou r
def NW:List (Nat×lW)→Bool
 | []=>true
 | (_,o) :: r=>o.y.isNone && NW r
def Xd (P:Program) (E:Env):List (Nat×lW)→Prop
 | []=>True
 | (_,o) :: r=>(match o.y with
  | some y=>WY P E y
  | none=>True)∧Xd P E r
theorem CM:∀ {orcs:List (Nat×lW)},ou orcs=true→∀ i x,lX orcs i=some x→x.wE=true→False
 | [],_,i,x,h,_=>by simp [lX] at h
 | (a,o) :: r,hn,i,x,h,hx=>by
  simp only [ou,a9,Bool.not_eq_true'] at hn
  simp only [lX] at h
  split at h
  ·cases h;rw [hn.1] at hx;cases hx
  ·exact CM hn.2 i x h hx
theorem CN {P:Program} {E:Env}:∀ {orcs:List (Nat×lW)},NW orcs=true→Xd P E orcs
 | [],_=>trivial
 | (a,o) :: r,hn=>by
  simp only [NW,a9,Option.isNone_iff_eq_none] at hn
  refine ⟨?_,CN hn.2⟩
  rw [hn.1];trivial
theorem I9 {P:Program} {E:Env}:∀ {orcs:List (Nat×lW)},Xd P E orcs→∀ i x y,lX orcs i=some x→x.y=some y→WY P E y
 | [],_,i,x,y,h,_=>by simp [lX] at h
 | (a,o) :: r,hn,i,x,y,h,hx=>by
  simp only [lX] at h
  split at h
  ·cases h
   have:=hn.1
   rw [hx] at this;exact this
  ·exact I9 hn.2 i x y h hx
theorem ye {rd:Option Nat} {ds:List Deferred} {c:Code} {orcs:List (Nat×lW)} (hz:ou orcs=true∨∀ b,¬ E.fp b) (hy:Xd P E orcs) {ps:List Prop} (h:Bx P nt c orcs st=some (ps,tY)) (hp:aX ps)
  {tm:Array Value} {w:World} (hs:tm.size=nt) (xE:Hc E st tm w):c.wpIn (FW rd) 0 P (fun e a w=>e=.normal∧a.tmps.size=nt∧a.defers=ds∧Hc E tY a.tmps w) ⟨tm,ds⟩ w:=by
 have hz:∀ i,Fq P E (lX orcs i):=fun i=>⟨fun x hx hf=>hz.elim (fun hn=>(CM hn i x hx hf).elim) id,fun x y hx Pr=>I9 hy i x y hx Pr⟩
 unfold Bx at h
 split at h
 case h_2=>cases h
 rename_i id ops draw
 split at h
 case h_2=>cases h
 rename_i bI Tx
 split at h
 case h_2=>cases h
 rename_i hd
 simp only [aD,aA] at h
 obtain ⟨rfl,rfl⟩:=h
 obtain ⟨S,μ,g,hk,hm,ht⟩:=xE
 let Q0:Exit→Act→World→Prop:=fun e a w=>e=.normal∧a.tmps.size=nt∧a.defers=ds∧Hc E ⟨vw bI st.tm,qA bI st.jf,st.nk+16 * ops.size⟩ a.tmps w
 show (Code.region id ops draw).wpIn (FW rd) 0 P Q0 ⟨tm,ds⟩ w
 have hQ:∀ (a':Act) (w':World) (S':Nat→Prop) (cC:Mu),a'.tmps.size=nt→a'.defers=ds→Good E (qA bI st.jf) S' cC w'→(∀ k,st.nk+16 * ops.size≤k→cC k=none)→(∀ t,ar w' S' cC (a'.tmps.getD t undef) (cL (vw bI st.tm) t)) →
   Q0 .normal a' w' :=
  fun a' w' S' cC q1 q2 q3 q4 q5=>⟨rfl,q1,q2,S',cC,q3,q4,by show E.m0≤st.nk+16 * ops.size;omega,q5⟩
 cases draw with
 | false =>
  refine wpIn_region ?_
  have:=CG (P:=P) (E:=E) (Q:=Q0) (rd:=rd) (ds:=ds) (nt:=nt) (nk:=st.nk) (ops:=ops) (orcs:=orcs) hz hm ops.toList 0 ⟨tm,ds⟩ w st.tm st.jf S μ bI rfl (by simp) hs rfl g (by simpa using hk) ht Tx hp hQ
  rw [List.range_eq_range']
  simpa using this
 | true =>
  simp only [Bool.not_true,Bool.false_or,a9] at hd
  refine wpIn_region_any hd.1 ?_
  have Ps:∀ (n j:Nat),(Array.replicate n false).getD j false=false:=by
   intro n j
   simp only [fj,Array.getElem?_replicate]
   split<;>rfl
  refine Mv hz hm Tx hp hd.2 hQ ops.size _ ⟨tm,ds⟩ _ S μ (by simp) hs rfl ?_ ?_ ?_ ?_ ?_
  ·intro j hj;rw [Ps] at hj;cases hj
  ·omega
  ·rw [zu bI 0 st.jf _ (fun m _=>Ps _ _)];exact g.drew
  ·intro k' ld _
   exact hk k' ld
  ·intro t
   rw [Bu bI 0 st.tm _ (fun m _=>Ps _ _)]
   exact (ht t).ext (Ext.drew w S μ)
theorem az.region {c:Code} {orcs:List (Nat×lW)} (hz:ou orcs=true∨∀ b,¬ E.fp b) (hy:Xd P E orcs) {ps:List Prop} (h:Bx P nt c orcs st=some (ps,tY)) (hp:aX ps) (hr:az P E fn nt cF k tY):az P E fn nt cF (.code c :: k) st:=by
 intro tm w hs xE b nJ lN cs
 have Xe:c.wp P (fun e a w=>e=.normal∧a.tmps.size=nt∧a.defers=[]∧Hc E tY a.tmps w) ⟨tm,[]⟩ w:=(wpIn_wide (n:=0)).1 (ye (rd:=none) (ds:=[]) hz hy h hp hs xE)
 obtain ⟨e,a',w',⟨rfl,q1,q2,q3⟩,Mx⟩:=Xe b k cs
 have ha:a'=⟨a'.tmps,[]⟩:=by cases a';simp at q2;simp [q2]
 obtain ⟨v,Nt,fr,r1,r2,r3,r4⟩:=hr a'.tmps w' q1 q3 b nJ lN cs
 refine ⟨v,Nt,fr,r1,Steps.trans Mx ?_,r3,r4⟩
 rw [ha];exact r2
end
end Go.Ab
namespace Go.Ab
def aY (E:Env) (dr:dp) (res:AV) (v:Value) (w':World):Prop:=∃ S' cC,Good E dr S' cC w'∧ar w' S' cC v res
def FD (P:Program) (st:St):List ResultVar→Option (List Prop×List AV)
 | []=>some ([],[])
 | .tmp t :: r=>(FD P st r).map fun (p,l)=>(p,cL st.tm t :: l)
 | .cell a t :: r=>match xU P st.jf t (cL st.tm a),FD P st r with
  | some (p,x,_),some (q,l)=>some (p ++ q,x :: l)
  | _,_=>none
def Rq:List AV→AV
 | [x]=>x
 | l=>.tup l
def xq (P:Program) (fn:Func) (st:St):Option (List Prop×AV):=(FD P st fn.results.toList).map fun (p,l)=>(p,Rq l)
section
variable {P:Program} {E:Env} {fn:FuncId} {nt:Nat} {k:List Item} {st:St}
theorem Ja {S:Nat→Prop} {μ:Mu} {w:World} (g:Good E st.jf S μ w) {tm:Array Value} (ht:∀ t,ar w S μ (tm.getD t undef) (cL st.tm t)) :
  ∀ (l:List ResultVar) (ps:List Prop) (xs:List AV),FD P st l=some (ps,xs)→aX ps→∃ vs:List Value,
   (l.mapM fun r=>(match r with | .tmp t=>pure (tm.getD t undef) | .cell a t=>(do loadVar t (← asAddr (tm.getD a undef)):Sem Value)):Sem (List Value)).run P w=.ok vs w∧vs.length=xs.length ∧
   ∀ (j:Nat) c v,xs[j]?=some c→vs[j]?=some v→ar w S μ v c
 | [],ps,xs,h,_=>by
  simp [FD] at h;obtain ⟨_,rfl⟩:=h
  exact ⟨[],by simp,rfl,fun j c v hc=>by simp at hc⟩
 | .tmp t :: r,ps,xs,h,hp=>by
  simp only [FD,aL,aA] at h
  obtain ⟨⟨p,l⟩,h1,rfl,rfl⟩:=h
  obtain ⟨vs,q1,q2,q3⟩:=Ja g ht r p l h1 hp
  refine ⟨tm.getD t undef :: vs,by simp only [List.mapM_cons,bJ,Sem.run_pure,cO,q1],by simp [q2],?_⟩
  intro j c v hc hv
  cases j with
  | zero=>simp at hc hv;subst hc hv;have:=ht t;rw [fj] at this;exact this
  | succ j=>exact q3 j c v (by simpa using hc) (by simpa using hv)
 | .cell a t :: r,ps,xs,h,hp=>by
  simp only [FD] at h
  split at h
  ·rename_i p x rd q l h1 h2
   simp only [aD,aA] at h
   obtain ⟨rfl,rfl⟩:=h
   obtain ⟨tX,vk⟩:=aX.app hp
   obtain ⟨vs,q1,q2,q3⟩:=Ja g ht r q l h2 vk
   obtain ⟨v,r1,r2⟩:=IU (P:=P) g (ht a) h1 tX
   have My:∃ ad,tm.getD a undef=.pointer (some ad):=by
    cases hv:tm.getD a undef with
    | pointer o =>
     cases o with
     | none=>rw [hv] at r1;simp [Instr.loadAt,Instr.sureAddr] at r1
     | some ad=>exact ⟨ad,rfl⟩
    | _=>rw [hv] at r1;simp [Instr.loadAt,Instr.sureAddr] at r1
   obtain ⟨ad,had⟩:=My
   rw [had] at r1
   simp only [Instr.loadAt,Instr.sureAddr,bJ,Sem.run_pure,cO] at r1
   have hA:(asAddr (tm.getD a undef)).run P w=.ok ad w:=by rw [had];rfl
   refine ⟨v :: vs,by rw [List.mapM_cons];simp only [bJ,hA,Sem.run_pure,cO,r1,q1],by simp [q2],?_⟩
   intro j c u hc hu
   cases j with
   | zero=>simp at hc hu;subst hc hu;exact r2
   | succ j=>exact q3 j c u (by simpa using hc) (by simpa using hu)
  ·cases h
theorem AD {f:Func} (hf:P.funcs[fn]?=some f) {ps:List Prop} {res:AV} (h:xq P f st=some (ps,res)) (hp:aX ps) {tm:Array Value} {w:World} (hr:Hc E st tm w) {b:Frame} (nJ:b.fn=fn) (lN:b.kind=.normal) (todo:List Item) :
  ∃ v,aY E st.jf res v w∧Frame.leaving P { b.at ⟨tm,[]⟩ todo with mode:=.returning } w (.returned v):=by
 obtain ⟨S,μ,g,_,_,ht⟩:=hr
 simp only [xq,aL,aA] at h
 obtain ⟨⟨p,l⟩,h1,rfl,rfl⟩:=h
 obtain ⟨vs,q1,q2,q3⟩:=Ja g ht f.results.toList p l h1 hp
 have hm:(f.results.mapM fun r=>(match r with | .tmp t=>pure (tm.getD t undef) | .cell a t=>(do loadVar t (← asAddr (tm.getD a undef)):Sem Value)):Sem (Array Value)).run P w=.ok vs.toArray w:=by
  rw [Array.mapM_eq_mapM_toList]
  simp only [Sem.run_map,q1,cO]
 have Mz:∃ v,ar w S μ v (Rq l)∧(results f tm).run P w=.ok v w:=by
  refine ⟨if h:vs.toArray.size=1 then vs.toArray[0] else .tuple vs.toArray,?_,?_⟩
  ·cases l with
   | nil =>
    have:vs=[]:=List.length_eq_zero_iff.1 q2
    subst this
    simp only [Rq]
    exact .tup rfl fun j c v hc=>by simp at hc
   | cons x r =>
    cases r with
    | nil =>
     simp at q2
     have hs:vs.toArray.size=1:=by simpa using q2
     rw [dif_pos hs]
     exact q3 0 x _ rfl (by simp [q2])
    | cons y r =>
     simp at q2
     have hs:¬ vs.toArray.size=1:=by simp;omega
     rw [dif_neg hs]
     exact .tup (by simp [q2]) fun j c v hc hv=>q3 j c v hc (by simpa using hv)
  ·unfold results
   simp only [bJ]
   exact (congrArg (fun r:Result (Array Value)=>r.andThen fun a w'=>Result.ok (if h:a.size=1 then a[0] else Value.tuple a) w') hm)
 obtain ⟨v,hv,iX⟩:=Mz
 exact ⟨v,⟨S,μ,g,hv⟩,rfl,rfl,lN,f,by rw [← hf,← nJ];rfl,iX⟩
theorem az.ret {f:Func} (hf:P.funcs[fn]?=some f) {ps:List Prop} {res:AV} (h:xq P f st=some (ps,res)) (hp:aX ps):az P E fn nt (aY E st.jf res) (.code .ret :: k) st:=by
 intro tm w _ hr b nJ lN cs
 obtain ⟨v,h1,h2⟩:=AD hf h hp hr nJ lN (.code .ret :: k)
 exact ⟨v,w,_,h1,.one step_ret,nJ,h2⟩
theorem az.fin {f:Func} (hf:P.funcs[fn]?=some f) {ps:List Prop} {res:AV} (h:xq P f st=some (ps,res)) (hp:aX ps):az P E fn nt (aY E st.jf res) [] st:=by
 intro tm w _ hr b nJ lN cs
 obtain ⟨v,h1,h2⟩:=AD hf h hp hr nJ lN []
 exact ⟨v,w,_,h1,.one step_end,nJ,h2⟩
def tu:List AV→Nat→List (Nat×AV)
 | [],_=>[]
 | x :: r,i=>(i,x) :: tu r (i+1)
theorem AE:∀ (l:List AV) (i t:Nat),cL (tu l i) t=if i≤t then (l[t - i]?).getD .mU else .mU
 | [],i,t=>by simp [tu,cL]
 | x :: r,i,t=>by
  simp only [tu,cL]
  by_cases h:i=t
  ·rw [ki h,if_pos (by omega)];simp [h]
  ·rw [lO h,AE r (i+1) t]
   by_cases h2:i+1≤t
   ·rw [if_pos h2,if_pos (by omega),show t - i=(t - (i+1))+1 by omega];simp
   ·rw [if_neg h2,if_neg (by omega)]
theorem sor {f:FuncId} {fu:Func} {c:Code} {nt m:Nat} {args:List AV} {σ dr:dp} {res:AV} (hf:P.funcs[f]?=some fu) (hb:fu.body=some c) (hn:fu.ntmps=nt) (ha:Nat.ble args.length nt=true)
  (Jb:m=0→σ=[]) (h:∀ E,aQ E m→az P E f nt (aY E dr res) [.code c] ⟨tu args 0,σ,m⟩):Sound P f args σ m res dr:=by
 simp only [Nat.ble_eq] at ha
 intro w S μ vs g hk hl cs
 have hE:aQ (tn w S σ μ m) m:=⟨rfl,fun hm b=>by
  rintro (⟨k,o,pl,h1,_⟩ | ⟨k,i,x,v,⟨o,pl,h1,_⟩,_⟩)<;>(rw [Jb hm] at h1;simp [av] at h1)⟩
 let b:Frame:={ (default:Frame) with fn:=f,kind:=.normal }
 have MA:Frame.enter P f vs .normal=b.at ⟨vs ++ Array.replicate (nt - vs.size) undef,[]⟩ [.code c]:=by
  simp [Frame.enter,Frame.at,hf,hb,hn,b]
 have kj:=hl.1
 obtain ⟨v,w',fr,h1,h2,h3,h4⟩:=h _ hE (vs ++ Array.replicate (nt - vs.size) undef) w (by simp;omega) ⟨S,μ,g,hk,aR _,fun t=>by
  show ar w S μ _ (cL (tu args 0) t)
  rw [AE,if_pos (Nat.zero_le _),Nat.sub_zero]
  cases hx:args[t]? with
  | none=>exact .mU
  | some x =>
   have fo:t < vs.size:=by rw [kj];exact (dd.1 hx).1
   have hv:(vs ++ Array.replicate (nt - vs.size) undef).getD t undef=vs[t]:=by
    simp [fj,Array.getElem?_append_left fo,fo]
   rw [hv]
   exact hl.2 t x _ hx (dM fo)⟩ b rfl rfl cs
 rw [← MA] at h2
 obtain ⟨S',cC,g',hv⟩:=h1
 exact ⟨.returned v,w',fr,⟨v,S',cC,rfl,g',hv⟩,h2,h3,h4⟩
end
end Go.Ab
namespace Go.Ab
def Xf (f:Func):Code:=f.body.getD .skip
def cat:Code→List Bool→Code
 | c,[]=>c
 | .seq a _,false :: p=>cat a p
 | .seq _ b,true :: p=>cat b p
 | .cond _ a _,false :: p=>cat a p
 | .cond _ _ b,true :: p=>cat b p
 | .block _ b,_ :: p=>cat b p
 | .loop b,_ :: p=>cat b p
 | .scope b,_ :: p=>cat b p
 | c,_ :: _=>c
def Jc:List Item→Option (List Item)
 | .code (.seq a b) :: k=>some (.code a :: .code b :: k)
 | .code (.block id c) :: k=>some (.code c :: .inBlock id :: k)
 | .code (.loop c) :: k=>some (.code c :: .inLoop c :: k)
 | .inLoop c :: k=>some (.code c :: .inLoop c :: k)
 | .inBlock _ :: k=>some k
 | .code (.scope c) :: k=>some (.code c :: .inScope c :: k)
 | .inScope _ :: k=>some k
 | .code .skip :: k=>some k
 | .code (.label _) :: k=>some k
 | .code (.exit id) :: k=>exitTo id k
 | _=>none
def Cf:Nat→List Item→Option (List Item)
 | 0,k=>some k
 | n+1,k=>match Jc k with
  | some k'=>Cf n k'
  | none=>none
section
variable {P:Program} {E:Env} {fn:FuncId} {nt:Nat} {cF:Value→World→Prop} {k k':List Item} {st tY:St}
theorem az.Jc (h:Jc k=some k') (hr:az P E fn nt cF k' st):az P E fn nt cF k st:=by
 unfold Ab.Jc at h
 split at h
 ·cases h;exact hr.seq
 ·cases h;exact hr.block
 ·cases h;exact hr.loop
 ·cases h;exact hr.inLoop
 ·cases h;exact hr.inBlock
 ·cases h;exact hr.scope
 ·cases h;exact hr.inScope
 ·cases h;exact hr.skip
 ·cases h;exact hr.label
 ·exact hr.exit h
 ·cases h
theorem az.Cf:∀ (n:Nat) {k:List Item},Cf n k=some k'→az P E fn nt cF k' st→az P E fn nt cF k st
 | 0,k,h,hr=>by simp only [Ab.Cf,aD] at h;rw [h];exact hr
 | n+1,k,h,hr=>by
  simp only [Ab.Cf] at h
  split at h
  ·rename_i k1 h1
   exact az.Jc h1 (az.Cf n h hr)
  ·cases h
theorem az.V7 {c x y:Code} {o:Operand} {q:Bool} (hx:c=.cond o x y) (hc:xl st.tm o=.atom (.bool q)) (h1:q=true→az P E fn nt cF (.code x :: k) st) (h2:q=false→az P E fn nt cF (.code y :: k) st) :
  az P E fn nt cF (.code c :: k) st:=by
 subst hx;exact az.cond hc h1 h2
theorem az.Xg {c x y:Code} {o:Operand} {n:Nat} (hx:c=.cond o x y) (hc:xl st.tm o=.bn n) (h1:n=0→az P E fn nt cF (.code x :: k) st) (h2:az P E fn nt cF (.code y :: k) st) :
  az P E fn nt cF (.code c :: k) st:=by
 subst hx
 intro tm w hs hr b nJ lN cs
 have Ag:=hr
 obtain ⟨S,μ,g,_,_,ht⟩:=Ag
 have e:=zs (a:=⟨tm,[]⟩) ht o
 rw [hc] at e
 obtain ⟨q,e1,e2⟩:∃ q,(⟨tm,[]⟩:Act).eval o=.bool q∧(q=true→n=0):=by
  generalize (⟨tm,[]⟩:Act).eval o=v at e
  cases e with
  | bn q h=>exact ⟨q,rfl,h⟩
 have y8:=step_cond (P:=P) (b:=b) (k:=k) (cs:=cs) (w:=w) (x:=x) (y:=y) e1
 cases q with
 | true =>
  obtain ⟨v,w',fr,q1,q2,q3,q4⟩:=h1 (e2 rfl) tm w hs hr b nJ lN cs
  exact ⟨v,w',fr,q1,.head y8 q2,q3,q4⟩
 | false =>
  obtain ⟨v,w',fr,q1,q2,q3,q4⟩:=h2 tm w hs hr b nJ lN cs
  exact ⟨v,w',fr,q1,.head y8 q2,q3,q4⟩
end
def Ah:dp→List Nat→dp
 | σ,[]=>σ
 | σ,k :: r=>Ah (qt σ k) r
theorem aY.Ux {E:Env} {res:AV} {v:Value} {w:World}:∀ (ks:List Nat) {σ:dp},aY E σ res v w→aY E (Ah σ ks) res v w
 | [],_,h=>h
 | k :: r,_,⟨S,μ,g,hv⟩=>aY.Ux r ⟨S,μ,g.del k,hv⟩
theorem az.abN {P:Program} {E:Env} {fn:FuncId} {nt:Nat} {k:List Item} {st:St} {c:Code} (ks:List Nat) (hx:c=.ret) {f:Func} (hf:P.funcs[fn]?=some f) {ps:List Prop} {res:AV} {dr:dp} (h:xq P f st=some (ps,res))
  (Jb:Ah st.jf ks=dr) (hp:aX ps):az P E fn nt (aY E dr res) (.code c :: k) st:=by
 subst hx Jb
 intro tm w h1 h2 b h3 h4 cs
 obtain ⟨v,w',fr,q1,q2⟩:=az.ret (E:=E) (nt:=nt) (k:=k) hf h hp tm w h1 h2 b h3 h4 cs
 exact ⟨v,w',fr,q1.Ux ks,q2⟩
theorem az.abO {P:Program} {E:Env} {fn:FuncId} {nt:Nat} {st:St} (ks:List Nat) {f:Func} (hf:P.funcs[fn]?=some f) {ps:List Prop} {res:AV} {dr:dp} (h:xq P f st=some (ps,res))
  (Jb:Ah st.jf ks=dr) (hp:aX ps):az P E fn nt (aY E dr res) [] st:=by
 subst Jb
 intro tm w h1 h2 b h3 h4 cs
 obtain ⟨v,w',fr,q1,q2⟩:=az.fin (E:=E) (nt:=nt) hf h hp tm w h1 h2 b h3 h4 cs
 exact ⟨v,w',fr,q1.Ux ks,q2⟩
def D2 (P:Program) (nt m:Nat) (c:Code) (orcs:List (Nat×lW)) (F:List Nat) (rR:List (Nat×Wd)) (eN:xG) (nk:Nat) (st:St):Option (List Prop×St) :=
 match Bx P nt c orcs st with
 | some (ps,s1)=>match CK m s1 F rR eN nk with
  | some (qs,s2)=>some (ps ++ qs,s2)
  | none=>none
 | none=>none
theorem az.rw {P:Program} {E:Env} {fn:FuncId} {nt:Nat} {cF:Value→World→Prop} {k:List Item} {st tY:St} {m:Nat} {c:Code} {orcs:List (Nat×lW)} {F:List Nat} {rR:List (Nat×Wd)} {eN:xG} {nk:Nat}
  (hE:aQ E m) {ps:List Prop} (h:D2 P nt m c orcs F rR eN nk st=some (ps,tY)) (hF:((F.isEmpty && ou orcs) || Nat.beq m 0)=true) (hy:Xd P E orcs) (hp:aX ps) (hr:az P E fn nt cF k tY):az P E fn nt cF (.code c :: k) st:=by
 unfold D2 at h
 split at h
 ·rename_i p1 s1 h1
  split at h
  ·rename_i q1 s2 h2
   simp only [aD,aA] at h
   obtain ⟨rfl,rfl⟩:=h
   obtain ⟨tX,vk⟩:=aX.app hp
   have Zj:(F.isEmpty || Nat.beq m 0)=true:=by
    rcases Bool.or_eq_true_iff.1 hF with h | h
    ·simp [(lU.1 h).1]
    ·simp [h]
   have hz:ou orcs=true∨∀ b,¬ E.fp b:=by
    rcases Bool.or_eq_true_iff.1 hF with h | h
    ·exact .inl (lU.1 h).2
    ·exact .inr (hE.fp (bp h))
   exact az.region hz hy h1 tX (az.wk hE h2 Zj vk hr)
  ·cases h
 ·cases h
abbrev aI (n:Int):AV:=.atom (.int .i64 n)
abbrev aB (b:Bool):AV:=.atom (.bool b)
abbrev aS (s:ByteArray):AV:=.atom (.string s)
def aN {α:Type} (c:α→List AV) (d:α) (l:List α):AV:=.sl l.length fun i=>c (l.getD i d)
def cI (n:Int):List AV:=[aI n]
def cB (b:Bool):List AV:=[aB b]
def cS (s:ByteArray):List AV:=[aS s]
def cU (k:IntKind) (n:Int):List AV:=[.atom (.int k n)]
abbrev aq (n:Int):Int:=IntKind.i64.wrap n
theorem ae {α:Type} {p:Prop} [Decidable p] {x:Option α} {r:α} (h:(if p then x else none)=some r):p∧x=some r:=by
 by_cases hp:p
 ·rw [if_pos hp] at h;exact ⟨hp,h⟩
 ·rw [if_neg hp] at h;cases h
theorem bt {α β:Type} {x:Option α} {f:α→Option β} {r:β} (h:x.bind f=some r):∃ a,x=some a∧f a=some r:=Option.bind_eq_some_iff.1 h
theorem aG {α:Type} {q:Bool} {x y:α} {r:α} (h:cond q x y=r) (hq:q=true):x=r:=by subst hq;exact h
theorem bg {α:Type} {q:Bool} {x y:α} {r:α} (h:cond q x y=r) (hq:q=false):y=r:=by subst hq;exact h
def Alike (x y:AV):Prop:=∀ w S μ v,ar w S μ v x→ar w S μ v y
theorem Alike.refl (x:AV):Alike x x:=fun _ _ _ _ h=>h
theorem Alike.sl {n m:Nat} {g g':Nat→List AV} (hn:n=m) (hg:∀ i,i < m→g' i=g i):Alike (.sl n g) (.sl m g'):=by
 subst hn
 intro w S μ v h
 cases h with
 | sl b off sz f h1 h2 h3 h4 h5=>exact .sl b off sz f h1 (fun i hi=>by rw [hg i hi];exact h2 i hi) h3 (fun i j c hi hc=>h4 i j c hi (by rw [← hg i hi];exact hc)) h5
theorem Alike.nil {g:Nat→List AV}:Alike .nil (.sl 0 g):=by
 intro w S μ v h
 cases h
 exact .sl 0 0 0 (fun _ _=>undef) (fun h=>absurd h (by omega)) (fun i h=>absurd h (by omega)) (fun i j h=>absurd h (by omega)) (fun i j c h=>absurd h (by omega)) (aR _)
theorem Alike.rp {cs:List AV}:Alike (.rp cs 0) (.pt true cs):=fun _ _ _ _ h=>.pt (fun _=>h) (fun h=>by cases h)
inductive AF:List AV→List AV→Prop where
 | nil:AF [] []
 | cons {x y:AV} {xs ys:List AV}:Alike x y→AF xs ys→AF (x :: xs) (y :: ys)
theorem AF.get {xs ys:List AV} (h:AF xs ys):xs.length=ys.length∧∀ (j:Nat) y,ys[j]?=some y→∃ x,xs[j]?=some x∧Alike x y:=by
 induction h with
 | nil=>exact ⟨rfl,fun j y h=>by simp at h⟩
 | cons h1 _ ih =>
  refine ⟨by simp [ih.1],?_⟩
  intro j y hy
  cases j with
  | zero=>simp at hy;subst hy;exact ⟨_,rfl,h1⟩
  | succ j=>exact ih.2 j y (by simpa using hy)
theorem Alike.agg {xs ys:List AV} (h:AF xs ys):Alike (.agg xs) (.agg ys):=by
 intro w S μ v hv
 obtain ⟨h1,h2⟩:=h.get
 cases hv with
 | agg q1 q2 =>
  refine .agg (q1.trans h1) fun j y v hy hv=>?_
  obtain ⟨x,hx,ha⟩:=h2 j y hy
  exact ha _ _ _ _ (q2 j x v hx hv)
theorem Sound.conv {P:Program} {f:FuncId} {args V8:List AV} {σ dr:dp} {m:Nat} {res:AV} (h:Sound P f args σ m res dr) (ha:AF V8 args):Sound P f V8 σ m res dr:=by
 obtain ⟨h1,h2⟩:=ha.get
 intro w S μ vs g hk hl
 refine h w S μ vs g hk ⟨hl.1.trans h1,fun j c v hc hv=>?_⟩
 obtain ⟨x,hx,ss⟩:=h2 j c hc
 exact ss _ _ _ _ (hl.2 j x v hx hv)
def vz (k:IntKind) (a b:Int):Int:=k.wrap (BitVec.ofInt k.bits a ||| BitVec.ofInt k.bits b).toNat
def vA (k:IntKind) (a b:Int):Int:=k.wrap (BitVec.ofInt k.bits a &&& BitVec.ofInt k.bits b).toNat
def iC (k:IntKind) (a b:Int):Int:=k.wrap (a * 2 ^ (min b.toNat k.bits))
def ow (k:IntKind) (a b:Int):Int:=a.fdiv (2 ^ (min b.toNat k.bits))
theorem dq {n:Int} {m:Nat} (h:0≤n∧n < (m:Int)):n.toNat < m:=by omega
theorem Ai {a b:Bool} (h:a=true) (k:b=true):(a && b)=true:=by rw [h,k];rfl
theorem Uy {α:Type} (c:α→List AV) (d:α) (l:List α) (k:Nat) (x:α) (i:Nat) (hi:i < (l.set k x).length) :
  c ((l.set k x).getD i d)=if i=k then c x else c (l.getD i d):=by
 have o8:i < l.length:=by simpa using hi
 by_cases h:i=k
 ·subst h;simp [o8]
 ·rw [if_neg h]
  have:¬ k=i:=fun e=>h e.symm
  simp [eh,this]
theorem Uz {α:Type} (c:α→List AV) (d:α) (l m:List α) (i:Nat) (_:i < (l ++ m).length) :
  c ((l ++ m).getD i d)=if i < l.length then c (l.getD i d) else c (m.getD (i - l.length) d):=by
 by_cases h:i < l.length
 ·rw [if_pos h];simp [eh,eH h]
 ·rw [if_neg h];simp [eh,gF (Nat.le_of_not_lt h)]
theorem qK {α:Type} (c:α→List AV) (d x:α) (n i:Nat) (hi:i < (List.replicate n x).length):c ((List.replicate n x).getD i d)=c x:=by
 have:i < n:=by simpa using hi
 simp [eh,this]
theorem qC {α:Type} (c:α→List AV) (d x:α) (n i:Nat) {z:List AV} (h:KJ z (c x)) (hi:i < (List.replicate n x).length):KJ z (c ((List.replicate n x).getD i d)):=by rw [qK c d x n i hi];exact h
theorem Jd {α:Type} (c:α→List AV) (d:α) (l:List α) (a b i:Nat) (hi:i < ((l.take b).drop a).length):c (((l.take b).drop a).getD i d)=c (l.getD (bT a i) d):=by
 have h1:a+i < min b l.length:=by simp at hi;omega
 rw [dk]
 simp only [eh,kc,ke]
 rw [if_pos (by omega)]
theorem dP {α:Type} (c:α→List AV) (d:α) (l:List α) (i:Nat) (hi:i < l.length):c (l.getD i d)=(l.map c).getD i []:=by
 simp [eh,hi]
theorem UA {α:Type} (l:List α) (a b:Nat) (h1:a≤b) (h2:b≤l.length):b - a=((l.take b).drop a).length:=by simp;omega
theorem Bz {α:Type} (l:List α) (a b:Nat) (h1:a≤b∧b≤l.length):b - a=((l.take b).drop a).length:=UA l a b h1.1 h1.2
end Go.Ab
namespace Go.Ab
theorem condSplit {α:Type} {q:Bool} {x y r:α} (h:cond q x y=r):(q=true∧x=r)∨(q=false∧y=r):=by cases q with
 | true=>exact .inl ⟨rfl,h⟩
 | false=>exact .inr ⟨rfl,h⟩
theorem dT {α:Type} (c:α→List AV) (d:α) (l m:List α) {n:Nat} {g1 g2:Nat→List AV} (hn:n=l.length) (h1:∀ z,z < l.length→c (l.getD z d)=g1 z)
  (h2:∀ z,z < m.length→c (m.getD z d)=g2 z) (i:Nat) (hi:i < (l ++ m).length):c ((l ++ m).getD i d)=if i < n then g1 i else g2 (i - n):=by
 subst hn
 rw [Uz c d l m i hi]
 by_cases h:i < l.length
 ·rw [if_pos h,if_pos h,h1 i h]
 ·rw [if_neg h,if_neg h,h2 (i - l.length) (by simp at hi;omega)]
theorem bA {α:Type} {l m:List α} {n k:Nat} (hn:n=l.length) (hk:k=m.length):n+k=(l ++ m).length:=by subst hn hk;simp
theorem yf {α:Type} (c:α→List AV) (d:α) (l:List α) (k:Nat) (x:α) {g:Nat→List AV} (h1:∀ z,z < l.length→c (l.getD z d)=g z) (i:Nat) (hi:i < (l.set k x).length) :
  c ((l.set k x).getD i d)=if i=k then c x else g i:=by
 rw [Uy c d l k x i hi,h1 i (by simpa using hi)]
theorem m6 {α:Type} {l:List α} {n k:Nat} {x:α} (hn:n=l.length):n=(l.set k x).length:=by subst hn;simp
def kp:List Nat→List (Nat×Wd)
 | []=>[]
 | t :: r=>(t,.ak) :: kp r
def kq:List Nat→xG
 | []=>[]
 | k :: r=>(k,.ak k) :: kq r
def vO (n:Nat) (cs:List AV):Ob:=⟨true,n,1,true,fun _=>cs⟩
def vN (n:Nat) (cs:List AV):Ob:=⟨true,n,1,false,fun _=>cs⟩
def aO {α:Type} (sz:Nat) (c:α→List AV) (d:α) (l:List α):Ob:=⟨false,sz,l.length,true,fun zi=>c (l.getD zi d)⟩
def V9:Nat→Nat→List Bool→List Bool
 | 0,_,acc=>acc
 | k+1,n,acc=>match Nat.ble n 1 with
  | true=>acc
  | false=>V9 k (n / 2) (Nat.beq (n % 2) 1 :: acc)
def Xh (n:Nat):List Bool:=V9 400 n []
theorem o1:0 < 1:=Nat.one_pos
theorem z0 {n:Nat}:0+n≤n:=Nat.le_of_eq (Nat.zero_add _)
section
variable {P:Program} {E:Env} {fn:FuncId} {nt:Nat} {cF:Value→World→Prop} {k:List Item} {st:St} {m:Nat}
theorem az.sA (n:Nat) (k':List Item) (hr:az P E fn nt cF k' st) (h:Ab.Cf n k=some k':=by kernel_rfl):az P E fn nt cF k st:=az.Cf n h hr
theorem az.sR (hE:aQ E m) (tY:St) (c:Code) (orcs:List (Nat×lW)) (F:List Nat) (rR:List (Nat×Wd)) (eN:xG) (nk:Nat) (ps:List Prop) (hp:aX ps) (hr:az P E fn nt cF k tY)
  (h:D2 P nt m c orcs F rR eN nk st=some (ps,tY):=by kernel_rfl) (hF:(((F.isEmpty && ou orcs) || Nat.beq m 0) && NW orcs)=true:=by rfl):az P E fn nt cF (.code c :: k) st:=az.rw hE h (lU.1 hF).1 (CN (lU.1 hF).2) hp hr
theorem az.sRY (hE:aQ E m) (tY:St) (c:Code) (orcs:List (Nat×lW)) (F:List Nat) (rR:List (Nat×Wd)) (eN:xG) (nk:Nat) (ps:List Prop) (hp:aX ps) (hy:Xd P E orcs) (hr:az P E fn nt cF k tY)
  (h:D2 P nt m c orcs F rR eN nk st=some (ps,tY):=by kernel_rfl) (hF:((F.isEmpty && ou orcs) || Nat.beq m 0)=true:=by rfl):az P E fn nt cF (.code c :: k) st:=az.rw hE h hF hy hp hr
theorem az.sW (hE:aQ E m) (tY:St) (F:List Nat) (rR:List (Nat×Wd)) (eN:xG) (nk:Nat) (ps:List Prop) (hp:aX ps) (hr:az P E fn nt cF k tY)
  (h:CK m st F rR eN nk=some (ps,tY):=by kernel_rfl) (hF:(F.isEmpty || Nat.beq m 0)=true:=by rfl):az P E fn nt cF k st:=az.wk hE h hF hp hr
theorem az.sC {c:Code} (t:Nat) (x y:Code) (q:Bool) (h1:q=true→az P E fn nt cF (.code x :: k) st) (h2:q=false→az P E fn nt cF (.code y :: k) st) (hx:c=.cond (.tmp t) x y:=by kernel_rfl) (hc:xl st.tm (.tmp t)=.atom (.bool q):=by kernel_rfl) :
  az P E fn nt cF (.code c :: k) st:=az.V7 hx hc h1 h2
theorem az.sT {c:Code} (f:Func) (ks:List Nat) (ps:List Prop) {res:AV} {dr:dp} (hp:aX ps) (hx:c=.ret:=by kernel_rfl) (hf:P.funcs[fn]?=some f:=by kernel_rfl) (h:xq P f st=some (ps,res):=by kernel_rfl)
  (Jb:Ah st.jf ks=dr:=by rfl):az P E fn nt (aY E dr res) (.code c :: k) st:=az.abN ks hx hf h Jb hp
theorem az.sF (f:Func) (ks:List Nat) (ps:List Prop) {res:AV} {dr:dp} (hp:aX ps) (hf:P.funcs[fn]?=some f:=by kernel_rfl) (h:xq P f st=some (ps,res):=by kernel_rfl)
  (Jb:Ah st.jf ks=dr:=by rfl):az P E fn nt (aY E dr res) [] st:=az.abO ks hf h Jb hp
def nK (n:Nat) (k:List Item):List Item:=match Ab.Cf n k with
 | some k'=>k'
 | none=>[]
def Bb:List Item→Code
 | .code c :: _=>c
 | _=>.ret
def UB:List Item→List Item
 | _ :: k=>k
 | []=>[]
def cdX:Code→Code
 | .cond _ x _=>x
 | c=>c
def cdY:Code→Code
 | .cond _ _ y=>y
 | c=>c
def KM (n:Nat) (k:List Item):Bool:=match Ab.Cf n k with
 | some (.code _ :: _)=>true
 | _=>false
def nS (P:Program) (nt m:Nat) (c:Code) (orcs:List (Nat×lW)) (F:List Nat) (rR:List (Nat×Wd)) (eN:xG) (nk:Nat) (st:St):St:=match D2 P nt m c orcs F rR eN nk st with
 | some x=>x.2
 | none=>st
def nV (m:Nat) (st:St) (F:List Nat) (rR:List (Nat×Wd)) (eN:xG) (nk:Nat):St:=match CK m st F rR eN nk with
 | some x=>x.2
 | none=>st
def Hn:Option (List Prop×St)→Option (List Prop)
 | some x=>some x.1
 | none=>none
theorem zy {n:Nat} {k:List Item} (h:KM n k=true):Ab.Cf n k=some (.code (Bb (nK n k)) :: UB (nK n k)):=by
 unfold KM at h
 unfold nK
 split at h
 ·rename_i c k' h1;rw [h1];rfl
 ·cases h
theorem nM {x:Option (List Prop×St)} {ps:List Prop} (h:Hn x=some ps):∃ s,x=some (ps,s):=by
 cases x with
 | none=>cases h
 | some y=>cases h;exact ⟨y.2,rfl⟩
theorem aj (hE:aQ E m) (n:Nat) (orcs:List (Nat×lW)) (F:List Nat) (rR:List (Nat×Wd)) (eN:xG) (nk:Nat) {ps:List Prop} (hp:aX ps)
  (hr:az P E fn nt cF (UB (nK n k)) (nS P nt m (Bb (nK n k)) orcs F rR eN nk st)) (h0:KM n k=true:=by kernel_rfl)
  (h:Hn (D2 P nt m (Bb (nK n k)) orcs F rR eN nk st)=some ps:=by kernel_rfl) (hF:(((F.isEmpty && ou orcs) || Nat.beq m 0) && NW orcs)=true:=by kernel_rfl):az P E fn nt cF k st:=by
 obtain ⟨s,hs⟩:=nM h
 refine az.Cf n (zy h0) (az.rw hE hs (lU.1 hF).1 (CN (lU.1 hF).2) hp ?_)
 have e:nS P nt m (Bb (nK n k)) orcs F rR eN nk st=s:=by unfold nS;rw [hs]
 rw [← e];exact hr
theorem de (hE:aQ E m) (n:Nat) (F:List Nat) (rR:List (Nat×Wd)) (eN:xG) (nk:Nat) {ps:List Prop} (hp:aX ps) {k':List Item} {tY:St} (hr:az P E fn nt cF k' tY)
  (h0:Ab.Cf n k=some k':=by kernel_rfl) (h:CK m st F rR eN nk=some (ps,tY):=by kernel_rfl) (hF:(F.isEmpty || Nat.beq m 0)=true:=by kernel_rfl):az P E fn nt cF k st :=
 az.Cf n h0 (az.wk hE h hF hp hr)
theorem J7 (hE:aQ E m) (F:List Nat) (rR:List (Nat×Wd)) (eN:xG) (nk:Nat) {ps:List Prop} (hp:aX ps) (hr:az P E fn nt cF k (nV m st F rR eN nk))
  (h:Hn (CK m st F rR eN nk)=some ps:=by kernel_rfl) (hF:(F.isEmpty || Nat.beq m 0)=true:=by kernel_rfl):az P E fn nt cF k st:=by
 obtain ⟨s,hs⟩:=nM h
 have e:nV m st F rR eN nk=s:=by unfold nV;rw [hs]
 rw [e] at hr
 exact az.wk hE hs hF hp hr
theorem dS (n t:Nat) {R:Type} {q:Bool} {x y r:R} (h:(bif q then x else y)=r) (h1:q=true→x=r→az P E fn nt cF (.code (cdX (Bb (nK n k))) :: UB (nK n k)) st)
  (h2:q=false→y=r→az P E fn nt cF (.code (cdY (Bb (nK n k))) :: UB (nK n k)) st) (h0:KM n k=true:=by kernel_rfl)
  (hx:Bb (nK n k)=.cond (.tmp t) (cdX (Bb (nK n k))) (cdY (Bb (nK n k))):=by kernel_rfl) (hc:xl st.tm (.tmp t)=.atom (.bool q):=by kernel_rfl):az P E fn nt cF k st :=
 az.Cf n (zy h0) (az.V7 hx hc (fun hq=>h1 hq (by rw [hq] at h;exact h)) (fun hq=>h2 hq (by rw [hq] at h;exact h)))
theorem dQ (hE:aQ E m) (n:Nat) (f:Func) (F:List Nat) (rR:List (Nat×Wd)) (eN:xG) (nk:Nat) {ps:List Prop} (hp:aX ps) (ks:List Nat) {Ug:List Prop} (vk:aX Ug) {res:AV} {dr:dp}
  (h0:KM n k=true:=by kernel_rfl) (hx:Bb (nK n k)=.ret:=by kernel_rfl) (h:Hn (CK m st F rR eN nk)=some ps:=by kernel_rfl) (hf:P.funcs[fn]?=some f:=by kernel_rfl)
  (h2:xq P f (nV m st F rR eN nk)=some (Ug,res):=by kernel_rfl) (Jb:Ah (nV m st F rR eN nk).jf ks=dr:=by kernel_rfl) (hF:(F.isEmpty || Nat.beq m 0)=true:=by kernel_rfl):az P E fn nt (aY E dr res) k st:=by
 obtain ⟨s,hs⟩:=nM h
 have e:nV m st F rR eN nk=s:=by unfold nV;rw [hs]
 rw [e] at h2 Jb
 exact az.Cf n (zy h0) (az.wk hE hs hF hp (az.sT f ks Ug vk hx hf h2 Jb))
theorem rnF (hE:aQ E m) (n:Nat) (f:Func) (F:List Nat) (rR:List (Nat×Wd)) (eN:xG) (nk:Nat) {ps:List Prop} (hp:aX ps) (ks:List Nat) {Ug:List Prop} (vk:aX Ug) {res:AV} {dr:dp}
  (h0:Ab.Cf n k=some []:=by kernel_rfl) (h:Hn (CK m st F rR eN nk)=some ps:=by kernel_rfl) (hf:P.funcs[fn]?=some f:=by kernel_rfl)
  (h2:xq P f (nV m st F rR eN nk)=some (Ug,res):=by kernel_rfl) (Jb:Ah (nV m st F rR eN nk).jf ks=dr:=by kernel_rfl) (hF:(F.isEmpty || Nat.beq m 0)=true:=by kernel_rfl):az P E fn nt (aY E dr res) k st:=by
 obtain ⟨s,hs⟩:=nM h
 have e:nV m st F rR eN nk=s:=by unfold nV;rw [hs]
 rw [e] at h2 Jb
 exact az.Cf n h0 (az.wk hE hs hF hp (az.sF f ks Ug vk hf h2 Jb))
def Zk (st:St) (k i sz len:Nat) (g:Nat→List AV):Option (List Prop) :=
 match av st.jf k with
 | some o=>match o.var with
  | false=>some [i < o.len,o.get i=[.mr sz len g]]
  | true=>none
 | none=>none
def stO (st:St) (k i sz len:Nat) (g:Nat→List AV):St :=
 match av st.jf k with
 | some o=>⟨st.tm,sset (sset st.jf k ⟨false,o.sz,o.len,false,fun m=>if m=i then [.os st.nk 0 len] else o.get m⟩) st.nk ⟨false,sz,len,true,g⟩,st.nk+16⟩
 | none=>st
theorem Rr (k1 i sz len:Nat) (g:Nat→List AV) {ps:List Prop} (hp:aX ps) (hr:az P E fn nt cF k (stO st k1 i sz len g)) (h:Zk st k1 i sz len g=some ps:=by kernel_rfl):az P E fn nt cF k st:=by
 refine fun tm w h1 h2=>hr tm w h1 ?_
 obtain ⟨S,μ,g0,hk,hm,ht⟩:=h2
 unfold Zk at h
 unfold stO
 cases ho:av st.jf k1 with
 | none=>rw [ho] at h;cases h
 | some o =>
  rw [ho] at h
  simp only at h ⊢
  cases hv:o.var with
  | true=>rw [hv] at h;cases h
  | false =>
   rw [hv] at h
   simp only [aD] at h
   subst h
   obtain ⟨p1,p2,_⟩:=hp
   obtain ⟨q,e1,e2⟩:=g0.opn (hk st.nk (aR _)) hm ho (kG (x:=(sz,len,g)) hv p1 p2)
   exact ⟨S,cl μ st.nk q,e2,fun n hn=>by
    have hn:st.nk+16≤n:=hn
    unfold cl;rw [if_neg (by omega)];exact hk n (by omega),by show E.m0≤st.nk+16;omega,fun t=>(ht t).ext e1⟩
def Zl (st:St) (k q i:Nat):Option (List Prop) :=
 match I3 st.jf k q i with
 | some x=>some x.1
 | none=>none
def stL (st:St) (k q i:Nat):St :=
 match I3 st.jf k q i with
 | some x=>⟨st.tm,eV st.jf x.2,st.nk⟩
 | none=>st
theorem Pt (k1 q i:Nat) {ps:List Prop} (hp:aX ps) (hr:az P E fn nt cF k (stL st k1 q i)) (h:Zl st k1 q i=some ps:=by kernel_rfl):az P E fn nt cF k st:=by
 refine fun tm w h1 h2=>hr tm w h1 ?_
 obtain ⟨S,μ,g0,hk,hm,ht⟩:=h2
 unfold Zl at h
 unfold stL
 cases hc:I3 st.jf k1 q i with
 | none=>rw [hc] at h;cases h
 | some x =>
  rw [hc] at h
  simp only [aD] at h
  subst h
  exact ⟨S,μ,H7 hc hp g0,hk,hm,ht⟩
def mR {α:Type} (sz:Nat) (c:α→List AV) (d:α) (l:List α):List AV:=[.mr sz l.length (fun i=>c (l.getD i d))]
def aM {α:Type} (sz:Nat) (c:α→List AV) (d:α) (l:List (List α)):Ob:=⟨false,1,l.length,false,fun m=>mR sz c d (l.getD m [])⟩
theorem BA {α:Type} {sz:Nat} {c:α→List AV} {d:α} (E:List (List α)) (i q n:Nat) (row:List α) (r:List (Nat×Nat×Nat)) (hi:i < E.length) (hr:∀ x∈r,x.1≠i) :
  ∀ m,m < (E.set i row).length→bk r (fun m=>mR sz c d ((E.set i row).getD m [])) m=if m=i then mR sz c d row else bk ((i,q,n) :: r) (fun m=>mR sz c d (E.getD m [])) m:=by
 intro m _
 have gen:∀ (r:List (Nat×Nat×Nat)),m≠i→bk r (fun m=>mR sz c d ((E.set i row).getD m [])) m=bk r (fun m=>mR sz c d (E.getD m [])) m:=by
  intro r hm
  induction r with
  | nil=>simp only [bk,eh];rw [List.getElem?_set_ne (fun h=>hm h.symm)]
  | cons x r ih =>
   obtain ⟨a,b,e⟩:=x
   simp only [bk,ih]
 by_cases hm:m=i
 ·subst hm
  rw [if_pos rfl]
  clear gen
  induction r with
  | nil=>simp only [bk,eh];rw [List.getElem?_set_self hi];rfl
  | cons x r ih =>
   obtain ⟨a,b,e⟩:=x
   have h1:m≠a:=fun h=>hr (a,b,e) List.mem_cons_self h.symm
   simp only [bk]
   rw [if_neg h1]
   exact ih fun x hx=>hr x (List.mem_cons_of_mem _ hx)
 ·rw [if_neg hm]
  simp only [bk]
  rw [if_neg hm]
  exact gen r hm
theorem qY {α:Type} {sz:Nat} {c:α→List AV} {d:α} (E:List (List α)) (i q n:Nat) (r:List (Nat×Nat×Nat)) (hr:∀ x∈r,x.1≠i) :
  ∀ m,m < E.length→bk r (fun m=>mR sz c d (E.getD m [])) m=if m=i then mR sz c d (E.getD i []) else bk ((i,q,n) :: r) (fun m=>mR sz c d (E.getD m [])) m:=by
 intro m _
 by_cases hm:m=i
 ·subst hm
  rw [if_pos rfl]
  induction r with
  | nil=>rfl
  | cons x r ih =>
   obtain ⟨a,b,e⟩:=x
   have h1:m≠a:=fun h=>hr (a,b,e) List.mem_cons_self h.symm
   simp only [bk]
   rw [if_neg h1]
   exact ih fun x hx=>hr x (List.mem_cons_of_mem _ hx)
 ·rw [if_neg hm]
  simp only [bk]
  rw [if_neg hm]
theorem Rs {α:Type} {sz:Nat} {c:α→List AV} {d:α} (E:List (List α)) (i q n:Nat) (row:List α) (r:List (Nat×Nat×Nat)) (he:E.getD i []=row) (hr:∀ x∈r,x.1≠i) :
  ∀ m,m < E.length→bk r (fun m=>mR sz c d (E.getD m [])) m=if m=i then mR sz c d row else bk ((i,q,n) :: r) (fun m=>mR sz c d (E.getD m [])) m:=by
 subst he;exact qY E i q n r hr
theorem qZ {α:Type} (E:List (List α)) (row:List α):(E ++ [row]).getD E.length []=row:=by simp
theorem Xi {α:Type} (E:List α) (row:α):E.length < (E ++ [row]).length:=by simp
theorem UC {α:Type} {sz:Nat} {c:α→List AV} {d:α} (E:List (List α)) (row:List α) {q n n2:Nat} {b:Nat→List AV} (h:n=n2) (hb:b 0=[.os q 0 n]) :
  ∀ m,m < (E ++ [row]).length→bk [(E.length,q,n2)] (fun m=>mR sz c d ((E ++ [row]).getD m [])) m=if m < E.length then mR sz c d (E.getD m []) else b (m - E.length):=by
 intro m hm
 subst h
 simp only [mK,List.length_singleton] at hm
 simp only [bk]
 by_cases h1:m=E.length
 ·subst h1;rw [if_pos rfl,if_neg (sH _),Nat.sub_self,hb]
 ·rw [if_neg h1,if_pos (by omega),eh,eH (by omega),eh]
theorem UD {b:Nat→List AV} {i1:Nat} (i k n n1 N:Nat) (h1:i1=i):∀ m,m < N→bk [(i,k,n1)] b m=if m=i1 then [.os k 0 n1] else bk [(i,k,n)] b m:=by
 intro m _
 subst h1
 simp only [bk]
 split
 ·rfl
 ·rfl
theorem gO {c:Prop} [Decidable c] {x:AV} {l:List AV} (h:c):(if c then [x] else l)[0]?=some x:=by rw [if_pos h];rfl
theorem CO {i:Nat}:∀ x∈([]:List (Nat×Nat×Nat)),x.1≠i:=fun _ h=>by simp at h
theorem neC {i j k n:Nat} {r:List (Nat×Nat×Nat)} (h:j≠i) (hr:∀ x∈r,x.1≠i):∀ x∈(j,k,n) :: r,x.1≠i:=fun x hx=>by
 rcases jq.1 hx with rfl | hx
 ·exact h
 ·exact hr x hx
theorem pc {p:Prop} {ps:List Prop} (h:p) (t:aX ps):aX (p :: ps):=⟨h,t⟩
theorem pn:aX []:=trivial
theorem z1 (n:Nat):0+n≤n:=z0
theorem cR {α:Type} (c:α→List AV) (d:α) (l:List α) (k:Nat) (x:α) (i:Nat) (hi:i < (l.set k x).length):c ((l.set k x).getD i d)=if i=k then c x else (fun zi=>c (l.getD zi d)) i :=
 yf c d l k x (fun _ _=>rfl) i hi
theorem aJ {α:Type} (l:List α) (k:Nat) (x:α):l.length=(l.set k x).length:=m6 rfl
end
def q0 {A B:Type} (ck:A→AV) (cv:B→AV):List (A×B)→List AV
 | []=>[]
 | p :: r=>ck p.1 :: cv p.2 :: q0 ck cv r
def o9 {A B:Type} (eq:A→A→Bool):List (A×B)→A→B→List (A×B)
 | [],x,y=>[(x,y)]
 | p :: r,x,y=>cond (eq p.1 x) ((p.1,y) :: r) (p :: o9 eq r x y)
theorem UE {P:Program} {kt:TypeId} (k:IntKind):∀ a b:Int,xk P kt (.atom (.int k a)) (.atom (.int k b))=some (a == b):=fun a b=>by simp [xk]
section
variable {P:Program} {kt:TypeId} {A B:Type} (ck:A→AV) (cv:B→AV) {eq:A→A→Bool} (h:∀ a b,xk P kt (ck a) (ck b)=some (eq a b))
include h
theorem yg:∀ (l:List (A×B)) (x:A) (y:B),Az P kt (q0 ck cv l) (ck x) (cv y)=some (q0 ck cv (o9 eq l x y))
 | [],x,y=>rfl
 | p :: r,x,y=>by
  simp only [q0,Az,h,o9]
  cases eq p.1 x with
  | true=>rfl
  | false=>simp only [yg r x y];rfl
end
def I:Bool:=true
def wI (x:Int):Prop:=-9223372036854775808≤x∧x≤9223372036854775807
def wK (k:IntKind) (x:Int):Prop:=k.min≤x∧x≤k.max
def wB (_:Bool):Prop:=True
def wL {A:Type} (wf:A→Prop) (l:List A):Prop:=l.length≤9223372036854775807∧∀ y,y∈l→wf y
def kJ {α:Type} (l:List α) (i j:Nat):List α:=l.take i ++ l.drop j ++ l.drop (i+(l.length - j))
theorem EK {α:Type} {l:List α} {i j:Nat} (h:i≤j∧j≤l.length):l.length=(kJ l i j).length:=by simp [kJ];omega
theorem NX {α:Type} (c:α→List AV) (d:α) (l:List α) (i j:Nat) (h:i≤j∧j≤l.length) (z:Nat) (hz:z < (kJ l i j).length) :
  c ((kJ l i j).getD z d)=if z < i - 0 then c (l.getD z d) else if z < (i - 0)+(l.length - j) then c (l.getD (bT j (z - (i - 0))) d) else c (l.getD z d):=by
 have hz:=EK h ▸ hz
 have e1:(l.take i).length=i:=by simp;omega
 have e2:(l.take i ++ l.drop j).length=i+(l.length - j):=by simp;omega
 simp only [kJ,Nat.sub_zero,eh,dk]
 by_cases h1:z < i
 ·rw [if_pos h1,eH (by omega),eH (by omega),ke,if_pos h1]
 ·rw [if_neg h1]
  by_cases h2:z < i+(l.length - j)
  ·rw [if_pos h2,eH (by omega),gF (by omega),e1,kc]
  ·rw [if_neg h2,gF (by omega),e2,kc]
   rw [show i+(l.length - j)+(z - (i+(l.length - j)))=z by omega]
theorem Je {α:Type} {l:List α} {a n:Nat} (h:0 < n∧a+n≤l.length):a=(l.take a).length:=by simp;omega
theorem Rt {α:Type} (c:α→List AV) (d:α) (l:List α) (a z:Nat) (hz:z < (l.take a).length):c ((l.take a).getD z d)=c (l.getD z d):=by
 simp only [eh,ke]
 rw [if_pos (by simp at hz;omega)]
def Qc:Nat→List AV
 | 0=>[]
 | n+1=>.mU :: Qc n
theorem UF (n:Nat):(Qc n).length=n:=by induction n with
 | zero=>rfl
 | succ n ih=>simp [Qc,ih]
theorem NY {n j:Nat} {x:AV} (h:(Qc n)[j]?=some x):x=.mU:=by
 induction n generalizing j with
 | zero=>simp [Qc] at h
 | succ n ih=>cases j with
  | zero=>simpa [Qc] using h.symm
  | succ j=>exact ih (by simpa [Qc] using h)
theorem az.split {P:Program} {E:Env} {fn:FuncId} {nt:Nat} {cF:Value→World→Prop} {kk:List Item} {s0:St} (t k off m:Nat) (o:Ob) (ht:cL s0.tm t=.os k off m) (ho:av s0.jf k=some o) (hv:(!o.var && Nat.ble 1 o.sz)=true) (hm:bT off m=o.len)
  (h1:az P E fn nt cF kk ⟨s0.tm,sset s0.jf k ⟨false,o.sz,bT off m+1,o.pr,fun i=>if i < bT off m then o.get i else Qc o.sz⟩,s0.nk⟩)
  (h2:az P E fn nt cF kk ⟨(t,.Cd k off m) :: s0.tm,s0.jf,s0.nk⟩):az P E fn nt cF kk s0:=by
 intro tm w hs hr b hb hk cs
 obtain ⟨S,μ,g,ld,oc,Zg⟩:=hr
 simp only [a9,Bool.not_eq_true',Nat.ble_eq] at hv
 have Zm:=Zg t
 rw [show cL s0.tm t=_ from ht] at Zm
 generalize Mz:tm.getD t undef=v at Zm
 cases Zm with
 | os pl qJ q1 q2 q3 =>
  rename_i cap a
  obtain ⟨iB,c,T,Uw,cD⟩:=g.rep.ob k o ho
  rw [qJ] at Uw;cases Uw
  have ez:bT off m=off+m:=dk _ _
  by_cases hc:m < cap
  ·have wo:0 < pl.cap:=by omega
   have gw:=g.write ho qJ wo cD (by omega) ⟨false,o.sz,bT off m+1,o.pr,fun i=>if i < bT off m then o.get i else Qc o.sz⟩ c rfl rfl (show bT off m+1≤pl.cap by omega) (fun i hi=>by
    show (if i < bT off m then o.get i else Qc o.sz).length=o.sz
    split
    ·exact cD.tj i (by omega)
    ·exact UF _) (fun i j x v hi hx hv=>by
    have hx:(if i < bT off m then o.get i else Qc o.sz)[j]?=some x:=hx
    split at hx
    ·exact cD.rep i j x v (by omega) hx hv
    ·rw [NY hx];exact .mU) (fun i x hx=>⟨(by
    obtain ⟨_,r2,r3⟩:=di hx
    have r3:(if i < bT off m then o.get i else Qc o.sz)=[.mr x.1 x.2.1 x.2.2]:=r3
    split at r3
    ·exact kG hv.1 (by omega) r3
    ·have:=NY (n:=o.sz) (j:=0) (x:=.mr x.1 x.2.1 x.2.2) (by rw [r3];rfl)
     cases this),rfl⟩)
   have hw:w.setRow pl.b7 c=w:=setRow_self w pl.b7 c T (0,0) ((cD.b7 wo).trans (by rw [ft (by omega)]))
   rw [hw] at gw
   exact h1 tm w hs ⟨S,μ,gw.2,ld,oc,Zg⟩ b hb hk cs
  ·have:cap=m:=by omega
   subst this
   refine h2 tm w hs ⟨S,μ,g,ld,oc,fun t'=>?_⟩ b hb hk cs
   show ar w S μ (tm.getD t' undef) (cL ((t,.Cd k off cap) ::  s0.tm) t')
   simp only [cL]
   split
   ·rename_i hb
    rw [← bp hb,Mz]
    exact .Cd pl qJ q1 q3
   ·exact Zg t'
noncomputable def both {A:Type} (x y:Option A):Option A:=open Classical in if x=y then x else none
theorem Pu {A:Type} {x y:Option A} {r:A} (h:both x y=some r):x=some r∧y=some r:=by
 unfold both at h
 split at h
 ·rename_i e;exact ⟨h,e ▸ h⟩
 ·cases h
theorem Pv {A:Type} (x:Option A):both x x=x:=by unfold both;rw [if_pos rfl]
end Go.Ab
namespace Go.Ab
open Go.ChangeShapes Go.WideShapes Go.ChangeAt Go.RowKit
def KN (w:World) (b:Nat):Prop:=b < w.heap.size
def D3 (w:World) (cs:List Value) (c:List AV):Prop :=
 cs.length=c.length∧∀ (j:Nat) (a:AV) (v:Value),c[j]?=some a→cs[j]?=some v→ar w (KN w) fZ v a
theorem D3.nil {w:World}:D3 w [] []:=⟨rfl,fun j a v h=>by simp at h⟩
theorem D3.append {w:World} {a b:List Value} {c d:List AV} (h1:D3 w a c) (h2:D3 w b d):D3 w (a ++ b) (c ++ d):=by
 refine ⟨by simp [h1.1,h2.1],fun j x v hx hv=>?_⟩
 by_cases hj:j < a.length
 ·rw [eH (by rw [← h1.1];exact hj)] at hx
  rw [eH hj] at hv
  exact h1.2 j x v hx hv
 ·rw [gF (by rw [← h1.1];omega)] at hx
  rw [gF (by omega)] at hv
  rw [← h1.1] at hx
  exact h2.2 _ x v hx hv
theorem D3.step {w:World} {cs:List Value} {o n:Nat} {c d:List AV} (h1:D3 w ((cs.drop o).take n) c) (h2:D3 w (cs.drop (o+n)) d):D3 w (cs.drop o) (c ++ d):=by
 have e:cs.drop o=(cs.drop o).take n ++ cs.drop (o+n):=by rw [← List.drop_drop];exact (List.take_append_drop n _).symm
 rw [e];exact h1.append h2
theorem D3.done {w:World} {cs:List Value} {o:Nat} (h:cs.length=o):D3 w (cs.drop o) []:=by
 rw [List.drop_of_length_le (by omega)];exact .nil
theorem D3.one {w:World} {v:Value} {a:AV} (h:ar w (KN w) fZ v a):D3 w [v] [a]:=by
 refine ⟨rfl,fun j x u hx hu=>?_⟩
 cases j with
 | zero=>simp at hx hu;subst hx hu;exact h
 | succ j=>simp at hx
def ox (P:Program) (t:TypeId) {A:Type} (wf:A→Prop) (c:A→List AV):Prop :=
 ∀ (H:Type) (enc:TypeId×Value→H) (w:World) (n:Nat) (cs:List Value) (x:DataW H×List MemPlace),DataW.trod enc P w 0 (fun _=>true) true n t cs=some x→∃ y:A,wf y∧D3 w cs (c y)
variable {P:Program} {t e:TypeId}
theorem ox.int (ht:P.underlying t=some (.int .i64)):ox P t wI cI:=by
 intro H enc w n cs x h
 obtain ⟨n,rfl,_,hw⟩:=DataW.trod_int ht h
 refine ⟨n,?_,D3.one (.atom _)⟩
 simp [Lit.wf,IntKind.min,IntKind.max,IntKind.signed,IntKind.bits] at hw
 exact ⟨by omega,by omega⟩
theorem ox.abQ {k:IntKind} (ht:P.underlying t=some (.int k)):ox P t (wK k) (cU k):=by
 intro H enc w n cs x h
 obtain ⟨n,rfl,_,hw⟩:=DataW.trod_int ht h
 refine ⟨n,?_,D3.one (.atom _)⟩
 simp [Lit.wf] at hw
 exact ⟨hw.1,hw.2⟩
theorem ox.bool (ht:P.underlying t=some .bool):ox P t wB cB:=by
 intro H enc w n cs x h
 obtain ⟨b,rfl,_⟩:=DataW.trod_bool ht h
 exact ⟨b,trivial,D3.one (.atom _)⟩
theorem KO {a:Addr} (h:a.spot=none) (n:Nat):a.add n=⟨a.block,a.off+n,none⟩:=by
 obtain ⟨b,o,s⟩:=a
 simp only at h;subst h
 unfold Addr.add
 by_cases h:n=0<;>simp [h]
theorem ox.slice {A:Type} {wf:A→Prop} {c:A→List AV} (d:A) (ht:P.underlying t=some (.slice e)) (he:ox P e wf c) {sz:Nat} (hs:P.cellsOf e=sz) (hz:0 < sz) (hc:∀ y,(c y).length=sz) :
  ox P t (wL wf) (fun l=>[aN c d l]):=by
 intro H enc w n cs x h
 rcases Go.Deep.open_slice ht h with ⟨rfl,_⟩ | ⟨a,len,cap,m,k,D,Pl,rfl,_,hlc,hcm,hm,_,hx⟩
 ·refine ⟨[],⟨by simp,by simp⟩,D3.one ?_⟩
  exact .sl 0 0 0 (fun _ _=>default) (fun h=>absurd h (dN _)) (fun i h=>absurd h (dN _)) (fun i j h=>absurd h (dN _)) (fun i j c h=>absurd h (dN _)) (aR _)
 ·simp only [if_true] at hm
  subst hm
  rw [hs] at hx
  have ss:∀ i,i < len→∃ z:List Value×A,w.cells? 0 (a.add (i * sz)) sz=some z.1∧wf z.2∧D3 w z.1 (c z.2):=fun i hi=>by
   obtain ⟨H0,h1,h2⟩:=hx i (by omega)
   obtain ⟨y,hy,G9⟩:=he H enc w k H0 _ h2
   exact ⟨(H0,y),h1,hy,G9⟩
  haveI:Inhabited (List Value×A):=⟨([],d)⟩
  obtain ⟨Z,hZ⟩:=Go.Deep.choose_lt ss
  have hlen:((List.range len).map fun i=>(Z i).2).length=len:=by simp
  have oa:∀ i,i < len→((List.range len).map fun i=>(Z i).2).getD i d=(Z i).2:=fun i hi=>by
   simp [List.getD,hi]
  have sw:∀ i j,i < len→j < sz→w.cell? ((a.add (i * sz)).add j)=some ((Z i).1.getD j default):=fun i j hi hj=>by
   obtain ⟨_,hl,hg⟩:=World.cells?_some (hZ i hi).1
   rw [hg j hj]
   have:j < (Z i).1.length:=by omega
   simp [List.getD,this]
  have Ru:0 < len→a.spot=none∧a.block < w.heap.size:=fun h0=>by
   have:=sw 0 0 h0 hz
   simp only [Nat.zero_mul,Addr.add,if_true] at this
   unfold World.cell? at this
   split at this
   ·rename_i cc tt ff hh
    refine ⟨?_,(Array.getElem?_eq_some_iff.1 hh).1⟩
    cases hs:a.spot with
    | none=>rfl
    | some z=>simp [hs] at this
   ·cases this
  refine ⟨(List.range len).map fun i=>(Z i).2,⟨by rw [hlen];unfold maxLen at hcm;omega,?_⟩,D3.one ?_⟩
  ·intro y hy
   simp only [List.mem_map,nI] at hy
   obtain ⟨i,hi,rfl⟩:=hy
   exact (hZ i hi).2.1
  ·unfold aN
   rw [hlen]
   refine .sl a.block a.off sz (fun i j=>(Z i).1.getD j default) (fun h0=>⟨?_,(Ru h0).2⟩) (fun i hi=>hc _) (fun i j hi hj=>?_) (fun i j x hi hx=>?_) hlc
   ·have:=(Ru h0).1
    obtain ⟨b,o,s⟩:=a
    simp only at this;subst this;rfl
   ·have h0:=(Ru (by omega)).1
    have:=sw i j hi hj
    rwa [KO h0,KO rfl] at this
   ·rw [oa i hi] at hx
    have hj:j < (c (Z i).2).length:=(dd.1 hx).1
    have Qa:j < (Z i).1.length:=by rw [(hZ i hi).2.2.1];exact hj
    refine (hZ i hi).2.2.2 j x _ hx ?_
    simp [List.getD,Qa]
theorem AG {H:Type} {enc:TypeId×Value→H} {w:World} {fs:Array Field} {n:Nat} {cs:List Value} {x:DataW H×List MemPlace} (ht:P.underlying t=some (.struct fs)) (h:DataW.trod enc P w 0 (fun _=>true) true n t cs=some x) :
  cs.length=P.cellsOf t∧∃ m,∀ (i:Nat) (f:Field),fs[i]?=some f→∃ y,DataW.trod enc P w 0 (fun _=>true) true m f.type ((cs.drop f.offset).take (P.cellsOf f.type))=some y:=by
 obtain ⟨xs,m,_,_,hl,hx,hf⟩:=DataW.trod_struct ht h
 refine ⟨hl,m,fun i f hi=>?_⟩
 rw [hf i f hi]
 have:i < xs.length:=by rw [hx];exact (Array.getElem?_eq_some_iff.1 hi).1
 exact ⟨xs[i],kb this⟩
theorem CP {H:Type} {enc:TypeId×Value→H} {w:World} {fs:Array Field} {m:Nat} {cs:List Value} (hf:∀ (i:Nat) (f:Field),fs[i]?=some f→∃ y,DataW.trod enc P w 0 (fun _=>true) true m f.type ((cs.drop f.offset).take (P.cellsOf f.type))=some y)
  (i:Nat) {te:TypeId} (o n:Nat) {A:Type} {wf:A→Prop} {c:A→List AV} (he:ox P te wf c) (hi:(fs[i]?).map (fun (f:Field)=>(f.type,f.offset))=some (te,o)) (hn:P.cellsOf te=n):∃ y:A,wf y∧D3 w ((cs.drop o).take n) (c y):=by
 simp only [aL,aA] at hi
 obtain ⟨f,Yo,Yp,hf3⟩:=hi
 obtain ⟨y,hy⟩:=hf i f Yo
 rw [Yp,hf3,hn] at hy
 exact he H enc w m _ y hy
section
variable {H:Type} {enc:TypeId×Value→H} {w:World} {base:Nat} {v:Value} {d:DataW H} {ps:List MemPlace} {A:Type} {wf:A→Prop}
theorem UG {g:A→AV} (ho:ox P t wf (fun l=>[g l])) (hv:v.cells=#[v]) (h:DataW.Trod enc P w 0 (fun _=>true) true t v d ps):∃ y,wf y∧ar w (KN w) fZ v (g y):=by
 obtain ⟨n,hn⟩:=h
 rw [hv] at hn
 obtain ⟨y,hy,hs⟩:=ho H enc w n _ _ hn
 exact ⟨y,hy,hs.2 0 _ _ rfl rfl⟩
theorem KP {g:A→AV} (ht:P.underlying t=some (.slice e)) (ho:ox P t wf (fun l=>[g l])) (hv:Value.okWide P w .any base t v) (h:DataW.Trod enc P w 0 (fun _=>true) true t v d ps):∃ y,wf y∧ar w (KN w) fZ v (g y):=by
 obtain ⟨a,l,c,rfl⟩:=okWide_slice ht hv
 exact UG ho rfl h
theorem RL.nil {S:Nat→Prop} {μ:Mu}:RL w S μ #[] []:=⟨rfl,fun j c v h=>by simp at h⟩
theorem rl2 {S:Nat→Prop} {μ:Mu} {v0 v1:Value} {a0 a1:AV} (h0:ar w S μ v0 a0) (h1:ar w S μ v1 a1):RL w S μ #[v0,v1] [a0,a1]:=by
 refine ⟨rfl,fun j c v hc hv=>?_⟩
 match j with
 | 0=>simp at hc hv;subst hc hv;exact h0
 | 1=>simp at hc hv;subst hc hv;exact h1
 | j+2=>simp at hc
end
theorem NZ {H:Type} {enc:TypeId×Value→H} (hl:laidOutB P=true) {W W':World} (hb:Below W.heap.size W W') (sp:Nat→Bool) :
  ∀ (ts:List TypeId) (vs:List Value) (ds:List (DataW H)) (p:List MemPlace),(ts.all fun t=>P.readableRec t && decide (t < P.types.size))=true→(∀ x∈p,x.block < W.heap.size)→(∀ x∈p,sp x.block=true) →
   DataW.TrodAll enc P W 0 (fun _=>true) true ts vs ds p→DataW.TrodAll enc P W' 0 sp true ts vs ds p
 | [],[],[],_,_,_,_,h=>h
 | t :: ts,v :: vs,d :: ds,p,hr,fo,P5,h=>by
  obtain ⟨a,b,h1,h2,rfl⟩:=h
  simp only [List.all_cons,a9,decide_eq_true_eq] at hr
  refine ⟨a,b,?_,NZ hl hb sp ts vs ds b (by simpa using hr.2) (fun x hx=>fo x (by simp [hx])) (fun x hx=>P5 x (by simp [hx])) h2,rfl⟩
  exact WideElems.Trod_stays hl hr.1.1 hr.1.2 h1 (fun x hx=>hb.same (fo x (by simp [hx]))) (fun x hx=>P5 x (by simp [hx]))
theorem Rv {H:Type} {enc:TypeId×Value→H} {f:FuncId} {fn:Func} {s:ChangeSpec} {apart fresh handsOn again:Bool} {W:World} {args:Array Value} {ds gs:List (DataW H)} {before:List MemPlace} {tb:TypeId} {avs:List AV}
  (Wa:s.vars=[]) (hl:laidOutB P=true) (Zn:(fn.params.toList.all fun t=>P.readableRec t && decide (t < P.types.size))=true) (Kr:fn.resultTypes=#[tb]) (hb:P.underlying tb=some .bool)
  (Yj:s.fn H ds={ results:=[.lit (.bool true)],args:=ds })
  (hW:DataW.Whole enc P fn.params.toList s.vars apart W args.toList ds gs before)
  (Zo:RL W (KN W) fZ args avs) (hs:Sound P f avs [] 0 (aB true) []) :
  Calls P f args W fun e W'=>∃ v,e=.returned v∧s.post enc P fn apart fresh handsOn again W args v W':=by
 have Zp:Good (tn W (KN W) [] fZ 0) [] (KN W) fZ W:=by
  refine ⟨Fr.refl _ _,fun _ h=>h,fun _ h=>h,fun _ h=>.inl h,?_,fun k o pl h=>(by cases h),fun k hk=>absurd hk (dN _),MX.nil fun k o i h=>by cases h⟩
  constructor<;>intros<;>simp_all [av]
 refine (hs W (KN W) fZ args Zp (fun _ _=>rfl) Zo).mono fun e W' ⟨v,S',cC,he,hg,hv⟩=>?_
 have MB:Below W.heap.size W W':=⟨hg.fr.os,hg.fr.tape,hg.fr.output,hg.fr.size,fun b hb=>hg.fr.b7 b hb (fun h=>h.elim (fun ⟨k,o,pl,h,_⟩=>by cases h) (fun ⟨k,i,x,v,⟨o,pl,h,_⟩,_⟩=>by cases h))⟩
 have oM:v=.bool true:=by cases hv;rfl
 subst he oM
 refine ⟨_,rfl,?_⟩
 have hW':=hW
 obtain ⟨p,q,hA,hV,rfl,hfz,TY⟩:=hW
 rw [Wa] at hV
 obtain ⟨rfl,rfl⟩:=trodVars_none hV
 rw [List.append_nil] at hW'
 have fo:∀ x∈p,x.block < W.heap.size:=fun x hx=>hW'.lt x hx
 have hre:∀ sp:Nat→Bool,(∀ x∈p,sp x.block=true)→DataW.TrodAll enc P W' 0 sp true fn.params.toList args.toList (s.fn H (ds ++ [])).args p:=fun sp P5=>by
  rw [List.append_nil,Yj]
  exact NZ hl MB sp _ _ _ _ Zn fo P5 hA
 have Xc:∀ sp:Nat→Bool,DataW.TrodVars enc P W' sp s.vars (s.fn H (ds ++ [])).vars []:=fun sp=>by
  rw [List.append_nil,Yj,Wa];rfl
 have Zq:∀ (b:Nat) (sp:Nat→Bool) (hd:Bool),DataW.TrodAll enc P W' b sp hd fn.resultTypes.toList ((Value.bool true).resultList fn.resultTypes.size) (s.fn H (ds ++ [])).results []:=fun b sp hd=>by
  rw [List.append_nil,Yj,Kr]
  exact trodAll_mk1 (shut_bool hb true)
 refine ⟨ds,[],p,[],p,[],hW',Zq _ _ _,hre _ (fun x hx=>by simpa using fo x hx),Xc _,World.keptBut_mono (fun x hx=>⟨hx,Or.inr (Or.inl hx)⟩) (MB.frame _),fun _=>?_⟩
 refine ⟨ok_one Kr rfl (okWide_bool_mk hb _),(s.fn H (ds ++ [])).results ++ (s.fn H (ds ++ [])).args,_,p,⟨p,[],trodAll_append (hre _ (fun _ _=>rfl)) (Zq _ _ _),Xc _,by simp,?_,by simpa using TY⟩,fun x hx _=>hx⟩
 ·intro b off hp
  exact (MB.frozen (fo _ hp)).trans (hfz b off (by simpa using hp))
end Go.Ab
namespace Go.Ab
def uv:Obj→Bool
 | .loop _=>true
 | .deferred _=>true
 | .mapIter _ _ _ _=>true
 | _=>false
theorem MC (sz:Nat) (c:Array Value) (T:TypeId):uv (Ar sz c T)=false:=by
 cases sz<;>rfl
theorem tv {w:World} {l:Nat} {o o':Obj} (h:w.heap[l]?=some o) (ho:uv o=true) (mZ:uv o'=true) (a:Addr):(w.putObj l o').cell? a=w.cell? a:=by
 unfold World.cell?
 by_cases e:a.block=l
 ·rw [e,h,World.putObj_heap_same (Array.getElem?_eq_some_iff.1 h).1]
  cases o<;>cases o'<;>simp_all [uv]
 ·rw [World.putObj_heap_other e]
theorem ar.eX {w w':World} {S S':Nat→Prop} (hS:∀ b,S b→S' b) (hc:∀ a,w'.cell? a=w.cell? a) {μ:Mu} {v:Value} {x:AV} (h:ar w S μ v x):ar w' S' μ v x:=by
 induction h with
 | atom v=>exact .atom v
 | agg h1 _ ih=>exact .agg h1 ih
 | tup h1 _ ih=>exact .tup h1 ih
 | sl b off sz f h1 h2 h3 _ h5 ih=>exact .sl b off sz f (fun hl=>⟨(h1 hl).1,hS _ (h1 hl).2⟩) h2 (fun i j hi hj=>(hc _).trans (h3 i j hi hj)) ih h5
 | rp b o f h1 h2 _ ih=>exact .rp b o f (hS _ h1) (fun j hj=>(hc _).trans (h2 j hj)) ih
 | op pl h=>exact .op pl h
 | os pl h h1 h2 h3=>exact .os pl h h1 h2 h3
 | fn h1 h2 _ _ JZ J0=>exact .fn h1 h2 JZ J0
 | when _ hu ih=>exact .when ih hu
 | mp pl h=>exact .mp pl h
 | bn b h=>exact .bn b h
 | pt _ h2 ih=>exact .pt ih h2
 | ov pl h h1=>exact .ov pl h h1
 | Cd pl h h1 h2=>exact .Cd pl h h1 h2
 | nq _ h1 h2 ih=>exact .nq ih h1 h2
 | nil=>exact .nil
 | mU=>exact .mU
 | mr=>exact .mr
theorem gr.eX {w w':World} {S S':Nat→Prop} {μ:Mu} {o:Ob} {pl:Place} {c:Array Value} {T:TypeId} (h:gr w S μ o pl c T) (hS:∀ b,S b→S' b) (hc:∀ a,w'.cell? a=w.cell? a)
  (hb:0 < pl.cap→w'.heap[pl.b7]?=w.heap[pl.b7]?) (ho:0 < pl.cap→¬ S' pl.b7):gr w' S' μ o pl c T :=
 { h with
  b7:=fun hc=>(hb hc).trans (h.b7 hc)
  out:=ho
  rep:=fun i j x v hi hx hv=>(h.rep i j x v hi hx hv).eX hS hc
  mp:=fun hz=>let ⟨h0,h1,h2,h3,h4⟩:=h.mp hz;⟨h0,h1,h2,h3,fun j x v hx hv=>(h4 j x v hx hv).eX hS hc⟩ }
theorem Good.Jf {E:Env} {σ:dp} {S:Nat→Prop} {μ:Mu} {w:World} (g:Good E σ S μ w) {k:Nat} {o:Ob} {pl:Place} (ho:av σ k=some o) (hm:μ k=some pl) (hc:0 < pl.cap) {l:Nat} {ob:Obj}
  (hl:w.heap[l]?=some ob) (ha:uv ob=true):pl.b7≠l:=by
 obtain ⟨iB,c,T,fw,h⟩:=g.rep.ob k o ho
 rw [hm] at fw;cases fw
 rintro rfl
 rw [h.b7 hc] at hl
 cases hl
 rw [MC] at ha;cases ha
theorem Good.MD {E:Env} {σ:dp} {S:Nat→Prop} {μ:Mu} {w:World} (g:Good E σ S μ w) {k i:Nat} {x:Nat×Nat×(Nat→List AV)} {v:Value} {b:Nat} (hv:gR w μ σ k i x v) (hb:ptrTo v b) {l:Nat} {ob:Obj}
  (hl:w.heap[l]?=some ob) (ha:uv ob=true):b≠l:=by
 obtain ⟨_,_,_,c,T,h⟩:=g.mx.b7 hv hb
 rintro rfl
 rw [h] at hl
 cases hl;cases ha
theorem Good.Ij {E:Env} {σ:dp} {S:Nat→Prop} {μ:Mu} {w:World} (g:Good E σ S μ w) {l:Nat} {ob:Obj} (hl:w.heap[l]?=some ob) (ha:uv ob=true):¬ Md w σ μ l:=by
 rintro (⟨k,o,pl,ho,hm,hc,he⟩ | ⟨k,i,x,v,hv,hb⟩)
 ·exact g.Jf ho hm hc hl ha he
 ·exact g.MD hv hb hl ha rfl
theorem MX.aux {fp VN:Nat→Prop} {n0 VO:Nat} {w w':World} {S S':Nat→Prop} {μ:Mu} {σ:dp} (h:MX fp n0 w S μ σ) (hS:∀ b,S b→S' b) (hc:∀ a,w'.cell? a=w.cell? a)
  (hp:∀ k i x v b,gR w' μ σ k i x v→gR w μ σ k i x v→ptrTo v b→w'.heap[b]?=w.heap[b]?∧¬ S' b∧((fp b∨n0≤b)→(VN b∨VO≤b))):MX VN VO w' S' μ σ:=by
 have back:∀ {k i x v},gR w' μ σ k i x v→gR w μ σ k i x v:=fun ⟨o,pl,h1,h2,h3,h4⟩=>⟨o,pl,h1,h2,h3,by rw [← hc];exact h4⟩
 refine ⟨fun k i x v hv=>?_,fun k i x v b hv=>h.obj k i x v b (back hv),fun k i x v b k' i' x' v' hv oM=>h.two k i x v b k' i' x' v' (back hv) (back oM)⟩
 obtain ⟨a,cap,rfl,h1,h2,h3⟩:=h.row _ _ _ _ (back hv)
 refine ⟨a,cap,rfl,h1,h2,fun wo=>?_⟩
 obtain ⟨b,c,T,rfl,h4,h5⟩:=h3 wo
 obtain ⟨p1,p2,p3⟩:=hp _ _ _ _ b hv (back hv) ⟨_,_,rfl,wo⟩
 exact ⟨b,c,T,rfl,h4.eX hS hc (fun _=>p1) (fun _=>p2),p3 h5⟩
theorem Good.put {E:Env} {σ:dp} {S:Nat→Prop} {μ:Mu} {w:World} (g:Good E σ S μ w) {l:Nat} {o o':Obj} (h:w.heap[l]?=some o) (ho:uv o=true) (mZ:uv o'=true) (hl:E.w0.heap.size≤l∨E.fp l) :
  Good E σ S μ (w.putObj l o'):=by
 have hc:=tv h ho mZ
 refine ⟨⟨g.fr.os,g.fr.tape,g.fr.output,by simpa using g.fr.size,fun b hb hf=>?_⟩,g.S0,fun b hb=>by simpa using g.S1 b hb,g.S2,⟨fun k x hx=>?_,g.rep.ne⟩,g.own,g.A9,
  g.mx.aux (fun _ h=>h) hc fun k i x v b _ hv hb=>⟨World.putObj_heap_other (g.MD hv hb h ho),(g.mx.b7 hv hb).2.1,fun h=>h⟩⟩
 ·have eE:b≠l:=by rintro rfl;rcases hl with h | h;omega;exact hf h
  rw [World.putObj_heap_other eE];exact g.fr.b7 b hb hf
 ·obtain ⟨pl,c,T,hm,hr⟩:=g.rep.ob k x hx
  exact ⟨pl,c,T,hm,hr.eX (fun _ h=>h) hc (fun rT=>World.putObj_heap_other (g.Jf hx hm rT h ho)) hr.out⟩
theorem Good.aux {E:Env} {σ:dp} {S:Nat→Prop} {μ:Mu} {w:World} (g:Good E σ S μ w) (o:Obj) (ho:uv o=true) :
  Ext w S μ (w.alloc o) (fun b=>S b∨b=w.heap.size) μ∧Good E σ (fun b=>S b∨b=w.heap.size) μ (w.alloc o):=by
 have hold:∀ b,b < w.heap.size→(w.alloc o).heap[b]?=w.heap[b]?:=fun b hb=>ek hb
 have Ql:(w.alloc o).heap[w.heap.size]?=some o:=World.alloc_heap_new w o
 have e:Ext w S μ (w.alloc o) (fun b=>S b∨b=w.heap.size) μ:=⟨by simp,fun _ h=>.inl h,fun b hb=>hold b (g.S1 b hb),fun _ _ h=>h⟩
 refine ⟨e,⟨g.fr.os,g.fr.tape,g.fr.output,by have:=g.fr.size;simp;omega,fun b hb hf=>(hold b (lV hb g.fr.size)).trans (g.fr.b7 b hb hf)⟩,fun b hb=>.inl (g.S0 b hb),?_,?_,⟨fun k x hx=>?_,g.rep.ne⟩,g.own,g.A9,g.L1 hold (fun _ h=>.inl h) (fun b h=>h.elim .inl fun h=>.inr (Nat.le_of_eq h.symm))⟩
 ·rintro b (hb | rfl)
  ·have:=g.S1 b hb;simp;omega
  ·simp
 ·rintro b (hb | rfl)
  ·exact g.S2 b hb
  ·exact .inr g.fr.size
 ·obtain ⟨pl,c,T,hm,hr⟩:=g.rep.ob k x hx
  have fo:0 < pl.cap→pl.b7 < w.heap.size:=fun hc=>cm (hr.b7 hc)
  refine ⟨pl,c,T,hm,hr.ext e (fun hc=>hold _ (fo hc)) (fun hc=>?_)⟩
  rintro (h | h)
  ·exact hr.out hc h
  ·have:=fo hc;omega
def q9 (w:World) (S:Nat→Prop) (σ:dp) (μ:Mu) (m:Nat):Env:=⟨w,S,Md w σ μ,μ,m⟩
theorem Good.base {E:Env} {σ:dp} {S:Nat→Prop} {μ:Mu} {w:World} (g:Good E σ S μ w) (m:Nat):Good (q9 w S σ μ m) σ S μ w :=
 ⟨Fr.refl _ _,fun _ h=>h,g.S1,fun _ h=>.inl h,g.rep,fun k o pl ho hm hc=>.inl (.inl ⟨k,o,pl,ho,hm,hc,rfl⟩),fun _ _=>rfl,
  g.mx.aux (fun _ h=>h) (fun _=>rfl) fun k i x v b hv _ hb=>⟨rfl,(g.mx.b7 hv hb).2.1,fun _=>.inl (.inr ⟨k,i,x,v,hv,hb⟩)⟩⟩
theorem Good.ME {E:Env} {σ dr:dp} {S S':Nat→Prop} {μ cC:Mu} {w w':World} (g:Good E σ S μ w) {m:Nat} (hm:E.m0≤m) (g':Good (q9 w S σ μ m) dr S' cC w'):Good E dr S' cC w':=by
 have Hk:∀ b,Md w σ μ b→E.fp b∨E.w0.heap.size≤b:=by
  rintro b (⟨k,o,pl,ho,hm,hc,rfl⟩ | ⟨k,i,x,v,hv,hb⟩)
  ·exact g.own k o pl ho hm hc
  ·exact (g.mx.b7 hv hb).2.2.1
 refine ⟨⟨g'.fr.os.trans g.fr.os,g'.fr.tape.trans g.fr.tape,g'.fr.output.trans g.fr.output,dj g.fr.size g'.fr.size,fun b hb hf=>?_⟩,fun b hb=>g'.S0 b (g.S0 b hb),g'.S1,fun b hb=>?_,g'.rep,fun k o pl ho hm hc=>?_,fun k hk=>?_,
  g'.mx.aux (fun _ h=>h) (fun _=>rfl) fun k i x v b hv _ hb=>⟨rfl,(g'.mx.b7 hv hb).2.1,fun h=>h.elim (Hk b) fun h=>.inr (dj g.fr.size h)⟩⟩
 ·refine (g'.fr.b7 b (lV hb g.fr.size) fun h=>?_).trans (g.fr.b7 b hb hf)
  rcases Hk b h with h1 | h1
  ·exact hf h1
  ·omega
 ·rcases g'.S2 b hb with h1 | h1
  ·exact g.S2 b h1
  ·exact .inr (dj g.fr.size h1)
 ·rcases g'.own k o pl ho hm hc with h1 | h1
  ·exact Hk _ h1
  ·exact .inr (dj g.fr.size h1)
 ·rw [g'.A9 k (lV hk hm)];exact g.A9 k hk
theorem Good.Zr {E:Env} {σ:dp} {S:Nat→Prop} {μ:Mu} {w:World} (g:Good E σ S μ w) {l:Nat} {o o':Obj} (h:w.heap[l]?=some o) (ho:uv o=true) (mZ:uv o'=true) (m:Nat) :
  Good (q9 (w.putObj l o') S σ μ m) σ S μ (w.putObj l o'):=by
 have hc:=tv h ho mZ
 refine ⟨Fr.refl _ _,fun _ h=>h,fun b hb=>by simpa using g.S1 b hb,fun _ h=>.inl h,⟨fun k x hx=>?_,g.rep.ne⟩,fun k o pl ho hm hc=>.inl (.inl ⟨k,o,pl,ho,hm,hc,rfl⟩),fun _ _=>rfl,
  g.mx.aux (fun _ h=>h) hc fun k i x v b oM hv hb=>⟨World.putObj_heap_other (g.MD hv hb h ho),(g.mx.b7 hv hb).2.1,fun _=>.inl (.inr ⟨k,i,x,v,oM,hb⟩)⟩⟩
 obtain ⟨pl,c,T,hm,hr⟩:=g.rep.ob k x hx
 exact ⟨pl,c,T,hm,hr.eX (fun _ h=>h) hc (fun rT=>World.putObj_heap_other (g.Jf hx hm rT h ho)) hr.out⟩
def WI (P:Program) (E:Env) (nt:Nat) (c:Code) (st tY:St):Prop:=∀ (l:Nat) (tm:Array Value) (w:World),tm.size=nt→Hc E st tm w →
 c.wpIn (FW (some l)) 0 P (fun e a w'=>e=.normal∧a.tmps.size=nt∧a.defers=[]∧Hc E tY a.tmps w') ⟨tm,[]⟩ w
theorem WI.seq {P:Program} {E:Env} {nt:Nat} {x y:Code} {st Ik Wb:St} (h1:WI P E nt x st Ik) (h2:WI P E nt y Ik Wb):WI P E nt (.seq x y) st Wb:=by
 intro l tm w hs hr
 refine wpIn_seq (wpIn_mono (h1 l tm w hs hr) ?_)
 rintro e ⟨t,ds⟩ w' ⟨rfl,q1,q2,q3⟩
 simp only at q1 q2
 subst q2
 exact h2 l t w' q1 q3
theorem WI.block {P:Program} {E:Env} {nt:Nat} {id:Nat} {x:Code} {st Ik:St} (h1:WI P E nt x st Ik):WI P E nt (.block id x) st Ik:=by
 intro l tm w hs hr
 refine wpIn_block (wpIn_mono (h1 l tm w hs hr) ?_)
 rintro e a w' ⟨rfl,q1,q2,q3⟩
 exact ⟨rfl,q1,q2,q3⟩
theorem WI.rw {P:Program} {E:Env} {nt m:Nat} {c:Code} {orcs:List (Nat×lW)} {F:List Nat} {rR:List (Nat×Wd)} {eN:xG} {nk:Nat} {st tY:St} (hE:aQ E m) {ps:List Prop}
  (h:D2 P nt m c orcs F rR eN nk st=some (ps,tY)) (hF:(((F.isEmpty && ou orcs) || Nat.beq m 0) && NW orcs)=true) (hp:aX ps):WI P E nt c st tY:=by
 intro l tm w hs hr
 unfold D2 at h
 split at h
 ·rename_i p1 s1 h1
  split at h
  ·rename_i q1 s2 h2
   simp only [aD,aA] at h
   obtain ⟨rfl,rfl⟩:=h
   obtain ⟨tX,vk⟩:=aX.app hp
   obtain ⟨hF,hY⟩:=lU.1 hF
   have hz:ou orcs=true∨∀ b,¬ E.fp b:=by
    rcases Bool.or_eq_true_iff.1 hF with h | h
    ·exact .inl (lU.1 h).2
    ·exact .inr (hE.fp (bp h))
   have Zj:F.isEmpty=true∨∀ b,¬ E.fp b:=by
    rcases Bool.or_eq_true_iff.1 hF with h | h
    ·exact .inl (lU.1 h).1
    ·exact .inr (hE.fp (bp h))
   refine wpIn_mono (ye (rd:=some l) (ds:=[]) hz (CN hY) h1 tX hs hr) ?_
   rintro e a w' ⟨rfl,q1,q2,q3⟩
   refine ⟨rfl,q1,q2,Bw (by rw [hE.m0];exact h2) vk Zj q3⟩
  ·cases h
 ·cases h
def qL (r:Loop) (vs:Array Value):Array Value:=(r.params.zip vs).foldl (fun tmps (t,a)=>tmps.setIfInBounds t a) r.tmps
theorem Xj {P:Program} {E:Env} {l nt:Nat} {r:Loop} (hl:E.w0.heap[l]?=some (.loop r)) (Hk:¬ E.fp l) (y8:r.state=.ready) (Qb:r.pending=none) (hm:1≤E.m0) {as:List AV} {o o':Ob}
  (DD:o.pr=true) (abS:o'.pr=true) (E3:o'.sz≠0) (has:AV.lD as=true) (VZ:r.params.size=as.length) {st0 Ik Wb:St} (h0:st0.jf=[(0,o)]) (L9:st0.nk=1) (h2:Wb.jf=[(0,o')])
  (nH:∀ (w:World) (S:Nat→Prop) (μ:Mu) (vs:Array Value),RL w S μ vs as→μ 0=E.Yf 0→(qL r vs).size=nt∧∀ t,ar w S μ ((qL r vs).getD t undef) (cL st0.tm t))
  (hA:∀ E',aQ E' 1→WI P E' nt r.assign st0 Ik) (hB:∀ E',aQ E' 1→WI P E' nt r.body Ik Wb)
  (hv:o.var=true:=by rfl) (oM:o'.var=true:=by rfl):WY P E ⟨l,as,0,o,o'⟩:=by
 intro w S μ σ vs g Pc ho
 simp only at Pc ho ⊢
 have py:=ho
 have Qd:w.heap[l]?=some (.loop r):=(g.fr.b7 l (cm hl) Hk).trans hl
 obtain ⟨pl,c0,T0,oc,cD⟩:=g.rep.ob 0 o ho
 have hE0:μ 0=E.Yf 0:=g.A9 0 (by omega)
 refine ⟨r.fn,qL r vs,r.assign,r.body,run_yield Qd (by rw [Pc.1,VZ]),?_⟩
 refine roundIn_of_wpIn trivial ?_
 obtain ⟨N7,Zs⟩:∃ N7:Mu,N7=fun k=>if k=0 then μ 0 else none:=⟨_,rfl⟩
 have UH:N7 0=μ 0:=by rw [Zs];rfl
 have Fj:∀ k,1≤k→N7 k=none:=fun k hk=>by rw [Zs];exact if_neg (by omega)
 have gA0:Good (q9 w S [(0,o)] N7 1) [(0,o)] S N7 w:=by
  refine ⟨Fr.refl _ _,fun _ h=>h,g.S1,fun _ h=>.inl h,⟨fun k x hx=>?_,fun k k' x x' p p' eE hx ss=>?_⟩,fun k o pl ho hm hc=>.inl (.inl ⟨k,o,pl,ho,hm,hc,rfl⟩),fun _ _=>rfl,MX.nil fun k x i hx=>?_⟩
  rotate_right
  ·simp only [av] at hx
   split at hx
   ·cases hx;exact mX hv i
   ·cases hx
  ·simp only [av] at hx
   split at hx
   ·rename_i hb
    cases hx
    rw [← bp hb]
    exact ⟨pl,c0,T0,UH.trans oc,{ cD with rep:=fun i j x v hi hx hv=>by have:=cD.rep i j x v hi hx hv;rw [DD] at this ⊢;exact this }⟩
   ·cases hx
  ·simp only [av] at hx ss
   split at hx
   ·rename_i hb
    split at ss
    ·rename_i qT
     exact absurd ((bp hb).symm.trans (bp qT)) eE
    ·cases ss
   ·cases hx
 have abT:RL w S N7 vs as:=⟨Pc.1,fun j c v hc hv=>(Pc.2 j c v hc hv).pure (po has hc) N7⟩
 obtain ⟨kj,nH⟩:=nH w S N7 vs abT (UH.trans hE0)
 have rA0:Hc (q9 w S [(0,o)] N7 1) st0 (qL r vs) w:=⟨S,N7,by rw [h0];exact gA0,fun k hk=>Fj k (by rw [L9] at hk;exact hk),by rw [L9];exact aR _,nH⟩
 have hEA:aQ (q9 w S [(0,o)] N7 1) 1:=⟨rfl,fun h=>absurd h (by decide)⟩
 refine wpIn_mono (hA _ hEA l _ w kj rA0) ?_
 rintro e ⟨Zb,ds1⟩ w1 ⟨rfl,q1,q2,S1,Yq,g1,Zt,G6,Xk⟩
 simp only at q1 q2 Xk
 subst q2
 have abU:l < w.heap.size:=cm Qd
 have nfA:∀ b ob,w.heap[b]?=some ob→uv ob=true→¬ (q9 w S [(0,o)] N7 1).fp b:=by
  exact fun b ob hb ha=>gA0.Ij hb ha
 have UI:w1.heap[l]?=some (.loop r):=(g1.fr.b7 l abU (nfA l _ Qd rfl)).trans Qd
 show ∃ afG,_∧_
 refine ⟨_,run_beginRound UI y8,?_⟩
 obtain ⟨W2,UJ⟩:∃ W2,W2=w1.putObj l (.loop { r with state:=.busy }):=⟨_,rfl⟩
 have g2:Good (q9 W2 S1 Ik.jf Yq 1) Ik.jf S1 Yq W2:=by rw [UJ];exact g1.Zr UI rfl rfl 1
 have EX:∀ a,W2.cell? a=w1.cell? a:=by rw [UJ];exact tv UI rfl rfl
 have LY:W2.heap.size=w1.heap.size:=by rw [UJ];simp
 have Ce:∀ b,b≠l→W2.heap[b]?=w1.heap[b]?:=fun b hb=>by rw [UJ];exact World.putObj_heap_other hb
 have Za:W2.heap[l]?=some (.loop { r with state:=.busy }):=by rw [UJ];exact World.putObj_heap_same (cm UI)
 have ho:W2.os=w1.os∧W2.tape=w1.tape∧W2.output=w1.output:=by rw [UJ];exact ⟨rfl,rfl,rfl⟩
 rw [← UJ]
 have rB:Hc (q9 W2 S1 Ik.jf Yq 1) Ik Zb W2:=⟨S1,Yq,g2,Zt,G6,fun t=>(Xk t).eX (fun _ h=>h) EX⟩
 refine wpIn_mono (hB _ ⟨rfl,fun h=>absurd h (by decide)⟩ l _ W2 q1 rB) ?_
 rintro e ⟨tm2,ds2⟩ w3 ⟨rfl,-,-,S2,Yr,g3,-,-,-⟩
 have nfB:∀ b ob,W2.heap[b]?=some ob→uv ob=true→¬ (q9 W2 S1 Ik.jf Yq 1).fp b:=by
  exact fun b ob hb ha=>g2.Ij hb ha
 have hl3:w3.heap[l]?=some (.loop { r with state:=.busy }):=(g3.fr.b7 l (cm Za) (nfB l _ Za rfl)).trans Za
 refine ⟨_,_,run_endRound none hl3,rfl,fun b=>S b∨(S2 b∧w.heap.size≤b),?_⟩
 obtain ⟨W4,Ys⟩:∃ W4,W4=w3.putObj l (.loop { { r with state:=.busy } with state:=if (none:Option Code).isNone=true then .ready else .done,pending:=none }):=⟨_,rfl⟩
 rw [← Ys]
 have hc4:∀ a,W4.cell? a=w3.cell? a:=by rw [Ys];exact tv hl3 rfl rfl
 have Yt:W4.heap.size=w3.heap.size:=by rw [Ys];simp
 have ho4:∀ b,b≠l→W4.heap[b]?=w3.heap[b]?:=fun b hb=>by rw [Ys];exact World.putObj_heap_other hb
 have hl4:W4.heap[l]?=some (.loop r):=by
  rw [Ys,World.putObj_heap_same (cm hl3)]
  obtain ⟨a1,a2,a3,a4,a5,a6,a7,a8⟩:=r
  simp only at y8 Qb
  subst y8 Qb
  rfl
 have Xl:W4.os=w3.os∧W4.tape=w3.tape∧W4.output=w3.output:=by rw [Ys];exact ⟨rfl,rfl,rfl⟩
 have N8:w.heap.size≤W2.heap.size:=by rw [LY];exact g1.fr.size
 have Rx:W2.heap.size≤w3.heap.size:=g3.fr.size
 -- what has not changed
 have MF:∀ b,(q9 w S [(0,o)] N7 1).fp b→0 < pl.cap∧pl.b7=b:=by
  rintro b (⟨k,x,p,hx,hm,hc,hb⟩ | ⟨k,i,x,v,⟨o2,p,hx,hr,_⟩,_⟩)
  ·simp only [av] at hx
   split at hx
   ·rename_i UK
    rw [← bp UK,UH,oc] at hm
    cases hm
    exact ⟨hc,hb⟩
   ·cases hx
  ·simp only [av] at hx
   split at hx
   ·cases hx;rw [mX hv] at hr;cases hr
   ·cases hx
 have same:∀ b,b < w.heap.size→¬ (0 < pl.cap∧pl.b7=b)→W4.heap[b]?=w.heap[b]?:=by
  intro b hb hn
  by_cases e:b=l
  ·rw [e,hl4,Qd]
  ·rw [ho4 b e]
   refine (g3.fr.b7 b (lV hb N8) ?_).trans ((Ce b e).trans (g1.fr.b7 b hb fun h=>hn (MF b h)))
   rintro (⟨k,x,p,hx,hm,hc,rfl⟩ | ⟨k,i,x,v,oM,qT⟩)
   ·rcases g1.own k x p hx hm hc with h | h
    ·exact hn (MF _ h)
    ·have:p.b7 < w.heap.size:=hb
     have h:w.heap.size≤p.b7:=h
     omega
   ·have Cl:gR w1 Yq Ik.jf k i x v:=by
     obtain ⟨o2,p,a1,a2,a3,a4⟩:=oM
     exact ⟨o2,p,a1,a2,a3,by rw [← EX];exact a4⟩
    rcases (g1.mx.b7 Cl qT).2.2.1 with h | h
    ·exact hn (MF _ h)
    ·have h:w.heap.size≤b:=h
     omega
 have Yk:∀ b,S2 b→S b∨(S2 b∧w.heap.size≤b):=by
  intro b hb
  rcases g3.S2 b hb with h | h
  ·rcases g1.S2 b h with h | h
   ·exact .inl h
   ·exact .inr ⟨hb,h⟩
  ·exact .inr ⟨hb,dj N8 h⟩
 have nS:0 < pl.cap→¬ S pl.b7:=cD.out
 have ext:Ext w S μ W4 (fun b=>S b∨(S2 b∧w.heap.size≤b)) μ:=by
  refine ⟨by rw [Yt];exact dj N8 Rx,fun _ h=>.inl h,fun b hb=>same b (g.S1 b hb) ?_,fun _ _ h=>h⟩
  rintro ⟨hc,rfl⟩
  exact nS hc hb
 have Tm:MX E.fp E.w0.heap.size W4 (fun b=>S b∨(S2 b∧w.heap.size≤b)) μ (sset σ 0 o'):=by
  refine g.mx.tr id (fun k i x v h=>?_) (fun _ _ _ _ _ _ _ _ _ _ h=>h) (fun _ h=>.inl h) (fun b hb=>ext.b7 b hb) (fun k i x v b _ h hb=>?_) (fun k o2 p h1 h2 h3=>?_)
  ·obtain ⟨o2,p,a1,a2,a3,a4⟩:=h
   rw [bd] at a1
   by_cases hk:0=k
   ·rw [if_pos hk] at a1;cases a1
    rw [mX oM] at a2;cases a2
   ·rw [if_neg hk] at a1
    refine gR.vf (w':=W4) (cC:=μ) (dr:=σ) g.rep ⟨o2,p,a1,a2,a3,a4⟩ (fun o3 b1=>by rw [a1] at b1;cases b1;exact ⟨o2,a1,a2⟩) (fun p h=>h) (fun o3 p3 b1 b2 b3=>?_)
    obtain ⟨p4,c4,T4,hm4,oi⟩:=g.rep.ob k o3 b1
    have b2:μ k=some p3:=b2
    rw [b2] at hm4;cases hm4
    exact same _ (cm (oi.b7 b3)) fun ⟨jk,he⟩=>g.rep.ne 0 k _ o3 pl p3 hk py b1 oc b2 jk b3 he
  ·obtain ⟨q1,q2,q3,_⟩:=g.mx.b7 h hb
   refine ⟨same b q1 fun ⟨jk,he⟩=>g.mx.obj _ _ _ _ _ h hb 0 _ pl py oc jk he,?_,fun h=>h⟩
   rintro (h1 | ⟨_,h1⟩)
   ·exact q2 h1
   ·omega
  ·rw [bd] at h1
   by_cases hk:0=k
   ·subst hk;exact .inl ⟨0,_,p,py,h2,h3,rfl⟩
   ·rw [if_neg hk] at h1;exact .inl ⟨k,o2,p,h1,h2,h3,rfl⟩
 refine ⟨ext,⟨?_,fun b hb=>.inl (g.S0 b hb),?_,?_,⟨?_,?_⟩,?_,g.A9,Tm⟩⟩
 ·refine ⟨?_,?_,?_,?_,fun b hb hf=>?_⟩
  ·rw [Xl.1,g3.fr.os];show W2.os=_;rw [ho.1,g1.fr.os];exact g.fr.os
  ·rw [Xl.2.1,g3.fr.tape];show W2.tape=_;rw [ho.2.1,g1.fr.tape];exact g.fr.tape
  ·rw [Xl.2.2,g3.fr.output];show W2.output=_;rw [ho.2.2,g1.fr.output];exact g.fr.output
  ·rw [Yt];exact dj g.fr.size (dj N8 Rx)
  ·refine (same b (lV hb g.fr.size) ?_).trans (g.fr.b7 b hb hf)
   rintro ⟨hc,rfl⟩
   rcases g.own 0 _ pl py oc hc with h | h
   ·exact hf h
   ·omega
 ·rintro b (hb | ⟨hb,_⟩)
  ·have:=g.S1 b hb;rw [Yt];omega
  ·rw [Yt];exact g3.S1 b hb
 ·rintro b (hb | ⟨_,hb⟩)
  ·exact g.S2 b hb
  ·exact .inr (dj g.fr.size hb)
 ·intro k x hx
  rw [bd] at hx
  by_cases hk:0=k
  ·rw [if_pos hk] at hx
   cases hx
   subst hk
   obtain ⟨p,c,T,hm,hr⟩:=g3.rep.ob 0 o' (by rw [h2];rfl)
   have G7:Yr 0=μ 0:=(g3.A9 0 (by show 0 < 1;omega)).trans ((g1.A9 0 (by show 0 < 1;omega)).trans UH)
   rw [G7,oc] at hm
   cases hm
   refine ⟨pl,c,T,oc,⟨hr.sz,fun hc=>?_,hr.cap,hr.len,fun hc=>?_,hr.tj,fun i j x v hi hx hv=>?_,fun hz=>absurd hz E3⟩⟩
   ·rw [ho4 _ (g.Jf py oc hc Qd rfl)];exact hr.b7 hc
   ·rintro (h | ⟨h,_⟩)
    ·exact nS hc h
    ·exact hr.out hc h
   ·have:=hr.rep i j x v hi hx hv
    rw [abS] at this ⊢
    exact this.eX Yk hc4
  ·rw [if_neg hk] at hx
   obtain ⟨p,c,T,hm,hr⟩:=g.rep.ob k x hx
   refine ⟨p,c,T,hm,hr.ext ext (fun hc=>same _ (cm (hr.b7 hc)) ?_) (fun hc=>?_)⟩
   ·rintro ⟨jk,he⟩
    exact g.rep.ne 0 k _ x pl p hk py hx oc hm jk hc he
   ·rintro (h | ⟨_,h⟩)
    ·exact hr.out hc h
    ·have:=cm (hr.b7 hc);omega
 ·intro k k' x x' p p' eE hx ss hm fw hc jk
  have vf:∀ k x,av (sset σ 0 o') k=some x→∃ y,av σ k=some y:=by
   intro k x hx
   rw [bd] at hx
   by_cases hk:0=k
   ·subst hk;exact ⟨_,py⟩
   ·rw [if_neg hk] at hx;exact ⟨x,hx⟩
  obtain ⟨y,hy⟩:=vf k x hx
  obtain ⟨y',TH⟩:=vf k' x' ss
  exact g.rep.ne k k' y y' p p' eE hy TH hm fw hc jk
 ·intro k x p hx hm hc
  rw [bd] at hx
  by_cases hk:0=k
  ·subst hk;exact g.own 0 _ p py hm hc
  ·rw [if_neg hk] at hx;exact g.own k x p hx hm hc
abbrev MG (D:Nat):Deferred:={ target:=.collected D,args:=#[] }
def gh (P:Program) (E:Env) (D:Nat) (fn:FuncId) (nt:Nat) (cF:Value→World→Prop) (k:List Item) (st:St):Prop :=
 ∀ (tm:Array Value) (w:World),tm.size=nt→Hc E st tm w→∀ (b:Frame),b.fn=fn→b.kind=.normal→∀ cs,
  ∃ v w' fr,cF v w'∧Steps P (lone (b.at ⟨tm,[MG D]⟩ k) cs w) (lone fr cs w')∧fr.fn=fn∧fr.leaving P w' (.returned v)
section
variable {P:Program} {E E9:Env} {D:Nat} {fn:FuncId} {nt:Nat} {cF:Value→World→Prop} {k k':List Item} {st tY:St}
theorem gh.step (h:gh P E D fn nt cF k' st) (hs:∀ (b:Frame) (a:Act) (cs:List Frame) (w:World),step P (lone (b.at a k) cs w)=.next (lone (b.at a k') cs w)):gh P E D fn nt cF k st:=by
 intro tm w h1 h2 b h3 h4 cs
 obtain ⟨v,w',fr,q1,q2,q3,q4⟩:=h tm w h1 h2 b h3 h4 cs
 exact ⟨v,w',fr,q1,.head (hs b ⟨tm,[MG D]⟩ cs w) q2,q3,q4⟩
theorem gh.seq {x y:Code} (h:gh P E D fn nt cF (.code x :: .code y :: k) st):gh P E D fn nt cF (.code (.seq x y) :: k) st:=h.step fun _ _ _ _=>step_seq
theorem gh.inBlock {id:Nat} (h:gh P E D fn nt cF k st):gh P E D fn nt cF (.inBlock id :: k) st:=h.step fun _ _ _ _=>step_inBlock
theorem gh.rw {m:Nat} {c:Code} {orcs:List (Nat×lW)} {F:List Nat} {rR:List (Nat×Wd)} {eN:xG} {nk:Nat} (hE:aQ E m) {ps:List Prop}
  (h:D2 P nt m c orcs F rR eN nk st=some (ps,tY)) (hF:(((F.isEmpty && ou orcs) || Nat.beq m 0) && NW orcs)=true) (hp:aX ps) (hr:gh P E D fn nt cF k tY):gh P E D fn nt cF (.code c :: k) st:=by
 unfold D2 at h
 split at h
 ·rename_i p1 s1 h1
  split at h
  ·rename_i q1 s2 h2
   simp only [aD,aA] at h
   obtain ⟨rfl,rfl⟩:=h
   obtain ⟨tX,vk⟩:=aX.app hp
   obtain ⟨hF,hY⟩:=lU.1 hF
   have hz:ou orcs=true∨∀ b,¬ E.fp b:=by
    rcases Bool.or_eq_true_iff.1 hF with h | h
    ·exact .inl (lU.1 h).2
    ·exact .inr (hE.fp (bp h))
   have Zj:F.isEmpty=true∨∀ b,¬ E.fp b:=by
    rcases Bool.or_eq_true_iff.1 hF with h | h
    ·exact .inl (lU.1 h).1
    ·exact .inr (hE.fp (bp h))
   intro tm w hs xE b nJ lN cs
   have Xe:=(wpIn_wide (n:=0)).1 (ye (rd:=none) (ds:=[MG D]) hz (CN hY) h1 tX hs xE)
   obtain ⟨e,a',w',⟨rfl,q1,q2,q3⟩,Mx⟩:=Xe b k cs
   have ha:a'=⟨a'.tmps,[MG D]⟩:=by cases a';simp at q2;simp [q2]
   obtain ⟨v,Nt,fr,r1,r2,r3,r4⟩:=hr a'.tmps w' q1 (Bw (by rw [hE.m0];exact h2) vk Zj q3) b nJ lN cs
   refine ⟨v,Nt,fr,r1,Steps.trans Mx ?_,r3,r4⟩
   rw [ha];exact r2
  ·cases h
 ·cases h
theorem gh.ret {c:Code} (HB:∀ σ S μ w,Good E9 σ S μ w→Good E σ S μ w) (Zu:E.m0≤E9.m0) (hD:E9.w0.heap[D]?=some (.deferred (some []))) (Hk:¬ E9.fp D) (Zv:E.w0.heap.size≤D) (ks:List Nat) (hx:c=.ret)
  {f:Func} (hf:P.funcs[fn]?=some f) {ps:List Prop} {res:AV} {dr:dp} (h:xq P f st=some (ps,res)) (Jb:Ah st.jf ks=dr) (hp:aX ps):gh P E9 D fn nt (aY E dr res) (.code c :: k) st:=by
 subst hx Jb
 intro tm w hs hr b nJ lN cs
 obtain ⟨S,μ,g,hk,hm,ht⟩:=hr
 have hDw:w.heap[D]?=some (.deferred (some [])):=(g.fr.b7 D (cm hD) Hk).trans hD
 have Ag:Hc E st tm (w.putObj D (.deferred none)):=⟨S,μ,(HB _ _ _ _ g).put hDw rfl rfl (.inl Zv),hk,dj Zu hm,fun t=>(ht t).eX (fun _ h=>h) (tv hDw rfl rfl)⟩
 obtain ⟨v,h1,h2⟩:=AD hf h hp Ag nJ lN (.code .ret :: k)
 refine ⟨v,_,_,h1.Ux ks,.head step_ret (.one (step_collected (fr:={ b.at ⟨tm,[MG D]⟩ (.code .ret :: k) with mode:=.returning }) (by simp) rfl rfl (run_takeDeferred hDw))),?_,h2⟩
 exact nJ
theorem Ho {f:FuncId} {fu:Func} {c:Code} {m:Nat} {args:List AV} {σ dr:dp} {res:AV} (hf:P.funcs[f]?=some fu) (hb:fu.body=some c) (hn:fu.ntmps=nt) (ha:Nat.ble args.length nt=true)
  {w:World} {S:Nat→Prop} {μ:Mu} {vs:Array Value} (h:az P (tn w S σ μ m) f nt (aY (tn w S σ μ m) dr res) [.code c] ⟨tu args 0,σ,m⟩) (g:Good (tn w S σ μ m) σ S μ w) (hk:∀ k,m≤k→μ k=none) (hl:RL w S μ vs args) :
  Calls P f vs w fun e w'=>∃ v S' cC,e=.returned v∧Good (tn w S σ μ m) dr S' cC w'∧ar w' S' cC v res:=by
 simp only [Nat.ble_eq] at ha
 intro cs
 let b:Frame:={ (default:Frame) with fn:=f,kind:=.normal }
 have MA:Frame.enter P f vs .normal=b.at ⟨vs ++ Array.replicate (nt - vs.size) undef,[]⟩ [.code c]:=by
  simp [Frame.enter,Frame.at,hf,hb,hn,b]
 have kj:=hl.1
 obtain ⟨v,w',fr,h1,h2,h3,h4⟩:=h (vs ++ Array.replicate (nt - vs.size) undef) w (by simp;omega) ⟨S,μ,g,hk,aR _,fun t=>by
  show ar w S μ _ (cL (tu args 0) t)
  rw [AE,if_pos (Nat.zero_le _),Nat.sub_zero]
  cases hx:args[t]? with
  | none=>exact .mU
  | some x =>
   have fo:t < vs.size:=by rw [kj];exact (dd.1 hx).1
   have hv:(vs ++ Array.replicate (nt - vs.size) undef).getD t undef=vs[t]:=by
    simp [fj,Array.getElem?_append_left fo,fo]
   rw [hv]
   exact hl.2 t x _ hx (dM fo)⟩ b rfl rfl cs
 rw [← MA] at h2
 obtain ⟨S',cC,g',hv⟩:=h1
 exact ⟨.returned v,w',fr,⟨v,S',cC,rfl,g',hv⟩,h2,h3,h4⟩
theorem az.range {m m1 m9 nt1:Nat} (hE:aQ E m) {Zw:Operand} {ps:Array Tmp} {assign body c1:Code} {orc:lW} {avs:Nat→List AV} {rP dr:dp} {res x:AV} {gid:FuncId} {fu:Func} {rds:List Nat} {upd:rU}
  (abX:orc.wE=false) (T9:orc.ks.length=m1) (hf:P.funcs[gid]?=some fu) (hb:fu.body=some c1) (hn:fu.ntmps=nt1) (ha:∀ l,Nat.ble (avs l).length nt1=true)
  (Pq:∀ l,Bk P (fun g a s _ r s'=>g=gid∧a=avs l∧s=rP∧r=res∧s'=dr) st.nk st.jf (xl st.tm Zw) [.atom (.func (.yield l) #[] #[])] orc=some ⟨[gid=gid∧avs l=avs l∧rP=rP∧res=res∧dr=dr],x,rds,upd⟩)
  (abY:∀ (E1:Env) (l:Nat) (r:Loop),E1.m0=m1→E1.w0.heap[l]?=some (.loop r)→¬ E1.fp l→r.state=.ready→r.pending=none→r.params=ps→r.assign=assign→r.body=body→r.tmps.size=nt →
   (∀ t,ar E1.w0 E1.S0 E1.Yf (r.tmps.getD t undef) ((cL st.tm t).jr (idx orc.ks)))→az P E1 gid nt1 (aY E1 dr res) [.code c1] ⟨tu (avs l) 0,rP,m1⟩)
  (hm9:m≤m9) (h9:m9≠0) (Tp:m9≤st.nk+16)
  (Zx:∀ (E9:Env) (D:Nat),aQ E9 m9→(∀ σ S μ w,Good E9 σ S μ w→Good E σ S μ w)→E.m0≤E9.m0→E9.w0.heap[D]?=some (.deferred (some []))→¬ E9.fp D→E.w0.heap.size≤D→gh P E9 D fn nt cF k ⟨st.tm,eV st.jf upd,st.nk+16⟩) :
  az P E fn nt cF (.code (.rangeFunc Zw ps assign body) :: k) st:=by
 intro tm w hs hr b nJ lN cs
 obtain ⟨S,μ,g,hk,hm,ht⟩:=hr
 obtain ⟨e1,g1⟩:=g.aux (.deferred (some [])) rfl
 obtain ⟨e2,g2⟩:=g1.aux (.loop { state:=.ready,pending:=none,fn:=b.fn,tmps:=tm,params:=ps,assign,body,defers:=w.heap.size }) rfl
 obtain ⟨W,hW⟩:∃ W,W=(w.alloc (.deferred (some []))).alloc (.loop { state:=.ready,pending:=none,fn:=b.fn,tmps:=tm,params:=ps,assign,body,defers:=w.heap.size }):=⟨_,rfl⟩
 rw [← hW] at e2 g2
 have QP:(Instr.enterLoop b.fn tm ps assign body none).run P w=.ok (w.heap.size+1,[MG w.heap.size]) W:=by rw [hW];exact run_enterLoop_outer _ _ _ _ _
 have hL:W.heap[w.heap.size+1]?=some (.loop { state:=.ready,pending:=none,fn:=b.fn,tmps:=tm,params:=ps,assign,body,defers:=w.heap.size }):=by
  rw [hW];have:=World.alloc_heap_new (w.alloc (.deferred (some []))) (.loop { state:=.ready,pending:=none,fn:=b.fn,tmps:=tm,params:=ps,assign,body,defers:=w.heap.size });rwa [World.size_alloc] at this
 have hDf:W.heap[w.heap.size]?=some (.deferred (some [])):=by
  rw [hW];exact (ek (by simp)).trans (World.alloc_heap_new w _)
 have hS1:∀ b,b=w.heap.size∨b=w.heap.size+1→(S b∨b=w.heap.size)∨b=(w.alloc (.deferred (some []))).heap.size:=by
  rintro b (rfl | rfl)
  ·exact .inl (.inr rfl)
  ·exact .inr (by simp)
 have htW:∀ t,ar W (fun b=>(S b∨b=w.heap.size)∨b=(w.alloc (.deferred (some []))).heap.size) μ (tm.getD t undef) (cL st.tm t):=fun t=>((ht t).ext e1).ext e2
 have hfv:=zs (a:=⟨tm,[]⟩) htW Zw
 have ab0:=Pq (w.heap.size+1)
 have hqs:aX [gid=gid∧avs (w.heap.size+1)=avs (w.heap.size+1)∧rP=rP∧res=res∧dr=dr]:=⟨⟨rfl,rfl,rfl,rfl,rfl⟩,trivial⟩
 obtain ⟨ab1,vs,hinv,Xm⟩:=DH (ob:=fun g a s _ r s'=>g=gid∧a=avs (w.heap.size+1)∧s=rP∧r=res∧s'=dr) g2 (fun j _=>hk _ (by omega)) hm hfv
  (vargs:=#[.func (.yield (w.heap.size+1)) #[] #[]]) (by
   refine ⟨rfl,fun j c v hc hv=>?_⟩
   cases j with
   | zero=>simp at hc hv;subst hc hv;exact .atom _
   | succ j=>simp at hc)
  (fun h=>by rw [abX] at h;cases h) (by
   rintro ab1 as' bs afN afO afP vs ⟨rfl,rfl,rfl,rfl,rfl⟩ g0 L9 qz
   rw [T9] at g0 L9 ⊢
   refine Ho hf hb hn (ha _) (abY _ (w.heap.size+1) _ rfl hL ?_ rfl rfl rfl rfl rfl hs fun t=>?_) g0 L9 qz
   ·exact g0.Ij hL rfl
   ·exact ((htW t).jr (f:=idx orc.ks) (cC:=kr μ orc.ks) (fun a b pl ha hb=>xZ a b pl ha hb)).mono (fun _ h=>.inl h) (fun _ _=>rfl) (fun _ _ h=>h)) ab0 hqs
 obtain ⟨e,w2,fr,⟨v,S2,Yr,rfl,ex,g3,G7,hv⟩,Xn,Yj,Xo⟩:=Xm (({ b with roundOf:=none }:Frame).atR { tmps:=tm,defers:=[MG w.heap.size] } (.inRangeFunc (w.heap.size+1) :: k) :: cs)
 have hL2:w2.heap[w.heap.size+1]?=some (.loop { state:=.ready,pending:=none,fn:=b.fn,tmps:=tm,params:=ps,assign,body,defers:=w.heap.size }):=(ex.b7 _ (hS1 _ (.inr rfl))).trans hL
 have hD2:w2.heap[w.heap.size]?=some (.deferred (some [])):=(ex.b7 _ (hS1 _ (.inl rfl))).trans hDf
 obtain ⟨W3,hW3⟩:∃ W3,W3=w2.putObj (w.heap.size+1) (.loop { state:=.exhausted,pending:=none,fn:=b.fn,tmps:=tm,params:=ps,assign,body,defers:=w.heap.size }):=⟨_,rfl⟩
 have ab3:(Instr.endLoop (w.heap.size+1)).run P w2=.ok none W3:=by rw [hW3];exact run_endLoop hL2 (by simp)
 have hc3:∀ a,W3.cell? a=w2.cell? a:=by rw [hW3];exact tv hL2 rfl rfl
 have g4:Good E (eV st.jf upd) S2 Yr W3:=by rw [hW3];exact g3.put hL2 rfl rfl (.inl (by have:=g.fr.size;omega))
 have hD3:W3.heap[w.heap.size]?=some (.deferred (some [])):=by rw [hW3,World.putObj_heap_other (by omega)];exact hD2
 have r9:Hc (q9 W3 S2 (eV st.jf upd) Yr m9) ⟨st.tm,eV st.jf upd,st.nk+16⟩ tm W3 :=
  ⟨S2,Yr,g4.base m9,fun k ld=>G7 k (.inr ld) (hk k (by have:st.nk+16≤k:=ld;omega)),Tp,fun t=>((htW t).ext ex).eX (fun _ h=>h) hc3⟩
 obtain ⟨v',w',fr',q1,q2,q3,q4⟩:=Zx (q9 W3 S2 (eV st.jf upd) Yr m9) w.heap.size ⟨rfl,fun h=>absurd h h9⟩ (fun σ S μ w h=>g4.ME (by rw [hE.m0];exact hm9) h) (by rw [hE.m0];exact hm9) hD3
  (g4.Ij hD3 rfl) g.fr.size tm W3 hs r9 b nJ lN cs
 refine ⟨v',w',fr',q1,?_,q3,q4⟩
 have hat:∀ (a:Act) (k:List Item),b.at a k=({ b with roundOf:=none }:Frame).atR a k:=fun a k=>by simp [Frame.at,Frame.atR]
 simp only [bJ] at hinv
 cases hd:(Deferred.ofValue ((⟨tm,[]⟩:Act).eval Zw) #[.func (.yield (w.heap.size+1)) #[] #[]]).run P W with
 | halt x w'=>rw [hd] at hinv;cases hinv
 | ok d wd =>
  rw [hd] at hinv
  rw [hat]
  refine .head (stepR_rangeFunc (b:={ b with roundOf:=none }) (a:=⟨tm,[]⟩) QP (show (resolve (⟨tm,[]⟩:Act).eval (rangeCall Zw (w.heap.size+1)) 0).run P W=.ok d wd by rw [← hd];simp [resolve,Act.eval]) hinv) ?_
  refine Steps.trans Xn (.head (step_leave_returned Xo) ?_)
  rw [finish_atR_inRangeFunc]
  refine .head (stepR_endRangeFunc ab3) ?_
  rw [hat] at q2
  exact q2
end
def Zy:Code→Code
 | .rangeFunc _ _ a _=>a
 | c=>c
def rfB:Code→Code
 | .rangeFunc _ _ _ b=>b
 | c=>c
section
variable {P:Program} {E E9:Env} {D:Nat} {fn:FuncId} {nt m:Nat} {cF:Value→World→Prop} {k k':List Item} {st tY:St}
theorem gh.Jc (h:Jc k=some k') (hr:gh P E D fn nt cF k' st):gh P E D fn nt cF k st:=by
 unfold Ab.Jc at h
 split at h
 ·cases h;exact hr.seq
 ·cases h;exact hr.step fun _ _ _ _=>step_block
 ·cases h;exact hr.step fun _ _ _ _=>step_loop
 ·cases h;exact hr.step fun _ _ _ _=>step_inLoop
 ·cases h;exact hr.inBlock
 ·cases h;exact hr.step fun _ _ _ _=>step_lone_go (by simp [stepG,stepG.exec,Frame.at])
 ·cases h;exact hr.step fun _ _ _ _=>step_lone_go (by simp [stepG,stepG.exec,Frame.at])
 ·cases h;exact hr.step fun _ _ _ _=>step_skip
 ·cases h;exact hr.step fun _ _ _ _=>step_label
 ·exact hr.step fun _ _ _ _=>step_exit h
 ·cases h
theorem gh.Cf:∀ (n:Nat) {k:List Item},Cf n k=some k'→gh P E D fn nt cF k' st→gh P E D fn nt cF k st
 | 0,k,h,hr=>by simp only [Ab.Cf,aD] at h;rw [h];exact hr
 | n+1,k,h,hr=>by
  simp only [Ab.Cf] at h
  split at h
  ·rename_i k1 h1
   exact gh.Jc h1 (gh.Cf n h hr)
  ·cases h
theorem gh.sA (n:Nat) (k':List Item) (hr:gh P E D fn nt cF k' st) (h:Ab.Cf n k=some k':=by kernel_rfl):gh P E D fn nt cF k st:=gh.Cf n h hr
theorem gh.sR (hE:aQ E m) (tY:St) (c:Code) (orcs:List (Nat×lW)) (F:List Nat) (rR:List (Nat×Wd)) (eN:xG) (nk:Nat) (ps:List Prop) (hp:aX ps) (hr:gh P E D fn nt cF k tY)
  (h:D2 P nt m c orcs F rR eN nk st=some (ps,tY):=by kernel_rfl) (hF:(((F.isEmpty && ou orcs) || Nat.beq m 0) && NW orcs)=true:=by rfl):gh P E D fn nt cF (.code c :: k) st:=gh.rw hE h hF hp hr
theorem gh.sW (hE:aQ E m) (tY:St) (F:List Nat) (rR:List (Nat×Wd)) (eN:xG) (nk:Nat) (ps:List Prop) (hp:aX ps) (hr:gh P E D fn nt cF k tY)
  (h:CK m st F rR eN nk=some (ps,tY):=by kernel_rfl) (hF:(F.isEmpty || Nat.beq m 0)=true:=by rfl):gh P E D fn nt cF k st:=by
 have h':CK E.m0 st F rR eN nk=some (ps,tY):=by rw [hE.m0];exact h
 refine fun tm w h1 h2=>hr tm w h1 (Bw h' hp ?_ h2)
 rcases Bool.or_eq_true_iff.1 hF with h3 | h3
 ·exact .inl h3
 ·exact .inr (hE.fp (bp h3))
theorem gh.sT {c:Code} (HB:∀ σ S μ w,Good E9 σ S μ w→Good E σ S μ w) (Zu:E.m0≤E9.m0) (hD:E9.w0.heap[D]?=some (.deferred (some []))) (Hk:¬ E9.fp D) (Zv:E.w0.heap.size≤D)
  (f:Func) (ks:List Nat) (ps:List Prop) {res:AV} {dr:dp} (hp:aX ps) (hx:c=.ret:=by kernel_rfl) (hf:P.funcs[fn]?=some f:=by kernel_rfl) (h:xq P f st=some (ps,res):=by kernel_rfl)
  (Jb:Ah st.jf ks=dr:=by rfl):gh P E9 D fn nt (aY E dr res) (.code c :: k) st:=gh.ret HB Zu hD Hk Zv ks hx hf h Jb hp
theorem WI.sR (hE:aQ E m) (st tY:St) (c:Code) (orcs:List (Nat×lW)) (F:List Nat) (rR:List (Nat×Wd)) (eN:xG) (nk:Nat) (ps:List Prop) (hp:aX ps)
  (h:D2 P nt m c orcs F rR eN nk st=some (ps,tY):=by kernel_rfl) (hF:(((F.isEmpty && ou orcs) || Nat.beq m 0) && NW orcs)=true:=by rfl):WI P E nt c st tY:=WI.rw hE h hF hp
theorem WI.sS {c:Code} (x y:Code) {Ik Wb:St} (h1:WI P E nt x st Ik) (h2:WI P E nt y Ik Wb) (hx:c=.seq x y:=by kernel_rfl):WI P E nt c st Wb:=by subst hx;exact h1.seq h2
theorem WI.sB {c:Code} (id:Nat) (x:Code) {Ik:St} (h1:WI P E nt x st Ik) (hx:c=.block id x:=by kernel_rfl):WI P E nt c st Ik:=by subst hx;exact h1.block
end
theorem Jg (r:Loop) (vs:Array Value):(qL r vs).size=r.tmps.size:=by
 unfold qL
 rw [← Array.foldl_toList]
 generalize (r.params.zip vs).toList=l
 generalize r.tmps=t
 induction l generalizing t with
 | nil=>rfl
 | cons x l ih=>simp only [List.foldl_cons];rw [ih];simp
theorem Pw {r:Loop} {nt s p q:Nat} (VZ:r.params=#[p,q]) (kj:r.tmps.size=nt) (h1:s≠p) (h2:s≠q) (h3:p≠q) (hp:p < nt) (hq:q < nt) {E1:Env} {x y:AV} (hs:ar E1.w0 E1.S0 E1.Yf (r.tmps.getD s undef) (.op 0 0 0))
  {w:World} {S:Nat→Prop} {μ:Mu} {vs:Array Value} (Pc:RL w S μ vs [x,y]) (G7:μ 0=E1.Yf 0) :
  (qL r vs).size=nt∧∀ t,ar w S μ ((qL r vs).getD t undef) (cL [(s,.op 0 0 0),(p,x),(q,y)] t):=by
 refine ⟨(Jg r vs).trans kj,fun t=>?_⟩
 obtain ⟨hv,hr⟩:=Pc
 obtain ⟨a,b,rfl⟩:∃ a b,vs=#[a,b]:=by
  obtain ⟨l⟩:=vs
  match l,hv with
  | [a,b],_=>exact ⟨a,b,rfl⟩
 have ra:=hr 0 x a rfl rfl
 have rb:=hr 1 y b rfl rfl
 have e:qL r #[a,b]=(r.tmps.setIfInBounds p a).setIfInBounds q b:=by simp [qL,VZ]
 rw [e]
 have gd:∀ (T:Array Value) (i j:Nat) (v:Value),i < T.size→(T.setIfInBounds i v).getD j undef=if i=j then v else T.getD j undef:=by
  intro T i j v hi
  simp only [fj,Array.getElem?_setIfInBounds]
  split
  ·rename_i h;subst h;simp [hi]
  ·rfl
 rw [gd _ _ _ _ (by simp;omega),gd _ _ _ _ (by omega)]
 simp only [cL]
 by_cases ht:s=t
 ·subst ht
  rw [ki rfl,if_neg (fun h=>h2 h.symm),if_neg (fun h=>h1 h.symm)]
  generalize r.tmps.getD s undef=v at hs
  cases hs with
  | op pl h=>exact .op pl (G7.trans h)
 ·rw [lO ht]
  by_cases ht2:p=t
  ·subst ht2
   rw [ki rfl,if_neg (fun h=>h3 h.symm),if_pos rfl];exact ra
  ·rw [lO ht2]
   by_cases ht3:q=t
   ·subst ht3
    rw [ki rfl,if_pos rfl];exact rb
   ·rw [lO ht3];exact .mU
end Go.Ab
