/- Abstract values over the heap of the machine, and functions read off its code (part 4). No conditions. -/
import Derived.Test.YtlgddcmiekcdiaaGreatCc
import Derived.ProofKit
import Derived.Deep.Slices
import Derived.OpenShut
import Derived.ChangeOld
import Derived.SizedLaws
import Derived.RangeFuncLeaves
set_option linter.unusedVariables false
set_option linter.unusedSimpArgs false
namespace Go.Ab
section
variable {P:Program} {E:Env} {m0 nk:Nat} {F:List Nat} {fM:AB}
theorem CN {σ:dD} {f:Nat→Option Nat}:∀ (l:AB) (ps:List Prop) (τ:dD),KI σ F f fM l=some (ps,τ)→bq ps→∀ k o,au τ k=some o →
  ∃ d p,(k,d)∈l∧wV σ F f fM d=some (p,o)∧bq p
 | [],ps,τ,h,_,k,o,hk=>by simp [KI] at h;obtain ⟨_,rfl⟩:=h;simp [au] at hk
 | (k',d) :: r,ps,τ,h,hp,k,o,hk=>by
  simp only [KI] at h
  split at h
  ·rename_i p o' q l e1 e2
   simp only [aD,aA] at h
   obtain ⟨rfl,rfl⟩:=h
   obtain ⟨x8,xN⟩:=bq.app hp
   simp only [au] at hk
   split at hk
   ·simp_all
   ·obtain ⟨d',p',h1,h2,h3⟩:=CN r q l e2 xN k o hk
    grind
  ·cases h
theorem Ik {σ:dD} {f:Nat→Option Nat} {tm:List (Nat×AV)} {R:Value→AV→Prop} {fr:Array Value} (Xt:∀ v,R v .mH)
  (hv:∀ d t ps y,FO σ F f fM d (ey tm t)=some (ps,y)→bq ps→R (fr.getD t undef) y):∀ (l:List (Nat×Wd)) (ps:List Prop) (Mk:List (Nat×AV)),
  KH σ F f fM tm l=some (ps,Mk)→bq ps→∀ t,R (fr.getD t undef) (ey Mk t)
 | [],ps,Mk,h,_,t=>by simp [KH] at h;obtain ⟨_,rfl⟩:=h;exact Xt _
 | (t',d) :: r,ps,Mk,h,hp,t=>by
  simp only [KH] at h
  split at h
  ·rename_i p x q l e1 e2
   simp only [aD,aA] at h
   obtain ⟨rfl,rfl⟩:=h
   obtain ⟨x8,xN⟩:=bq.app hp
   simp only [ey]
   split
   ·rename_i hb
    rw [← bW hb]
    exact hv d t' p x e1 x8
   ·exact Ik Xt hv r q l e2 xN t
  ·cases h
theorem QD {k0:Nat}:∀ (l:AB) (a b:Nat) (x y:Od),na (l.filterMap (·.2.xK))=true→(a,x)∈l→(b,y)∈l→x.xK=some k0→y.xK=some k0→a=b:=by
 intro l
 induction l with
 | nil=>simp
 | cons z l ih =>
  intro a b x y hn ha hb hx hy
  have none:∀ c u,(c,u)∈l→u.xK=some k0→idx (l.filterMap (·.2.xK)) k0=none→False:=by
   intro c u hc hu hi
   have zZ:k0∈l.filterMap (·.2.xK):=List.mem_filterMap.2 ⟨(c,u),hc,hu⟩
   obtain ⟨i,rN⟩:=List.getElem?_of_mem zZ
   exact mJ _ _ hi i rN
  rcases kI.1 ha with Vm | Vm
  ·rcases kI.1 hb with ss | ss
   ·grind
   ·rw [← Vm] at hn
    simp only [List.filterMap_cons,hx,na,bp,Option.isNone_iff_eq_none] at hn
    grind
  ·rcases kI.1 hb with ss | ss
   ·rw [← ss] at hn
    simp only [List.filterMap_cons,hy,na,bp,Option.isNone_iff_eq_none] at hn
    grind
   ·refine ih a b x y ?_ Vm ss hx hy
    simp only [List.filterMap_cons] at hn
    split at hn
    ·exact hn
    simp_all [na,bp]
theorem Vz:∀ {as:List AV} {sz n:Nat} {g:Nat→List AV},Ij as [.mr sz n g]→as=[.mr sz n g]
 | [],_,_,_,h=>h.elim
 | a :: [],_,_,_,h=>by
  rcases h.1 with h1 | ⟨_,f,h1⟩
  ·rw [h1]
  ·cases h1
 | _ :: _ :: _,_,_,_,h=>h.2.elim
theorem QE {σ:dD} {f:Nat→Option Nat} {d:Od} {p:List Prop} {o:Ob} (h:wV σ F f fM d=some (p,o)) (hp:bq p) {i:Nat} {x:Nat×Nat×(Nat→List AV)} (hr:rowOf o i=some x) :
  ∃ k0 o0,d.xK=some k0∧au σ k0=some o0∧rowOf o0 i=some x:=by
 obtain ⟨r1,r2,r3⟩:=di hr
 cases d with
 | ah k0 =>
  simp only [wV,aK,aA] at h
  obtain ⟨o0,ri,_,rfl⟩:=h
  exact ⟨k0,o0,rfl,ri,(qC _ _ _ _).1 hr⟩
 | arr k0 n gt =>
  simp only [wV] at h
  split at h
  ·rename_i o0 ri
   split at h
   ·simp only [aD,aA] at h
    obtain ⟨rfl,rfl⟩:=h
    obtain ⟨p1,p2,_⟩:=hp
    exact ⟨k0,o0,rfl,ri,k5 r1 (by rw [p1];exact r2) (by simp_all)⟩
   ·cases h
  ·cases h
 | OQ k0 n gt =>
  simp only [wV] at h
  split at h
  ·rename_i o0 ri
   split at h
   ·simp only [aD,aA] at h
    obtain ⟨rfl,rfl⟩:=h
    obtain ⟨p1,p2,_⟩:=hp
    have:=p2 i r2
    have r3:gt i=[.mr x.1 x.2.1 x.2.2]:=r3
    rw [r3] at this
    exact ⟨k0,o0,rfl,ri,k5 r1 (pV r2 p1) (Vz this)⟩
   ·cases h
  ·cases h
 | qu k0 n l b =>
  simp only [wV] at h
  split at h
  ·rename_i o0 l' ri ZU
   split at h
   ·rename_i hb
    simp only [aD,aA] at h
    obtain ⟨rfl,rfl⟩:=h
    obtain ⟨p1,p2,p3,_⟩:=hp
    simp only [bp,Bool.not_eq_true'] at hb
    have r3:ba l' b i=[.mr x.1 x.2.1 x.2.2]:=r3
    rw [← FN (p3 i r2) ZU,p2 i r2] at r3
    exact ⟨k0,o0,rfl,ri,k5 hb.1 (by rw [p1];exact r2) (PT r3)⟩
   ·cases h
  ·cases h
 | UI gt =>
  simp only [wV,aD,aA] at h
  grind
 | mp k0 cs =>
  simp only [wV] at h
  split at h
  ·rename_i o0 ri
   split at h
   ·rename_i hb
    simp only [aD,aA] at h
    obtain ⟨rfl,rfl⟩:=h
    simp_all
   ·cases h
  ·cases h
 | var k0 ds =>
  simp only [wV] at h
  grind
 | nil sz gt =>
  simp only [wV] at h
  grind
theorem FQ {st CO:St} {x9:List (Nat×Wd)} {ps:List Prop} (h:Hk E.m0 st F x9 fM nk=some (ps,CO)) (hp:bq ps) (hF:F.isEmpty=true∨∀ b,¬ E.fp b) {fr:Array Value} {w:World} (hr:Po E st fr w):Po E CO fr w:=by
 obtain ⟨S,μ,g,hk,hm,ht⟩:=hr
 unfold Hk at h
 split at h
 case h_2=>cases h
 rename_i p tm q eV hn Xu dh
 simp only [aD,aA] at h
 obtain ⟨rfl,rfl⟩:=h
 obtain ⟨x8,xN⟩:=bq.app hp
 have N:=QC hn
 have e:Ext w S μ w (SF μ F st.oA S) μ:=⟨az _,fun _ h=>.inl h,fun _ _=>rfl,fun _ _ h=>h⟩
 have S9:∀ k o,au eV k=some o→∃ pl c T,Hl E.m0 μ fM k=some pl∧gX w (SF μ F st.oA S) (Hl E.m0 μ fM) o pl c T ∧
   (0 < pl.cap→∃ k0 o0,au st.oA k0=some o0∧μ k0=some pl∧∃ d,(k,d)∈fM∧d.xK=some k0):=by
  intro k o SY
  obtain ⟨d,pd,tv,hd,VA⟩:=CN fM q eV dh xN k o SY
  have mono:∀ {v:Value} {x:AV} {dy:Mu},ar w S dy v x→ar w (SF μ F st.oA S) dy v x:=fun h=>h.mono (fun _ h=>.inl h) (fun _ _=>rfl) (fun _ _ h=>h)
  have out:∀ k0 o0 pl,au st.oA k0=some o0→μ k0=some pl→k0 ∉ F→0 < pl.cap→¬ SF μ F st.oA S pl.cQ:=by
   rintro k0 o0 pl ri uu ZK hc (h1 | ⟨k1,o1,Bj,SX,xy,LW,uc,hb⟩)
   ·obtain ⟨kn,c,T,gZ,Qh⟩:=g.rep.ob k0 o0 ri
    rw [uu] at gZ;cases gZ
    exact Qh.out hc h1
   ·have fx:k1≠k0:=fun h=>ZK (h ▸ SX)
    exact g.rep.ne k1 k0 o1 o0 Bj pl fx xy ri LW uu uc hc hb
  cases d with
  | ah k0 =>
   simp only [wV,aK,aA] at hd
   obtain ⟨o0,ri,_,rfl⟩:=hd
   obtain ⟨pl,c,T,uu,uS⟩:=g.rep.ob k0 o0 ri
   have h1:=uS.ext e (fun _=>rfl) (out k0 o0 pl ri uu (N.fr k _ k0 tv rfl))
   exact ⟨pl,c,T,by rw [AD N tv rfl];exact uu,h1.kN fun a b pl ha hb=>EU N ha hb,fun _=>⟨k0,o0,ri,uu,_,tv,rfl⟩⟩
  | arr k0 n gt =>
   simp only [wV] at hd
   split at hd
   ·rename_i o0 ri
    split at hd
    ·rename_i hb
     simp only [aD,aA] at hd
     obtain ⟨rfl,rfl⟩:=hd
     obtain ⟨p1,p2,_⟩:=VA
     obtain ⟨pl,c,T,uu,uS⟩:=g.rep.ob k0 o0 ri
     simp only [bp] at hb
     have h1:=uS.ext e (fun _=>rfl) (out k0 o0 pl ri uu (N.fr k _ k0 tv rfl))
     refine ⟨pl,c,T,by rw [AD N tv rfl];exact uu,⟨h1.sz,h1.cQ,h1.cap,p1 ▸ h1.len,h1.out,fun i hi=>?_,fun i j x v hi hx hv=>?_,fun hz=>absurd hz (by simp_all)⟩,fun _=>⟨k0,o0,ri,uu,_,tv,rfl⟩⟩
     ·show (gt i).length=_
      rw [p2 i hi];exact h1.ub i (by rw [p1];exact hi)
     ·have hx:(gt i)[j]?=some x:=hx
      rw [p2 i hi] at hx
      have:=h1.rep i j x v (by rw [p1];exact hi) hx hv
      simp_all
    ·cases hd
   ·cases hd
  | OQ k0 n gt =>
   simp only [wV] at hd
   split at hd
   ·rename_i o0 ri
    split at hd
    ·rename_i hb
     simp only [aD,aA] at hd
     obtain ⟨rfl,rfl⟩:=hd
     obtain ⟨p1,p2,_⟩:=VA
     obtain ⟨pl,c,T,uu,uS⟩:=g.rep.ob k0 o0 ri
     simp only [bp] at hb
     have h1:=uS.ext e (fun _=>rfl) (out k0 o0 pl ri uu (N.fr k _ k0 tv rfl))
     refine ⟨pl,c,T,by rw [AD N tv rfl];exact uu,⟨h1.sz,h1.cQ,h1.cap,eZ p1 h1.len,h1.out,fun i hi=>?_,fun i j x v hi hx hv=>?_,fun hz=>absurd hz (by have:=Nat.le_of_ble_eq_true hb.2;show o0.sz≠0;omega)⟩,fun _=>⟨k0,o0,ri,uu,_,tv,rfl⟩⟩
     ·show (gt i).length=_
      rw [(p2 i hi).len];exact h1.ub i (pV hi p1)
     ·have hx:(gt i)[j]?=some x:=hx
      obtain ⟨a,ha,hax⟩:=(p2 i hi).get hx
      have:=h1.rep i j a v (pV hi p1) ha hv
      rw [hb.1.1] at this
      exact Vy hax this
    ·cases hd
   ·cases hd
  | mp k0 cs =>
   simp only [wV] at hd
   split at hd
   ·rename_i o0 ri
    split at hd
    ·rename_i hb
     simp only [aD,aA] at hd
     obtain ⟨rfl,rfl⟩:=hd
     obtain ⟨rfl,_⟩:=VA
     obtain ⟨pl,c,T,uu,uS⟩:=g.rep.ob k0 o0 ri
     simp only [bp] at hb
     have Kg:=bW hb.2
     have h1:=uS.ext e (fun _=>rfl) (out k0 o0 pl ri uu (N.fr k _ k0 tv rfl))
     refine ⟨pl,c,T,by rw [AD N tv rfl];exact uu,⟨h1.sz,h1.cQ,h1.cap,h1.len,h1.out,fun i hi=>absurd hi (by show ¬ i < o0.len;omega),fun i j x v hi=>absurd hi (by show ¬ i < o0.len;omega),fun hz=>?_⟩,fun _=>⟨k0,o0,ri,uu,_,tv,rfl⟩⟩
     obtain ⟨m0,m1,m2,m3,m4⟩:=h1.mp hz
     exact ⟨m0,m1,m2,rfl,m4⟩
    ·cases hd
   ·cases hd
  | UI gt =>
   simp only [wV,aD,aA] at hd
   obtain ⟨_,rfl⟩:=hd
   exact ⟨⟨0,0,1⟩,#[],0,Nv N tv,⟨rfl,fun h=>absurd h (by simp),by simp,by simp,fun h=>absurd h (by simp),fun i h=>absurd h (by simp),fun i j x v h=>absurd h (by simp),fun h=>absurd (show (1:Nat)=0 from h) (by omega)⟩,fun h=>absurd h (by simp)⟩
  | qu k0 n l b =>
   simp only [wV] at hd
   split at hd
   ·rename_i o0 l' ri ZU
    split at hd
    ·rename_i hb
     simp only [aD,aA] at hd
     obtain ⟨rfl,rfl⟩:=hd
     obtain ⟨p1,p2',p3,_⟩:=VA
     have p2:∀ i,i < n→ba l' b i=AV.uO (uw E.m0 fM) (o0.get i):=fun i hi=>by rw [← p2' i hi];exact (FN (p3 i hi) ZU).symm
     let gt:Nat→List AV:=ba l' b
     obtain ⟨pl,c,T,uu,uS⟩:=g.rep.ob k0 o0 ri
     simp only [bp] at hb
     have h1:=uS.ext e (fun _=>rfl) (out k0 o0 pl ri uu (N.fr k _ k0 tv rfl))
     refine ⟨pl,c,T,by rw [AD N tv rfl];exact uu,⟨h1.sz,h1.cQ,h1.cap,p1 ▸ h1.len,h1.out,fun i hi=>?_,fun i j x v hi hx hv=>?_,fun hz=>absurd hz (by have:=Nat.le_of_ble_eq_true hb.2;show o0.sz≠0;omega)⟩,fun _=>⟨k0,o0,ri,uu,_,tv,rfl⟩⟩
     ·show (ba l' b i).length=_
      rw [p2 i hi,wQ,List.length_map];exact h1.ub i (by rw [p1];exact hi)
     ·have hx:(ba l' b i)[j]?=some x:=hx
      rw [p2 i hi,wQ,List.getElem?_map] at hx
      simp only [aK] at hx
      obtain ⟨y,hy,rfl⟩:=hx
      have:=iX (h1.rep i j y v (by rw [p1];exact hi) hy hv)
      exact this.kN fun a b pl ha hb=>EU N ha hb
    ·cases hd
   ·cases hd
  | var k0 ds =>
   simp only [wV] at hd
   split at hd
   ·rename_i o0 ri
    split at hd
    ·rename_i pw cs hb U6
     simp only [aD,aA] at hd
     obtain ⟨rfl,rfl⟩:=hd
     obtain ⟨pl,c,T,uu,uS⟩:=g.rep.ob k0 o0 ri
     simp only [bp] at hb
     have YF:=bW hb.1.2
     have SD:=Nat.le_of_ble_eq_true hb.2
     have ha:ar w S μ (.agg ((List.range o0.sz).map fun j=>(c[j]?).getD undef).toArray) (.agg (o0.get 0)):=by
      refine .agg (by simp [uS.ub 0 (by omega)]) fun j x v hx hv=>?_
      have hj:j < o0.sz:=by
       have:=(dU.1 hx).1
       rwa [uS.ub 0 (by omega)] at this
      obtain ⟨u,q1,_⟩:=da uS (i:=0) (by omega) hj
      have YQ:c[j]?=some u:=by simpa using q1
      simp [List.getElem?_range hj,YQ] at hv
      exact iX (uS.rep 0 j x v (by omega) hx (by rw [← hv];simpa using q1))
     have Oo:=Nx g N (.agg ds) (.agg (o0.get 0)) _ pw (.agg cs) ha (by simp [FO,U6]) VA
     obtain ⟨vs,VC,He,D1⟩:=n4 Oo
     cases VC
     have hlen:cs.length=o0.sz:=by simpa using He.symm
     refine ⟨pl,c,T,by rw [AD N tv rfl];exact uu,⟨uS.sz,uS.cQ,uS.cap,by have:=uS.len;show 1≤pl.cap;omega,out k0 o0 pl ri uu (N.fr k _ k0 tv rfl),fun i hi=>hlen,fun i j x v hi hx hv=>?_,fun hz=>absurd hz (by show o0.sz≠0;omega)⟩,fun _=>⟨k0,o0,ri,uu,_,tv,rfl⟩⟩
     have hi0:i=0:=by have hi:i < 1:=hi;omega
     subst hi0
     have hx:cs[j]?=some x:=hx
     have hj:j < o0.sz:=by rw [← hlen];exact (dU.1 hx).1
     have tn:c[j]?=some v:=by simpa using hv
     have:=D1 j x v hx (by simp [List.getElem?_range hj,tn])
     show ar w _ (if AV.l8 cs then iW else _) v x
     split
     ·rename_i YE
      exact this.pure (s9 YE hx) iW
     ·exact this
    ·cases hd
   ·cases hd
  | nil sz gt =>
   simp only [wV] at hd
   split at hd
   case h_2=>cases hd
   rename_i ZV
   simp only [aD,aA] at hd
   obtain ⟨_,rfl⟩:=hd
   exact ⟨⟨0,0,sz⟩,#[],0,Nw N tv,⟨rfl,fun h=>absurd h (by simp),by simp,by simp,fun h=>absurd h (by simp),fun i h=>absurd h (by simp),fun i j x v h=>absurd h (by simp),fun h=>absurd (show sz=0 from h) (by have:=Nat.le_of_ble_eq_true ZV;omega)⟩,fun h=>absurd h (by simp)⟩
 have Xj:∀ k i x v,je w (Hl E.m0 μ fM) eV k i x v→∃ k0 d,(k,d)∈fM∧d.xK=some k0∧je w μ st.oA k0 i x v:=by
  rintro k i x v ⟨o,pl,h1,h2,h3,h4⟩
  obtain ⟨d,pd,tv,hd,VA⟩:=CN fM q eV dh xN k o h1
  obtain ⟨k0,o0,q1,q2,q3⟩:=QE hd VA h2
  rw [AD N tv q1] at h3
  exact ⟨k0,d,tv,q1,o0,pl,q2,q3,h3,h4⟩
 have Uk:MX E.fp E.w0.heap.size w (SF μ F st.oA S) (Hl E.m0 μ fM) eV:=by
  have ZW:∀ k d k0,(k,d)∈fM→d.xK=some k0→((ux fM k).bind Od.xK).getD 0=k0:=fun k d k0 h1 h2=>by rw [rj N.nd h1];simp [h2]
  refine g.mx.tr (fun k=>((ux fM k).bind Od.xK).getD 0) (fun k i x v h=>?_) (fun k i x v k' i' x' v' h h' he=>?_) (fun _ h=>.inl h) (fun _ _=>rfl) (fun k i x v b _ h hb=>⟨rfl,?_,fun h=>h⟩) (fun k o pl h1 h2 h3=>?_)
  ·obtain ⟨k0,d,q1,q2,q3⟩:=Xj k i x v h
   show je w μ st.oA (((ux fM k).bind Od.xK).getD 0) i x v
   rw [ZW k d k0 q1 q2];exact q3
  ·obtain ⟨k0,d,q1,q2,_⟩:=Xj k i x v h
   obtain ⟨YR,d',YQ,WD,_⟩:=Xj k' i' x' v' h'
   have he:((ux fM k).bind Od.xK).getD 0=((ux fM k').bind Od.xK).getD 0:=he
   rw [ZW k d k0 q1 q2,ZW k' d' YR YQ WD] at he
   exact QD fM k k' d d' N.od q1 YQ q2 (he ▸ WD)
  ·rintro (h1 | ⟨k1,o1,Bj,_,xy,LW,uc,h1⟩)
   ·exact (g.mx.cQ h hb).2.1 h1
   ·exact g.mx.obj _ _ _ _ _ h hb k1 o1 Bj xy LW uc h1
  ·obtain ⟨Bj,c,T,e1,_,e3⟩:=S9 k o h1
   rw [h2] at e1;cases e1
   obtain ⟨k0,o0,ri,uu,_⟩:=e3 h3
   exact .inl ⟨k0,o0,pl,ri,uu,h3,rfl⟩
 refine ⟨SF μ F st.oA S,Hl E.m0 μ fM,⟨g.fr,fun b h=>.inl (g.S0 b h),?_,?_,⟨?_,?_⟩,?_,?_,Uk⟩,?_,N.m0,?_⟩
 ·rintro b (h1 | ⟨k1,o1,Bj,SX,xy,LW,uc,rfl⟩)
  ·exact g.S1 b h1
  ·obtain ⟨kn,c,T,gZ,Qh⟩:=g.rep.ob k1 o1 xy
   rw [LW] at gZ;cases gZ
   exact gC (Qh.cQ uc)
 ·rintro b (h1 | ⟨k1,o1,Bj,SX,xy,LW,uc,rfl⟩)
  ·exact g.S2 b h1
  ·rcases g.own k1 o1 Bj xy LW uc with h2 | h2
   ·rcases hF with h3 | h3
    ·rw [List.isEmpty_iff] at h3;rw [h3] at SX;simp at SX
    ·exact (h3 _ h2).elim
   ·exact .inr h2
 ·intro k o SY
  obtain ⟨pl,c,T,h1,h2,_⟩:=S9 k o SY
  exact ⟨pl,c,T,h1,h2⟩
 ·intro k k' o o' pl kn fx SY ZX uN Ta hc oU
  obtain ⟨Bj,c,T,h1,_,h3⟩:=S9 k o SY
  obtain ⟨sI,c',T',Sf,_,h3'⟩:=S9 k' o' ZX
  rw [uN] at h1;cases h1
  rw [Ta] at Sf;cases Sf
  obtain ⟨k0,o0,ri,uu,d,hd,hdo⟩:=h3 hc
  obtain ⟨YR,o0',ZY,Z0,d',WB,Z1⟩:=h3' oU
  have PX:k0≠YR:=by
   rintro rfl
   exact fx (QD fM k k' d d' N.od hd WB hdo Z1)
  exact g.rep.ne k0 YR o0 o0' pl kn PX ri ZY uu Z0 hc oU
 ·intro k o pl SY uN hc
  obtain ⟨Bj,c,T,h1,_,h3⟩:=S9 k o SY
  rw [uN] at h1;cases h1
  obtain ⟨k0,o0,ri,uu,_⟩:=h3 hc
  exact g.own k0 o0 pl ri uu hc
 ·intro k ph
  unfold Hl
  rw [if_pos ph];exact g.EO k ph
 ·intro k ph
  have ph:nk≤k:=ph
  have:=N.m0
  unfold Hl
  rw [if_neg (by omega)]
  cases hg:ux fM k with
  | none=>rfl
  | some d =>
   have:=N.lt k d (zz hg)
   omega
 ·exact Ik (R:=fun v x=>ar w (SF μ F st.oA S) (Hl E.m0 μ fM) v x) (fun _=>.mH) (fun d t ps y h1 h2=>Nx g N d _ _ ps y (ht t) h1 h2) x9 p tm Xu x8
def aG (P:Program) (E:Env) (fn:FuncId) (nt:Nat) (dY:Value→World→Prop) (k:List Item) (st:St):Prop :=
 ∀ (tm:Array Value) (w:World),tm.size=nt→Po E st tm w→∀ (b:Frame),b.fn=fn→b.kind=.normal→∀ cs,
  ∃ v w' fr,dY v w'∧Steps P (lone (b.at ⟨tm,[]⟩ k) cs w) (lone fr cs w')∧fr.fn=fn∧fr.leaving P w' (.returned v)
variable {fn:FuncId} {nt:Nat} {dY:Value→World→Prop} {k k':List Item} {st CO:St}
theorem aG.step (h:aG P E fn nt dY k' st) (hs:∀ (b:Frame) (a:Act) (cs:List Frame) (w:World),step P (lone (b.at a k) cs w)=.next (lone (b.at a k') cs w)):aG P E fn nt dY k st:=by
 intro tm w h1 h2 b h3 h4 cs
 obtain ⟨v,w',fr,q1,q2,q3,q4⟩:=h tm w h1 h2 b h3 h4 cs
 exact ⟨v,w',fr,q1,.head (hs b ⟨tm,[]⟩ cs w) q2,q3,q4⟩
theorem aG.seq {x y:Code} (h:aG P E fn nt dY (.code x :: .code y :: k) st):aG P E fn nt dY (.code (.seq x y) :: k) st:=h.step fun _ _ _ _=>step_seq
theorem aG.block {id:Nat} {c:Code} (h:aG P E fn nt dY (.code c :: .inBlock id :: k) st):aG P E fn nt dY (.code (.block id c) :: k) st:=h.step fun _ _ _ _=>step_block
theorem aG.inBlock {id:Nat} (h:aG P E fn nt dY k st):aG P E fn nt dY (.inBlock id :: k) st:=h.step fun _ _ _ _=>step_inBlock
theorem aG.loop {c:Code} (h:aG P E fn nt dY (.code c :: .inLoop c :: k) st):aG P E fn nt dY (.code (.loop c) :: k) st:=h.step fun _ _ _ _=>step_loop
theorem aG.inLoop {c:Code} (h:aG P E fn nt dY (.code c :: .inLoop c :: k) st):aG P E fn nt dY (.inLoop c :: k) st:=h.step fun _ _ _ _=>step_inLoop
theorem aG.skip (h:aG P E fn nt dY k st):aG P E fn nt dY (.code .skip :: k) st:=h.step fun _ _ _ _=>step_skip
theorem aG.label {l:Nat} (h:aG P E fn nt dY k st):aG P E fn nt dY (.code (.label l) :: k) st:=h.step fun _ _ _ _=>step_label
theorem aG.scope {c:Code} (h:aG P E fn nt dY (.code c :: .inScope c :: k) st):aG P E fn nt dY (.code (.scope c) :: k) st:=h.step fun _ _ _ _=>step_lone_go (by rfl)
theorem aG.inScope {c:Code} (h:aG P E fn nt dY k st):aG P E fn nt dY (.inScope c :: k) st:=h.step fun _ _ _ _=>step_lone_go (by rfl)
theorem aG.exit {id:Nat} (he:exitTo id k=some k') (h:aG P E fn nt dY k' st):aG P E fn nt dY (.code (.exit id) :: k) st:=h.step fun _ _ _ _=>step_exit he
theorem aG.cond {c:Operand} {x y:Code} {q:Bool} (hc:yr st.tm c=.atom (.bool q)) (h1:q=true→aG P E fn nt dY (.code x :: k) st) (h2:q=false→aG P E fn nt dY (.code y :: k) st) :
  aG P E fn nt dY (.code (.cond c x y) :: k) st:=by
 intro tm w hs hr b ss pB cs
 have Bl:=hr
 obtain ⟨S,μ,g,_,_,ht⟩:=Bl
 have e:=BB (a:=⟨tm,[]⟩) ht c
 rw [hc] at e
 have e:=dg e
 have Bk:=step_cond (P:=P) (b:=b) (k:=k) (cs:=cs) (w:=w) (x:=x) (y:=y) e
 cases q with
 | true =>
  obtain ⟨v,w',fr,q1,q2,q3,q4⟩:=h1 rfl tm w hs hr b ss pB cs
  exact ⟨v,w',fr,q1,.head Bk q2,q3,q4⟩
 | false =>
  obtain ⟨v,w',fr,q1,q2,q3,q4⟩:=h2 rfl tm w hs hr b ss pB cs
  exact ⟨v,w',fr,q1,.head Bk q2,q3,q4⟩
structure bk (E:Env) (m:Nat):Prop where
 m0:E.m0=m
 fp:m=0→∀ b,¬ E.fp b
theorem aG.wk {m:Nat} (hE:bk E m) {x9:List (Nat×Wd)} {ps:List Prop} (h:Hk m st F x9 fM nk=some (ps,CO)) (hF:(F.isEmpty || Nat.beq m 0)=true) (hp:bq ps) (hr:aG P E fn nt dY k CO):aG P E fn nt dY k st:=by
 have h':Hk E.m0 st F x9 fM nk=some (ps,CO):=by rw [hE.m0];exact h
 refine fun tm w h1 h2=>hr tm w h1 (FQ h' hp ?_ h2)
 rcases Bool.or_eq_true_iff.1 hF with h3 | h3
 ·exact .inl h3
 ·exact .inr (hE.fp (bW h3))
def BD (P:Program) (nt:Nat) (c:Code) (orcs:List (Nat×ow)) (st:St):Option (List Prop×St) :=
 match c with
 | .region _ ops draw=>match sK P nt ops.toList st.nk orcs ops.toList 0 st.tm st.oA with
  | some dj=>match !draw || (P.follows .mixedOrders && Qx ops.toList dj) with
   | true=>some (FD dj,⟨DM dj st.tm,yx dj st.oA,st.nk+16 * ops.size⟩)
   | false=>none
  | none=>none
 | _=>none
def xz:List (Nat×ow)→Bool
 | []=>true
 | (_,o) :: r=>!o.xO && xz r
def WH:List (Nat×ow)→Bool
 | []=>true
 | (_,o) :: r=>o.y.isNone && WH r
def WJ (P:Program) (E:Env):List (Nat×ow)→Prop
 | []=>True
 | (_,o) :: r=>(match o.y with
  | some y=>YM P E y
  | none=>True)∧WJ P E r
theorem Il:∀ {orcs:List (Nat×ow)},xz orcs=true→∀ i x,qF orcs i=some x→x.xO=true→False
 | [],_,i,x,h,_=>by simp [qF] at h
 | (a,o) :: r,hn,i,x,h,hx=>by
  simp only [xz,bp,Bool.not_eq_true'] at hn
  simp only [qF] at h
  split at h
  ·simp_all
  ·exact Il hn.2 i x h hx
theorem Jg {P:Program} {E:Env}:∀ {orcs:List (Nat×ow)},WH orcs=true→WJ P E orcs
 | [],_=>trivial
 | (a,o) :: r,hn=>by
  simp only [WH,bp,Option.isNone_iff_eq_none] at hn
  refine ⟨?_,Jg hn.2⟩
  rw [hn.1];trivial
theorem Ny {P:Program} {E:Env}:∀ {orcs:List (Nat×ow)},WJ P E orcs→∀ i x y,qF orcs i=some x→x.y=some y→YM P E y
 | [],_,i,x,y,h,_=>by simp [qF] at h
 | (a,o) :: r,hn,i,x,y,h,hx=>by
  simp only [qF] at h
  split at h
  ·cases h
   have:=hn.1
   simp_all
  ·exact Ny hn.2 i x y h hx
theorem yy {rd:Option Nat} {ds:List Deferred} {c:Code} {orcs:List (Nat×ow)} (hz:xz orcs=true∨∀ b,¬ E.fp b) (hy:WJ P E orcs) {ps:List Prop} (h:BD P nt c orcs st=some (ps,CO)) (hp:bq ps)
  {tm:Array Value} {w:World} (hs:tm.size=nt) (As:Po E st tm w):c.wpIn (FW rd) 0 P (fun e a w=>e=.normal∧a.tmps.size=nt∧a.defers=ds∧Po E CO a.tmps w) ⟨tm,ds⟩ w:=by
 have hz:∀ i,KB P E (qF orcs i):=fun i=>⟨fun x hx hf=>hz.elim (fun hn=>(Il hn i x hx hf).elim) id,fun x y hx UJ=>Ny hy i x y hx UJ⟩
 unfold BD at h
 split at h
 case h_2=>cases h
 rename_i id ops draw
 split at h
 case h_2=>cases h
 rename_i dj YO
 split at h
 case h_2=>cases h
 rename_i hd
 simp only [aD,aA] at h
 obtain ⟨rfl,rfl⟩:=h
 obtain ⟨S,μ,g,hk,hm,ht⟩:=As
 let Q0:Exit→Act→World→Prop:=fun e a w=>e=.normal∧a.tmps.size=nt∧a.defers=ds∧Po E ⟨DM dj st.tm,yx dj st.oA,st.nk+16 * ops.size⟩ a.tmps w
 show (Code.region id ops draw).wpIn (FW rd) 0 P Q0 ⟨tm,ds⟩ w
 have hQ:∀ (a':Act) (w':World) (S':Nat→Prop) (dy:Mu),a'.tmps.size=nt→a'.defers=ds→Good E (yx dj st.oA) S' dy w'→(∀ k,st.nk+16 * ops.size≤k→dy k=none)→(∀ t,ar w' S' dy (a'.tmps.getD t undef) (ey (DM dj st.tm) t)) →
   Q0 .normal a' w' :=
  fun a' w' S' dy q1 q2 q3 q4 q5=>⟨rfl,q1,q2,S',dy,q3,q4,by grind,q5⟩
 cases draw with
 | false =>
  refine wpIn_region ?_
  have:=H9 (P:=P) (E:=E) (Q:=Q0) (rd:=rd) (ds:=ds) (nt:=nt) (nk:=st.nk) (ops:=ops) (orcs:=orcs) hz hm ops.toList 0 ⟨tm,ds⟩ w st.tm st.oA S μ dj rfl (by simp) hs rfl g (by simpa using hk) ht YO hp hQ
  rw [List.range_eq_range']
  simpa using this
 | true =>
  simp only [Bool.not_true,Bool.false_or,bp] at hd
  refine wpIn_region_any hd.1 ?_
  have hrf:∀ (n j:Nat),(Array.replicate n false).getD j false=false:=by
   intro n j
   simp only [uK,Array.getElem?_replicate]
   split<;>rfl
  refine Ml hz hm YO hp hd.2 hQ ops.size _ ⟨tm,ds⟩ _ S μ (by simp) hs rfl ?_ ?_ ?_ ?_ ?_
  ·simp_all
  ·omega
  ·rw [CL dj 0 st.oA _ (fun m _=>hrf _ _)];exact g.drew
  ·simp_all
  ·intro t
   rw [FM dj 0 st.tm _ (fun m _=>hrf _ _)]
   exact (ht t).ext (Ext.drew w S μ)
theorem aG.region {c:Code} {orcs:List (Nat×ow)} (hz:xz orcs=true∨∀ b,¬ E.fp b) (hy:WJ P E orcs) {ps:List Prop} (h:BD P nt c orcs st=some (ps,CO)) (hp:bq ps) (hr:aG P E fn nt dY k CO):aG P E fn nt dY (.code c :: k) st:=by
 intro tm w hs As b ss pB cs
 have Z2:c.wp P (fun e a w=>e=.normal∧a.tmps.size=nt∧a.defers=[]∧Po E CO a.tmps w) ⟨tm,[]⟩ w:=(wpIn_wide (n:=0)).1 (yy (rd:=none) (ds:=[]) hz hy h hp hs As)
 obtain ⟨e,a',w',⟨rfl,q1,q2,q3⟩,VD⟩:=Z2 b k cs
 have ha:a'=⟨a'.tmps,[]⟩:=by cases a';simp at q2;simp [q2]
 obtain ⟨v,Wy,fr,r1,r2,r3,r4⟩:=hr a'.tmps w' q1 q3 b ss pB cs
 refine ⟨v,Wy,fr,r1,Steps.trans VD ?_,r3,r4⟩
 rw [ha];exact r2
end
end Go.Ab
namespace Go.Ab
def bc (E:Env) (eV:dD) (res:AV) (v:Value) (w':World):Prop:=∃ S' dy,Good E eV S' dy w'∧ar w' S' dy v res
def FR (P:Program) (st:St):List ResultVar→Option (List Prop×List AV)
 | []=>some ([],[])
 | .tmp t :: r=>(FR P st r).map fun (p,l)=>(p,ey st.tm t :: l)
 | .cell a t :: r=>match yg P st.oA t (ey st.tm a),FR P st r with
  | some (p,x,_),some (q,l)=>some (p ++ q,x :: l)
  | _,_=>none
def QF:List AV→AV
 | [x]=>x
 | l=>.tup l
def yz (P:Program) (fn:Func) (st:St):Option (List Prop×AV):=(FR P st fn.results.toList).map fun (p,l)=>(p,QF l)
section
variable {P:Program} {E:Env} {fn:FuncId} {nt:Nat} {k:List Item} {st:St}
theorem Jh {S:Nat→Prop} {μ:Mu} {w:World} (g:Good E st.oA S μ w) {tm:Array Value} (ht:∀ t,ar w S μ (tm.getD t undef) (ey st.tm t)) :
  ∀ (l:List ResultVar) (ps:List Prop) (xs:List AV),FR P st l=some (ps,xs)→bq ps→∃ vs:List Value,
   (l.mapM fun r=>(match r with | .tmp t=>pure (tm.getD t undef) | .cell a t=>(do loadVar t (← asAddr (tm.getD a undef)):Sem Value)):Sem (List Value)).run P w=.ok vs w∧vs.length=xs.length ∧
   ∀ (j:Nat) c v,xs[j]?=some c→vs[j]?=some v→ar w S μ v c
 | [],ps,xs,h,_=>by
  simp [FR] at h;simp_all
 | .tmp t :: r,ps,xs,h,hp=>by
  simp only [FR,aK,aA] at h
  obtain ⟨⟨p,l⟩,h1,rfl,rfl⟩:=h
  obtain ⟨vs,q1,q2,q3⟩:=Jh g ht r p l h1 hp
  refine ⟨tm.getD t undef :: vs,by simp_all,by simp [q2],?_⟩
  grind
 | .cell a t :: r,ps,xs,h,hp=>by
  simp only [FR] at h
  split at h
  ·rename_i p x rd q l h1 h2
   simp only [aD,aA] at h
   obtain ⟨rfl,rfl⟩:=h
   obtain ⟨x8,xN⟩:=bq.app hp
   obtain ⟨vs,q1,q2,q3⟩:=Jh g ht r q l h2 xN
   obtain ⟨v,r1,r2⟩:=IY (P:=P) g (ht a) h1 x8
   have Z3:∃ ad,tm.getD a undef=.pointer (some ad):=by
    cases hv:tm.getD a undef with
    | pointer o =>
     cases o with
     | none=>simp_all [Instr.loadAt,Instr.sureAddr]
     | some ad=>exact ⟨ad,rfl⟩
    | _=>simp_all [Instr.loadAt,Instr.sureAddr]
   obtain ⟨ad,had⟩:=Z3
   rw [had] at r1
   simp only [Instr.loadAt,Instr.sureAddr,bN,Sem.run_pure,df] at r1
   have hA:(asAddr (tm.getD a undef)).run P w=.ok ad w:=by rw [had];rfl
   refine ⟨v :: vs,by simp_all,by simp [q2],?_⟩
   grind
  ·cases h
theorem AE {f:Func} (hf:P.funcs[fn]?=some f) {ps:List Prop} {res:AV} (h:yz P f st=some (ps,res)) (hp:bq ps) {tm:Array Value} {w:World} (hr:Po E st tm w) {b:Frame} (ss:b.fn=fn) (pB:b.kind=.normal) (todo:List Item) :
  ∃ v,bc E st.oA res v w∧Frame.leaving P { b.at ⟨tm,[]⟩ todo with mode:=.returning } w (.returned v):=by
 obtain ⟨S,μ,g,_,_,ht⟩:=hr
 simp only [yz,aK,aA] at h
 obtain ⟨⟨p,l⟩,h1,rfl,rfl⟩:=h
 obtain ⟨vs,q1,q2,q3⟩:=Jh g ht f.results.toList p l h1 hp
 have hm:(f.results.mapM fun r=>(match r with | .tmp t=>pure (tm.getD t undef) | .cell a t=>(do loadVar t (← asAddr (tm.getD a undef)):Sem Value)):Sem (Array Value)).run P w=.ok vs.toArray w:=by
  rw [Array.mapM_eq_mapM_toList]
  simp only [Sem.run_map,q1,df]
 have KJ:∃ v,ar w S μ v (QF l)∧(results f tm).run P w=.ok v w:=by
  refine ⟨if h:vs.toArray.size=1 then vs.toArray[0] else .tuple vs.toArray,?_,?_⟩
  ·cases l with
   | nil =>
    have:vs=[]:=List.length_eq_zero_iff.1 q2
    subst this
    simp only [QF]
    exact .tup rfl fun j c v hc=>by simp at hc
   | cons x r =>
    cases r with
    | nil =>
     simp at q2
     have hs:vs.toArray.size=1:=by simpa using q2
     rw [dif_pos hs]
     exact q3 0 x _ rfl (by simp [q2])
    | cons y r =>
     simp at q2
     have hs:¬ vs.toArray.size=1:=by simp;omega
     rw [dif_neg hs]
     exact .tup (by simp [q2]) fun j c v hc hv=>q3 j c v hc (by simpa using hv)
  ·unfold results
   simp only [bN]
   exact (congrArg (fun r:Result (Array Value)=>r.andThen fun a w'=>Result.ok (if h:a.size=1 then a[0] else Value.tuple a) w') hm)
 obtain ⟨v,hv,lV⟩:=KJ
 exact ⟨v,⟨S,μ,g,hv⟩,rfl,rfl,pB,f,by rw [← hf,← ss];rfl,lV⟩
theorem aG.ret {f:Func} (hf:P.funcs[fn]?=some f) {ps:List Prop} {res:AV} (h:yz P f st=some (ps,res)) (hp:bq ps):aG P E fn nt (bc E st.oA res) (.code .ret :: k) st:=by
 intro tm w _ hr b ss pB cs
 obtain ⟨v,h1,h2⟩:=AE hf h hp hr ss pB (.code .ret :: k)
 exact ⟨v,w,_,h1,.one step_ret,ss,h2⟩
theorem aG.fin {f:Func} (hf:P.funcs[fn]?=some f) {ps:List Prop} {res:AV} (h:yz P f st=some (ps,res)) (hp:bq ps):aG P E fn nt (bc E st.oA res) [] st:=by
 intro tm w _ hr b ss pB cs
 obtain ⟨v,h1,h2⟩:=AE hf h hp hr ss pB []
 exact ⟨v,w,_,h1,.one step_end,ss,h2⟩
def AF:List AV→Nat→List (Nat×AV)
 | [],_=>[]
 | x :: r,i=>(i,x) :: AF r (i+1)
theorem FT:∀ (l:List AV) (i t:Nat),ey (AF l i) t=if i≤t then (l[t - i]?).getD .mH else .mH
 | [],i,t=>by simp [AF,ey]
 | x :: r,i,t=>by
  simp only [AF,ey]
  by_cases h:i=t
  ·simp_all
  ·rw [pA h,FT r (i+1) t]
   grind
theorem sor {f:FuncId} {fu:Func} {c:Code} {nt m:Nat} {args:List AV} {σ eV:dD} {res:AV} (hf:P.funcs[f]?=some fu) (hb:fu.body=some c) (hn:fu.ntmps=nt) (ha:Nat.ble args.length nt=true)
  (Mn:m=0→σ=[]) (h:∀ E,bk E m→aG P E f nt (bc E eV res) [.code c] ⟨AF args 0,σ,m⟩):Sound P f args σ m res eV:=by
 simp only [Nat.ble_eq] at ha
 intro w S μ vs g hk hl cs
 have hE:bk (yl w S σ μ m) m:=⟨rfl,fun hm b=>by
  rintro (⟨k,o,pl,h1,_⟩ | ⟨k,i,x,v,⟨o,pl,h1,_⟩,_⟩)<;>(rw [Mn hm] at h1;simp [au] at h1)⟩
 let b:Frame:={ (default:Frame) with fn:=f,kind:=.normal }
 have VE:Frame.enter P f vs .normal=b.at ⟨vs ++ Array.replicate (nt - vs.size) undef,[]⟩ [.code c]:=by
  simp [Frame.enter,Frame.at,hf,hb,hn,b]
 have su:=hl.1
 obtain ⟨v,w',fr,h1,h2,h3,h4⟩:=h _ hE (vs ++ Array.replicate (nt - vs.size) undef) w (by simp;omega) ⟨S,μ,g,hk,az _,fun t=>by
  show ar w S μ _ (ey (AF args 0) t)
  rw [FT,if_pos (Nat.zero_le _),Nat.sub_zero]
  cases hx:args[t]? with
  | none=>exact .mH
  | some x =>
   have gY:t < vs.size:=by rw [su];exact (dU.1 hx).1
   have hv:(vs ++ Array.replicate (nt - vs.size) undef).getD t undef=vs[t]:=by
    simp [uK,Array.getElem?_append_left gY,gY]
   rw [hv]
   exact hl.2 t x _ hx (jR gY)⟩ b rfl rfl cs
 rw [← VE] at h2
 obtain ⟨S',dy,g',hv⟩:=h1
 exact ⟨.returned v,w',fr,⟨v,S',dy,rfl,g',hv⟩,h2,h3,h4⟩
end
end Go.Ab
namespace Go.Ab
def VF (f:Func):Code:=f.body.getD .skip
def cat:Code→List Bool→Code
 | c,[]=>c
 | .seq a _,false :: p=>cat a p
 | .seq _ b,true :: p=>cat b p
 | .cond _ a _,false :: p=>cat a p
 | .cond _ _ b,true :: p=>cat b p
 | .block _ b,_ :: p=>cat b p
 | .loop b,_ :: p=>cat b p
 | .scope b,_ :: p=>cat b p
 | c,_ :: _=>c
def Ji:List Item→Option (List Item)
 | .code (.seq a b) :: k=>some (.code a :: .code b :: k)
 | .code (.block id c) :: k=>some (.code c :: .inBlock id :: k)
 | .code (.loop c) :: k=>some (.code c :: .inLoop c :: k)
 | .inLoop c :: k=>some (.code c :: .inLoop c :: k)
 | .inBlock _ :: k=>some k
 | .code (.scope c) :: k=>some (.code c :: .inScope c :: k)
 | .inScope _ :: k=>some k
 | .code .skip :: k=>some k
 | .code (.label _) :: k=>some k
 | .code (.exit id) :: k=>exitTo id k
 | _=>none
def FU:Nat→List Item→Option (List Item)
 | 0,k=>some k
 | n+1,k=>match Ji k with
  | some k'=>FU n k'
  | none=>none
section
variable {P:Program} {E:Env} {fn:FuncId} {nt:Nat} {dY:Value→World→Prop} {k k':List Item} {st CO:St}
theorem aG.Ji (h:Ji k=some k') (hr:aG P E fn nt dY k' st):aG P E fn nt dY k st:=by
 unfold Ab.Ji at h
 split at h
 ·cases h;exact hr.seq
 ·cases h;exact hr.block
 ·cases h;exact hr.loop
 ·cases h;exact hr.inLoop
 ·cases h;exact hr.inBlock
 ·cases h;exact hr.scope
 ·cases h;exact hr.inScope
 ·cases h;exact hr.skip
 ·cases h;exact hr.label
 ·exact hr.exit h
 ·cases h
theorem aG.FU:∀ (n:Nat) {k:List Item},FU n k=some k'→aG P E fn nt dY k' st→aG P E fn nt dY k st
 | 0,k,h,hr=>by simp only [Ab.FU,aD] at h;rw [h];exact hr
 | n+1,k,h,hr=>by
  simp only [Ab.FU] at h
  split at h
  ·rename_i k1 h1
   exact aG.Ji h1 (aG.FU n h hr)
  ·cases h
theorem aG.UK {c x y:Code} {o:Operand} {q:Bool} (hx:c=.cond o x y) (hc:yr st.tm o=.atom (.bool q)) (h1:q=true→aG P E fn nt dY (.code x :: k) st) (h2:q=false→aG P E fn nt dY (.code y :: k) st) :
  aG P E fn nt dY (.code c :: k) st:=by
 grind [aG.cond]
theorem aG.VG {c x y:Code} {o:Operand} {n:Nat} (hx:c=.cond o x y) (hc:yr st.tm o=.bn n) (h1:n=0→aG P E fn nt dY (.code x :: k) st) (h2:aG P E fn nt dY (.code y :: k) st) :
  aG P E fn nt dY (.code c :: k) st:=by
 subst hx
 intro tm w hs hr b ss pB cs
 have Bl:=hr
 obtain ⟨S,μ,g,_,_,ht⟩:=Bl
 have e:=BB (a:=⟨tm,[]⟩) ht o
 rw [hc] at e
 obtain ⟨q,e1,e2⟩:∃ q,(⟨tm,[]⟩:Act).eval o=.bool q∧(q=true→n=0):=by
  generalize (⟨tm,[]⟩:Act).eval o=v at e
  cases e with
  | bn q h=>exact ⟨q,rfl,h⟩
 have Bk:=step_cond (P:=P) (b:=b) (k:=k) (cs:=cs) (w:=w) (x:=x) (y:=y) e1
 cases q with
 | true =>
  obtain ⟨v,w',fr,q1,q2,q3,q4⟩:=h1 (e2 rfl) tm w hs hr b ss pB cs
  exact ⟨v,w',fr,q1,.head Bk q2,q3,q4⟩
 | false =>
  obtain ⟨v,w',fr,q1,q2,q3,q4⟩:=h2 tm w hs hr b ss pB cs
  exact ⟨v,w',fr,q1,.head Bk q2,q3,q4⟩
end
def BE:dD→List Nat→dD
 | σ,[]=>σ
 | σ,k :: r=>BE (vw σ k) r
theorem bc.Tb {E:Env} {res:AV} {v:Value} {w:World}:∀ (ks:List Nat) {σ:dD},bc E σ res v w→bc E (BE σ ks) res v w
 | [],_,h=>h
 | k :: r,_,⟨S,μ,g,hv⟩=>bc.Tb r ⟨S,μ,g.del k,hv⟩
theorem aG.Z4 {P:Program} {E:Env} {fn:FuncId} {nt:Nat} {k:List Item} {st:St} {c:Code} (ks:List Nat) (hx:c=.ret) {f:Func} (hf:P.funcs[fn]?=some f) {ps:List Prop} {res:AV} {eV:dD} (h:yz P f st=some (ps,res))
  (Mn:BE st.oA ks=eV) (hp:bq ps):aG P E fn nt (bc E eV res) (.code c :: k) st:=by
 subst hx Mn
 intro tm w h1 h2 b h3 h4 cs
 obtain ⟨v,w',fr,q1,q2⟩:=aG.ret (E:=E) (nt:=nt) (k:=k) hf h hp tm w h1 h2 b h3 h4 cs
 exact ⟨v,w',fr,q1.Tb ks,q2⟩
theorem aG.Z5 {P:Program} {E:Env} {fn:FuncId} {nt:Nat} {st:St} (ks:List Nat) {f:Func} (hf:P.funcs[fn]?=some f) {ps:List Prop} {res:AV} {eV:dD} (h:yz P f st=some (ps,res))
  (Mn:BE st.oA ks=eV) (hp:bq ps):aG P E fn nt (bc E eV res) [] st:=by
 subst Mn
 intro tm w h1 h2 b h3 h4 cs
 obtain ⟨v,w',fr,q1,q2⟩:=aG.fin (E:=E) (nt:=nt) hf h hp tm w h1 h2 b h3 h4 cs
 exact ⟨v,w',fr,q1.Tb ks,q2⟩
def KK (P:Program) (nt m:Nat) (c:Code) (orcs:List (Nat×ow)) (F:List Nat) (x9:List (Nat×Wd)) (fM:AB) (nk:Nat) (st:St):Option (List Prop×St) :=
 match BD P nt c orcs st with
 | some (ps,s1)=>match Hk m s1 F x9 fM nk with
  | some (qs,s2)=>some (ps ++ qs,s2)
  | none=>none
 | none=>none
theorem aG.rw {P:Program} {E:Env} {fn:FuncId} {nt:Nat} {dY:Value→World→Prop} {k:List Item} {st CO:St} {m:Nat} {c:Code} {orcs:List (Nat×ow)} {F:List Nat} {x9:List (Nat×Wd)} {fM:AB} {nk:Nat}
  (hE:bk E m) {ps:List Prop} (h:KK P nt m c orcs F x9 fM nk st=some (ps,CO)) (hF:((F.isEmpty && xz orcs) || Nat.beq m 0)=true) (hy:WJ P E orcs) (hp:bq ps) (hr:aG P E fn nt dY k CO):aG P E fn nt dY (.code c :: k) st:=by
 unfold KK at h
 split at h
 ·rename_i p1 s1 h1
  split at h
  ·rename_i q1 s2 h2
   simp only [aD,aA] at h
   obtain ⟨rfl,rfl⟩:=h
   obtain ⟨x8,xN⟩:=bq.app hp
   have YS:(F.isEmpty || Nat.beq m 0)=true:=by
    rcases Bool.or_eq_true_iff.1 hF with h | h
    ·simp [(Bm.1 h).1]
    ·simp [h]
   have hz:xz orcs=true∨∀ b,¬ E.fp b:=by
    rcases Bool.or_eq_true_iff.1 hF with h | h
    ·simp_all
    ·exact .inr (hE.fp (bW h))
   grind [aG.region,aG.wk]
  ·cases h
 ·cases h
abbrev aI (n:Int):AV:=.atom (.int .i64 n)
abbrev aB (b:Bool):AV:=.atom (.bool b)
abbrev aS (s:ByteArray):AV:=.atom (.string s)
def aH {α:Type} (c:α→List AV) (d:α) (l:List α):AV:=.sl l.length fun i=>c (l.getD i d)
def cI (n:Int):List AV:=[aI n]
def cB (b:Bool):List AV:=[aB b]
def cS (s:ByteArray):List AV:=[aS s]
def cU (k:IntKind) (n:Int):List AV:=[.atom (.int k n)]
abbrev ai (n:Int):Int:=IntKind.i64.wrap n
theorem af {α:Type} {p:Prop} [Decidable p] {x:Option α} {r:α} (h:(if p then x else none)=some r):p∧x=some r:=by
 simp_all
theorem aQ {α β:Type} {x:Option α} {f:α→Option β} {r:β} (h:x.bind f=some r):∃ a,x=some a∧f a=some r:=Option.bind_eq_some_iff.1 h
theorem aR {α:Type} {q:Bool} {x y:α} {r:α} (h:cond q x y=r) (hq:q=true):x=r:=by subst hq;exact h
def Alike (x y:AV):Prop:=∀ w S μ v,ar w S μ v x→ar w S μ v y
theorem Alike.refl (x:AV):Alike x x:=fun _ _ _ _ h=>h
theorem Alike.sl {n m:Nat} {g g':Nat→List AV} (hn:n=m) (hg:∀ i,i < m→g' i=g i):Alike (.sl n g) (.sl m g'):=by
 subst hn
 intro w S μ v h
 cases h with
 | sl b off sz f h1 h2 h3 h4 h5=>exact .sl b off sz f h1 (fun i hi=>by simp_all) h3 (fun i j c hi hc=>h4 i j c hi (by simp_all)) h5
theorem Alike.nil {g:Nat→List AV}:Alike .nil (.sl 0 g):=by
 intro w S μ v h
 cases h
 exact .sl 0 0 0 (fun _ _=>undef) (fun h=>absurd h (by omega)) (fun i h=>absurd h (by omega)) (fun i j h=>absurd h (by omega)) (fun i j c h=>absurd h (by omega)) (az _)
theorem Alike.rp {cs:List AV}:Alike (.rp cs 0) (.pt true cs):=fun _ _ _ _ h=>.pt (fun _=>h) (fun h=>by cases h)
inductive AG:List AV→List AV→Prop where
 | nil:AG [] []
 | cons {x y:AV} {xs ys:List AV}:Alike x y→AG xs ys→AG (x :: xs) (y :: ys)
theorem AG.get {xs ys:List AV} (h:AG xs ys):xs.length=ys.length∧∀ (j:Nat) y,ys[j]?=some y→∃ x,xs[j]?=some x∧Alike x y:=by
 induction h with
 | nil=>simp
 | cons h1 _ ih =>
  grind
theorem Alike.agg {xs ys:List AV} (h:AG xs ys):Alike (.agg xs) (.agg ys):=by
 intro w S μ v hv
 obtain ⟨h1,h2⟩:=h.get
 cases hv with
 | agg q1 q2 =>
  refine .agg (q1.trans h1) fun j y v hy hv=>?_
  obtain ⟨x,hx,ha⟩:=h2 j y hy
  exact ha _ _ _ _ (q2 j x v hx hv)
theorem Sound.conv {P:Program} {f:FuncId} {args UL:List AV} {σ eV:dD} {m:Nat} {res:AV} (h:Sound P f args σ m res eV) (ha:AG UL args):Sound P f UL σ m res eV:=by
 obtain ⟨h1,h2⟩:=ha.get
 intro w S μ vs g hk hl
 refine h w S μ vs g hk ⟨hl.1.trans h1,fun j c v hc hv=>?_⟩
 obtain ⟨x,hx,xw⟩:=h2 j c hc
 exact xw _ _ _ _ (hl.2 j x v hx hv)
def tw (k:IntKind) (a b:Int):Int:=k.wrap (BitVec.ofInt k.bits a ||| BitVec.ofInt k.bits b).toNat
def vH (k:IntKind) (a b:Int):Int:=k.wrap (BitVec.ofInt k.bits a &&& BitVec.ofInt k.bits b).toNat
def hO (k:IntKind) (a b:Int):Int:=k.wrap (a * 2 ^ (min b.toNat k.bits))
def oB (k:IntKind) (a b:Int):Int:=a.fdiv (2 ^ (min b.toNat k.bits))
theorem dP {n:Int} {m:Nat} (h:0≤n∧n < (m:Int)):n.toNat < m:=by omega
theorem jz {a b:Bool} (h:a=true) (k:b=true):(a && b)=true:=by rw [h,k];rfl
theorem sL {α:Type} (c:α→List AV) (d x:α) (n i:Nat) (hi:i < (List.replicate n x).length):c ((List.replicate n x).getD i d)=c x:=by
 simp_all
theorem mc {α:Type} (c:α→List AV) (d x:α) (n i:Nat) {z:List AV} (h:Ij z (c x)) (hi:i < (List.replicate n x).length):Ij z (c ((List.replicate n x).getD i d)):=by simp_all
theorem EV {α:Type} (c:α→List AV) (d:α) (l:List α) (a b i:Nat) (hi:i < ((l.take b).drop a).length):c (((l.take b).drop a).getD i d)=c (l.getD (bC a i) d):=by
 have h1:a+i < min b l.length:=by simp at hi;omega
 rw [dp]
 grind
theorem bB {α:Type} (c:α→List AV) (d:α) (l:List α) (i:Nat) (hi:i < l.length):c (l.getD i d)=(l.map c).getD i []:=by
 simp_all
theorem Tc {α:Type} (l:List α) (a b:Nat) (h1:a≤b) (h2:b≤l.length):b - a=((l.take b).drop a).length:=by simp;omega
theorem yA {α:Type} (l:List α) (a b:Nat) (h1:a≤b∧b≤l.length):b - a=((l.take b).drop a).length:=Tc l a b h1.1 h1.2
end Go.Ab
namespace Go.Ab
theorem condSplit {α:Type} {q:Bool} {x y r:α} (h:cond q x y=r):(q=true∧x=r)∨(q=false∧y=r):=by grind
theorem aX {α:Type} (c:α→List AV) (d:α) (l m:List α) {n:Nat} {g1 g2:Nat→List AV} (hn:n=l.length) (h1:∀ z,z < l.length→c (l.getD z d)=g1 z)
  (h2:∀ z,z < m.length→c (m.getD z d)=g2 z) (i:Nat) (hi:i < (l ++ m).length):c ((l ++ m).getD i d)=if i < n then g1 i else g2 (i - n):=by
 grind
theorem an {α:Type} {l m:List α} {n k:Nat} (hn:n=l.length) (hk:k=m.length):n+k=(l ++ m).length:=by subst hn hk;simp
theorem yB {α:Type} (c:α→List AV) (d:α) (l:List α) (k:Nat) (x:α) {g:Nat→List AV} (h1:∀ z,z < l.length→c (l.getD z d)=g z) (i:Nat) (hi:i < (l.set k x).length) :
  c ((l.set k x).getD i d)=if i=k then c x else g i:=by
 grind
theorem nA {α:Type} {l:List α} {n k:Nat} {x:α} (hn:n=l.length):n=(l.set k x).length:=by subst hn;simp
def p6 (b:ByteArray):List Int:=b.data.toList.map fun x=>(x.toNat:Int)
theorem Mo (b:ByteArray):b.size=(p6 b).length:=by simp_all [p6,List.length_map,Array.length_toList]
theorem Mp (b:ByteArray) (z:Nat) (hz:z < (p6 b).length):cU .u8 ((p6 b).getD z 0)=[.atom (.int .u8 (jI b z))]:=by
 have h:z < b.data.size:=by simpa [p6] using hz
 have h2:z < b.size:=h
 have e:b[z]?=some b.data[z]:=by rw [getElem?_pos b z h2];rfl
 simp [cU,p6,jI,e,fB,getElem?_pos b.data z h]
def kp:List Nat→List (Nat×Wd)
 | []=>[]
 | t :: r=>(t,.ah) :: kp r
def kq:List Nat→AB
 | []=>[]
 | k :: r=>(k,.ah k) :: kq r
def vO (n:Nat) (cs:List AV):Ob:=⟨true,n,1,true,fun _=>cs⟩
def vN (n:Nat) (cs:List AV):Ob:=⟨true,n,1,false,fun _=>cs⟩
def aO {α:Type} (sz:Nat) (c:α→List AV) (d:α) (l:List α):Ob:=⟨false,sz,l.length,true,fun zi=>c (l.getD zi d)⟩
def UM:Nat→Nat→List Bool→List Bool
 | 0,_,acc=>acc
 | k+1,n,acc=>match Nat.ble n 1 with
  | true=>acc
  | false=>UM k (n / 2) (Nat.beq (n % 2) 1 :: acc)
def pth (n:Nat):List Bool:=UM 400 n []
theorem o1:0 < 1:=Nat.one_pos
theorem z0 {n:Nat}:0+n≤n:=Nat.le_of_eq (Nat.zero_add _)
section
variable {P:Program} {E:Env} {fn:FuncId} {nt:Nat} {dY:Value→World→Prop} {k:List Item} {st:St} {m:Nat}
theorem aG.sA (n:Nat) (k':List Item) (hr:aG P E fn nt dY k' st) (h:Ab.FU n k=some k':=by kernel_rfl):aG P E fn nt dY k st:=aG.FU n h hr
theorem aG.sC {c:Code} (t:Nat) (x y:Code) (q:Bool) (h1:q=true→aG P E fn nt dY (.code x :: k) st) (h2:q=false→aG P E fn nt dY (.code y :: k) st) (hx:c=.cond (.tmp t) x y:=by kernel_rfl) (hc:yr st.tm (.tmp t)=.atom (.bool q):=by kernel_rfl) :
  aG P E fn nt dY (.code c :: k) st:=aG.UK hx hc h1 h2
theorem aG.sT {c:Code} (f:Func) (ks:List Nat) (ps:List Prop) {res:AV} {eV:dD} (hp:bq ps) (hx:c=.ret:=by kernel_rfl) (hf:P.funcs[fn]?=some f:=by kernel_rfl) (h:yz P f st=some (ps,res):=by kernel_rfl)
  (Mn:BE st.oA ks=eV:=by rfl):aG P E fn nt (bc E eV res) (.code c :: k) st:=aG.Z4 ks hx hf h Mn hp
theorem aG.sF (f:Func) (ks:List Nat) (ps:List Prop) {res:AV} {eV:dD} (hp:bq ps) (hf:P.funcs[fn]?=some f:=by kernel_rfl) (h:yz P f st=some (ps,res):=by kernel_rfl)
  (Mn:BE st.oA ks=eV:=by rfl):aG P E fn nt (bc E eV res) [] st:=aG.Z5 ks hf h Mn hp
def nK (n:Nat) (k:List Item):List Item:=match Ab.FU n k with
 | some k'=>k'
 | none=>[]
def Sj:List Item→Code
 | .code c :: _=>c
 | _=>.ret
def YT:List Item→List Item
 | _ :: k=>k
 | []=>[]
def cdX:Code→Code
 | .cond _ x _=>x
 | c=>c
def cdY:Code→Code
 | .cond _ _ y=>y
 | c=>c
def QG (n:Nat) (k:List Item):Bool:=match Ab.FU n k with
 | some (.code _ :: _)=>true
 | _=>false
def nS (P:Program) (nt m:Nat) (c:Code) (orcs:List (Nat×ow)) (F:List Nat) (x9:List (Nat×Wd)) (fM:AB) (nk:Nat) (st:St):St:=match KK P nt m c orcs F x9 fM nk st with
 | some x=>x.2
 | none=>st
def nV (m:Nat) (st:St) (F:List Nat) (x9:List (Nat×Wd)) (fM:AB) (nk:Nat):St:=match Hk m st F x9 fM nk with
 | some x=>x.2
 | none=>st
def QH:Option (List Prop×St)→Option (List Prop)
 | some x=>some x.1
 | none=>none
theorem Jj {n:Nat} {k:List Item} (h:QG n k=true):Ab.FU n k=some (.code (Sj (nK n k)) :: YT (nK n k)):=by
 unfold QG at h
 unfold nK
 split at h
 ·rename_i c k' h1;rw [h1];rfl
 ·cases h
theorem zC {x:Option (List Prop×St)} {ps:List Prop} (h:QH x=some ps):∃ s,x=some (ps,s):=by
 cases x with
 | none=>cases h
 | some y=>cases h;exact ⟨y.2,rfl⟩
theorem ag (hE:bk E m) (n:Nat) (orcs:List (Nat×ow)) (F:List Nat) (x9:List (Nat×Wd)) (fM:AB) (nk:Nat) {ps:List Prop} (hp:bq ps)
  (hr:aG P E fn nt dY (YT (nK n k)) (nS P nt m (Sj (nK n k)) orcs F x9 fM nk st)) (h0:QG n k=true:=by kernel_rfl)
  (h:QH (KK P nt m (Sj (nK n k)) orcs F x9 fM nk st)=some ps:=by kernel_rfl) (hF:(((F.isEmpty && xz orcs) || Nat.beq m 0) && WH orcs)=true:=by kernel_rfl):aG P E fn nt dY k st:=by
 obtain ⟨s,hs⟩:=zC h
 refine aG.FU n (Jj h0) (aG.rw hE hs (Bm.1 hF).1 (Jg (Bm.1 hF).2) hp ?_)
 grind [nS,Sj,nK]
theorem cP (hE:bk E m) (n:Nat) (F:List Nat) (x9:List (Nat×Wd)) (fM:AB) (nk:Nat) {ps:List Prop} (hp:bq ps) {k':List Item} {CO:St} (hr:aG P E fn nt dY k' CO)
  (h0:Ab.FU n k=some k':=by kernel_rfl) (h:Hk m st F x9 fM nk=some (ps,CO):=by kernel_rfl) (hF:(F.isEmpty || Nat.beq m 0)=true:=by kernel_rfl):aG P E fn nt dY k st :=
 aG.FU n h0 (aG.wk hE h hF hp hr)
theorem QI (hE:bk E m) (F:List Nat) (x9:List (Nat×Wd)) (fM:AB) (nk:Nat) {ps:List Prop} (hp:bq ps) (hr:aG P E fn nt dY k (nV m st F x9 fM nk))
  (h:QH (Hk m st F x9 fM nk)=some ps:=by kernel_rfl) (hF:(F.isEmpty || Nat.beq m 0)=true:=by kernel_rfl):aG P E fn nt dY k st:=by
 grind [zC,nV,aG.wk]
theorem du (n t:Nat) {R:Type} {q:Bool} {x y r:R} (h:(bif q then x else y)=r) (h1:q=true→x=r→aG P E fn nt dY (.code (cdX (Sj (nK n k))) :: YT (nK n k)) st)
  (h2:q=false→y=r→aG P E fn nt dY (.code (cdY (Sj (nK n k))) :: YT (nK n k)) st) (h0:QG n k=true:=by kernel_rfl)
  (hx:Sj (nK n k)=.cond (.tmp t) (cdX (Sj (nK n k))) (cdY (Sj (nK n k))):=by kernel_rfl) (hc:yr st.tm (.tmp t)=.atom (.bool q):=by kernel_rfl):aG P E fn nt dY k st :=
 aG.FU n (Jj h0) (aG.UK hx hc (fun hq=>h1 hq (by rw [hq] at h;exact h)) (fun hq=>h2 hq (by rw [hq] at h;exact h)))
theorem db (hE:bk E m) (n:Nat) (f:Func) (F:List Nat) (x9:List (Nat×Wd)) (fM:AB) (nk:Nat) {ps:List Prop} (hp:bq ps) (ks:List Nat) {UB:List Prop} (xN:bq UB) {res:AV} {eV:dD}
  (h0:QG n k=true:=by kernel_rfl) (hx:Sj (nK n k)=.ret:=by kernel_rfl) (h:QH (Hk m st F x9 fM nk)=some ps:=by kernel_rfl) (hf:P.funcs[fn]?=some f:=by kernel_rfl)
  (h2:yz P f (nV m st F x9 fM nk)=some (UB,res):=by kernel_rfl) (Mn:BE (nV m st F x9 fM nk).oA ks=eV:=by kernel_rfl) (hF:(F.isEmpty || Nat.beq m 0)=true:=by kernel_rfl):aG P E fn nt (bc E eV res) k st:=by
 obtain ⟨s,hs⟩:=zC h
 have e:nV m st F x9 fM nk=s:=by unfold nV;rw [hs]
 rw [e] at h2 Mn
 exact aG.FU n (Jj h0) (aG.wk hE hs hF hp (aG.sT f ks UB xN hx hf h2 Mn))
theorem Z6 (hE:bk E m) (n:Nat) (f:Func) (F:List Nat) (x9:List (Nat×Wd)) (fM:AB) (nk:Nat) {ps:List Prop} (hp:bq ps) (ks:List Nat) {UB:List Prop} (xN:bq UB) {res:AV} {eV:dD}
  (h0:Ab.FU n k=some []:=by kernel_rfl) (h:QH (Hk m st F x9 fM nk)=some ps:=by kernel_rfl) (hf:P.funcs[fn]?=some f:=by kernel_rfl)
  (h2:yz P f (nV m st F x9 fM nk)=some (UB,res):=by kernel_rfl) (Mn:BE (nV m st F x9 fM nk).oA ks=eV:=by kernel_rfl) (hF:(F.isEmpty || Nat.beq m 0)=true:=by kernel_rfl):aG P E fn nt (bc E eV res) k st:=by
 grind [zC,nV,aG.FU,aG.wk,aG.sF]
def Xv (st:St) (k i sz len:Nat) (g:Nat→List AV):Option (List Prop) :=
 match au st.oA k with
 | some o=>match o.var with
  | false=>some [i < o.len,o.get i=[.mr sz len g]]
  | true=>none
 | none=>none
def stO (st:St) (k i sz len:Nat) (g:Nat→List AV):St :=
 match au st.oA k with
 | some o=>⟨st.tm,sset (sset st.oA k ⟨false,o.sz,o.len,false,fun m=>if m=i then [.os st.nk 0 len] else o.get m⟩) st.nk ⟨false,sz,len,true,g⟩,st.nk+16⟩
 | none=>st
theorem Td (k1 i sz len:Nat) (g:Nat→List AV) {ps:List Prop} (hp:bq ps) (hr:aG P E fn nt dY k (stO st k1 i sz len g)) (h:Xv st k1 i sz len g=some ps:=by kernel_rfl):aG P E fn nt dY k st:=by
 refine fun tm w h1 h2=>hr tm w h1 ?_
 obtain ⟨S,μ,g0,hk,hm,ht⟩:=h2
 unfold Xv at h
 unfold stO
 cases ho:au st.oA k1 with
 | none=>rw [ho] at h;cases h
 | some o =>
  rw [ho] at h
  simp only at h ⊢
  cases hv:o.var with
  | true=>rw [hv] at h;cases h
  | false =>
   rw [hv] at h
   simp only [aD] at h
   subst h
   obtain ⟨p1,p2,_⟩:=hp
   obtain ⟨q,e1,e2⟩:=g0.opn (hk st.nk (az _)) hm ho (k5 (x:=(sz,len,g)) hv p1 p2)
   exact ⟨S,ca μ st.nk q,e2,fun n hn=>by
    have hn:st.nk+16≤n:=hn
    unfold ca;grind,by grind,fun t=>(ht t).ext e1⟩
def Xw (st:St) (k q i:Nat):Option (List Prop) :=
 match Ja st.oA k q i with
 | some x=>some x.1
 | none=>none
def stL (st:St) (k q i:Nat):St :=
 match Ja st.oA k q i with
 | some x=>⟨st.tm,fI st.oA x.2,st.nk⟩
 | none=>st
theorem QJ (k1 q i:Nat) {ps:List Prop} (hp:bq ps) (hr:aG P E fn nt dY k (stL st k1 q i)) (h:Xw st k1 q i=some ps:=by kernel_rfl):aG P E fn nt dY k st:=by
 refine fun tm w h1 h2=>hr tm w h1 ?_
 obtain ⟨S,μ,g0,hk,hm,ht⟩:=h2
 unfold Xw at h
 unfold stL
 cases hc:Ja st.oA k1 q i with
 | none=>rw [hc] at h;cases h
 | some x =>
  rw [hc] at h
  simp only [aD] at h
  subst h
  exact ⟨S,μ,H4 hc hp g0,hk,hm,ht⟩
def mR {α:Type} (sz:Nat) (c:α→List AV) (d:α) (l:List α):List AV:=[.mr sz l.length (fun i=>c (l.getD i d))]
def aM {α:Type} (sz:Nat) (c:α→List AV) (d:α) (l:List (List α)):Ob:=⟨false,1,l.length,false,fun m=>mR sz c d (l.getD m [])⟩
theorem BF {α:Type} {sz:Nat} {c:α→List AV} {d:α} (E:List (List α)) (i q n:Nat) (row:List α) (r:List (Nat×Nat×Nat)) (hi:i < E.length) (hr:∀ x∈r,x.1≠i) :
  ∀ m,m < (E.set i row).length→ba r (fun m=>mR sz c d ((E.set i row).getD m [])) m=if m=i then mR sz c d row else ba ((i,q,n) :: r) (fun m=>mR sz c d (E.getD m [])) m:=by
 intro m _
 have gen:∀ (r:List (Nat×Nat×Nat)),m≠i→ba r (fun m=>mR sz c d ((E.set i row).getD m [])) m=ba r (fun m=>mR sz c d (E.getD m [])) m:=by
  intro r hm
  induction r with
  | nil=>simp only [ba,fB];rw [List.getElem?_set_ne (fun h=>hm h.symm)]
  | cons x r ih =>
   grind [ba]
 by_cases hm:m=i
 ·subst hm
  rw [if_pos rfl]
  clear gen
  induction r with
  | nil=>simp only [ba,fB];rw [List.getElem?_set_self hi];rfl
  | cons x r ih =>
   obtain ⟨a,b,e⟩:=x
   have h1:m≠a:=fun h=>hr (a,b,e) List.mem_cons_self h.symm
   simp_all [ba,if_neg,List.mem_cons_of_mem]
 simp_all [if_neg,ba]
theorem vI {α:Type} {sz:Nat} {c:α→List AV} {d:α} (E:List (List α)) (i q n:Nat) (r:List (Nat×Nat×Nat)) (hr:∀ x∈r,x.1≠i) :
  ∀ m,m < E.length→ba r (fun m=>mR sz c d (E.getD m [])) m=if m=i then mR sz c d (E.getD i []) else ba ((i,q,n) :: r) (fun m=>mR sz c d (E.getD m [])) m:=by
 intro m _
 by_cases hm:m=i
 ·subst hm
  rw [if_pos rfl]
  induction r with
  | nil=>rfl
  | cons x r ih =>
   obtain ⟨a,b,e⟩:=x
   have h1:m≠a:=fun h=>hr (a,b,e) List.mem_cons_self h.symm
   simp_all [ba,if_neg,List.mem_cons_of_mem]
 simp_all [if_neg,ba]
theorem QK {α:Type} {sz:Nat} {c:α→List AV} {d:α} (E:List (List α)) (i q n:Nat) (row:List α) (r:List (Nat×Nat×Nat)) (he:E.getD i []=row) (hr:∀ x∈r,x.1≠i) :
  ∀ m,m < E.length→ba r (fun m=>mR sz c d (E.getD m [])) m=if m=i then mR sz c d row else ba ((i,q,n) :: r) (fun m=>mR sz c d (E.getD m [])) m:=by
 subst he;exact vI E i q n r hr
theorem rk {α:Type} (E:List (List α)) (row:List α):(E ++ [row]).getD E.length []=row:=by simp
theorem VH {α:Type} (E:List α) (row:α):E.length < (E ++ [row]).length:=by simp
theorem Te {α:Type} {sz:Nat} {c:α→List AV} {d:α} (E:List (List α)) (row:List α) {q n n2:Nat} {b:Nat→List AV} (h:n=n2) (hb:b 0=[.os q 0 n]) :
  ∀ m,m < (E ++ [row]).length→ba [(E.length,q,n2)] (fun m=>mR sz c d ((E ++ [row]).getD m [])) m=if m < E.length then mR sz c d (E.getD m []) else b (m - E.length):=by
 intro m hm
 subst h
 simp only [kH,List.length_singleton] at hm
 simp only [ba]
 grind
theorem Tf {b:Nat→List AV} {i1:Nat} (i k n n1 N:Nat) (h1:i1=i):∀ m,m < N→ba [(i,k,n1)] b m=if m=i1 then [.os k 0 n1] else ba [(i,k,n)] b m:=by
 grind [ba]
theorem gO {c:Prop} [Decidable c] {x:AV} {l:List AV} (h:c):(if c then [x] else l)[0]?=some x:=by rw [if_pos h];rfl
theorem FV {i:Nat}:∀ x∈([]:List (Nat×Nat×Nat)),x.1≠i:=fun _ h=>by simp at h
theorem Z7 {i j k n:Nat} {r:List (Nat×Nat×Nat)} (h:j≠i) (hr:∀ x∈r,x.1≠i):∀ x∈(j,k,n) :: r,x.1≠i:=fun x hx=>by
 grind
theorem pc {p:Prop} {ps:List Prop} (h:p) (t:bq ps):bq (p :: ps):=⟨h,t⟩
theorem pn:bq []:=trivial
theorem z1 (n:Nat):0+n≤n:=z0
theorem cA {α:Type} (c:α→List AV) (d:α) (l:List α) (k:Nat) (x:α) (i:Nat) (hi:i < (l.set k x).length):c ((l.set k x).getD i d)=if i=k then c x else (fun zi=>c (l.getD zi d)) i :=
 yB c d l k x (fun _ _=>rfl) i hi
theorem ay {α:Type} (l:List α) (k:Nat) (x:α):l.length=(l.set k x).length:=nA rfl
end
section
variable {P:Program} {kt:TypeId} {A B:Type} (ck:A→AV) (cv:B→AV) {eq:A→A→Bool} (h:∀ a b,Aj P kt (ck a) (ck b)=some (eq a b))
include h
end
def I:Bool:=true
def wI (x:Int):Prop:=-9223372036854775808≤x∧x≤9223372036854775807
def wK (k:IntKind) (x:Int):Prop:=k.min≤x∧x≤k.max
def wB (_:Bool):Prop:=True
def wS (s:ByteArray):Prop:=s.size≤9223372036854775807
def wL {A:Type} (wf:A→Prop) (l:List A):Prop:=l.length≤9223372036854775807∧∀ y,y∈l→wf y
def k8 {α:Type} (l:List α) (i j:Nat):List α:=l.take i ++ l.drop j ++ l.drop (i+(l.length - j))
theorem EW {α:Type} {l:List α} {i j:Nat} (h:i≤j∧j≤l.length):l.length=(k8 l i j).length:=by simp [k8];omega
theorem Nz {α:Type} (c:α→List AV) (d:α) (l:List α) (i j:Nat) (h:i≤j∧j≤l.length) (z:Nat) (hz:z < (k8 l i j).length) :
  c ((k8 l i j).getD z d)=if z < i - 0 then c (l.getD z d) else if z < (i - 0)+(l.length - j) then c (l.getD (bC j (z - (i - 0))) d) else c (l.getD z d):=by
 have hz:=EW h ▸ hz
 have e1:(l.take i).length=i:=by simp;omega
 have e2:(l.take i ++ l.drop j).length=i+(l.length - j):=by simp;omega
 simp only [k8,Nat.sub_zero,fB,dp]
 grind
theorem Jk {α:Type} {l:List α} {a n:Nat} (h:0 < n∧a+n≤l.length):a=(l.take a).length:=by simp;omega
theorem QL {α:Type} (c:α→List AV) (d:α) (l:List α) (a z:Nat) (hz:z < (l.take a).length):c ((l.take a).getD z d)=c (l.getD z d):=by
 grind
def QM:Nat→List AV
 | 0=>[]
 | n+1=>.mH :: QM n
theorem Tg (n:Nat):(QM n).length=n:=by induction n with
 | zero=>rfl
 | succ n ih=>simp [QM,ih]
theorem NA {n j:Nat} {x:AV} (h:(QM n)[j]?=some x):x=.mH:=by
 induction n generalizing j with
 | zero=>simp [QM] at h
 | succ n ih=>grind [QM]
theorem aG.split {P:Program} {E:Env} {fn:FuncId} {nt:Nat} {dY:Value→World→Prop} {kk:List Item} {s0:St} (t k off m:Nat) (o:Ob) (ht:ey s0.tm t=.os k off m) (ho:au s0.oA k=some o) (hv:(!o.var && Nat.ble 1 o.sz)=true) (hm:bC off m=o.len)
  (h1:aG P E fn nt dY kk ⟨s0.tm,sset s0.oA k ⟨false,o.sz,bC off m+1,o.pr,fun i=>if i < bC off m then o.get i else QM o.sz⟩,s0.nk⟩)
  (h2:aG P E fn nt dY kk ⟨(t,.Cq k off m) :: s0.tm,s0.oA,s0.nk⟩):aG P E fn nt dY kk s0:=by
 intro tm w hs hr b hb hk cs
 obtain ⟨S,μ,g,ph,uu,Xu⟩:=hr
 simp only [bp,Bool.not_eq_true',Nat.ble_eq] at hv
 have Xx:=Xu t
 rw [show ey s0.tm t=_ from ht] at Xx
 generalize KJ:tm.getD t undef=v at Xx
 cases Xx with
 | os pl uN q1 q2 q3 =>
  rename_i cap a
  obtain ⟨kn,c,T,Ta,dh⟩:=g.rep.ob k o ho
  rw [uN] at Ta;cases Ta
  have ez:bC off m=off+m:=dp _ _
  by_cases hc:m < cap
  ·have wz:0 < pl.cap:=by omega
   have gw:=g.write ho uN wz dh (by omega) ⟨false,o.sz,bC off m+1,o.pr,fun i=>if i < bC off m then o.get i else QM o.sz⟩ c rfl rfl (show bC off m+1≤pl.cap by omega) (fun i hi=>by
    show (if i < bC off m then o.get i else QM o.sz).length=o.sz
    split
    ·exact dh.ub i (by omega)
    ·exact Tg _) (fun i j x v hi hx hv=>by
    have hx:(if i < bC off m then o.get i else QM o.sz)[j]?=some x:=hx
    split at hx
    ·exact dh.rep i j x v (by omega) hx hv
    ·rw [NA hx];exact .mH) (fun i x hx=>⟨(by
    obtain ⟨_,r2,r3⟩:=di hx
    have r3:(if i < bC off m then o.get i else QM o.sz)=[.mr x.1 x.2.1 x.2.2]:=r3
    split at r3
    ·grind [k5]
    ·have:=NA (n:=o.sz) (j:=0) (x:=.mr x.1 x.2.1 x.2.2) (by rw [r3];rfl)
     cases this),rfl⟩)
   have hw:w.setRow pl.cQ c=w:=setRow_self w pl.cQ c T (0,0) ((dh.cQ wz).trans (by grind [fO]))
   rw [hw] at gw
   exact h1 tm w hs ⟨S,μ,gw.2,ph,uu,Xu⟩ b hb hk cs
  ·have:cap=m:=by omega
   subst this
   refine h2 tm w hs ⟨S,μ,g,ph,uu,fun t'=>?_⟩ b hb hk cs
   show ar w S μ (tm.getD t' undef) (ey ((t,.Cq k off cap) ::  s0.tm) t')
   simp only [ey]
   split
   ·rename_i hb
    rw [← bW hb,KJ]
    exact .Cq pl uN q1 q3
   ·exact Xu t'
end Go.Ab
namespace Go.Ab
open Go.ChangeShapes Go.WideShapes Go.ChangeAt Go.RowKit
def Jl (w:World) (b:Nat):Prop:=b < w.heap.size
def EX (w:World) (cs:List Value) (c:List AV):Prop :=
 cs.length=c.length∧∀ (j:Nat) (a:AV) (v:Value),c[j]?=some a→cs[j]?=some v→ar w (Jl w) iW v a
theorem EX.nil {w:World}:EX w [] []:=⟨rfl,fun j a v h=>by simp at h⟩
theorem EX.append {w:World} {a b:List Value} {c d:List AV} (h1:EX w a c) (h2:EX w b d):EX w (a ++ b) (c ++ d):=by
 refine ⟨by simp [h1.1,h2.1],fun j x v hx hv=>?_⟩
 by_cases hj:j < a.length
 ·rw [iH (by rw [← h1.1];exact hj)] at hx
  rw [iH hj] at hv
  exact h1.2 j x v hx hv
 ·rw [jS (by rw [← h1.1];omega)] at hx
  rw [jS (by omega)] at hv
  rw [← h1.1] at hx
  exact h2.2 _ x v hx hv
theorem EX.step {w:World} {cs:List Value} {o n:Nat} {c d:List AV} (h1:EX w ((cs.drop o).take n) c) (h2:EX w (cs.drop (o+n)) d):EX w (cs.drop o) (c ++ d):=by
 have e:cs.drop o=(cs.drop o).take n ++ cs.drop (o+n):=by rw [← List.drop_drop];exact (List.take_append_drop n _).symm
 rw [e];exact h1.append h2
theorem EX.done {w:World} {cs:List Value} {o:Nat} (h:cs.length=o):EX w (cs.drop o) []:=by
 rw [List.drop_of_length_le (by omega)];exact .nil
theorem EX.one {w:World} {v:Value} {a:AV} (h:ar w (Jl w) iW v a):EX w [v] [a]:=by
 refine ⟨rfl,fun j x u hx hu=>?_⟩
 cases j with
 | zero=>simp at hx hu;subst hx hu;exact h
 | succ j=>simp at hx
def mM (P:Program) (t:TypeId) {A:Type} (wf:A→Prop) (c:A→List AV):Prop :=
 ∀ (H:Type) (enc:TypeId×Value→H) (w:World) (n:Nat) (cs:List Value) (x:DataW H×List MemPlace),DataW.trod enc P w 0 (fun _=>true) true n t cs=some x→∃ y:A,wf y∧EX w cs (c y)
variable {P:Program} {t e:TypeId}
theorem mM.int (ht:P.underlying t=some (.int .i64)):mM P t wI cI:=by
 intro H enc w n cs x h
 obtain ⟨n,rfl,_,hw⟩:=DataW.trod_int ht h
 refine ⟨n,?_,EX.one (.atom _)⟩
 simp [Lit.wf,IntKind.min,IntKind.max,IntKind.signed,IntKind.bits] at hw
 exact ⟨by omega,by omega⟩
theorem mM.bool (ht:P.underlying t=some .bool):mM P t wB cB:=by
 intro H enc w n cs x h
 obtain ⟨b,rfl,_⟩:=DataW.trod_bool ht h
 exact ⟨b,trivial,EX.one (.atom _)⟩
theorem mM.str (ht:P.underlying t=some .string):mM P t wS cS:=by
 intro H enc w n cs x h
 obtain ⟨s,rfl,_,hs⟩:=DataW.trod_string ht h
 refine ⟨s,?_,EX.one (.atom _)⟩
 unfold maxLen at hs;unfold wS;omega
theorem KL {a:Addr} (h:a.spot=none) (n:Nat):a.add n=⟨a.block,a.off+n,none⟩:=by
 obtain ⟨b,o,s⟩:=a
 simp only at h;subst h
 unfold Addr.add
 by_cases h:n=0<;>simp [h]
theorem mM.slice {A:Type} {wf:A→Prop} {c:A→List AV} (d:A) (ht:P.underlying t=some (.slice e)) (he:mM P e wf c) {sz:Nat} (hs:P.cellsOf e=sz) (hz:0 < sz) (hc:∀ y,(c y).length=sz) :
  mM P t (wL wf) (fun l=>[aH c d l]):=by
 intro H enc w n cs x h
 rcases Go.Deep.open_slice ht h with ⟨rfl,_⟩ | ⟨a,len,cap,m,k,D,Pl,rfl,_,hlc,hcm,hm,_,hx⟩
 ·refine ⟨[],⟨by simp,by simp⟩,EX.one ?_⟩
  exact .sl 0 0 0 (fun _ _=>default) (fun h=>absurd h (dT _)) (fun i h=>absurd h (dT _)) (fun i j h=>absurd h (dT _)) (fun i j c h=>absurd h (dT _)) (az _)
 ·simp only [if_true] at hm
  subst hm
  rw [hs] at hx
  have xw:∀ i,i < len→∃ z:List Value×A,w.cells? 0 (a.add (i * sz)) sz=some z.1∧wf z.2∧EX w z.1 (c z.2):=fun i hi=>by
   obtain ⟨HW,h1,h2⟩:=hx i (by omega)
   obtain ⟨y,hy,Hb⟩:=he H enc w k HW _ h2
   exact ⟨(HW,y),h1,hy,Hb⟩
  haveI:Inhabited (List Value×A):=⟨([],d)⟩
  obtain ⟨Z,hZ⟩:=Go.Deep.choose_lt xw
  have hlen:((List.range len).map fun i=>(Z i).2).length=len:=by simp
  have qB:∀ i,i < len→((List.range len).map fun i=>(Z i).2).getD i d=(Z i).2:=fun i hi=>by
   simp [List.getD,hi]
  have DH:∀ i j,i < len→j < sz→w.cell? ((a.add (i * sz)).add j)=some ((Z i).1.getD j default):=fun i j hi hj=>by
   obtain ⟨_,hl,hg⟩:=World.cells?_some (hZ i hi).1
   rw [hg j hj]
   have:j < (Z i).1.length:=by omega
   simp [List.getD,this]
  have QN:0 < len→a.spot=none∧a.block < w.heap.size:=fun h0=>by
   have:=DH 0 0 h0 hz
   simp only [Nat.zero_mul,Addr.add,if_true] at this
   unfold World.cell? at this
   split at this
   ·rename_i cc tt ff hh
    refine ⟨?_,(Array.getElem?_eq_some_iff.1 hh).1⟩
    cases hs:a.spot with
    | none=>rfl
    | some z=>simp [hs] at this
   ·cases this
  refine ⟨(List.range len).map fun i=>(Z i).2,⟨by rw [hlen];unfold maxLen at hcm;omega,?_⟩,EX.one ?_⟩
  ·intro y hy
   simp only [List.mem_map,wF] at hy
   obtain ⟨i,hi,rfl⟩:=hy
   exact (hZ i hi).2.1
  ·unfold aH
   rw [hlen]
   refine .sl a.block a.off sz (fun i j=>(Z i).1.getD j default) (fun h0=>⟨?_,(QN h0).2⟩) (fun i hi=>hc _) (fun i j hi hj=>?_) (fun i j x hi hx=>?_) hlc
   ·have:=(QN h0).1
    obtain ⟨b,o,s⟩:=a
    simp only at this;subst this;rfl
   ·have h0:=(QN (by omega)).1
    have:=DH i j hi hj
    rwa [KL h0,KL rfl] at this
   ·rw [qB i hi] at hx
    have hj:j < (c (Z i).2).length:=(dU.1 hx).1
    have UG:j < (Z i).1.length:=by rw [(hZ i hi).2.2.1];exact hj
    refine (hZ i hi).2.2.2 j x _ hx ?_
    simp [List.getD,UG]
theorem FX {H:Type} {enc:TypeId×Value→H} {w:World} {fs:Array Field} {n:Nat} {cs:List Value} {x:DataW H×List MemPlace} (ht:P.underlying t=some (.struct fs)) (h:DataW.trod enc P w 0 (fun _=>true) true n t cs=some x) :
  cs.length=P.cellsOf t∧∃ m,∀ (i:Nat) (f:Field),fs[i]?=some f→∃ y,DataW.trod enc P w 0 (fun _=>true) true m f.type ((cs.drop f.offset).take (P.cellsOf f.type))=some y:=by
 obtain ⟨xs,m,_,_,hl,hx,hf⟩:=DataW.trod_struct ht h
 refine ⟨hl,m,fun i f hi=>?_⟩
 rw [hf i f hi]
 have:i < xs.length:=by rw [hx];exact (Array.getElem?_eq_some_iff.1 hi).1
 exact ⟨xs[i],pT this⟩
theorem wW {H:Type} {enc:TypeId×Value→H} {w:World} {fs:Array Field} {m:Nat} {cs:List Value} (hf:∀ (i:Nat) (f:Field),fs[i]?=some f→∃ y,DataW.trod enc P w 0 (fun _=>true) true m f.type ((cs.drop f.offset).take (P.cellsOf f.type))=some y)
  (i:Nat) {te:TypeId} (o n:Nat) {A:Type} {wf:A→Prop} {c:A→List AV} (he:mM P te wf c) (hi:(fs[i]?).map (fun (f:Field)=>(f.type,f.offset))=some (te,o)) (hn:P.cellsOf te=n):∃ y:A,wf y∧EX w ((cs.drop o).take n) (c y):=by
 simp only [aK,aA] at hi
 obtain ⟨f,hf1,hf2,hf3⟩:=hi
 obtain ⟨y,hy⟩:=hf i f hf1
 rw [hf2,hf3,hn] at hy
 exact he H enc w m _ y hy
section
variable {H:Type} {enc:TypeId×Value→H} {w:World} {base:Nat} {v:Value} {d:DataW H} {ps:List MemPlace} {A:Type} {wf:A→Prop}
theorem Th {g:A→AV} (ho:mM P t wf (fun l=>[g l])) (hv:v.cells=#[v]) (h:DataW.Trod enc P w 0 (fun _=>true) true t v d ps):∃ y,wf y∧ar w (Jl w) iW v (g y):=by
 obtain ⟨n,hn⟩:=h
 rw [hv] at hn
 obtain ⟨y,hy,hs⟩:=ho H enc w n _ _ hn
 exact ⟨y,hy,hs.2 0 _ _ rfl rfl⟩
theorem QO {g:A→AV} (ht:P.underlying t=some (.slice e)) (ho:mM P t wf (fun l=>[g l])) (hv:Value.okWide P w .any base t v) (h:DataW.Trod enc P w 0 (fun _=>true) true t v d ps):∃ y,wf y∧ar w (Jl w) iW v (g y):=by
 obtain ⟨a,l,c,rfl⟩:=okWide_slice ht hv
 exact Th ho rfl h
theorem Im {fs:Array Field} {c:A→List AV} (ht:P.underlying t=some (.struct fs)) (ho:mM P t wf c) (hv:Value.okWide P w .any base t v) (h:DataW.Trod enc P w 0 (fun _=>true) true t v d ps):∃ y,wf y∧ar w (Jl w) iW v (.agg (c y)):=by
 obtain ⟨cs,rfl,_⟩:=okWide_struct ht hv
 obtain ⟨n,hn⟩:=h
 obtain ⟨y,hy,hs⟩:=ho H enc w n _ _ hn
 refine ⟨y,hy,.agg (by simpa [Value.cells] using hs.1) fun j x u hx hu=>hs.2 j x u hx (by simpa [Value.cells] using hu)⟩
theorem RL.nil {S:Nat→Prop} {μ:Mu}:RL w S μ #[] []:=⟨rfl,fun j c v h=>by simp at h⟩
theorem rl3 {S:Nat→Prop} {μ:Mu} {v0 v1 v2:Value} {a0 a1 a2:AV} (h0:ar w S μ v0 a0) (h1:ar w S μ v1 a1) (h2:ar w S μ v2 a2):RL w S μ #[v0,v1,v2] [a0,a1,a2]:=by
 refine ⟨rfl,fun j c v hc hv=>?_⟩
 match j with
 | 0=>simp at hc hv;subst hc hv;exact h0
 | 1=>simp at hc hv;subst hc hv;exact h1
 | 2=>simp at hc hv;subst hc hv;exact h2
 | j+3=>simp at hc
end
theorem NB {H:Type} {enc:TypeId×Value→H} (hl:laidOutB P=true) {W W':World} (hb:Below W.heap.size W W') (sp:Nat→Bool) :
  ∀ (ts:List TypeId) (vs:List Value) (ds:List (DataW H)) (p:List MemPlace),(ts.all fun t=>P.readableRec t && decide (t < P.types.size))=true→(∀ x∈p,x.block < W.heap.size)→(∀ x∈p,sp x.block=true) →
   DataW.TrodAll enc P W 0 (fun _=>true) true ts vs ds p→DataW.TrodAll enc P W' 0 sp true ts vs ds p
 | [],[],[],_,_,_,_,h=>h
 | t :: ts,v :: vs,d :: ds,p,hr,gY,Pf,h=>by
  obtain ⟨a,b,h1,h2,rfl⟩:=h
  simp only [List.all_cons,bp,decide_eq_true_eq] at hr
  refine ⟨a,b,?_,NB hl hb sp ts vs ds b (by simpa using hr.2) (fun x hx=>gY x (by simp [hx])) (fun x hx=>Pf x (by simp [hx])) h2,rfl⟩
  exact WideElems.Trod_stays hl hr.1.1 hr.1.2 h1 (fun x hx=>hb.same (gY x (by simp [hx]))) (fun x hx=>Pf x (by simp [hx]))
theorem QP {H:Type} {enc:TypeId×Value→H} {f:FuncId} {fn:Func} {s:ChangeSpec} {apart fresh handsOn again:Bool} {W:World} {args:Array Value} {ds gs:List (DataW H)} {before:List MemPlace} {tb:TypeId} {avs:List AV}
  (UN:s.vars=[]) (hl:laidOutB P=true) (Xy:(fn.params.toList.all fun t=>P.readableRec t && decide (t < P.types.size))=true) (OB:fn.resultTypes=#[tb]) (hb:P.underlying tb=some .bool)
  (W9:s.fn H ds={ results:=[.lit (.bool true)],args:=ds })
  (hW:DataW.Whole enc P fn.params.toList s.vars apart W args.toList ds gs before)
  (Xz:RL W (Jl W) iW args avs) (hs:Sound P f avs [] 0 (aB true) []) :
  Calls P f args W fun e W'=>∃ v,e=.returned v∧s.post enc P fn apart fresh handsOn again W args v W':=by
 have XA:Good (yl W (Jl W) [] iW 0) [] (Jl W) iW W:=by
  refine ⟨Fr.refl _ _,fun _ h=>h,fun _ h=>h,fun _ h=>.inl h,?_,fun k o pl h=>(by cases h),fun k hk=>absurd hk (dT _),MX.nil fun k o i h=>by cases h⟩
  constructor<;>intros<;>simp_all [au]
 refine (hs W (Jl W) iW args XA (fun _ _=>rfl) Xz).mono fun e W' ⟨v,S',dy,he,hg,hv⟩=>?_
 have Mq:Below W.heap.size W W':=⟨hg.fr.os,hg.fr.tape,hg.fr.output,hg.fr.size,fun b hb=>hg.fr.cQ b hb (fun h=>h.elim (fun ⟨k,o,pl,h,_⟩=>by cases h) (fun ⟨k,i,x,v,⟨o,pl,h,_⟩,_⟩=>by cases h))⟩
 have tn:v=.bool true:=by cases hv;rfl
 subst he tn
 refine ⟨_,rfl,?_⟩
 have Z8:=hW
 obtain ⟨p,q,hA,hV,rfl,hfz,YH⟩:=hW
 rw [UN] at hV
 obtain ⟨rfl,rfl⟩:=trodVars_none hV
 rw [List.append_nil] at Z8
 have gY:∀ x∈p,x.block < W.heap.size:=fun x hx=>Z8.lt x hx
 have hre:∀ sp:Nat→Bool,(∀ x∈p,sp x.block=true)→DataW.TrodAll enc P W' 0 sp true fn.params.toList args.toList (s.fn H (ds ++ [])).args p:=fun sp Pf=>by
  rw [List.append_nil,W9]
  exact NB hl Mq sp _ _ _ _ Xy gY Pf hA
 have VC:∀ sp:Nat→Bool,DataW.TrodVars enc P W' sp s.vars (s.fn H (ds ++ [])).vars []:=fun sp=>by
  rw [List.append_nil,W9,UN];rfl
 have XB:∀ (b:Nat) (sp:Nat→Bool) (hd:Bool),DataW.TrodAll enc P W' b sp hd fn.resultTypes.toList ((Value.bool true).resultList fn.resultTypes.size) (s.fn H (ds ++ [])).results []:=fun b sp hd=>by
  rw [List.append_nil,W9,OB]
  exact trodAll_mk1 (shut_bool hb true)
 refine ⟨ds,[],p,[],p,[],Z8,XB _ _ _,hre _ (fun x hx=>by simpa using gY x hx),VC _,World.keptBut_mono (fun x hx=>⟨hx,Or.inr (Or.inl hx)⟩) (Mq.frame _),fun _=>?_⟩
 refine ⟨ok_one OB rfl (okWide_bool_mk hb _),(s.fn H (ds ++ [])).results ++ (s.fn H (ds ++ [])).args,_,p,⟨p,[],trodAll_append (hre _ (fun _ _=>rfl)) (XB _ _ _),VC _,by simp,?_,by simpa using YH⟩,fun x hx _=>hx⟩
 ·intro b off hp
  exact (Mq.frozen (gY _ hp)).trans (hfz b off (by simpa using hp))
end Go.Ab
namespace Go.Ab
def BG:Obj→Bool
 | .loop _=>true
 | .deferred _=>true
 | .mapIter _ _ _ _=>true
 | _=>false
theorem Mr (sz:Nat) (c:Array Value) (T:TypeId):BG (Aq sz c T)=false:=by
 cases sz<;>rfl
theorem KM {w:World} {l:Nat} {o o':Obj} (h:w.heap[l]?=some o) (ho:BG o=true) (wA:BG o'=true) (a:Addr):(w.putObj l o').cell? a=w.cell? a:=by
 unfold World.cell?
 by_cases e:a.block=l
 ·rw [e,h,World.putObj_heap_same (Array.getElem?_eq_some_iff.1 h).1]
  cases o<;>cases o'<;>simp_all [BG]
 ·rw [World.putObj_heap_other e]
theorem ar.qG {w w':World} {S S':Nat→Prop} (hS:∀ b,S b→S' b) (hc:∀ a,w'.cell? a=w.cell? a) {μ:Mu} {v:Value} {x:AV} (h:ar w S μ v x):ar w' S' μ v x:=by
 induction h with
 | atom v=>exact .atom v
 | agg h1 _ ih=>exact .agg h1 ih
 | tup h1 _ ih=>exact .tup h1 ih
 | sl b off sz f h1 h2 h3 _ h5 ih=>exact .sl b off sz f (fun hl=>⟨(h1 hl).1,hS _ (h1 hl).2⟩) h2 (fun i j hi hj=>(hc _).trans (h3 i j hi hj)) ih h5
 | rp b o f h1 h2 _ ih=>simp_all [rp,trans]
 | op pl h=>exact .op pl h
 | os pl h h1 h2 h3=>exact .os pl h h1 h2 h3
 | fn h1 h2 _ _ Ok Ol=>exact .fn h1 h2 Ok Ol
 | when _ hu ih=>exact .when ih hu
 | mp pl h=>exact .mp pl h
 | bn b h=>exact .bn b h
 | pt _ h2 ih=>exact .pt ih h2
 | ov pl h h1=>exact .ov pl h h1
 | Cq pl h h1 h2=>exact .Cq pl h h1 h2
 | nq _ h1 h2 ih=>exact .nq ih h1 h2
 | nil=>exact .nil
 | mH=>exact .mH
 | mr=>exact .mr
theorem gX.qG {w w':World} {S S':Nat→Prop} {μ:Mu} {o:Ob} {pl:Place} {c:Array Value} {T:TypeId} (h:gX w S μ o pl c T) (hS:∀ b,S b→S' b) (hc:∀ a,w'.cell? a=w.cell? a)
  (hb:0 < pl.cap→w'.heap[pl.cQ]?=w.heap[pl.cQ]?) (ho:0 < pl.cap→¬ S' pl.cQ):gX w' S' μ o pl c T :=
 { h with
  cQ:=fun hc=>(hb hc).trans (h.cQ hc)
  out:=ho
  rep:=fun i j x v hi hx hv=>(h.rep i j x v hi hx hv).qG hS hc
  mp:=fun hz=>let ⟨h0,h1,h2,h3,h4⟩:=h.mp hz;⟨h0,h1,h2,h3,fun j x v hx hv=>(h4 j x v hx hv).qG hS hc⟩ }
theorem Good.VI {E:Env} {σ:dD} {S:Nat→Prop} {μ:Mu} {w:World} (g:Good E σ S μ w) {k:Nat} {o:Ob} {pl:Place} (ho:au σ k=some o) (hm:μ k=some pl) (hc:0 < pl.cap) {l:Nat} {ob:Obj}
  (hl:w.heap[l]?=some ob) (ha:BG ob=true):pl.cQ≠l:=by
 obtain ⟨kn,c,T,gZ,h⟩:=g.rep.ob k o ho
 rw [hm] at gZ;cases gZ
 rintro rfl
 rw [h.cQ hc] at hl
 grind [Mr]
theorem Good.VJ {E:Env} {σ:dD} {S:Nat→Prop} {μ:Mu} {w:World} (g:Good E σ S μ w) {k i:Nat} {x:Nat×Nat×(Nat→List AV)} {v:Value} {b:Nat} (hv:je w μ σ k i x v) (hb:ptrTo v b) {l:Nat} {ob:Obj}
  (hl:w.heap[l]?=some ob) (ha:BG ob=true):b≠l:=by
 obtain ⟨_,_,_,c,T,h⟩:=g.mx.cQ hv hb
 rintro rfl
 rw [h] at hl
 cases hl;cases ha
theorem MX.aux {fp Ui:Nat→Prop} {n0 Uj:Nat} {w w':World} {S S':Nat→Prop} {μ:Mu} {σ:dD} (h:MX fp n0 w S μ σ) (hS:∀ b,S b→S' b) (hc:∀ a,w'.cell? a=w.cell? a)
  (hp:∀ k i x v b,je w' μ σ k i x v→je w μ σ k i x v→ptrTo v b→w'.heap[b]?=w.heap[b]?∧¬ S' b∧((fp b∨n0≤b)→(Ui b∨Uj≤b))):MX Ui Uj w' S' μ σ:=by
 have back:∀ {k i x v},je w' μ σ k i x v→je w μ σ k i x v:=fun ⟨o,pl,h1,h2,h3,h4⟩=>⟨o,pl,h1,h2,h3,by rw [← hc];exact h4⟩
 refine ⟨fun k i x v hv=>?_,fun k i x v b hv=>h.obj k i x v b (back hv),fun k i x v b k' i' x' v' hv tn=>h.two k i x v b k' i' x' v' (back hv) (back tn)⟩
 obtain ⟨a,cap,rfl,h1,h2,h3⟩:=h.row _ _ _ _ (back hv)
 refine ⟨a,cap,rfl,h1,h2,fun wz=>?_⟩
 obtain ⟨b,c,T,rfl,h4,h5⟩:=h3 wz
 obtain ⟨p1,p2,p3⟩:=hp _ _ _ _ b hv (back hv) ⟨_,_,rfl,wz⟩
 exact ⟨b,c,T,rfl,h4.qG hS hc (fun _=>p1) (fun _=>p2),p3 h5⟩
theorem Good.put {E:Env} {σ:dD} {S:Nat→Prop} {μ:Mu} {w:World} (g:Good E σ S μ w) {l:Nat} {o o':Obj} (h:w.heap[l]?=some o) (ho:BG o=true) (wA:BG o'=true) (hl:E.w0.heap.size≤l∨E.fp l) :
  Good E σ S μ (w.putObj l o'):=by
 have hc:=KM h ho wA
 refine ⟨⟨g.fr.os,g.fr.tape,g.fr.output,by simpa using g.fr.size,fun b hb hf=>?_⟩,g.S0,fun b hb=>by simpa using g.S1 b hb,g.S2,⟨fun k x hx=>?_,g.rep.ne⟩,g.own,g.EO,
  g.mx.aux (fun _ h=>h) hc fun k i x v b _ hv hb=>⟨World.putObj_heap_other (g.VJ hv hb h ho),(g.mx.cQ hv hb).2.1,fun h=>h⟩⟩
 ·have fx:b≠l:=by rintro rfl;rcases hl with h | h;omega;exact hf h
  rw [World.putObj_heap_other fx];exact g.fr.cQ b hb hf
 ·obtain ⟨pl,c,T,hm,hr⟩:=g.rep.ob k x hx
  exact ⟨pl,c,T,hm,hr.qG (fun _ h=>h) hc (fun xL=>World.putObj_heap_other (g.VI hx hm xL h ho)) hr.out⟩
theorem Good.aux {E:Env} {σ:dD} {S:Nat→Prop} {μ:Mu} {w:World} (g:Good E σ S μ w) (o:Obj) (ho:BG o=true) :
  Ext w S μ (w.alloc o) (fun b=>S b∨b=w.heap.size) μ∧Good E σ (fun b=>S b∨b=w.heap.size) μ (w.alloc o):=by
 have hold:∀ b,b < w.heap.size→(w.alloc o).heap[b]?=w.heap[b]?:=fun b hb=>fC hb
 have Sq:(w.alloc o).heap[w.heap.size]?=some o:=World.alloc_heap_new w o
 have e:Ext w S μ (w.alloc o) (fun b=>S b∨b=w.heap.size) μ:=⟨by simp,fun _ h=>.inl h,fun b hb=>hold b (g.S1 b hb),fun _ _ h=>h⟩
 refine ⟨e,⟨g.fr.os,g.fr.tape,g.fr.output,by have:=g.fr.size;simp;omega,fun b hb hf=>(hold b (pV hb g.fr.size)).trans (g.fr.cQ b hb hf)⟩,fun b hb=>.inl (g.S0 b hb),?_,?_,⟨fun k x hx=>?_,g.rep.ne⟩,g.own,g.EO,g.LZ hold (fun _ h=>.inl h) (fun b h=>h.elim .inl fun h=>.inr (Nat.le_of_eq h.symm))⟩
 ·rintro b (hb | rfl)
  ·have:=g.S1 b hb;simp;omega
  ·simp
 ·rintro b (hb | rfl)
  ·exact g.S2 b hb
  ·exact .inr g.fr.size
 ·obtain ⟨pl,c,T,hm,hr⟩:=g.rep.ob k x hx
  have gY:0 < pl.cap→pl.cQ < w.heap.size:=fun hc=>gC (hr.cQ hc)
  refine ⟨pl,c,T,hm,hr.ext e (fun hc=>hold _ (gY hc)) (fun hc=>?_)⟩
  rintro (h | h)
  ·exact hr.out hc h
  ·have:=gY hc;omega
def XC (w:World) (S:Nat→Prop) (σ:dD) (μ:Mu) (m:Nat):Env:=⟨w,S,SA w σ μ,μ,m⟩
theorem Good.base {E:Env} {σ:dD} {S:Nat→Prop} {μ:Mu} {w:World} (g:Good E σ S μ w) (m:Nat):Good (XC w S σ μ m) σ S μ w :=
 ⟨Fr.refl _ _,fun _ h=>h,g.S1,fun _ h=>.inl h,g.rep,fun k o pl ho hm hc=>.inl (.inl ⟨k,o,pl,ho,hm,hc,rfl⟩),fun _ _=>rfl,
  g.mx.aux (fun _ h=>h) (fun _=>rfl) fun k i x v b hv _ hb=>⟨rfl,(g.mx.cQ hv hb).2.1,fun _=>.inl (.inr ⟨k,i,x,v,hv,hb⟩)⟩⟩
def WI (P:Program) (E:Env) (nt:Nat) (c:Code) (st CO:St):Prop:=∀ (l:Nat) (tm:Array Value) (w:World),tm.size=nt→Po E st tm w →
 c.wpIn (FW (some l)) 0 P (fun e a w'=>e=.normal∧a.tmps.size=nt∧a.defers=[]∧Po E CO a.tmps w') ⟨tm,[]⟩ w
theorem WI.seq {P:Program} {E:Env} {nt:Nat} {x y:Code} {st XD st2:St} (h1:WI P E nt x st XD) (h2:WI P E nt y XD st2):WI P E nt (.seq x y) st st2:=by
 intro l tm w hs hr
 refine wpIn_seq (wpIn_mono (h1 l tm w hs hr) ?_)
 rintro e ⟨t,ds⟩ w' ⟨rfl,q1,q2,q3⟩
 simp only at q1 q2
 subst q2
 exact h2 l t w' q1 q3
theorem WI.block {P:Program} {E:Env} {nt:Nat} {id:Nat} {x:Code} {st XD:St} (h1:WI P E nt x st XD):WI P E nt (.block id x) st XD:=by
 intro l tm w hs hr
 refine wpIn_block (wpIn_mono (h1 l tm w hs hr) ?_)
 rintro e a w' ⟨rfl,q1,q2,q3⟩
 exact ⟨rfl,q1,q2,q3⟩
theorem WI.rw {P:Program} {E:Env} {nt m:Nat} {c:Code} {orcs:List (Nat×ow)} {F:List Nat} {x9:List (Nat×Wd)} {fM:AB} {nk:Nat} {st CO:St} (hE:bk E m) {ps:List Prop}
  (h:KK P nt m c orcs F x9 fM nk st=some (ps,CO)) (hF:(((F.isEmpty && xz orcs) || Nat.beq m 0) && WH orcs)=true) (hp:bq ps):WI P E nt c st CO:=by
 intro l tm w hs hr
 unfold KK at h
 split at h
 ·rename_i p1 s1 h1
  split at h
  ·rename_i q1 s2 h2
   simp only [aD,aA] at h
   obtain ⟨rfl,rfl⟩:=h
   obtain ⟨x8,xN⟩:=bq.app hp
   obtain ⟨hF,hY⟩:=Bm.1 hF
   have hz:xz orcs=true∨∀ b,¬ E.fp b:=by
    rcases Bool.or_eq_true_iff.1 hF with h | h
    ·simp_all
    ·exact .inr (hE.fp (bW h))
   have YS:F.isEmpty=true∨∀ b,¬ E.fp b:=by
    rcases Bool.or_eq_true_iff.1 hF with h | h
    ·simp_all
    ·exact .inr (hE.fp (bW h))
   refine wpIn_mono (yy (rd:=some l) (ds:=[]) hz (Jg hY) h1 x8 hs hr) ?_
   rintro e a w' ⟨rfl,q1,q2,q3⟩
   refine ⟨rfl,q1,q2,FQ (by rw [hE.m0];exact h2) xN YS q3⟩
  ·cases h
 ·cases h
abbrev QQ (D:Nat):Deferred:={ target:=.collected D,args:=#[] }
def oh (P:Program) (E:Env) (D:Nat) (fn:FuncId) (nt:Nat) (dY:Value→World→Prop) (k:List Item) (st:St):Prop :=
 ∀ (tm:Array Value) (w:World),tm.size=nt→Po E st tm w→∀ (b:Frame),b.fn=fn→b.kind=.normal→∀ cs,
  ∃ v w' fr,dY v w'∧Steps P (lone (b.at ⟨tm,[QQ D]⟩ k) cs w) (lone fr cs w')∧fr.fn=fn∧fr.leaving P w' (.returned v)
section
variable {P:Program} {E E9:Env} {D:Nat} {fn:FuncId} {nt:Nat} {dY:Value→World→Prop} {k k':List Item} {st CO:St}
theorem oh.step (h:oh P E D fn nt dY k' st) (hs:∀ (b:Frame) (a:Act) (cs:List Frame) (w:World),step P (lone (b.at a k) cs w)=.next (lone (b.at a k') cs w)):oh P E D fn nt dY k st:=by
 intro tm w h1 h2 b h3 h4 cs
 obtain ⟨v,w',fr,q1,q2,q3,q4⟩:=h tm w h1 h2 b h3 h4 cs
 exact ⟨v,w',fr,q1,.head (hs b ⟨tm,[QQ D]⟩ cs w) q2,q3,q4⟩
theorem oh.seq {x y:Code} (h:oh P E D fn nt dY (.code x :: .code y :: k) st):oh P E D fn nt dY (.code (.seq x y) :: k) st:=h.step fun _ _ _ _=>step_seq
theorem oh.inBlock {id:Nat} (h:oh P E D fn nt dY k st):oh P E D fn nt dY (.inBlock id :: k) st:=h.step fun _ _ _ _=>step_inBlock
theorem oh.rw {m:Nat} {c:Code} {orcs:List (Nat×ow)} {F:List Nat} {x9:List (Nat×Wd)} {fM:AB} {nk:Nat} (hE:bk E m) {ps:List Prop}
  (h:KK P nt m c orcs F x9 fM nk st=some (ps,CO)) (hF:(((F.isEmpty && xz orcs) || Nat.beq m 0) && WH orcs)=true) (hp:bq ps) (hr:oh P E D fn nt dY k CO):oh P E D fn nt dY (.code c :: k) st:=by
 unfold KK at h
 split at h
 ·rename_i p1 s1 h1
  split at h
  ·rename_i q1 s2 h2
   simp only [aD,aA] at h
   obtain ⟨rfl,rfl⟩:=h
   obtain ⟨x8,xN⟩:=bq.app hp
   obtain ⟨hF,hY⟩:=Bm.1 hF
   have hz:xz orcs=true∨∀ b,¬ E.fp b:=by
    rcases Bool.or_eq_true_iff.1 hF with h | h
    ·simp_all
    ·exact .inr (hE.fp (bW h))
   have YS:F.isEmpty=true∨∀ b,¬ E.fp b:=by
    rcases Bool.or_eq_true_iff.1 hF with h | h
    ·simp_all
    ·exact .inr (hE.fp (bW h))
   intro tm w hs As b ss pB cs
   have Z2:=(wpIn_wide (n:=0)).1 (yy (rd:=none) (ds:=[QQ D]) hz (Jg hY) h1 x8 hs As)
   obtain ⟨e,a',w',⟨rfl,q1,q2,q3⟩,VD⟩:=Z2 b k cs
   have ha:a'=⟨a'.tmps,[QQ D]⟩:=by cases a';simp at q2;simp [q2]
   obtain ⟨v,Wy,fr,r1,r2,r3,r4⟩:=hr a'.tmps w' q1 (FQ (by rw [hE.m0];exact h2) xN YS q3) b ss pB cs
   refine ⟨v,Wy,fr,r1,Steps.trans VD ?_,r3,r4⟩
   rw [ha];exact r2
  ·cases h
 ·cases h
theorem oh.ret {c:Code} (HB:∀ σ S μ w,Good E9 σ S μ w→Good E σ S μ w) (hmm:E.m0≤E9.m0) (hD:E9.w0.heap[D]?=some (.deferred (some []))) (SK:¬ E9.fp D) (hDE:E.w0.heap.size≤D) (ks:List Nat) (hx:c=.ret)
  {f:Func} (hf:P.funcs[fn]?=some f) {ps:List Prop} {res:AV} {eV:dD} (h:yz P f st=some (ps,res)) (Mn:BE st.oA ks=eV) (hp:bq ps):oh P E9 D fn nt (bc E eV res) (.code c :: k) st:=by
 subst hx Mn
 intro tm w hs hr b ss pB cs
 obtain ⟨S,μ,g,hk,hm,ht⟩:=hr
 have Z9:w.heap[D]?=some (.deferred (some [])):=(g.fr.cQ D (gC hD) SK).trans hD
 have Bl:Po E st tm (w.putObj D (.deferred none)):=⟨S,μ,(HB _ _ _ _ g).put Z9 rfl rfl (.inl hDE),hk,eZ hmm hm,fun t=>(ht t).qG (fun _ h=>h) (KM Z9 rfl rfl)⟩
 obtain ⟨v,h1,h2⟩:=AE hf h hp Bl ss pB (.code .ret :: k)
 refine ⟨v,_,_,h1.Tb ks,.head step_ret (.one (step_collected (fr:={ b.at ⟨tm,[QQ D]⟩ (.code .ret :: k) with mode:=.returning }) (by simp) rfl rfl (run_takeDeferred Z9))),?_,h2⟩
 exact ss
end
section
variable {P:Program} {E E9:Env} {D:Nat} {fn:FuncId} {nt m:Nat} {dY:Value→World→Prop} {k k':List Item} {st CO:St}
theorem oh.Ji (h:Ji k=some k') (hr:oh P E D fn nt dY k' st):oh P E D fn nt dY k st:=by
 unfold Ab.Ji at h
 split at h
 ·cases h;exact hr.seq
 ·cases h;exact hr.step fun _ _ _ _=>step_block
 ·cases h;exact hr.step fun _ _ _ _=>step_loop
 ·cases h;exact hr.step fun _ _ _ _=>step_inLoop
 ·cases h;exact hr.inBlock
 ·cases h;exact hr.step fun _ _ _ _=>step_lone_go (by rfl)
 ·cases h;exact hr.step fun _ _ _ _=>step_lone_go (by rfl)
 ·cases h;exact hr.step fun _ _ _ _=>step_skip
 ·cases h;exact hr.step fun _ _ _ _=>step_label
 ·exact hr.step fun _ _ _ _=>step_exit h
 ·cases h
theorem oh.FU:∀ (n:Nat) {k:List Item},FU n k=some k'→oh P E D fn nt dY k' st→oh P E D fn nt dY k st
 | 0,k,h,hr=>by simp only [Ab.FU,aD] at h;rw [h];exact hr
 | n+1,k,h,hr=>by
  simp only [Ab.FU] at h
  split at h
  ·rename_i k1 h1
   exact oh.Ji h1 (oh.FU n h hr)
  ·cases h
end
end Go.Ab
