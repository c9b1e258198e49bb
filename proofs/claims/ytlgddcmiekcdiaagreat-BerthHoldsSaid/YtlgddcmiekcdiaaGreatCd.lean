/- Abstract values over the heap of the machine, and functions read off its code (part 4). No conditions. -/
import Derived.Test.YtlgddcmiekcdiaaGreatCc
import Derived.ProofKit
import Derived.Deep.Slices
import Derived.OpenShut
import Derived.ChangeOld
import Derived.SizedLaws
import Derived.RangeFuncLeaves
set_option linter.unusedVariables false
set_option linter.unusedSimpArgs false
namespace Go.Ab
section
variable {P:Program} {E:Env} {m0 nk:Nat} {F:List Nat} {dR:xq}
theorem zD {σ:cz} {f:Nat→Option Nat}:∀ (l:xq) (ps:List Prop) (τ:cz),Gw σ F f dR l=some (ps,τ)→aV ps→∀ k o,ar τ k=some o →
  ∃ d p,(k,d)∈l∧tu σ F f dR d=some (p,o)∧aV p
 | [],ps,τ,h,_,k,o,hk=>by simp [Gw] at h;obtain ⟨_,rfl⟩:=h;simp [ar] at hk
 | (k',d) :: r,ps,τ,h,hp,k,o,hk=>by
  simp only [Gw] at h
  split at h
  ·rename_i p o' q l e1 e2
   simp only [aA,ax] at h
   obtain ⟨rfl,rfl⟩:=h
   obtain ⟨xk,wE⟩:=aV.app hp
   simp only [ar] at hk
   split at hk
   ·simp_all
   ·obtain ⟨d',p',h1,h2,h3⟩:=zD r q l e2 wE k o hk
    grind
  ·cases h
theorem Er {σ:cz} {f:Nat→Option Nat} {tm:List (Nat×AV)} {R:Value→AV→Prop} {fr:Array Value} (QV:∀ v,R v .k6)
  (hv:∀ d t ps y,Ck σ F f dR d (cW tm t)=some (ps,y)→aV ps→R (fr.getD t undef) y):∀ (l:List (Nat×Wd)) (ps:List Prop) (HD:List (Nat×AV)),
  Gu σ F f dR tm l=some (ps,HD)→aV ps→∀ t,R (fr.getD t undef) (cW HD t)
 | [],ps,HD,h,_,t=>by simp [Gu] at h;obtain ⟨_,rfl⟩:=h;exact QV _
 | (t',d) :: r,ps,HD,h,hp,t=>by
  simp only [Gu] at h
  split at h
  ·rename_i p x q l e1 e2
   simp only [aA,ax] at h
   obtain ⟨rfl,rfl⟩:=h
   obtain ⟨xk,wE⟩:=aV.app hp
   simp only [cW]
   split
   ·rename_i hb
    rw [← bj hb]
    exact hv d t' p x e1 xk
   ·exact Er QV hv r q l e2 wE t
  ·cases h
theorem Lb {k0:Nat}:∀ (l:xq) (a b:Nat) (x y:Od),kP (l.filterMap (·.2.uy))=true→(a,x)∈l→(b,y)∈l→x.uy=some k0→y.uy=some k0→a=b:=by
 intro l
 induction l with
 | nil=>simp
 | cons z l ih =>
  intro a b x y hn ha hb hx hy
  have none:∀ c u,(c,u)∈l→u.uy=some k0→idx (l.filterMap (·.2.uy)) k0=none→False:=by
   intro c u hc hu hi
   have Im:k0∈l.filterMap (·.2.uy):=List.mem_filterMap.2 ⟨(c,u),hc,hu⟩
   obtain ⟨i,pM⟩:=List.getElem?_of_mem Im
   exact kr _ _ hi i pM
  rcases jW.1 ha with O2 | O2
  ·rcases jW.1 hb with oW | oW
   ·grind
   ·rw [← O2] at hn
    simp only [List.filterMap_cons,hx,kP,aR,Option.isNone_iff_eq_none] at hn
    grind
  ·rcases jW.1 hb with oW | oW
   ·rw [← oW] at hn
    simp only [List.filterMap_cons,hy,kP,aR,Option.isNone_iff_eq_none] at hn
    grind
   ·refine ih a b x y ?_ O2 oW hx hy
    simp only [List.filterMap_cons] at hn
    split at hn
    ·exact hn
    simp_all [kP,aR]
theorem Pg:∀ {as:List AV} {sz n:Nat} {g:Nat→List AV},FN as [.mr sz n g]→as=[.mr sz n g]
 | [],_,_,_,h=>h.elim
 | a :: [],_,_,_,h=>by
  rcases h.1 with h1 | ⟨_,f,h1⟩
  ·rw [h1]
  ·cases h1
 | _ :: _ :: _,_,_,_,h=>h.2.elim
theorem Lc {σ:cz} {f:Nat→Option Nat} {d:Od} {p:List Prop} {o:Ob} (h:tu σ F f dR d=some (p,o)) (hp:aV p) {i:Nat} {x:Nat×Nat×(Nat→List AV)} (hr:rowOf o i=some x) :
  ∃ k0 o0,d.uy=some k0∧ar σ k0=some o0∧rowOf o0 i=some x:=by
 obtain ⟨r1,r2,r3⟩:=ca hr
 cases d with
 | af k0 =>
  simp only [tu,aE,ax] at h
  obtain ⟨o0,ou,_,rfl⟩:=h
  exact ⟨k0,o0,rfl,ou,(nT _ _ _ _).1 hr⟩
 | arr k0 n gt =>
  simp only [tu] at h
  split at h
  ·rename_i o0 ou
   split at h
   ·simp only [aA,ax] at h
    obtain ⟨rfl,rfl⟩:=h
    obtain ⟨p1,p2,_⟩:=hp
    exact ⟨k0,o0,rfl,ou,iX r1 (by rw [p1];exact r2) (by simp_all)⟩
   ·cases h
  ·cases h
 | K8 k0 n gt =>
  simp only [tu] at h
  split at h
  ·rename_i o0 ou
   split at h
   ·simp only [aA,ax] at h
    obtain ⟨rfl,rfl⟩:=h
    obtain ⟨p1,p2,_⟩:=hp
    have:=p2 i r2
    have r3:gt i=[.mr x.1 x.2.1 x.2.2]:=r3
    rw [r3] at this
    exact ⟨k0,o0,rfl,ou,iX r1 (nb r2 p1) (Pg this)⟩
   ·cases h
  ·cases h
 | nL k0 n l b =>
  simp only [tu] at h
  split at h
  ·rename_i o0 l' ou SY
   split at h
   ·rename_i hb
    simp only [aA,ax] at h
    obtain ⟨rfl,rfl⟩:=h
    obtain ⟨p1,p2,p3,_⟩:=hp
    simp only [aR,Bool.not_eq_true'] at hb
    have r3:aJ l' b i=[.mr x.1 x.2.1 x.2.2]:=r3
    rw [← Cj (p3 i r2) SY,p2 i r2] at r3
    exact ⟨k0,o0,rfl,ou,iX hb.1 (by rw [p1];exact r2) (Ks r3)⟩
   ·cases h
  ·cases h
 | Oo gt =>
  simp only [tu,aA,ax] at h
  grind
 | mp k0 cs =>
  simp only [tu] at h
  split at h
  ·rename_i o0 ou
   split at h
   ·rename_i hb
    simp only [aA,ax] at h
    obtain ⟨rfl,rfl⟩:=h
    simp_all
   ·cases h
  ·cases h
 | var k0 ds =>
  simp only [tu] at h
  grind
 | nil sz gt =>
  simp only [tu] at h
  grind
theorem Cm {st zE:St} {uQ:List (Nat×Wd)} {ps:List Prop} (h:Dx E.m0 st F uQ dR nk=some (ps,zE)) (hp:aV ps) (hF:F.isEmpty=true∨∀ b,¬ E.fp b) {fr:Array Value} {w:World} (hr:J2 E st fr w):J2 E zE fr w:=by
 obtain ⟨S,μ,g,hk,hm,ht⟩:=hr
 unfold Dx at h
 split at h
 case h_2=>cases h
 rename_i p tm q dm hn QW b9
 simp only [aA,ax] at h
 obtain ⟨rfl,rfl⟩:=h
 obtain ⟨xk,wE⟩:=aV.app hp
 have N:=La hn
 have e:Ext w S μ w (SF μ F st.mc S) μ:=⟨a7 _,fun _ h=>.inl h,fun _ _=>rfl,fun _ _ h=>h⟩
 have M1:∀ k o,ar dm k=some o→∃ pl c T,Dy E.m0 μ dR k=some pl∧eJ w (SF μ F st.mc S) (Dy E.m0 μ dR) o pl c T ∧
   (0 < pl.cap→∃ k0 o0,ar st.mc k0=some o0∧μ k0=some pl∧∃ d,(k,d)∈dR∧d.uy=some k0):=by
  intro k o MR
  obtain ⟨d,pd,p7,hd,Ph⟩:=zD dR q dm b9 wE k o MR
  have mono:∀ {v:Value} {x:AV} {cu:Mu},an w S cu v x→an w (SF μ F st.mc S) cu v x:=fun h=>h.mono (fun _ h=>.inl h) (fun _ _=>rfl) (fun _ _ h=>h)
  have out:∀ k0 o0 pl,ar st.mc k0=some o0→μ k0=some pl→k0 ∉ F→0 < pl.cap→¬ SF μ F st.mc S pl.bR:=by
   rintro k0 o0 pl ou qW SO hc (h1 | ⟨k1,o1,xY,MQ,ud,Hf,qV,hb⟩)
   ·obtain ⟨hH,c,T,eM,KP⟩:=g.rep.ob k0 o0 ou
    rw [qW] at eM;cases eM
    exact KP.out hc h1
   ·have iI:k1≠k0:=fun h=>SO (h ▸ MQ)
    exact g.rep.ne k1 k0 o1 o0 xY pl iI ud ou Hf qW qV hc hb
  cases d with
  | af k0 =>
   simp only [tu,aE,ax] at hd
   obtain ⟨o0,ou,_,rfl⟩:=hd
   obtain ⟨pl,c,T,qW,rA⟩:=g.rep.ob k0 o0 ou
   have h1:=rA.ext e (fun _=>rfl) (out k0 o0 pl ou qW (N.fr k _ k0 p7 rfl))
   exact ⟨pl,c,T,by rw [xr N p7 rfl];exact qW,h1.iH fun a b pl ha hb=>BC N ha hb,fun _=>⟨k0,o0,ou,qW,_,p7,rfl⟩⟩
  | arr k0 n gt =>
   simp only [tu] at hd
   split at hd
   ·rename_i o0 ou
    split at hd
    ·rename_i hb
     simp only [aA,ax] at hd
     obtain ⟨rfl,rfl⟩:=hd
     obtain ⟨p1,p2,_⟩:=Ph
     obtain ⟨pl,c,T,qW,rA⟩:=g.rep.ob k0 o0 ou
     simp only [aR] at hb
     have h1:=rA.ext e (fun _=>rfl) (out k0 o0 pl ou qW (N.fr k _ k0 p7 rfl))
     refine ⟨pl,c,T,by rw [xr N p7 rfl];exact qW,⟨h1.sz,h1.bR,h1.cap,p1 ▸ h1.len,h1.out,fun i hi=>?_,fun i j x v hi hx hv=>?_,fun hz=>absurd hz (by simp_all)⟩,fun _=>⟨k0,o0,ou,qW,_,p7,rfl⟩⟩
     ·show (gt i).length=_
      rw [p2 i hi];exact h1.qK i (by rw [p1];exact hi)
     ·have hx:(gt i)[j]?=some x:=hx
      rw [p2 i hi] at hx
      have:=h1.rep i j x v (by rw [p1];exact hi) hx hv
      simp_all
    ·cases hd
   ·cases hd
  | K8 k0 n gt =>
   simp only [tu] at hd
   split at hd
   ·rename_i o0 ou
    split at hd
    ·rename_i hb
     simp only [aA,ax] at hd
     obtain ⟨rfl,rfl⟩:=hd
     obtain ⟨p1,p2,_⟩:=Ph
     obtain ⟨pl,c,T,qW,rA⟩:=g.rep.ob k0 o0 ou
     simp only [aR] at hb
     have h1:=rA.ext e (fun _=>rfl) (out k0 o0 pl ou qW (N.fr k _ k0 p7 rfl))
     refine ⟨pl,c,T,by rw [xr N p7 rfl];exact qW,⟨h1.sz,h1.bR,h1.cap,gp p1 h1.len,h1.out,fun i hi=>?_,fun i j x v hi hx hv=>?_,fun hz=>absurd hz (by have:=Nat.le_of_ble_eq_true hb.2;show o0.sz≠0;omega)⟩,fun _=>⟨k0,o0,ou,qW,_,p7,rfl⟩⟩
     ·show (gt i).length=_
      rw [(p2 i hi).len];exact h1.qK i (nb hi p1)
     ·have hx:(gt i)[j]?=some x:=hx
      obtain ⟨a,ha,V9⟩:=(p2 i hi).get hx
      have:=h1.rep i j a v (nb hi p1) ha hv
      rw [hb.1.1] at this
      exact Pf V9 this
    ·cases hd
   ·cases hd
  | mp k0 cs =>
   simp only [tu] at hd
   split at hd
   ·rename_i o0 ou
    split at hd
    ·rename_i hb
     simp only [aA,ax] at hd
     obtain ⟨rfl,rfl⟩:=hd
     obtain ⟨rfl,_⟩:=Ph
     obtain ⟨pl,c,T,qW,rA⟩:=g.rep.ob k0 o0 ou
     simp only [aR] at hb
     have F0:=bj hb.2
     have h1:=rA.ext e (fun _=>rfl) (out k0 o0 pl ou qW (N.fr k _ k0 p7 rfl))
     refine ⟨pl,c,T,by rw [xr N p7 rfl];exact qW,⟨h1.sz,h1.bR,h1.cap,h1.len,h1.out,fun i hi=>absurd hi (by show ¬ i < o0.len;omega),fun i j x v hi=>absurd hi (by show ¬ i < o0.len;omega),fun hz=>?_⟩,fun _=>⟨k0,o0,ou,qW,_,p7,rfl⟩⟩
     obtain ⟨m0,m1,m2,m3,m4⟩:=h1.mp hz
     exact ⟨m0,m1,m2,rfl,m4⟩
    ·cases hd
   ·cases hd
  | Oo gt =>
   simp only [tu,aA,ax] at hd
   obtain ⟨_,rfl⟩:=hd
   exact ⟨⟨0,0,1⟩,#[],0,IJ N p7,⟨rfl,fun h=>absurd h (by simp),by simp,by simp,fun h=>absurd h (by simp),fun i h=>absurd h (by simp),fun i j x v h=>absurd h (by simp),fun h=>absurd (show (1:Nat)=0 from h) (by omega)⟩,fun h=>absurd h (by simp)⟩
  | nL k0 n l b =>
   simp only [tu] at hd
   split at hd
   ·rename_i o0 l' ou SY
    split at hd
    ·rename_i hb
     simp only [aA,ax] at hd
     obtain ⟨rfl,rfl⟩:=hd
     obtain ⟨p1,Wa,p3,_⟩:=Ph
     have p2:∀ i,i < n→aJ l' b i=AV.rr (qY E.m0 dR) (o0.get i):=fun i hi=>by rw [← Wa i hi];exact (Cj (p3 i hi) SY).symm
     let gt:Nat→List AV:=aJ l' b
     obtain ⟨pl,c,T,qW,rA⟩:=g.rep.ob k0 o0 ou
     simp only [aR] at hb
     have h1:=rA.ext e (fun _=>rfl) (out k0 o0 pl ou qW (N.fr k _ k0 p7 rfl))
     refine ⟨pl,c,T,by rw [xr N p7 rfl];exact qW,⟨h1.sz,h1.bR,h1.cap,p1 ▸ h1.len,h1.out,fun i hi=>?_,fun i j x v hi hx hv=>?_,fun hz=>absurd hz (by have:=Nat.le_of_ble_eq_true hb.2;show o0.sz≠0;omega)⟩,fun _=>⟨k0,o0,ou,qW,_,p7,rfl⟩⟩
     ·show (aJ l' b i).length=_
      rw [p2 i hi,tl,List.length_map];exact h1.qK i (by rw [p1];exact hi)
     ·have hx:(aJ l' b i)[j]?=some x:=hx
      rw [p2 i hi,tl,List.getElem?_map] at hx
      simp only [aE] at hx
      obtain ⟨y,hy,rfl⟩:=hx
      have:=fy (h1.rep i j y v (by rw [p1];exact hi) hy hv)
      exact this.iH fun a b pl ha hb=>BC N ha hb
    ·cases hd
   ·cases hd
  | var k0 ds =>
   simp only [tu] at hd
   split at hd
   ·rename_i o0 ou
    split at hd
    ·rename_i pw cs hb OK
     simp only [aA,ax] at hd
     obtain ⟨rfl,rfl⟩:=hd
     obtain ⟨pl,c,T,qW,rA⟩:=g.rep.ob k0 o0 ou
     simp only [aR] at hb
     have RH:=bj hb.1.2
     have UQ:=Nat.le_of_ble_eq_true hb.2
     have ha:an w S μ (.agg ((List.range o0.sz).map fun j=>(c[j]?).getD undef).toArray) (.agg (o0.get 0)):=by
      refine .agg (by simp [rA.qK 0 (by omega)]) fun j x v hx hv=>?_
      have hj:j < o0.sz:=by
       have:=(cJ.1 hx).1
       rwa [rA.qK 0 (by omega)] at this
      obtain ⟨u,q1,_⟩:=bW rA (i:=0) (by omega) hj
      have RV:c[j]?=some u:=by simpa using q1
      simp [List.getElem?_range hj,RV] at hv
      exact fy (rA.rep 0 j x v (by omega) hx (by rw [← hv];simpa using q1))
     have Jk:=IL g N (.agg ds) (.agg (o0.get 0)) _ pw (.agg cs) ha (by simp [Ck,OK]) Ph
     obtain ⟨vs,RX,Dr,AN⟩:=lF Jk
     cases RX
     have hlen:cs.length=o0.sz:=by simpa using Dr.symm
     refine ⟨pl,c,T,by rw [xr N p7 rfl];exact qW,⟨rA.sz,rA.bR,rA.cap,by have:=rA.len;show 1≤pl.cap;omega,out k0 o0 pl ou qW (N.fr k _ k0 p7 rfl),fun i hi=>hlen,fun i j x v hi hx hv=>?_,fun hz=>absurd hz (by show o0.sz≠0;omega)⟩,fun _=>⟨k0,o0,ou,qW,_,p7,rfl⟩⟩
     have Wb:i=0:=by have hi:i < 1:=hi;omega
     subst Wb
     have hx:cs[j]?=some x:=hx
     have hj:j < o0.sz:=by rw [← hlen];exact (cJ.1 hx).1
     have pW:c[j]?=some v:=by simpa using hv
     have:=AN j x v hx (by simp [List.getElem?_range hj,pW])
     show an w _ (if AV.jQ cs then fw else _) v x
     split
     ·rename_i RG
      exact this.pure (pL RG hx) fw
     ·exact this
    ·cases hd
   ·cases hd
  | nil sz gt =>
   simp only [tu] at hd
   split at hd
   case h_2=>cases hd
   rename_i SZ
   simp only [aA,ax] at hd
   obtain ⟨_,rfl⟩:=hd
   exact ⟨⟨0,0,sz⟩,#[],0,IK N p7,⟨rfl,fun h=>absurd h (by simp),by simp,by simp,fun h=>absurd h (by simp),fun i h=>absurd h (by simp),fun i j x v h=>absurd h (by simp),fun h=>absurd (show sz=0 from h) (by have:=Nat.le_of_ble_eq_true SZ;omega)⟩,fun h=>absurd h (by simp)⟩
 have QL:∀ k i x v,fJ w (Dy E.m0 μ dR) dm k i x v→∃ k0 d,(k,d)∈dR∧d.uy=some k0∧fJ w μ st.mc k0 i x v:=by
  rintro k i x v ⟨o,pl,h1,h2,h3,h4⟩
  obtain ⟨d,pd,p7,hd,Ph⟩:=zD dR q dm b9 wE k o h1
  obtain ⟨k0,o0,q1,q2,q3⟩:=Lc hd Ph h2
  rw [xr N p7 q1] at h3
  exact ⟨k0,d,p7,q1,o0,pl,q2,q3,h3,h4⟩
 have NX:MX E.fp E.w0.heap.size w (SF μ F st.mc S) (Dy E.m0 μ dR) dm:=by
  have S3:∀ k d k0,(k,d)∈dR→d.uy=some k0→((qZ dR k).bind Od.uy).getD 0=k0:=fun k d k0 h1 h2=>by rw [ow N.nd h1];simp [h2]
  refine g.mx.tr (fun k=>((qZ dR k).bind Od.uy).getD 0) (fun k i x v h=>?_) (fun k i x v k' i' x' v' h h' he=>?_) (fun _ h=>.inl h) (fun _ _=>rfl) (fun k i x v b _ h hb=>⟨rfl,?_,fun h=>h⟩) (fun k o pl h1 h2 h3=>?_)
  ·obtain ⟨k0,d,q1,q2,q3⟩:=QL k i x v h
   show fJ w μ st.mc (((qZ dR k).bind Od.uy).getD 0) i x v
   rw [S3 k d k0 q1 q2];exact q3
  ·obtain ⟨k0,d,q1,q2,_⟩:=QL k i x v h
   obtain ⟨RY,d',RV,P7,_⟩:=QL k' i' x' v' h'
   have he:((qZ dR k).bind Od.uy).getD 0=((qZ dR k').bind Od.uy).getD 0:=he
   rw [S3 k d k0 q1 q2,S3 k' d' RY RV P7] at he
   exact Lb dR k k' d d' N.od q1 RV q2 (he ▸ P7)
  ·rintro (h1 | ⟨k1,o1,xY,_,ud,Hf,qV,h1⟩)
   ·exact (g.mx.bR h hb).2.1 h1
   ·exact g.mx.obj _ _ _ _ _ h hb k1 o1 xY ud Hf qV h1
  ·obtain ⟨xY,c,T,e1,_,e3⟩:=M1 k o h1
   rw [h2] at e1;cases e1
   obtain ⟨k0,o0,ou,qW,_⟩:=e3 h3
   exact .inl ⟨k0,o0,pl,ou,qW,h3,rfl⟩
 refine ⟨SF μ F st.mc S,Dy E.m0 μ dR,⟨g.fr,fun b h=>.inl (g.S0 b h),?_,?_,⟨?_,?_⟩,?_,?_,NX⟩,?_,N.m0,?_⟩
 ·rintro b (h1 | ⟨k1,o1,xY,MQ,ud,Hf,qV,rfl⟩)
  ·exact g.S1 b h1
  ·obtain ⟨hH,c,T,eM,KP⟩:=g.rep.ob k1 o1 ud
   rw [Hf] at eM;cases eM
   exact eA (KP.bR qV)
 ·rintro b (h1 | ⟨k1,o1,xY,MQ,ud,Hf,qV,rfl⟩)
  ·exact g.S2 b h1
  ·rcases g.own k1 o1 xY ud Hf qV with h2 | h2
   ·rcases hF with h3 | h3
    ·rw [List.isEmpty_iff] at h3;rw [h3] at MQ;simp at MQ
    ·exact (h3 _ h2).elim
   ·exact .inr h2
 ·intro k o MR
  obtain ⟨pl,c,T,h1,h2,_⟩:=M1 k o MR
  exact ⟨pl,c,T,h1,h2⟩
 ·intro k k' o o' pl hH iI MR S4 rn M3 hc ml
  obtain ⟨xY,c,T,h1,_,h3⟩:=M1 k o MR
  obtain ⟨pj,c',T',Og,_,Wc⟩:=M1 k' o' S4
  rw [rn] at h1;cases h1
  rw [M3] at Og;cases Og
  obtain ⟨k0,o0,ou,qW,d,hd,We⟩:=h3 hc
  obtain ⟨RY,Wf,S5,S6,d',P4,S7⟩:=Wc ml
  have Kw:k0≠RY:=by
   rintro rfl
   exact iI (Lb dR k k' d d' N.od hd P4 We S7)
  exact g.rep.ne k0 RY o0 Wf pl hH Kw ou S5 qW S6 hc ml
 ·intro k o pl MR rn hc
  obtain ⟨xY,c,T,h1,_,h3⟩:=M1 k o MR
  rw [rn] at h1;cases h1
  obtain ⟨k0,o0,ou,qW,_⟩:=h3 hc
  exact g.own k0 o0 pl ou qW hc
 ·intro k mE
  unfold Dy
  rw [if_pos mE];exact g.Bw k mE
 ·intro k mE
  have mE:nk≤k:=mE
  have:=N.m0
  unfold Dy
  rw [if_neg (by omega)]
  cases hg:qZ dR k with
  | none=>rfl
  | some d =>
   have:=N.lt k d (wj hg)
   omega
 ·exact Er (R:=fun v x=>an w (SF μ F st.mc S) (Dy E.m0 μ dR) v x) (fun _=>.k6) (fun d t ps y h1 h2=>IL g N d _ _ ps y (ht t) h1 h2) uQ p tm QW xk
def az (P:Program) (E:Env) (fn:FuncId) (nt:Nat) (cK:Value→World→Prop) (k:List Item) (st:St):Prop :=
 ∀ (tm:Array Value) (w:World),tm.size=nt→J2 E st tm w→∀ (b:Frame),b.fn=fn→b.kind=.normal→∀ cs,
  ∃ v w' fr,cK v w'∧Steps P (lone (b.at ⟨tm,[]⟩ k) cs w) (lone fr cs w')∧fr.fn=fn∧fr.leaving P w' (.returned v)
variable {fn:FuncId} {nt:Nat} {cK:Value→World→Prop} {k k':List Item} {st zE:St}
theorem az.step (h:az P E fn nt cK k' st) (hs:∀ (b:Frame) (a:Act) (cs:List Frame) (w:World),step P (lone (b.at a k) cs w)=.next (lone (b.at a k') cs w)):az P E fn nt cK k st:=by
 intro tm w h1 h2 b h3 h4 cs
 obtain ⟨v,w',fr,q1,q2,q3,q4⟩:=h tm w h1 h2 b h3 h4 cs
 exact ⟨v,w',fr,q1,.head (hs b ⟨tm,[]⟩ cs w) q2,q3,q4⟩
theorem az.seq {x y:Code} (h:az P E fn nt cK (.code x :: .code y :: k) st):az P E fn nt cK (.code (.seq x y) :: k) st:=h.step fun _ _ _ _=>step_seq
theorem az.block {id:Nat} {c:Code} (h:az P E fn nt cK (.code c :: .inBlock id :: k) st):az P E fn nt cK (.code (.block id c) :: k) st:=h.step fun _ _ _ _=>step_block
theorem az.inBlock {id:Nat} (h:az P E fn nt cK k st):az P E fn nt cK (.inBlock id :: k) st:=h.step fun _ _ _ _=>step_inBlock
theorem az.loop {c:Code} (h:az P E fn nt cK (.code c :: .inLoop c :: k) st):az P E fn nt cK (.code (.loop c) :: k) st:=h.step fun _ _ _ _=>step_loop
theorem az.inLoop {c:Code} (h:az P E fn nt cK (.code c :: .inLoop c :: k) st):az P E fn nt cK (.inLoop c :: k) st:=h.step fun _ _ _ _=>step_inLoop
theorem az.skip (h:az P E fn nt cK k st):az P E fn nt cK (.code .skip :: k) st:=h.step fun _ _ _ _=>step_skip
theorem az.label {l:Nat} (h:az P E fn nt cK k st):az P E fn nt cK (.code (.label l) :: k) st:=h.step fun _ _ _ _=>step_label
theorem az.scope {c:Code} (h:az P E fn nt cK (.code c :: .inScope c :: k) st):az P E fn nt cK (.code (.scope c) :: k) st:=h.step fun _ _ _ _=>step_lone_go (by rfl)
theorem az.inScope {c:Code} (h:az P E fn nt cK k st):az P E fn nt cK (.inScope c :: k) st:=h.step fun _ _ _ _=>step_lone_go (by rfl)
theorem az.exit {id:Nat} (he:exitTo id k=some k') (h:az P E fn nt cK k' st):az P E fn nt cK (.code (.exit id) :: k) st:=h.step fun _ _ _ _=>step_exit he
theorem az.cond {c:Operand} {x y:Code} {q:Bool} (hc:vd st.tm c=.atom (.bool q)) (h1:q=true→az P E fn nt cK (.code x :: k) st) (h2:q=false→az P E fn nt cK (.code y :: k) st) :
  az P E fn nt cK (.code (.cond c x y) :: k) st:=by
 intro tm w hs hr b oW nh cs
 have Oq:=hr
 obtain ⟨S,μ,g,_,_,ht⟩:=Oq
 have e:=yl (a:=⟨tm,[]⟩) ht c
 rw [hc] at e
 have e:=b8 e
 have Ax:=step_cond (P:=P) (b:=b) (k:=k) (cs:=cs) (w:=w) (x:=x) (y:=y) e
 cases q with
 | true =>
  obtain ⟨v,w',fr,q1,q2,q3,q4⟩:=h1 rfl tm w hs hr b oW nh cs
  exact ⟨v,w',fr,q1,.head Ax q2,q3,q4⟩
 | false =>
  obtain ⟨v,w',fr,q1,q2,q3,q4⟩:=h2 rfl tm w hs hr b oW nh cs
  exact ⟨v,w',fr,q1,.head Ax q2,q3,q4⟩
structure a3 (E:Env) (m:Nat):Prop where
 m0:E.m0=m
 fp:m=0→∀ b,¬ E.fp b
theorem az.wk {m:Nat} (hE:a3 E m) {uQ:List (Nat×Wd)} {ps:List Prop} (h:Dx m st F uQ dR nk=some (ps,zE)) (hF:(F.isEmpty || Nat.beq m 0)=true) (hp:aV ps) (hr:az P E fn nt cK k zE):az P E fn nt cK k st:=by
 have h':Dx E.m0 st F uQ dR nk=some (ps,zE):=by rw [hE.m0];exact h
 refine fun tm w h1 h2=>hr tm w h1 (Cm h' hp ?_ h2)
 rcases Bool.or_eq_true_iff.1 hF with h3 | h3
 ·exact .inl h3
 ·exact .inr (hE.fp (bj h3))
def yn (P:Program) (nt:Nat) (c:Code) (orcs:List (Nat×l8)) (st:St):Option (List Prop×St) :=
 match c with
 | .region _ ops draw=>match po P nt ops.toList st.nk orcs ops.toList 0 st.tm st.mc with
  | some cb=>match !draw || (P.follows .mixedOrders && K5 ops.toList cb) with
   | true=>some (B9 cb,⟨AF cb st.tm,vg cb st.mc,st.nk+16 * ops.size⟩)
   | false=>none
  | none=>none
 | _=>none
def ue:List (Nat×l8)→Bool
 | []=>true
 | (_,o) :: r=>!o.uB && ue r
def Qb:List (Nat×l8)→Bool
 | []=>true
 | (_,o) :: r=>o.y.isNone && Qb r
def Qc (P:Program) (E:Env):List (Nat×l8)→Prop
 | []=>True
 | (_,o) :: r=>(match o.y with
  | some y=>RR P E y
  | none=>True)∧Qc P E r
theorem Es:∀ {orcs:List (Nat×l8)},ue orcs=true→∀ i x,nX orcs i=some x→x.uB=true→False
 | [],_,i,x,h,_=>by simp [nX] at h
 | (a,o) :: r,hn,i,x,h,hx=>by
  simp only [ue,aR,Bool.not_eq_true'] at hn
  simp only [nX] at h
  split at h
  ·simp_all
  ·exact Es hn.2 i x h hx
theorem E5 {P:Program} {E:Env}:∀ {orcs:List (Nat×l8)},Qb orcs=true→Qc P E orcs
 | [],_=>trivial
 | (a,o) :: r,hn=>by
  simp only [Qb,aR,Option.isNone_iff_eq_none] at hn
  refine ⟨?_,E5 hn.2⟩
  rw [hn.1];trivial
theorem IM {P:Program} {E:Env}:∀ {orcs:List (Nat×l8)},Qc P E orcs→∀ i x y,nX orcs i=some x→x.y=some y→RR P E y
 | [],_,i,x,y,h,_=>by simp [nX] at h
 | (a,o) :: r,hn,i,x,y,h,hx=>by
  simp only [nX] at h
  split at h
  ·cases h
   have:=hn.1
   simp_all
  ·exact IM hn.2 i x y h hx
theorem vj {rd:Option Nat} {ds:List Deferred} {c:Code} {orcs:List (Nat×l8)} (hz:ue orcs=true∨∀ b,¬ E.fp b) (hy:Qc P E orcs) {ps:List Prop} (h:yn P nt c orcs st=some (ps,zE)) (hp:aV ps)
  {tm:Array Value} {w:World} (hs:tm.size=nt) (xf:J2 E st tm w):c.wpIn (FW rd) 0 P (fun e a w=>e=.normal∧a.tmps.size=nt∧a.defers=ds∧J2 E zE a.tmps w) ⟨tm,ds⟩ w:=by
 have hz:∀ i,Gm P E (nX orcs i):=fun i=>⟨fun x hx hf=>hz.elim (fun hn=>(Es hn i x hx hf).elim) id,fun x y hx QX=>IM hy i x y hx QX⟩
 unfold yn at h
 split at h
 case h_2=>cases h
 rename_i id ops draw
 split at h
 case h_2=>cases h
 rename_i cb RT
 split at h
 case h_2=>cases h
 rename_i hd
 simp only [aA,ax] at h
 obtain ⟨rfl,rfl⟩:=h
 obtain ⟨S,μ,g,hk,hm,ht⟩:=xf
 let Q0:Exit→Act→World→Prop:=fun e a w=>e=.normal∧a.tmps.size=nt∧a.defers=ds∧J2 E ⟨AF cb st.tm,vg cb st.mc,st.nk+16 * ops.size⟩ a.tmps w
 show (Code.region id ops draw).wpIn (FW rd) 0 P Q0 ⟨tm,ds⟩ w
 have hQ:∀ (a':Act) (w':World) (S':Nat→Prop) (cu:Mu),a'.tmps.size=nt→a'.defers=ds→Good E (vg cb st.mc) S' cu w'→(∀ k,st.nk+16 * ops.size≤k→cu k=none)→(∀ t,an w' S' cu (a'.tmps.getD t undef) (cW (AF cb st.tm) t)) →
   Q0 .normal a' w' :=
  fun a' w' S' cu q1 q2 q3 q4 q5=>⟨rfl,q1,q2,S',cu,q3,q4,by grind,q5⟩
 cases draw with
 | false =>
  refine wpIn_region ?_
  have:=Ej (P:=P) (E:=E) (Q:=Q0) (rd:=rd) (ds:=ds) (nt:=nt) (nk:=st.nk) (ops:=ops) (orcs:=orcs) hz hm ops.toList 0 ⟨tm,ds⟩ w st.tm st.mc S μ cb rfl (by simp) hs rfl g (by simpa using hk) ht RT hp hQ
  rw [List.range_eq_range']
  simpa using this
 | true =>
  simp only [Bool.not_true,Bool.false_or,aR] at hd
  refine wpIn_region_any hd.1 ?_
  have UY:∀ (n j:Nat),(Array.replicate n false).getD j false=false:=by
   intro n j
   simp only [rk,Array.getElem?_replicate]
   split<;>rfl
  refine HE hz hm RT hp hd.2 hQ ops.size _ ⟨tm,ds⟩ _ S μ (by simp) hs rfl ?_ ?_ ?_ ?_ ?_
  ·simp_all
  ·omega
  ·rw [zB cb 0 st.mc _ (fun m _=>UY _ _)];exact g.drew
  ·simp_all
  ·intro t
   rw [Ci cb 0 st.tm _ (fun m _=>UY _ _)]
   exact (ht t).ext (Ext.drew w S μ)
theorem az.region {c:Code} {orcs:List (Nat×l8)} (hz:ue orcs=true∨∀ b,¬ E.fp b) (hy:Qc P E orcs) {ps:List Prop} (h:yn P nt c orcs st=some (ps,zE)) (hp:aV ps) (hr:az P E fn nt cK k zE):az P E fn nt cK (.code c :: k) st:=by
 intro tm w hs xf b oW nh cs
 have S8:c.wp P (fun e a w=>e=.normal∧a.tmps.size=nt∧a.defers=[]∧J2 E zE a.tmps w) ⟨tm,[]⟩ w:=(wpIn_wide (n:=0)).1 (vj (rd:=none) (ds:=[]) hz hy h hp hs xf)
 obtain ⟨e,a',w',⟨rfl,q1,q2,q3⟩,Pj⟩:=S8 b k cs
 have ha:a'=⟨a'.tmps,[]⟩:=by cases a';simp at q2;simp [q2]
 obtain ⟨v,P0,fr,r1,r2,r3,r4⟩:=hr a'.tmps w' q1 q3 b oW nh cs
 refine ⟨v,P0,fr,r1,Steps.trans Pj ?_,r3,r4⟩
 rw [ha];exact r2
end
end Go.Ab
namespace Go.Ab
def aQ (E:Env) (dm:cz) (res:AV) (v:Value) (w':World):Prop:=∃ S' cu,Good E dm S' cu w'∧an w' S' cu v res
def Cn (P:Program) (st:St):List ResultVar→Option (List Prop×List AV)
 | []=>some ([],[])
 | .tmp t :: r=>(Cn P st r).map fun (p,l)=>(p,cW st.tm t :: l)
 | .cell a t :: r=>match uW P st.mc t (cW st.tm a),Cn P st r with
  | some (p,x,_),some (q,l)=>some (p ++ q,x :: l)
  | _,_=>none
def Ld:List AV→AV
 | [x]=>x
 | l=>.tup l
def vk (P:Program) (fn:Func) (st:St):Option (List Prop×AV):=(Cn P st fn.results.toList).map fun (p,l)=>(p,Ld l)
section
variable {P:Program} {E:Env} {fn:FuncId} {nt:Nat} {k:List Item} {st:St}
theorem E6 {S:Nat→Prop} {μ:Mu} {w:World} (g:Good E st.mc S μ w) {tm:Array Value} (ht:∀ t,an w S μ (tm.getD t undef) (cW st.tm t)) :
  ∀ (l:List ResultVar) (ps:List Prop) (xs:List AV),Cn P st l=some (ps,xs)→aV ps→∃ vs:List Value,
   (l.mapM fun r=>(match r with | .tmp t=>pure (tm.getD t undef) | .cell a t=>(do loadVar t (← asAddr (tm.getD a undef)):Sem Value)):Sem (List Value)).run P w=.ok vs w∧vs.length=xs.length ∧
   ∀ (j:Nat) c v,xs[j]?=some c→vs[j]?=some v→an w S μ v c
 | [],ps,xs,h,_=>by
  simp [Cn] at h;simp_all
 | .tmp t :: r,ps,xs,h,hp=>by
  simp only [Cn,aE,ax] at h
  obtain ⟨⟨p,l⟩,h1,rfl,rfl⟩:=h
  obtain ⟨vs,q1,q2,q3⟩:=E6 g ht r p l h1 hp
  refine ⟨tm.getD t undef :: vs,by simp_all,by simp [q2],?_⟩
  grind
 | .cell a t :: r,ps,xs,h,hp=>by
  simp only [Cn] at h
  split at h
  ·rename_i p x rd q l h1 h2
   simp only [aA,ax] at h
   obtain ⟨rfl,rfl⟩:=h
   obtain ⟨xk,wE⟩:=aV.app hp
   obtain ⟨vs,q1,q2,q3⟩:=E6 g ht r q l h2 wE
   obtain ⟨v,r1,r2⟩:=EM (P:=P) g (ht a) h1 xk
   have S9:∃ ad,tm.getD a undef=.pointer (some ad):=by
    cases hv:tm.getD a undef with
    | pointer o =>
     cases o with
     | none=>simp_all [Instr.loadAt,Instr.sureAddr]
     | some ad=>exact ⟨ad,rfl⟩
    | _=>simp_all [Instr.loadAt,Instr.sureAddr]
   obtain ⟨ad,UZ⟩:=S9
   rw [UZ] at r1
   simp only [Instr.loadAt,Instr.sureAddr,bc,Sem.run_pure,b7] at r1
   have hA:(asAddr (tm.getD a undef)).run P w=.ok ad w:=by rw [UZ];rfl
   refine ⟨v :: vs,by simp_all,by simp [q2],?_⟩
   grind
  ·cases h
theorem xt {f:Func} (hf:P.funcs[fn]?=some f) {ps:List Prop} {res:AV} (h:vk P f st=some (ps,res)) (hp:aV ps) {tm:Array Value} {w:World} (hr:J2 E st tm w) {b:Frame} (oW:b.fn=fn) (nh:b.kind=.normal) (todo:List Item) :
  ∃ v,aQ E st.mc res v w∧Frame.leaving P { b.at ⟨tm,[]⟩ todo with mode:=.returning } w (.returned v):=by
 obtain ⟨S,μ,g,_,_,ht⟩:=hr
 simp only [vk,aE,ax] at h
 obtain ⟨⟨p,l⟩,h1,rfl,rfl⟩:=h
 obtain ⟨vs,q1,q2,q3⟩:=E6 g ht f.results.toList p l h1 hp
 have hm:(f.results.mapM fun r=>(match r with | .tmp t=>pure (tm.getD t undef) | .cell a t=>(do loadVar t (← asAddr (tm.getD a undef)):Sem Value)):Sem (Array Value)).run P w=.ok vs.toArray w:=by
  rw [Array.mapM_eq_mapM_toList]
  simp only [Sem.run_map,q1,b7]
 have Gx:∃ v,an w S μ v (Ld l)∧(results f tm).run P w=.ok v w:=by
  refine ⟨if h:vs.toArray.size=1 then vs.toArray[0] else .tuple vs.toArray,?_,?_⟩
  ·cases l with
   | nil =>
    have:vs=[]:=List.length_eq_zero_iff.1 q2
    subst this
    simp only [Ld]
    exact .tup rfl fun j c v hc=>by simp at hc
   | cons x r =>
    cases r with
    | nil =>
     simp at q2
     have hs:vs.toArray.size=1:=by simpa using q2
     rw [dif_pos hs]
     exact q3 0 x _ rfl (by simp [q2])
    | cons y r =>
     simp at q2
     have hs:¬ vs.toArray.size=1:=by simp;omega
     rw [dif_neg hs]
     exact .tup (by simp [q2]) fun j c v hc hv=>q3 j c v hc (by simpa using hv)
  ·unfold results
   simp only [bc]
   exact (congrArg (fun r:Result (Array Value)=>r.andThen fun a w'=>Result.ok (if h:a.size=1 then a[0] else Value.tuple a) w') hm)
 obtain ⟨v,hv,jC⟩:=Gx
 exact ⟨v,⟨S,μ,g,hv⟩,rfl,rfl,nh,f,by rw [← hf,← oW];rfl,jC⟩
theorem az.ret {f:Func} (hf:P.funcs[fn]?=some f) {ps:List Prop} {res:AV} (h:vk P f st=some (ps,res)) (hp:aV ps):az P E fn nt (aQ E st.mc res) (.code .ret :: k) st:=by
 intro tm w _ hr b oW nh cs
 obtain ⟨v,h1,h2⟩:=xt hf h hp hr oW nh (.code .ret :: k)
 exact ⟨v,w,_,h1,.one step_ret,oW,h2⟩
theorem az.fin {f:Func} (hf:P.funcs[fn]?=some f) {ps:List Prop} {res:AV} (h:vk P f st=some (ps,res)) (hp:aV ps):az P E fn nt (aQ E st.mc res) [] st:=by
 intro tm w _ hr b oW nh cs
 obtain ⟨v,h1,h2⟩:=xt hf h hp hr oW nh []
 exact ⟨v,w,_,h1,.one step_end,oW,h2⟩
def xu:List AV→Nat→List (Nat×AV)
 | [],_=>[]
 | x :: r,i=>(i,x) :: xu r (i+1)
theorem Co:∀ (l:List AV) (i t:Nat),cW (xu l i) t=if i≤t then (l[t - i]?).getD .k6 else .k6
 | [],i,t=>by simp [xu,cW]
 | x :: r,i,t=>by
  simp only [xu,cW]
  by_cases h:i=t
  ·simp_all
  ·rw [mQ h,Co r (i+1) t]
   grind
theorem Wg {f:FuncId} {fu:Func} {c:Code} {nt m:Nat} {args:List AV} {σ dm:cz} {res:AV} (hf:P.funcs[f]?=some fu) (hb:fu.body=some c) (hn:fu.ntmps=nt) (ha:Nat.ble args.length nt=true)
  (HG:m=0→σ=[]) (h:∀ E,a3 E m→az P E f nt (aQ E dm res) [.code c] ⟨xu args 0,σ,m⟩):Sound P f args σ m res dm:=by
 simp only [Nat.ble_eq] at ha
 intro w S μ vs g hk hl cs
 have hE:a3 (u5 w S σ μ m) m:=⟨rfl,fun hm b=>by
  rintro (⟨k,o,pl,h1,_⟩ | ⟨k,i,x,v,⟨o,pl,h1,_⟩,_⟩)<;>(rw [HG hm] at h1;simp [ar] at h1)⟩
 let b:Frame:={ (default:Frame) with fn:=f,kind:=.normal }
 have Pk:Frame.enter P f vs .normal=b.at ⟨vs ++ Array.replicate (nt - vs.size) undef,[]⟩ [.code c]:=by
  simp [Frame.enter,Frame.at,hf,hb,hn,b]
 have oX:=hl.1
 obtain ⟨v,w',fr,h1,h2,h3,h4⟩:=h _ hE (vs ++ Array.replicate (nt - vs.size) undef) w (by simp;omega) ⟨S,μ,g,hk,a7 _,fun t=>by
  show an w S μ _ (cW (xu args 0) t)
  rw [Co,if_pos (Nat.zero_le _),Nat.sub_zero]
  cases hx:args[t]? with
  | none=>exact .k6
  | some x =>
   have fY:t < vs.size:=by rw [oX];exact (cJ.1 hx).1
   have hv:(vs ++ Array.replicate (nt - vs.size) undef).getD t undef=vs[t]:=by
    simp [rk,Array.getElem?_append_left fY,fY]
   rw [hv]
   exact hl.2 t x _ hx (gG fY)⟩ b rfl rfl cs
 rw [← Pk] at h2
 obtain ⟨S',cu,g',hv⟩:=h1
 exact ⟨.returned v,w',fr,⟨v,S',cu,rfl,g',hv⟩,h2,h3,h4⟩
end
end Go.Ab
namespace Go.Ab
def Pm (f:Func):Code:=f.body.getD .skip
def cat:Code→List Bool→Code
 | c,[]=>c
 | .seq a _,false :: p=>cat a p
 | .seq _ b,true :: p=>cat b p
 | .cond _ a _,false :: p=>cat a p
 | .cond _ _ b,true :: p=>cat b p
 | .block _ b,_ :: p=>cat b p
 | .loop b,_ :: p=>cat b p
 | .scope b,_ :: p=>cat b p
 | c,_ :: _=>c
def E7:List Item→Option (List Item)
 | .code (.seq a b) :: k=>some (.code a :: .code b :: k)
 | .code (.block id c) :: k=>some (.code c :: .inBlock id :: k)
 | .code (.loop c) :: k=>some (.code c :: .inLoop c :: k)
 | .inLoop c :: k=>some (.code c :: .inLoop c :: k)
 | .inBlock _ :: k=>some k
 | .code (.scope c) :: k=>some (.code c :: .inScope c :: k)
 | .inScope _ :: k=>some k
 | .code .skip :: k=>some k
 | .code (.label _) :: k=>some k
 | .code (.exit id) :: k=>exitTo id k
 | _=>none
def Cp:Nat→List Item→Option (List Item)
 | 0,k=>some k
 | n+1,k=>match E7 k with
  | some k'=>Cp n k'
  | none=>none
section
variable {P:Program} {E:Env} {fn:FuncId} {nt:Nat} {cK:Value→World→Prop} {k k':List Item} {st zE:St}
theorem az.E7 (h:E7 k=some k') (hr:az P E fn nt cK k' st):az P E fn nt cK k st:=by
 unfold Ab.E7 at h
 split at h
 ·cases h;exact hr.seq
 ·cases h;exact hr.block
 ·cases h;exact hr.loop
 ·cases h;exact hr.inLoop
 ·cases h;exact hr.inBlock
 ·cases h;exact hr.scope
 ·cases h;exact hr.inScope
 ·cases h;exact hr.skip
 ·cases h;exact hr.label
 ·exact hr.exit h
 ·cases h
theorem az.Cp:∀ (n:Nat) {k:List Item},Cp n k=some k'→az P E fn nt cK k' st→az P E fn nt cK k st
 | 0,k,h,hr=>by simp only [Ab.Cp,aA] at h;rw [h];exact hr
 | n+1,k,h,hr=>by
  simp only [Ab.Cp] at h
  split at h
  ·rename_i k1 h1
   exact az.E7 h1 (az.Cp n h hr)
  ·cases h
theorem az.Ot {c x y:Code} {o:Operand} {q:Bool} (hx:c=.cond o x y) (hc:vd st.tm o=.atom (.bool q)) (h1:q=true→az P E fn nt cK (.code x :: k) st) (h2:q=false→az P E fn nt cK (.code y :: k) st) :
  az P E fn nt cK (.code c :: k) st:=by
 grind [az.cond]
theorem az.Pn {c x y:Code} {o:Operand} {n:Nat} (hx:c=.cond o x y) (hc:vd st.tm o=.bn n) (h1:n=0→az P E fn nt cK (.code x :: k) st) (h2:az P E fn nt cK (.code y :: k) st) :
  az P E fn nt cK (.code c :: k) st:=by
 subst hx
 intro tm w hs hr b oW nh cs
 have Oq:=hr
 obtain ⟨S,μ,g,_,_,ht⟩:=Oq
 have e:=yl (a:=⟨tm,[]⟩) ht o
 rw [hc] at e
 obtain ⟨q,e1,e2⟩:∃ q,(⟨tm,[]⟩:Act).eval o=.bool q∧(q=true→n=0):=by
  generalize (⟨tm,[]⟩:Act).eval o=v at e
  cases e with
  | bn q h=>exact ⟨q,rfl,h⟩
 have Ax:=step_cond (P:=P) (b:=b) (k:=k) (cs:=cs) (w:=w) (x:=x) (y:=y) e1
 cases q with
 | true =>
  obtain ⟨v,w',fr,q1,q2,q3,q4⟩:=h1 (e2 rfl) tm w hs hr b oW nh cs
  exact ⟨v,w',fr,q1,.head Ax q2,q3,q4⟩
 | false =>
  obtain ⟨v,w',fr,q1,q2,q3,q4⟩:=h2 tm w hs hr b oW nh cs
  exact ⟨v,w',fr,q1,.head Ax q2,q3,q4⟩
end
def yp:cz→List Nat→cz
 | σ,[]=>σ
 | σ,k :: r=>yp (r9 σ k) r
theorem aQ.M4 {E:Env} {res:AV} {v:Value} {w:World}:∀ (ks:List Nat) {σ:cz},aQ E σ res v w→aQ E (yp σ ks) res v w
 | [],_,h=>h
 | k :: r,_,⟨S,μ,g,hv⟩=>aQ.M4 r ⟨S,μ,g.del k,hv⟩
theorem az.Ta {P:Program} {E:Env} {fn:FuncId} {nt:Nat} {k:List Item} {st:St} {c:Code} (ks:List Nat) (hx:c=.ret) {f:Func} (hf:P.funcs[fn]?=some f) {ps:List Prop} {res:AV} {dm:cz} (h:vk P f st=some (ps,res))
  (HG:yp st.mc ks=dm) (hp:aV ps):az P E fn nt (aQ E dm res) (.code c :: k) st:=by
 subst hx HG
 intro tm w h1 h2 b h3 h4 cs
 obtain ⟨v,w',fr,q1,q2⟩:=az.ret (E:=E) (nt:=nt) (k:=k) hf h hp tm w h1 h2 b h3 h4 cs
 exact ⟨v,w',fr,q1.M4 ks,q2⟩
theorem az.Tb {P:Program} {E:Env} {fn:FuncId} {nt:Nat} {st:St} (ks:List Nat) {f:Func} (hf:P.funcs[fn]?=some f) {ps:List Prop} {res:AV} {dm:cz} (h:vk P f st=some (ps,res))
  (HG:yp st.mc ks=dm) (hp:aV ps):az P E fn nt (aQ E dm res) [] st:=by
 subst HG
 intro tm w h1 h2 b h3 h4 cs
 obtain ⟨v,w',fr,q1,q2⟩:=az.fin (E:=E) (nt:=nt) hf h hp tm w h1 h2 b h3 h4 cs
 exact ⟨v,w',fr,q1.M4 ks,q2⟩
def Gy (P:Program) (nt m:Nat) (c:Code) (orcs:List (Nat×l8)) (F:List Nat) (uQ:List (Nat×Wd)) (dR:xq) (nk:Nat) (st:St):Option (List Prop×St) :=
 match yn P nt c orcs st with
 | some (ps,s1)=>match Dx m s1 F uQ dR nk with
  | some (qs,s2)=>some (ps ++ qs,s2)
  | none=>none
 | none=>none
theorem az.rw {P:Program} {E:Env} {fn:FuncId} {nt:Nat} {cK:Value→World→Prop} {k:List Item} {st zE:St} {m:Nat} {c:Code} {orcs:List (Nat×l8)} {F:List Nat} {uQ:List (Nat×Wd)} {dR:xq} {nk:Nat}
  (hE:a3 E m) {ps:List Prop} (h:Gy P nt m c orcs F uQ dR nk st=some (ps,zE)) (hF:((F.isEmpty && ue orcs) || Nat.beq m 0)=true) (hy:Qc P E orcs) (hp:aV ps) (hr:az P E fn nt cK k zE):az P E fn nt cK (.code c :: k) st:=by
 unfold Gy at h
 split at h
 ·rename_i p1 s1 h1
  split at h
  ·rename_i q1 s2 h2
   simp only [aA,ax] at h
   obtain ⟨rfl,rfl⟩:=h
   obtain ⟨xk,wE⟩:=aV.app hp
   have RZ:(F.isEmpty || Nat.beq m 0)=true:=by
    rcases Bool.or_eq_true_iff.1 hF with h | h
    ·simp [(x6.1 h).1]
    ·simp [h]
   have hz:ue orcs=true∨∀ b,¬ E.fp b:=by
    rcases Bool.or_eq_true_iff.1 hF with h | h
    ·simp_all
    ·exact .inr (hE.fp (bj h))
   grind [az.region,az.wk]
  ·cases h
 ·cases h
abbrev aI (n:Int):AV:=.atom (.int .i64 n)
abbrev aB (b:Bool):AV:=.atom (.bool b)
abbrev aS (s:ByteArray):AV:=.atom (.string s)
def aD {α:Type} (c:α→List AV) (d:α) (l:List α):AV:=.sl l.length fun i=>c (l.getD i d)
def cI (n:Int):List AV:=[aI n]
def cB (b:Bool):List AV:=[aB b]
def cS (s:ByteArray):List AV:=[aS s]
def cU (k:IntKind) (n:Int):List AV:=[.atom (.int k n)]
abbrev ah (n:Int):Int:=IntKind.i64.wrap n
theorem ab {α:Type} {p:Prop} [Decidable p] {x:Option α} {r:α} (h:(if p then x else none)=some r):p∧x=some r:=by
 simp_all
theorem aG {α β:Type} {x:Option α} {f:α→Option β} {r:β} (h:x.bind f=some r):∃ a,x=some a∧f a=some r:=Option.bind_eq_some_iff.1 h
theorem er {α:Type} {q:Bool} {x y:α} {r:α} (h:cond q x y=r) (hq:q=true):x=r:=by subst hq;exact h
def Alike (x y:AV):Prop:=∀ w S μ v,an w S μ v x→an w S μ v y
theorem Alike.refl (x:AV):Alike x x:=fun _ _ _ _ h=>h
theorem Alike.sl {n m:Nat} {g g':Nat→List AV} (hn:n=m) (hg:∀ i,i < m→g' i=g i):Alike (.sl n g) (.sl m g'):=by
 subst hn
 intro w S μ v h
 cases h with
 | sl b off sz f h1 h2 h3 h4 h5=>exact .sl b off sz f h1 (fun i hi=>by simp_all) h3 (fun i j c hi hc=>h4 i j c hi (by simp_all)) h5
theorem Alike.nil {g:Nat→List AV}:Alike .nil (.sl 0 g):=by
 intro w S μ v h
 cases h
 exact .sl 0 0 0 (fun _ _=>undef) (fun h=>absurd h (by omega)) (fun i h=>absurd h (by omega)) (fun i j h=>absurd h (by omega)) (fun i j c h=>absurd h (by omega)) (a7 _)
theorem Alike.rp {cs:List AV}:Alike (.rp cs 0) (.pt true cs):=fun _ _ _ _ h=>.pt (fun _=>h) (fun h=>by cases h)
inductive xw:List AV→List AV→Prop where
 | nil:xw [] []
 | cons {x y:AV} {xs ys:List AV}:Alike x y→xw xs ys→xw (x :: xs) (y :: ys)
theorem xw.get {xs ys:List AV} (h:xw xs ys):xs.length=ys.length∧∀ (j:Nat) y,ys[j]?=some y→∃ x,xs[j]?=some x∧Alike x y:=by
 induction h with
 | nil=>simp
 | cons h1 _ ih =>
  grind
theorem Alike.agg {xs ys:List AV} (h:xw xs ys):Alike (.agg xs) (.agg ys):=by
 intro w S μ v hv
 obtain ⟨h1,h2⟩:=h.get
 cases hv with
 | agg q1 q2 =>
  refine .agg (q1.trans h1) fun j y v hy hv=>?_
  obtain ⟨x,hx,ha⟩:=h2 j y hy
  exact ha _ _ _ _ (q2 j x v hx hv)
theorem Sound.conv {P:Program} {f:FuncId} {args Ou:List AV} {σ dm:cz} {m:Nat} {res:AV} (h:Sound P f args σ m res dm) (ha:xw Ou args):Sound P f Ou σ m res dm:=by
 obtain ⟨h1,h2⟩:=ha.get
 intro w S μ vs g hk hl
 refine h w S μ vs g hk ⟨hl.1.trans h1,fun j c v hc hv=>?_⟩
 obtain ⟨x,hx,ub⟩:=h2 j c hc
 exact ub _ _ _ _ (hl.2 j x v hx hv)
def q0 (k:IntKind) (a b:Int):Int:=k.wrap (BitVec.ofInt k.bits a ||| BitVec.ofInt k.bits b).toNat
def Gz (k:IntKind) (a b:Int):Int:=k.wrap (BitVec.ofInt k.bits a &&& BitVec.ofInt k.bits b).toNat
def fh (k:IntKind) (a b:Int):Int:=k.wrap (a * 2 ^ (min b.toNat k.bits))
def mH (k:IntKind) (a b:Int):Int:=a.fdiv (2 ^ (min b.toNat k.bits))
theorem cM {n:Int} {m:Nat} (h:0≤n∧n < (m:Int)):n.toNat < m:=by omega
theorem jR {a b:Bool} (h:a=true) (k:b=true):(a && b)=true:=by rw [h,k];rfl
theorem pz {α:Type} (c:α→List AV) (d x:α) (n i:Nat) (hi:i < (List.replicate n x).length):c ((List.replicate n x).getD i d)=c x:=by
 simp_all
theorem mI {α:Type} (c:α→List AV) (d x:α) (n i:Nat) {z:List AV} (h:FN z (c x)) (hi:i < (List.replicate n x).length):FN z (c ((List.replicate n x).getD i d)):=by simp_all
theorem BD {α:Type} (c:α→List AV) (d:α) (l:List α) (a b i:Nat) (hi:i < ((l.take b).drop a).length):c (((l.take b).drop a).getD i d)=c (l.getD (a8 a i) d):=by
 have h1:a+i < min b l.length:=by simp at hi;omega
 rw [cl]
 grind
theorem bE {α:Type} (c:α→List AV) (d:α) (l:List α) (i:Nat) (hi:i < l.length):c (l.getD i d)=(l.map c).getD i []:=by
 simp_all
theorem M5 {α:Type} (l:List α) (a b:Nat) (h1:a≤b) (h2:b≤l.length):b - a=((l.take b).drop a).length:=by simp;omega
theorem vn {α:Type} (l:List α) (a b:Nat) (h1:a≤b∧b≤l.length):b - a=((l.take b).drop a).length:=M5 l a b h1.1 h1.2
end Go.Ab
namespace Go.Ab
theorem condSplit {α:Type} {q:Bool} {x y r:α} (h:cond q x y=r):(q=true∧x=r)∨(q=false∧y=r):=by grind
theorem bk {α:Type} (c:α→List AV) (d:α) (l m:List α) {n:Nat} {g1 g2:Nat→List AV} (hn:n=l.length) (h1:∀ z,z < l.length→c (l.getD z d)=g1 z)
  (h2:∀ z,z < m.length→c (m.getD z d)=g2 z) (i:Nat) (hi:i < (l ++ m).length):c ((l ++ m).getD i d)=if i < n then g1 i else g2 (i - n):=by
 grind
theorem aw {α:Type} {l m:List α} {n k:Nat} (hn:n=l.length) (hk:k=m.length):n+k=(l ++ m).length:=by subst hn hk;simp
theorem vo {α:Type} (c:α→List AV) (d:α) (l:List α) (k:Nat) (x:α) {g:Nat→List AV} (h1:∀ z,z < l.length→c (l.getD z d)=g z) (i:Nat) (hi:i < (l.set k x).length) :
  c ((l.set k x).getD i d)=if i=k then c x else g i:=by
 grind
theorem ld {α:Type} {l:List α} {n k:Nat} {x:α} (hn:n=l.length):n=(l.set k x).length:=by subst hn;simp
def kp:List Nat→List (Nat×Wd)
 | []=>[]
 | t :: r=>(t,.af) :: kp r
def kq:List Nat→xq
 | []=>[]
 | k :: r=>(k,.af k) :: kq r
def vO (n:Nat) (cs:List AV):Ob:=⟨true,n,1,true,fun _=>cs⟩
def vN (n:Nat) (cs:List AV):Ob:=⟨true,n,1,false,fun _=>cs⟩
def aO {α:Type} (sz:Nat) (c:α→List AV) (d:α) (l:List α):Ob:=⟨false,sz,l.length,true,fun zi=>c (l.getD zi d)⟩
def Ov:Nat→Nat→List Bool→List Bool
 | 0,_,acc=>acc
 | k+1,n,acc=>match Nat.ble n 1 with
  | true=>acc
  | false=>Ov k (n / 2) (Nat.beq (n % 2) 1 :: acc)
def Wh (n:Nat):List Bool:=Ov 400 n []
theorem o1:0 < 1:=Nat.one_pos
theorem z0 {n:Nat}:0+n≤n:=Nat.le_of_eq (Nat.zero_add _)
section
variable {P:Program} {E:Env} {fn:FuncId} {nt:Nat} {cK:Value→World→Prop} {k:List Item} {st:St} {m:Nat}
theorem az.sA (n:Nat) (k':List Item) (hr:az P E fn nt cK k' st) (h:Ab.Cp n k=some k':=by kernel_rfl):az P E fn nt cK k st:=az.Cp n h hr
theorem az.sC {c:Code} (t:Nat) (x y:Code) (q:Bool) (h1:q=true→az P E fn nt cK (.code x :: k) st) (h2:q=false→az P E fn nt cK (.code y :: k) st) (hx:c=.cond (.tmp t) x y:=by kernel_rfl) (hc:vd st.tm (.tmp t)=.atom (.bool q):=by kernel_rfl) :
  az P E fn nt cK (.code c :: k) st:=az.Ot hx hc h1 h2
theorem az.sT {c:Code} (f:Func) (ks:List Nat) (ps:List Prop) {res:AV} {dm:cz} (hp:aV ps) (hx:c=.ret:=by kernel_rfl) (hf:P.funcs[fn]?=some f:=by kernel_rfl) (h:vk P f st=some (ps,res):=by kernel_rfl)
  (HG:yp st.mc ks=dm:=by rfl):az P E fn nt (aQ E dm res) (.code c :: k) st:=az.Ta ks hx hf h HG hp
theorem az.sF (f:Func) (ks:List Nat) (ps:List Prop) {res:AV} {dm:cz} (hp:aV ps) (hf:P.funcs[fn]?=some f:=by kernel_rfl) (h:vk P f st=some (ps,res):=by kernel_rfl)
  (HG:yp st.mc ks=dm:=by rfl):az P E fn nt (aQ E dm res) [] st:=az.Tb ks hf h HG hp
def nK (n:Nat) (k:List Item):List Item:=match Ab.Cp n k with
 | some k'=>k'
 | none=>[]
def Mf:List Item→Code
 | .code c :: _=>c
 | _=>.ret
def R0:List Item→List Item
 | _ :: k=>k
 | []=>[]
def U0:Code→Code
 | .cond _ x _=>x
 | c=>c
def U1:Code→Code
 | .cond _ _ y=>y
 | c=>c
def Lf (n:Nat) (k:List Item):Bool:=match Ab.Cp n k with
 | some (.code _ :: _)=>true
 | _=>false
def nS (P:Program) (nt m:Nat) (c:Code) (orcs:List (Nat×l8)) (F:List Nat) (uQ:List (Nat×Wd)) (dR:xq) (nk:Nat) (st:St):St:=match Gy P nt m c orcs F uQ dR nk st with
 | some x=>x.2
 | none=>st
def nV (m:Nat) (st:St) (F:List Nat) (uQ:List (Nat×Wd)) (dR:xq) (nk:Nat):St:=match Dx m st F uQ dR nk with
 | some x=>x.2
 | none=>st
def Lg:Option (List Prop×St)→Option (List Prop)
 | some x=>some x.1
 | none=>none
theorem E8 {n:Nat} {k:List Item} (h:Lf n k=true):Ab.Cp n k=some (.code (Mf (nK n k)) :: R0 (nK n k)):=by
 unfold Lf at h
 unfold nK
 split at h
 ·rename_i c k' h1;rw [h1];rfl
 ·cases h
theorem wm {x:Option (List Prop×St)} {ps:List Prop} (h:Lg x=some ps):∃ s,x=some (ps,s):=by
 cases x with
 | none=>cases h
 | some y=>cases h;exact ⟨y.2,rfl⟩
theorem ae (hE:a3 E m) (n:Nat) (orcs:List (Nat×l8)) (F:List Nat) (uQ:List (Nat×Wd)) (dR:xq) (nk:Nat) {ps:List Prop} (hp:aV ps)
  (hr:az P E fn nt cK (R0 (nK n k)) (nS P nt m (Mf (nK n k)) orcs F uQ dR nk st)) (h0:Lf n k=true:=by kernel_rfl)
  (h:Lg (Gy P nt m (Mf (nK n k)) orcs F uQ dR nk st)=some ps:=by kernel_rfl) (hF:(((F.isEmpty && ue orcs) || Nat.beq m 0) && Qb orcs)=true:=by kernel_rfl):az P E fn nt cK k st:=by
 obtain ⟨s,hs⟩:=wm h
 refine az.Cp n (E8 h0) (az.rw hE hs (x6.1 hF).1 (E5 (x6.1 hF).2) hp ?_)
 grind [nS,Mf,nK]
theorem b5 (hE:a3 E m) (n:Nat) (F:List Nat) (uQ:List (Nat×Wd)) (dR:xq) (nk:Nat) {ps:List Prop} (hp:aV ps) {k':List Item} {zE:St} (hr:az P E fn nt cK k' zE)
  (h0:Ab.Cp n k=some k':=by kernel_rfl) (h:Dx m st F uQ dR nk=some (ps,zE):=by kernel_rfl) (hF:(F.isEmpty || Nat.beq m 0)=true:=by kernel_rfl):az P E fn nt cK k st :=
 az.Cp n h0 (az.wk hE h hF hp hr)
theorem Lh (hE:a3 E m) (F:List Nat) (uQ:List (Nat×Wd)) (dR:xq) (nk:Nat) {ps:List Prop} (hp:aV ps) (hr:az P E fn nt cK k (nV m st F uQ dR nk))
  (h:Lg (Dx m st F uQ dR nk)=some ps:=by kernel_rfl) (hF:(F.isEmpty || Nat.beq m 0)=true:=by kernel_rfl):az P E fn nt cK k st:=by
 grind [wm,nV,az.wk]
theorem ct (n t:Nat) {R:Type} {q:Bool} {x y r:R} (h:(bif q then x else y)=r) (h1:q=true→x=r→az P E fn nt cK (.code (U0 (Mf (nK n k))) :: R0 (nK n k)) st)
  (h2:q=false→y=r→az P E fn nt cK (.code (U1 (Mf (nK n k))) :: R0 (nK n k)) st) (h0:Lf n k=true:=by kernel_rfl)
  (hx:Mf (nK n k)=.cond (.tmp t) (U0 (Mf (nK n k))) (U1 (Mf (nK n k))):=by kernel_rfl) (hc:vd st.tm (.tmp t)=.atom (.bool q):=by kernel_rfl):az P E fn nt cK k st :=
 az.Cp n (E8 h0) (az.Ot hx hc (fun hq=>h1 hq (by rw [hq] at h;exact h)) (fun hq=>h2 hq (by rw [hq] at h;exact h)))
theorem bV (hE:a3 E m) (n:Nat) (f:Func) (F:List Nat) (uQ:List (Nat×Wd)) (dR:xq) (nk:Nat) {ps:List Prop} (hp:aV ps) (ks:List Nat) {Oh:List Prop} (wE:aV Oh) {res:AV} {dm:cz}
  (h0:Lf n k=true:=by kernel_rfl) (hx:Mf (nK n k)=.ret:=by kernel_rfl) (h:Lg (Dx m st F uQ dR nk)=some ps:=by kernel_rfl) (hf:P.funcs[fn]?=some f:=by kernel_rfl)
  (h2:vk P f (nV m st F uQ dR nk)=some (Oh,res):=by kernel_rfl) (HG:yp (nV m st F uQ dR nk).mc ks=dm:=by kernel_rfl) (hF:(F.isEmpty || Nat.beq m 0)=true:=by kernel_rfl):az P E fn nt (aQ E dm res) k st:=by
 obtain ⟨s,hs⟩:=wm h
 have e:nV m st F uQ dR nk=s:=by unfold nV;rw [hs]
 rw [e] at h2 HG
 exact az.Cp n (E8 h0) (az.wk hE hs hF hp (az.sT f ks Oh wE hx hf h2 HG))
theorem Tc (hE:a3 E m) (n:Nat) (f:Func) (F:List Nat) (uQ:List (Nat×Wd)) (dR:xq) (nk:Nat) {ps:List Prop} (hp:aV ps) (ks:List Nat) {Oh:List Prop} (wE:aV Oh) {res:AV} {dm:cz}
  (h0:Ab.Cp n k=some []:=by kernel_rfl) (h:Lg (Dx m st F uQ dR nk)=some ps:=by kernel_rfl) (hf:P.funcs[fn]?=some f:=by kernel_rfl)
  (h2:vk P f (nV m st F uQ dR nk)=some (Oh,res):=by kernel_rfl) (HG:yp (nV m st F uQ dR nk).mc ks=dm:=by kernel_rfl) (hF:(F.isEmpty || Nat.beq m 0)=true:=by kernel_rfl):az P E fn nt (aQ E dm res) k st:=by
 grind [wm,nV,az.Cp,az.wk,az.sF]
def QY (st:St) (k i sz len:Nat) (g:Nat→List AV):Option (List Prop) :=
 match ar st.mc k with
 | some o=>match o.var with
  | false=>some [i < o.len,o.get i=[.mr sz len g]]
  | true=>none
 | none=>none
def U2 (st:St) (k i sz len:Nat) (g:Nat→List AV):St :=
 match ar st.mc k with
 | some o=>⟨st.tm,sset (sset st.mc k ⟨false,o.sz,o.len,false,fun m=>if m=i then [.os st.nk 0 len] else o.get m⟩) st.nk ⟨false,sz,len,true,g⟩,st.nk+16⟩
 | none=>st
theorem M6 (k1 i sz len:Nat) (g:Nat→List AV) {ps:List Prop} (hp:aV ps) (hr:az P E fn nt cK k (U2 st k1 i sz len g)) (h:QY st k1 i sz len g=some ps:=by kernel_rfl):az P E fn nt cK k st:=by
 refine fun tm w h1 h2=>hr tm w h1 ?_
 obtain ⟨S,μ,g0,hk,hm,ht⟩:=h2
 unfold QY at h
 unfold U2
 cases ho:ar st.mc k1 with
 | none=>rw [ho] at h;cases h
 | some o =>
  rw [ho] at h
  simp only at h ⊢
  cases hv:o.var with
  | true=>rw [hv] at h;cases h
  | false =>
   rw [hv] at h
   simp only [aA] at h
   subst h
   obtain ⟨p1,p2,_⟩:=hp
   obtain ⟨q,e1,e2⟩:=g0.VE (hk st.nk (a7 _)) hm ho (iX (x:=(sz,len,g)) hv p1 p2)
   exact ⟨S,bz μ st.nk q,e2,fun n hn=>by
    have hn:st.nk+16≤n:=hn
    unfold bz;grind,by grind,fun t=>(ht t).ext e1⟩
def QZ (st:St) (k q i:Nat):Option (List Prop) :=
 match EZ st.mc k q i with
 | some x=>some x.1
 | none=>none
def U3 (st:St) (k q i:Nat):St :=
 match EZ st.mc k q i with
 | some x=>⟨st.tm,dL st.mc x.2,st.nk⟩
 | none=>st
theorem Li (k1 q i:Nat) {ps:List Prop} (hp:aV ps) (hr:az P E fn nt cK k (U3 st k1 q i)) (h:QZ st k1 q i=some ps:=by kernel_rfl):az P E fn nt cK k st:=by
 refine fun tm w h1 h2=>hr tm w h1 ?_
 obtain ⟨S,μ,g0,hk,hm,ht⟩:=h2
 unfold QZ at h
 unfold U3
 cases hc:EZ st.mc k1 q i with
 | none=>rw [hc] at h;cases h
 | some x =>
  rw [hc] at h
  simp only [aA] at h
  subst h
  exact ⟨S,μ,Ee hc hp g0,hk,hm,ht⟩
def mR {α:Type} (sz:Nat) (c:α→List AV) (d:α) (l:List α):List AV:=[.mr sz l.length (fun i=>c (l.getD i d))]
def aM {α:Type} (sz:Nat) (c:α→List AV) (d:α) (l:List (List α)):Ob:=⟨false,1,l.length,false,fun m=>mR sz c d (l.getD m [])⟩
theorem yq {α:Type} {sz:Nat} {c:α→List AV} {d:α} (E:List (List α)) (i q n:Nat) (row:List α) (r:List (Nat×Nat×Nat)) (hi:i < E.length) (hr:∀ x∈r,x.1≠i) :
  ∀ m,m < (E.set i row).length→aJ r (fun m=>mR sz c d ((E.set i row).getD m [])) m=if m=i then mR sz c d row else aJ ((i,q,n) :: r) (fun m=>mR sz c d (E.getD m [])) m:=by
 intro m _
 have gen:∀ (r:List (Nat×Nat×Nat)),m≠i→aJ r (fun m=>mR sz c d ((E.set i row).getD m [])) m=aJ r (fun m=>mR sz c d (E.getD m [])) m:=by
  intro r hm
  induction r with
  | nil=>simp only [aJ,ft];rw [List.getElem?_set_ne (fun h=>hm h.symm)]
  | cons x r ih =>
   grind [aJ]
 by_cases hm:m=i
 ·subst hm
  rw [if_pos rfl]
  clear gen
  induction r with
  | nil=>simp only [aJ,ft];rw [List.getElem?_set_self hi];rfl
  | cons x r ih =>
   obtain ⟨a,b,e⟩:=x
   have h1:m≠a:=fun h=>hr (a,b,e) List.mem_cons_self h.symm
   simp_all [aJ,if_neg,List.mem_cons_of_mem]
 simp_all [if_neg,aJ]
theorem sm {α:Type} {sz:Nat} {c:α→List AV} {d:α} (E:List (List α)) (i q n:Nat) (r:List (Nat×Nat×Nat)) (hr:∀ x∈r,x.1≠i) :
  ∀ m,m < E.length→aJ r (fun m=>mR sz c d (E.getD m [])) m=if m=i then mR sz c d (E.getD i []) else aJ ((i,q,n) :: r) (fun m=>mR sz c d (E.getD m [])) m:=by
 intro m _
 by_cases hm:m=i
 ·subst hm
  rw [if_pos rfl]
  induction r with
  | nil=>rfl
  | cons x r ih =>
   obtain ⟨a,b,e⟩:=x
   have h1:m≠a:=fun h=>hr (a,b,e) List.mem_cons_self h.symm
   simp_all [aJ,if_neg,List.mem_cons_of_mem]
 simp_all [if_neg,aJ]
theorem Lj {α:Type} {sz:Nat} {c:α→List AV} {d:α} (E:List (List α)) (i q n:Nat) (row:List α) (r:List (Nat×Nat×Nat)) (he:E.getD i []=row) (hr:∀ x∈r,x.1≠i) :
  ∀ m,m < E.length→aJ r (fun m=>mR sz c d (E.getD m [])) m=if m=i then mR sz c d row else aJ ((i,q,n) :: r) (fun m=>mR sz c d (E.getD m [])) m:=by
 subst he;exact sm E i q n r hr
theorem ox {α:Type} (E:List (List α)) (row:List α):(E ++ [row]).getD E.length []=row:=by simp
theorem Po {α:Type} (E:List α) (row:α):E.length < (E ++ [row]).length:=by simp
theorem M7 {α:Type} {sz:Nat} {c:α→List AV} {d:α} (E:List (List α)) (row:List α) {q n n2:Nat} {b:Nat→List AV} (h:n=n2) (hb:b 0=[.os q 0 n]) :
  ∀ m,m < (E ++ [row]).length→aJ [(E.length,q,n2)] (fun m=>mR sz c d ((E ++ [row]).getD m [])) m=if m < E.length then mR sz c d (E.getD m []) else b (m - E.length):=by
 intro m hm
 subst h
 simp only [kU,List.length_singleton] at hm
 simp only [aJ]
 grind
theorem M8 {b:Nat→List AV} {i1:Nat} (i k n n1 N:Nat) (h1:i1=i):∀ m,m < N→aJ [(i,k,n1)] b m=if m=i1 then [.os k 0 n1] else aJ [(i,k,n)] b m:=by
 grind [aJ]
theorem gO {c:Prop} [Decidable c] {x:AV} {l:List AV} (h:c):(if c then [x] else l)[0]?=some x:=by rw [if_pos h];rfl
theorem Cq {i:Nat}:∀ x∈([]:List (Nat×Nat×Nat)),x.1≠i:=fun _ h=>by simp at h
theorem Td {i j k n:Nat} {r:List (Nat×Nat×Nat)} (h:j≠i) (hr:∀ x∈r,x.1≠i):∀ x∈(j,k,n) :: r,x.1≠i:=fun x hx=>by
 grind
theorem pc {p:Prop} {ps:List Prop} (h:p) (t:aV ps):aV (p :: ps):=⟨h,t⟩
theorem pn:aV []:=trivial
theorem z1 (n:Nat):0+n≤n:=z0
theorem bS {α:Type} (c:α→List AV) (d:α) (l:List α) (k:Nat) (x:α) (i:Nat) (hi:i < (l.set k x).length):c ((l.set k x).getD i d)=if i=k then c x else (fun zi=>c (l.getD zi d)) i :=
 vo c d l k x (fun _ _=>rfl) i hi
theorem ay {α:Type} (l:List α) (k:Nat) (x:α):l.length=(l.set k x).length:=ld rfl
end
section
variable {P:Program} {kt:TypeId} {A B:Type} (ck:A→AV) (cv:B→AV) {eq:A→A→Bool} (h:∀ a b,wZ P kt (ck a) (ck b)=some (eq a b))
include h
end
def wI (x:Int):Prop:=-9223372036854775808≤x∧x≤9223372036854775807
def wK (k:IntKind) (x:Int):Prop:=k.min≤x∧x≤k.max
def wB (_:Bool):Prop:=True
def wS (s:ByteArray):Prop:=s.size≤9223372036854775807
def wL {A:Type} (wf:A→Prop) (l:List A):Prop:=l.length≤9223372036854775807∧∀ y,y∈l→wf y
def jD {α:Type} (l:List α) (i j:Nat):List α:=l.take i ++ l.drop j ++ l.drop (i+(l.length - j))
theorem Fa {α:Type} {l:List α} {i j:Nat} (h:i≤j∧j≤l.length):l.length=(jD l i j).length:=by simp [jD];omega
theorem IP {α:Type} (c:α→List AV) (d:α) (l:List α) (i j:Nat) (h:i≤j∧j≤l.length) (z:Nat) (hz:z < (jD l i j).length) :
  c ((jD l i j).getD z d)=if z < i - 0 then c (l.getD z d) else if z < (i - 0)+(l.length - j) then c (l.getD (a8 j (z - (i - 0))) d) else c (l.getD z d):=by
 have hz:=Fa h ▸ hz
 have e1:(l.take i).length=i:=by simp;omega
 have e2:(l.take i ++ l.drop j).length=i+(l.length - j):=by simp;omega
 simp only [jD,Nat.sub_zero,ft,cl]
 grind
theorem Fb {α:Type} {l:List α} {a n:Nat} (h:0 < n∧a+n≤l.length):a=(l.take a).length:=by simp;omega
theorem Lk {α:Type} (c:α→List AV) (d:α) (l:List α) (a z:Nat) (hz:z < (l.take a).length):c ((l.take a).getD z d)=c (l.getD z d):=by
 grind
def Ll:Nat→List AV
 | 0=>[]
 | n+1=>.k6 :: Ll n
theorem M9 (n:Nat):(Ll n).length=n:=by induction n with
 | zero=>rfl
 | succ n ih=>simp [Ll,ih]
theorem IQ {n j:Nat} {x:AV} (h:(Ll n)[j]?=some x):x=.k6:=by
 induction n generalizing j with
 | zero=>simp [Ll] at h
 | succ n ih=>grind [Ll]
theorem az.split {P:Program} {E:Env} {fn:FuncId} {nt:Nat} {cK:Value→World→Prop} {kk:List Item} {s0:St} (t k off m:Nat) (o:Ob) (ht:cW s0.tm t=.os k off m) (ho:ar s0.mc k=some o) (hv:(!o.var && Nat.ble 1 o.sz)=true) (hm:a8 off m=o.len)
  (h1:az P E fn nt cK kk ⟨s0.tm,sset s0.mc k ⟨false,o.sz,a8 off m+1,o.pr,fun i=>if i < a8 off m then o.get i else Ll o.sz⟩,s0.nk⟩)
  (h2:az P E fn nt cK kk ⟨(t,.za k off m) :: s0.tm,s0.mc,s0.nk⟩):az P E fn nt cK kk s0:=by
 intro tm w hs hr b hb hk cs
 obtain ⟨S,μ,g,mE,qW,QW⟩:=hr
 simp only [aR,Bool.not_eq_true',Nat.ble_eq] at hv
 have Q1:=QW t
 rw [show cW s0.tm t=_ from ht] at Q1
 generalize Gx:tm.getD t undef=v at Q1
 cases Q1 with
 | os pl rn q1 q2 q3 =>
  rename_i cap a
  obtain ⟨hH,c,T,M3,b9⟩:=g.rep.ob k o ho
  rw [rn] at M3;cases M3
  have ez:a8 off m=off+m:=cl _ _
  by_cases hc:m < cap
  ·have ta:0 < pl.cap:=by omega
   have gw:=g.write ho rn ta b9 (by omega) ⟨false,o.sz,a8 off m+1,o.pr,fun i=>if i < a8 off m then o.get i else Ll o.sz⟩ c rfl rfl (show a8 off m+1≤pl.cap by omega) (fun i hi=>by
    show (if i < a8 off m then o.get i else Ll o.sz).length=o.sz
    split
    ·exact b9.qK i (by omega)
    ·exact M9 _) (fun i j x v hi hx hv=>by
    have hx:(if i < a8 off m then o.get i else Ll o.sz)[j]?=some x:=hx
    split at hx
    ·exact b9.rep i j x v (by omega) hx hv
    ·rw [IQ hx];exact .k6) (fun i x hx=>⟨(by
    obtain ⟨_,r2,r3⟩:=ca hx
    have r3:(if i < a8 off m then o.get i else Ll o.sz)=[.mr x.1 x.2.1 x.2.2]:=r3
    split at r3
    ·grind [iX]
    ·have:=IQ (n:=o.sz) (j:=0) (x:=.mr x.1 x.2.1 x.2.2) (by rw [r3];rfl)
     cases this),rfl⟩)
   have hw:w.setRow pl.bR c=w:=setRow_self w pl.bR c T (0,0) ((b9.bR ta).trans (by grind [dS]))
   rw [hw] at gw
   exact h1 tm w hs ⟨S,μ,gw.2,mE,qW,QW⟩ b hb hk cs
  ·have:cap=m:=by omega
   subst this
   refine h2 tm w hs ⟨S,μ,g,mE,qW,fun t'=>?_⟩ b hb hk cs
   show an w S μ (tm.getD t' undef) (cW ((t,.za k off cap) ::  s0.tm) t')
   simp only [cW]
   split
   ·rename_i hb
    rw [← bj hb,Gx]
    exact .za pl rn q1 q3
   ·exact QW t'
end Go.Ab
namespace Go.Ab
open Go.ChangeShapes Go.WideShapes Go.ChangeAt Go.RowKit
def Fc (w:World) (b:Nat):Prop:=b < w.heap.size
def zc (w:World) (cs:List Value) (c:List AV):Prop :=
 cs.length=c.length∧∀ (j:Nat) (a:AV) (v:Value),c[j]?=some a→cs[j]?=some v→an w (Fc w) fw v a
theorem zc.nil {w:World}:zc w [] []:=⟨rfl,fun j a v h=>by simp at h⟩
theorem zc.append {w:World} {a b:List Value} {c d:List AV} (h1:zc w a c) (h2:zc w b d):zc w (a ++ b) (c ++ d):=by
 refine ⟨by simp [h1.1,h2.1],fun j x v hx hv=>?_⟩
 by_cases hj:j < a.length
 ·rw [gH (by rw [← h1.1];exact hj)] at hx
  rw [gH hj] at hv
  exact h1.2 j x v hx hv
 ·rw [iW (by rw [← h1.1];omega)] at hx
  rw [iW (by omega)] at hv
  rw [← h1.1] at hx
  exact h2.2 _ x v hx hv
theorem zc.step {w:World} {cs:List Value} {o n:Nat} {c d:List AV} (h1:zc w ((cs.drop o).take n) c) (h2:zc w (cs.drop (o+n)) d):zc w (cs.drop o) (c ++ d):=by
 have e:cs.drop o=(cs.drop o).take n ++ cs.drop (o+n):=by rw [← List.drop_drop];exact (List.take_append_drop n _).symm
 rw [e];exact h1.append h2
theorem zc.done {w:World} {cs:List Value} {o:Nat} (h:cs.length=o):zc w (cs.drop o) []:=by
 rw [List.drop_of_length_le (by omega)];exact .nil
theorem zc.one {w:World} {v:Value} {a:AV} (h:an w (Fc w) fw v a):zc w [v] [a]:=by
 refine ⟨rfl,fun j x u hx hu=>?_⟩
 cases j with
 | zero=>simp at hx hu;subst hx hu;exact h
 | succ j=>simp at hx
def fH (P:Program) (t:TypeId) {A:Type} (wf:A→Prop) (c:A→List AV):Prop :=
 ∀ (H:Type) (enc:TypeId×Value→H) (w:World) (n:Nat) (cs:List Value) (x:DataW H×List MemPlace),DataW.trod enc P w 0 (fun _=>true) true n t cs=some x→∃ y:A,wf y∧zc w cs (c y)
variable {P:Program} {t e:TypeId}
theorem fH.int (ht:P.underlying t=some (.int .i64)):fH P t wI cI:=by
 intro H enc w n cs x h
 obtain ⟨n,rfl,_,hw⟩:=DataW.trod_int ht h
 refine ⟨n,?_,zc.one (.atom _)⟩
 simp [Lit.wf,IntKind.min,IntKind.max,IntKind.signed,IntKind.bits] at hw
 exact ⟨by omega,by omega⟩
theorem fH.Te {k:IntKind} (ht:P.underlying t=some (.int k)):fH P t (wK k) (cU k):=by
 intro H enc w n cs x h
 obtain ⟨n,rfl,_,hw⟩:=DataW.trod_int ht h
 refine ⟨n,?_,zc.one (.atom _)⟩
 simp [Lit.wf] at hw
 exact ⟨hw.1,hw.2⟩
theorem fH.bool (ht:P.underlying t=some .bool):fH P t wB cB:=by
 intro H enc w n cs x h
 obtain ⟨b,rfl,_⟩:=DataW.trod_bool ht h
 exact ⟨b,trivial,zc.one (.atom _)⟩
theorem fH.str (ht:P.underlying t=some .string):fH P t wS cS:=by
 intro H enc w n cs x h
 obtain ⟨s,rfl,_,hs⟩:=DataW.trod_string ht h
 refine ⟨s,?_,zc.one (.atom _)⟩
 unfold maxLen at hs;unfold wS;omega
theorem GA {a:Addr} (h:a.spot=none) (n:Nat):a.add n=⟨a.block,a.off+n,none⟩:=by
 obtain ⟨b,o,s⟩:=a
 simp only at h;subst h
 unfold Addr.add
 by_cases h:n=0<;>simp [h]
theorem fH.slice {A:Type} {wf:A→Prop} {c:A→List AV} (d:A) (ht:P.underlying t=some (.slice e)) (he:fH P e wf c) {sz:Nat} (hs:P.cellsOf e=sz) (hz:0 < sz) (hc:∀ y,(c y).length=sz) :
  fH P t (wL wf) (fun l=>[aD c d l]):=by
 intro H enc w n cs x h
 rcases Go.Deep.open_slice ht h with ⟨rfl,_⟩ | ⟨a,len,cap,m,k,D,Pl,rfl,_,Wi,Wj,hm,_,hx⟩
 ·refine ⟨[],⟨by simp,by simp⟩,zc.one ?_⟩
  exact .sl 0 0 0 (fun _ _=>default) (fun h=>absurd h (iw _)) (fun i h=>absurd h (iw _)) (fun i j h=>absurd h (iw _)) (fun i j c h=>absurd h (iw _)) (a7 _)
 ·simp only [if_true] at hm
  subst hm
  rw [hs] at hx
  have ub:∀ i,i < len→∃ z:List Value×A,w.cells? 0 (a.add (i * sz)) sz=some z.1∧wf z.2∧zc w z.1 (c z.2):=fun i hi=>by
   obtain ⟨D7,h1,h2⟩:=hx i (by omega)
   obtain ⟨y,hy,D1⟩:=he H enc w k D7 _ h2
   exact ⟨(D7,y),h1,hy,D1⟩
  haveI:Inhabited (List Value×A):=⟨([],d)⟩
  obtain ⟨Z,hZ⟩:=Go.Deep.choose_lt ub
  have hlen:((List.range len).map fun i=>(Z i).2).length=len:=by simp
  have nR:∀ i,i < len→((List.range len).map fun i=>(Z i).2).getD i d=(Z i).2:=fun i hi=>by
   simp [List.getD,hi]
  have Az:∀ i j,i < len→j < sz→w.cell? ((a.add (i * sz)).add j)=some ((Z i).1.getD j default):=fun i j hi hj=>by
   obtain ⟨_,hl,hg⟩:=World.cells?_some (hZ i hi).1
   rw [hg j hj]
   have:j < (Z i).1.length:=by omega
   simp [List.getD,this]
  have Lm:0 < len→a.spot=none∧a.block < w.heap.size:=fun h0=>by
   have:=Az 0 0 h0 hz
   simp only [Nat.zero_mul,Addr.add,if_true] at this
   unfold World.cell? at this
   split at this
   ·rename_i cc tt ff hh
    refine ⟨?_,(Array.getElem?_eq_some_iff.1 hh).1⟩
    cases hs:a.spot with
    | none=>rfl
    | some z=>simp [hs] at this
   ·cases this
  refine ⟨(List.range len).map fun i=>(Z i).2,⟨by rw [hlen];unfold maxLen at Wj;omega,?_⟩,zc.one ?_⟩
  ·intro y hy
   simp only [List.mem_map,List.mem_range] at hy
   obtain ⟨i,hi,rfl⟩:=hy
   exact (hZ i hi).2.1
  ·unfold aD
   rw [hlen]
   refine .sl a.block a.off sz (fun i j=>(Z i).1.getD j default) (fun h0=>⟨?_,(Lm h0).2⟩) (fun i hi=>hc _) (fun i j hi hj=>?_) (fun i j x hi hx=>?_) Wi
   ·have:=(Lm h0).1
    obtain ⟨b,o,s⟩:=a
    simp only at this;subst this;rfl
   ·have h0:=(Lm (by omega)).1
    have:=Az i j hi hj
    rwa [GA h0,GA rfl] at this
   ·rw [nR i hi] at hx
    have hj:j < (c (Z i).2).length:=(cJ.1 hx).1
    have Qa:j < (Z i).1.length:=by rw [(hZ i hi).2.2.1];exact hj
    refine (hZ i hi).2.2.2 j x _ hx ?_
    simp [List.getD,Qa]
theorem p8 {H:Type} {enc:TypeId×Value→H} {w:World} {fs:Array Field} {n:Nat} {cs:List Value} {x:DataW H×List MemPlace} (ht:P.underlying t=some (.struct fs)) (h:DataW.trod enc P w 0 (fun _=>true) true n t cs=some x) :
  cs.length=P.cellsOf t∧∃ m,∀ (i:Nat) (f:Field),fs[i]?=some f→∃ y,DataW.trod enc P w 0 (fun _=>true) true m f.type ((cs.drop f.offset).take (P.cellsOf f.type))=some y:=by
 obtain ⟨xs,m,_,_,hl,hx,hf⟩:=DataW.trod_struct ht h
 refine ⟨hl,m,fun i f hi=>?_⟩
 rw [hf i f hi]
 have:i < xs.length:=by rw [hx];exact (Array.getElem?_eq_some_iff.1 hi).1
 exact ⟨xs[i],n7 this⟩
theorem l4 {H:Type} {enc:TypeId×Value→H} {w:World} {fs:Array Field} {m:Nat} {cs:List Value} (hf:∀ (i:Nat) (f:Field),fs[i]?=some f→∃ y,DataW.trod enc P w 0 (fun _=>true) true m f.type ((cs.drop f.offset).take (P.cellsOf f.type))=some y)
  (i:Nat) {te:TypeId} (o n:Nat) {A:Type} {wf:A→Prop} {c:A→List AV} (he:fH P te wf c) (hi:(fs[i]?).map (fun (f:Field)=>(f.type,f.offset))=some (te,o)) (hn:P.cellsOf te=n):∃ y:A,wf y∧zc w ((cs.drop o).take n) (c y):=by
 simp only [aE,ax] at hi
 obtain ⟨f,Wk,Wl,Wm⟩:=hi
 obtain ⟨y,hy⟩:=hf i f Wk
 rw [Wl,Wm,hn] at hy
 exact he H enc w m _ y hy
section
variable {H:Type} {enc:TypeId×Value→H} {w:World} {base:Nat} {v:Value} {d:DataW H} {ps:List MemPlace} {A:Type} {wf:A→Prop}
theorem Na {g:A→AV} (ho:fH P t wf (fun l=>[g l])) (hv:v.cells=#[v]) (h:DataW.Trod enc P w 0 (fun _=>true) true t v d ps):∃ y,wf y∧an w (Fc w) fw v (g y):=by
 obtain ⟨n,hn⟩:=h
 rw [hv] at hn
 obtain ⟨y,hy,hs⟩:=ho H enc w n _ _ hn
 exact ⟨y,hy,hs.2 0 _ _ rfl rfl⟩
theorem Ln {g:A→AV} (ht:P.underlying t=some (.slice e)) (ho:fH P t wf (fun l=>[g l])) (hv:Value.okWide P w .any base t v) (h:DataW.Trod enc P w 0 (fun _=>true) true t v d ps):∃ y,wf y∧an w (Fc w) fw v (g y):=by
 obtain ⟨a,l,c,rfl⟩:=okWide_slice ht hv
 exact Na ho rfl h
theorem Et {fs:Array Field} {c:A→List AV} (ht:P.underlying t=some (.struct fs)) (ho:fH P t wf c) (hv:Value.okWide P w .any base t v) (h:DataW.Trod enc P w 0 (fun _=>true) true t v d ps):∃ y,wf y∧an w (Fc w) fw v (.agg (c y)):=by
 obtain ⟨cs,rfl,_⟩:=okWide_struct ht hv
 obtain ⟨n,hn⟩:=h
 obtain ⟨y,hy,hs⟩:=ho H enc w n _ _ hn
 refine ⟨y,hy,.agg (by simpa [Value.cells] using hs.1) fun j x u hx hu=>hs.2 j x u hx (by simpa [Value.cells] using hu)⟩
theorem RL.nil {S:Nat→Prop} {μ:Mu}:RL w S μ #[] []:=⟨rfl,fun j c v h=>by simp at h⟩
theorem Wn {S:Nat→Prop} {μ:Mu} {v0 v1 v2:Value} {a0 a1 a2:AV} (h0:an w S μ v0 a0) (h1:an w S μ v1 a1) (h2:an w S μ v2 a2):RL w S μ #[v0,v1,v2] [a0,a1,a2]:=by
 refine ⟨rfl,fun j c v hc hv=>?_⟩
 match j with
 | 0=>simp at hc hv;subst hc hv;exact h0
 | 1=>simp at hc hv;subst hc hv;exact h1
 | 2=>simp at hc hv;subst hc hv;exact h2
 | j+3=>simp at hc
end
theorem IS {H:Type} {enc:TypeId×Value→H} (hl:laidOutB P=true) {W W':World} (hb:Below W.heap.size W W') (sp:Nat→Bool) :
  ∀ (ts:List TypeId) (vs:List Value) (ds:List (DataW H)) (p:List MemPlace),(ts.all fun t=>P.readableRec t && decide (t < P.types.size))=true→(∀ x∈p,x.block < W.heap.size)→(∀ x∈p,sp x.block=true) →
   DataW.TrodAll enc P W 0 (fun _=>true) true ts vs ds p→DataW.TrodAll enc P W' 0 sp true ts vs ds p
 | [],[],[],_,_,_,_,h=>h
 | t :: ts,v :: vs,d :: ds,p,hr,fY,JZ,h=>by
  obtain ⟨a,b,h1,h2,rfl⟩:=h
  simp only [List.all_cons,aR,decide_eq_true_eq] at hr
  refine ⟨a,b,?_,IS hl hb sp ts vs ds b (by simpa using hr.2) (fun x hx=>fY x (by simp [hx])) (fun x hx=>JZ x (by simp [hx])) h2,rfl⟩
  exact WideElems.Trod_stays hl hr.1.1 hr.1.2 h1 (fun x hx=>hb.same (fY x (by simp [hx]))) (fun x hx=>JZ x (by simp [hx]))
theorem Lo {H:Type} {enc:TypeId×Value→H} {f:FuncId} {fn:Func} {s:ChangeSpec} {apart fresh handsOn again:Bool} {W:World} {args:Array Value} {ds gs:List (DataW H)} {before:List MemPlace} {tb:TypeId} {U4:List AV}
  (Ow:s.vars=[]) (hl:laidOutB P=true) (Q2:(fn.params.toList.all fun t=>P.readableRec t && decide (t < P.types.size))=true) (Jt:fn.resultTypes=#[tb]) (hb:P.underlying tb=some .bool)
  (QA:s.fn H ds={ results:=[.lit (.bool true)],args:=ds })
  (hW:DataW.Whole enc P fn.params.toList s.vars apart W args.toList ds gs before)
  (Q3:RL W (Fc W) fw args U4) (hs:Sound P f U4 [] 0 (aB true) []) :
  Calls P f args W fun e W'=>∃ v,e=.returned v∧s.post enc P fn apart fresh handsOn again W args v W':=by
 have Q4:Good (u5 W (Fc W) [] fw 0) [] (Fc W) fw W:=by
  refine ⟨Fr.refl _ _,fun _ h=>h,fun _ h=>h,fun _ h=>.inl h,?_,fun k o pl h=>(by cases h),fun k hk=>absurd hk (iw _),MX.nil fun k o i h=>by cases h⟩
  constructor<;>intros<;>simp_all [ar]
 refine (hs W (Fc W) fw args Q4 (fun _ _=>rfl) Q3).mono fun e W' ⟨v,S',cu,he,hg,hv⟩=>?_
 have HH:Below W.heap.size W W':=⟨hg.fr.os,hg.fr.tape,hg.fr.output,hg.fr.size,fun b hb=>hg.fr.bR b hb (fun h=>h.elim (fun ⟨k,o,pl,h,_⟩=>by cases h) (fun ⟨k,i,x,v,⟨o,pl,h,_⟩,_⟩=>by cases h))⟩
 have pW:v=.bool true:=by cases hv;rfl
 subst he pW
 refine ⟨_,rfl,?_⟩
 have Tf:=hW
 obtain ⟨p,q,hA,hV,rfl,U5,RJ⟩:=hW
 rw [Ow] at hV
 obtain ⟨rfl,rfl⟩:=trodVars_none hV
 rw [List.append_nil] at Tf
 have fY:∀ x∈p,x.block < W.heap.size:=fun x hx=>Tf.lt x hx
 have U6:∀ sp:Nat→Bool,(∀ x∈p,sp x.block=true)→DataW.TrodAll enc P W' 0 sp true fn.params.toList args.toList (s.fn H (ds ++ [])).args p:=fun sp JZ=>by
  rw [List.append_nil,QA]
  exact IS hl HH sp _ _ _ _ Q2 fY JZ hA
 have RX:∀ sp:Nat→Bool,DataW.TrodVars enc P W' sp s.vars (s.fn H (ds ++ [])).vars []:=fun sp=>by
  rw [List.append_nil,QA,Ow];rfl
 have U7:∀ (b:Nat) (sp:Nat→Bool) (hd:Bool),DataW.TrodAll enc P W' b sp hd fn.resultTypes.toList ((Value.bool true).resultList fn.resultTypes.size) (s.fn H (ds ++ [])).results []:=fun b sp hd=>by
  rw [List.append_nil,QA,Jt]
  exact trodAll_mk1 (shut_bool hb true)
 refine ⟨ds,[],p,[],p,[],Tf,U7 _ _ _,U6 _ (fun x hx=>by simpa using fY x hx),RX _,World.keptBut_mono (fun x hx=>⟨hx,Or.inr (Or.inl hx)⟩) (HH.frame _),fun _=>?_⟩
 refine ⟨ok_one Jt rfl (okWide_bool_mk hb _),(s.fn H (ds ++ [])).results ++ (s.fn H (ds ++ [])).args,_,p,⟨p,[],trodAll_append (U6 _ (fun _ _=>rfl)) (U7 _ _ _),RX _,by simp,?_,by simpa using RJ⟩,fun x hx _=>hx⟩
 ·intro b off hp
  exact (HH.frozen (fY _ hp)).trans (U5 b off (by simpa using hp))
end Go.Ab
namespace Go.Ab
def yr:Obj→Bool
 | .loop _=>true
 | .deferred _=>true
 | .mapIter _ _ _ _=>true
 | _=>false
theorem HI (sz:Nat) (c:Array Value) (T:TypeId):yr (xd sz c T)=false:=by
 cases sz<;>rfl
theorem GB {w:World} {l:Nat} {o o':Obj} (h:w.heap[l]?=some o) (ho:yr o=true) (tc:yr o'=true) (a:Addr):(w.putObj l o').cell? a=w.cell? a:=by
 unfold World.cell?
 by_cases e:a.block=l
 ·rw [e,h,World.putObj_heap_same (Array.getElem?_eq_some_iff.1 h).1]
  cases o<;>cases o'<;>simp_all [yr]
 ·rw [World.putObj_heap_other e]
theorem an.nY {w w':World} {S S':Nat→Prop} (hS:∀ b,S b→S' b) (hc:∀ a,w'.cell? a=w.cell? a) {μ:Mu} {v:Value} {x:AV} (h:an w S μ v x):an w' S' μ v x:=by
 induction h with
 | atom v=>exact .atom v
 | agg h1 _ ih=>exact .agg h1 ih
 | tup h1 _ ih=>exact .tup h1 ih
 | sl b off sz f h1 h2 h3 _ h5 ih=>exact .sl b off sz f (fun hl=>⟨(h1 hl).1,hS _ (h1 hl).2⟩) h2 (fun i j hi hj=>(hc _).trans (h3 i j hi hj)) ih h5
 | rp b o f h1 h2 _ ih=>simp_all [rp,trans]
 | op pl h=>exact .op pl h
 | os pl h h1 h2 h3=>exact .os pl h h1 h2 h3
 | fn h1 h2 _ _ Jg Jh=>exact .fn h1 h2 Jg Jh
 | when _ hu ih=>exact .when ih hu
 | mp pl h=>exact .mp pl h
 | bn b h=>exact .bn b h
 | pt _ h2 ih=>exact .pt ih h2
 | ov pl h h1=>exact .ov pl h h1
 | za pl h h1 h2=>exact .za pl h h1 h2
 | nq _ h1 h2 ih=>exact .nq ih h1 h2
 | nil=>exact .nil
 | k6=>exact .k6
 | mr=>exact .mr
theorem eJ.nY {w w':World} {S S':Nat→Prop} {μ:Mu} {o:Ob} {pl:Place} {c:Array Value} {T:TypeId} (h:eJ w S μ o pl c T) (hS:∀ b,S b→S' b) (hc:∀ a,w'.cell? a=w.cell? a)
  (hb:0 < pl.cap→w'.heap[pl.bR]?=w.heap[pl.bR]?) (ho:0 < pl.cap→¬ S' pl.bR):eJ w' S' μ o pl c T :=
 { h with
  bR:=fun hc=>(hb hc).trans (h.bR hc)
  out:=ho
  rep:=fun i j x v hi hx hv=>(h.rep i j x v hi hx hv).nY hS hc
  mp:=fun hz=>let ⟨h0,h1,h2,h3,h4⟩:=h.mp hz;⟨h0,h1,h2,h3,fun j x v hx hv=>(h4 j x v hx hv).nY hS hc⟩ }
theorem Good.Pp {E:Env} {σ:cz} {S:Nat→Prop} {μ:Mu} {w:World} (g:Good E σ S μ w) {k:Nat} {o:Ob} {pl:Place} (ho:ar σ k=some o) (hm:μ k=some pl) (hc:0 < pl.cap) {l:Nat} {ob:Obj}
  (hl:w.heap[l]?=some ob) (ha:yr ob=true):pl.bR≠l:=by
 obtain ⟨hH,c,T,eM,h⟩:=g.rep.ob k o ho
 rw [hm] at eM;cases eM
 rintro rfl
 rw [h.bR hc] at hl
 grind [HI]
theorem Good.Pq {E:Env} {σ:cz} {S:Nat→Prop} {μ:Mu} {w:World} (g:Good E σ S μ w) {k i:Nat} {x:Nat×Nat×(Nat→List AV)} {v:Value} {b:Nat} (hv:fJ w μ σ k i x v) (hb:ptrTo v b) {l:Nat} {ob:Obj}
  (hl:w.heap[l]?=some ob) (ha:yr ob=true):b≠l:=by
 obtain ⟨_,_,_,c,T,h⟩:=g.mx.bR hv hb
 rintro rfl
 rw [h] at hl
 cases hl;cases ha
theorem MX.aux {fp NV:Nat→Prop} {n0 NW:Nat} {w w':World} {S S':Nat→Prop} {μ:Mu} {σ:cz} (h:MX fp n0 w S μ σ) (hS:∀ b,S b→S' b) (hc:∀ a,w'.cell? a=w.cell? a)
  (hp:∀ k i x v b,fJ w' μ σ k i x v→fJ w μ σ k i x v→ptrTo v b→w'.heap[b]?=w.heap[b]?∧¬ S' b∧((fp b∨n0≤b)→(NV b∨NW≤b))):MX NV NW w' S' μ σ:=by
 have back:∀ {k i x v},fJ w' μ σ k i x v→fJ w μ σ k i x v:=fun ⟨o,pl,h1,h2,h3,h4⟩=>⟨o,pl,h1,h2,h3,by rw [← hc];exact h4⟩
 refine ⟨fun k i x v hv=>?_,fun k i x v b hv=>h.obj k i x v b (back hv),fun k i x v b k' i' x' v' hv pW=>h.two k i x v b k' i' x' v' (back hv) (back pW)⟩
 obtain ⟨a,cap,rfl,h1,h2,h3⟩:=h.row _ _ _ _ (back hv)
 refine ⟨a,cap,rfl,h1,h2,fun ta=>?_⟩
 obtain ⟨b,c,T,rfl,h4,h5⟩:=h3 ta
 obtain ⟨p1,p2,p3⟩:=hp _ _ _ _ b hv (back hv) ⟨_,_,rfl,ta⟩
 exact ⟨b,c,T,rfl,h4.nY hS hc (fun _=>p1) (fun _=>p2),p3 h5⟩
theorem Good.put {E:Env} {σ:cz} {S:Nat→Prop} {μ:Mu} {w:World} (g:Good E σ S μ w) {l:Nat} {o o':Obj} (h:w.heap[l]?=some o) (ho:yr o=true) (tc:yr o'=true) (hl:E.w0.heap.size≤l∨E.fp l) :
  Good E σ S μ (w.putObj l o'):=by
 have hc:=GB h ho tc
 refine ⟨⟨g.fr.os,g.fr.tape,g.fr.output,by simpa using g.fr.size,fun b hb hf=>?_⟩,g.S0,fun b hb=>by simpa using g.S1 b hb,g.S2,⟨fun k x hx=>?_,g.rep.ne⟩,g.own,g.Bw,
  g.mx.aux (fun _ h=>h) hc fun k i x v b _ hv hb=>⟨World.putObj_heap_other (g.Pq hv hb h ho),(g.mx.bR hv hb).2.1,fun h=>h⟩⟩
 ·have iI:b≠l:=by rintro rfl;rcases hl with h | h;omega;exact hf h
  rw [World.putObj_heap_other iI];exact g.fr.bR b hb hf
 ·obtain ⟨pl,c,T,hm,hr⟩:=g.rep.ob k x hx
  exact ⟨pl,c,T,hm,hr.nY (fun _ h=>h) hc (fun uz=>World.putObj_heap_other (g.Pp hx hm uz h ho)) hr.out⟩
theorem Good.aux {E:Env} {σ:cz} {S:Nat→Prop} {μ:Mu} {w:World} (g:Good E σ S μ w) (o:Obj) (ho:yr o=true) :
  Ext w S μ (w.alloc o) (fun b=>S b∨b=w.heap.size) μ∧Good E σ (fun b=>S b∨b=w.heap.size) μ (w.alloc o):=by
 have hold:∀ b,b < w.heap.size→(w.alloc o).heap[b]?=w.heap[b]?:=fun b hb=>dH hb
 have Mk:(w.alloc o).heap[w.heap.size]?=some o:=World.alloc_heap_new w o
 have e:Ext w S μ (w.alloc o) (fun b=>S b∨b=w.heap.size) μ:=⟨by simp,fun _ h=>.inl h,fun b hb=>hold b (g.S1 b hb),fun _ _ h=>h⟩
 refine ⟨e,⟨g.fr.os,g.fr.tape,g.fr.output,by have:=g.fr.size;simp;omega,fun b hb hf=>(hold b (nb hb g.fr.size)).trans (g.fr.bR b hb hf)⟩,fun b hb=>.inl (g.S0 b hb),?_,?_,⟨fun k x hx=>?_,g.rep.ne⟩,g.own,g.Bw,g.Hi hold (fun _ h=>.inl h) (fun b h=>h.elim .inl fun h=>.inr (Nat.le_of_eq h.symm))⟩
 ·rintro b (hb | rfl)
  ·have:=g.S1 b hb;simp;omega
  ·simp
 ·rintro b (hb | rfl)
  ·exact g.S2 b hb
  ·exact .inr g.fr.size
 ·obtain ⟨pl,c,T,hm,hr⟩:=g.rep.ob k x hx
  have fY:0 < pl.cap→pl.bR < w.heap.size:=fun hc=>eA (hr.bR hc)
  refine ⟨pl,c,T,hm,hr.ext e (fun hc=>hold _ (fY hc)) (fun hc=>?_)⟩
  rintro (h | h)
  ·exact hr.out hc h
  ·have:=fY hc;omega
def Q5 (w:World) (S:Nat→Prop) (σ:cz) (μ:Mu) (m:Nat):Env:=⟨w,S,Mw w σ μ,μ,m⟩
theorem Good.base {E:Env} {σ:cz} {S:Nat→Prop} {μ:Mu} {w:World} (g:Good E σ S μ w) (m:Nat):Good (Q5 w S σ μ m) σ S μ w :=
 ⟨Fr.refl _ _,fun _ h=>h,g.S1,fun _ h=>.inl h,g.rep,fun k o pl ho hm hc=>.inl (.inl ⟨k,o,pl,ho,hm,hc,rfl⟩),fun _ _=>rfl,
  g.mx.aux (fun _ h=>h) (fun _=>rfl) fun k i x v b hv _ hb=>⟨rfl,(g.mx.bR hv hb).2.1,fun _=>.inl (.inr ⟨k,i,x,v,hv,hb⟩)⟩⟩
def WI (P:Program) (E:Env) (nt:Nat) (c:Code) (st zE:St):Prop:=∀ (l:Nat) (tm:Array Value) (w:World),tm.size=nt→J2 E st tm w →
 c.wpIn (FW (some l)) 0 P (fun e a w'=>e=.normal∧a.tmps.size=nt∧a.defers=[]∧J2 E zE a.tmps w') ⟨tm,[]⟩ w
theorem WI.seq {P:Program} {E:Env} {nt:Nat} {x y:Code} {st Q6 U8:St} (h1:WI P E nt x st Q6) (h2:WI P E nt y Q6 U8):WI P E nt (.seq x y) st U8:=by
 intro l tm w hs hr
 refine wpIn_seq (wpIn_mono (h1 l tm w hs hr) ?_)
 rintro e ⟨t,ds⟩ w' ⟨rfl,q1,q2,q3⟩
 simp only at q1 q2
 subst q2
 exact h2 l t w' q1 q3
theorem WI.block {P:Program} {E:Env} {nt:Nat} {id:Nat} {x:Code} {st Q6:St} (h1:WI P E nt x st Q6):WI P E nt (.block id x) st Q6:=by
 intro l tm w hs hr
 refine wpIn_block (wpIn_mono (h1 l tm w hs hr) ?_)
 rintro e a w' ⟨rfl,q1,q2,q3⟩
 exact ⟨rfl,q1,q2,q3⟩
theorem WI.rw {P:Program} {E:Env} {nt m:Nat} {c:Code} {orcs:List (Nat×l8)} {F:List Nat} {uQ:List (Nat×Wd)} {dR:xq} {nk:Nat} {st zE:St} (hE:a3 E m) {ps:List Prop}
  (h:Gy P nt m c orcs F uQ dR nk st=some (ps,zE)) (hF:(((F.isEmpty && ue orcs) || Nat.beq m 0) && Qb orcs)=true) (hp:aV ps):WI P E nt c st zE:=by
 intro l tm w hs hr
 unfold Gy at h
 split at h
 ·rename_i p1 s1 h1
  split at h
  ·rename_i q1 s2 h2
   simp only [aA,ax] at h
   obtain ⟨rfl,rfl⟩:=h
   obtain ⟨xk,wE⟩:=aV.app hp
   obtain ⟨hF,hY⟩:=x6.1 hF
   have hz:ue orcs=true∨∀ b,¬ E.fp b:=by
    rcases Bool.or_eq_true_iff.1 hF with h | h
    ·simp_all
    ·exact .inr (hE.fp (bj h))
   have RZ:F.isEmpty=true∨∀ b,¬ E.fp b:=by
    rcases Bool.or_eq_true_iff.1 hF with h | h
    ·simp_all
    ·exact .inr (hE.fp (bj h))
   refine wpIn_mono (vj (rd:=some l) (ds:=[]) hz (E5 hY) h1 xk hs hr) ?_
   rintro e a w' ⟨rfl,q1,q2,q3⟩
   refine ⟨rfl,q1,q2,Cm (by rw [hE.m0];exact h2) wE RZ q3⟩
  ·cases h
 ·cases h
abbrev Lp (D:Nat):Deferred:={ target:=.collected D,args:=#[] }
def lX (P:Program) (E:Env) (D:Nat) (fn:FuncId) (nt:Nat) (cK:Value→World→Prop) (k:List Item) (st:St):Prop :=
 ∀ (tm:Array Value) (w:World),tm.size=nt→J2 E st tm w→∀ (b:Frame),b.fn=fn→b.kind=.normal→∀ cs,
  ∃ v w' fr,cK v w'∧Steps P (lone (b.at ⟨tm,[Lp D]⟩ k) cs w) (lone fr cs w')∧fr.fn=fn∧fr.leaving P w' (.returned v)
section
variable {P:Program} {E E9:Env} {D:Nat} {fn:FuncId} {nt:Nat} {cK:Value→World→Prop} {k k':List Item} {st zE:St}
theorem lX.step (h:lX P E D fn nt cK k' st) (hs:∀ (b:Frame) (a:Act) (cs:List Frame) (w:World),step P (lone (b.at a k) cs w)=.next (lone (b.at a k') cs w)):lX P E D fn nt cK k st:=by
 intro tm w h1 h2 b h3 h4 cs
 obtain ⟨v,w',fr,q1,q2,q3,q4⟩:=h tm w h1 h2 b h3 h4 cs
 exact ⟨v,w',fr,q1,.head (hs b ⟨tm,[Lp D]⟩ cs w) q2,q3,q4⟩
theorem lX.seq {x y:Code} (h:lX P E D fn nt cK (.code x :: .code y :: k) st):lX P E D fn nt cK (.code (.seq x y) :: k) st:=h.step fun _ _ _ _=>step_seq
theorem lX.inBlock {id:Nat} (h:lX P E D fn nt cK k st):lX P E D fn nt cK (.inBlock id :: k) st:=h.step fun _ _ _ _=>step_inBlock
theorem lX.rw {m:Nat} {c:Code} {orcs:List (Nat×l8)} {F:List Nat} {uQ:List (Nat×Wd)} {dR:xq} {nk:Nat} (hE:a3 E m) {ps:List Prop}
  (h:Gy P nt m c orcs F uQ dR nk st=some (ps,zE)) (hF:(((F.isEmpty && ue orcs) || Nat.beq m 0) && Qb orcs)=true) (hp:aV ps) (hr:lX P E D fn nt cK k zE):lX P E D fn nt cK (.code c :: k) st:=by
 unfold Gy at h
 split at h
 ·rename_i p1 s1 h1
  split at h
  ·rename_i q1 s2 h2
   simp only [aA,ax] at h
   obtain ⟨rfl,rfl⟩:=h
   obtain ⟨xk,wE⟩:=aV.app hp
   obtain ⟨hF,hY⟩:=x6.1 hF
   have hz:ue orcs=true∨∀ b,¬ E.fp b:=by
    rcases Bool.or_eq_true_iff.1 hF with h | h
    ·simp_all
    ·exact .inr (hE.fp (bj h))
   have RZ:F.isEmpty=true∨∀ b,¬ E.fp b:=by
    rcases Bool.or_eq_true_iff.1 hF with h | h
    ·simp_all
    ·exact .inr (hE.fp (bj h))
   intro tm w hs xf b oW nh cs
   have S8:=(wpIn_wide (n:=0)).1 (vj (rd:=none) (ds:=[Lp D]) hz (E5 hY) h1 xk hs xf)
   obtain ⟨e,a',w',⟨rfl,q1,q2,q3⟩,Pj⟩:=S8 b k cs
   have ha:a'=⟨a'.tmps,[Lp D]⟩:=by cases a';simp at q2;simp [q2]
   obtain ⟨v,P0,fr,r1,r2,r3,r4⟩:=hr a'.tmps w' q1 (Cm (by rw [hE.m0];exact h2) wE RZ q3) b oW nh cs
   refine ⟨v,P0,fr,r1,Steps.trans Pj ?_,r3,r4⟩
   rw [ha];exact r2
  ·cases h
 ·cases h
theorem lX.ret {c:Code} (HB:∀ σ S μ w,Good E9 σ S μ w→Good E σ S μ w) (Wo:E.m0≤E9.m0) (hD:E9.w0.heap[D]?=some (.deferred (some []))) (ME:¬ E9.fp D) (Wp:E.w0.heap.size≤D) (ks:List Nat) (hx:c=.ret)
  {f:Func} (hf:P.funcs[fn]?=some f) {ps:List Prop} {res:AV} {dm:cz} (h:vk P f st=some (ps,res)) (HG:yp st.mc ks=dm) (hp:aV ps):lX P E9 D fn nt (aQ E dm res) (.code c :: k) st:=by
 subst hx HG
 intro tm w hs hr b oW nh cs
 obtain ⟨S,μ,g,hk,hm,ht⟩:=hr
 have Tg:w.heap[D]?=some (.deferred (some [])):=(g.fr.bR D (eA hD) ME).trans hD
 have Oq:J2 E st tm (w.putObj D (.deferred none)):=⟨S,μ,(HB _ _ _ _ g).put Tg rfl rfl (.inl Wp),hk,gp Wo hm,fun t=>(ht t).nY (fun _ h=>h) (GB Tg rfl rfl)⟩
 obtain ⟨v,h1,h2⟩:=xt hf h hp Oq oW nh (.code .ret :: k)
 refine ⟨v,_,_,h1.M4 ks,.head step_ret (.one (step_collected (fr:={ b.at ⟨tm,[Lp D]⟩ (.code .ret :: k) with mode:=.returning }) (by simp) rfl rfl (run_takeDeferred Tg))),?_,h2⟩
 exact oW
end
section
variable {P:Program} {E E9:Env} {D:Nat} {fn:FuncId} {nt m:Nat} {cK:Value→World→Prop} {k k':List Item} {st zE:St}
theorem lX.E7 (h:E7 k=some k') (hr:lX P E D fn nt cK k' st):lX P E D fn nt cK k st:=by
 unfold Ab.E7 at h
 split at h
 ·cases h;exact hr.seq
 ·cases h;exact hr.step fun _ _ _ _=>step_block
 ·cases h;exact hr.step fun _ _ _ _=>step_loop
 ·cases h;exact hr.step fun _ _ _ _=>step_inLoop
 ·cases h;exact hr.inBlock
 ·cases h;exact hr.step fun _ _ _ _=>step_lone_go (by rfl)
 ·cases h;exact hr.step fun _ _ _ _=>step_lone_go (by rfl)
 ·cases h;exact hr.step fun _ _ _ _=>step_skip
 ·cases h;exact hr.step fun _ _ _ _=>step_label
 ·exact hr.step fun _ _ _ _=>step_exit h
 ·cases h
theorem lX.Cp:∀ (n:Nat) {k:List Item},Cp n k=some k'→lX P E D fn nt cK k' st→lX P E D fn nt cK k st
 | 0,k,h,hr=>by simp only [Ab.Cp,aA] at h;rw [h];exact hr
 | n+1,k,h,hr=>by
  simp only [Ab.Cp] at h
  split at h
  ·rename_i k1 h1
   exact lX.E7 h1 (lX.Cp n h hr)
  ·cases h
end
end Go.Ab
