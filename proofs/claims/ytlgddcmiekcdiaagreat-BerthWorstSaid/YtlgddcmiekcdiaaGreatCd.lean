/- Abstract values over the heap of the machine, and functions read off its code (part 4). No conditions. -/
import Derived.Test.YtlgddcmiekcdiaaGreatCc
import Derived.ProofKit
import Derived.Deep.Slices
import Derived.OpenShut
import Derived.ChangeOld
import Derived.SizedLaws
import Derived.RangeFuncLeaves
set_option linter.unusedVariables false
set_option linter.unusedSimpArgs false
namespace Go.Ab
section
variable {P:Program} {E:Env} {m0 nk:Nat} {F:List Nat} {fj:zL}
theorem BU {σ:dn} {f:Nat→Option Nat}:∀ (l:zL) (ps:List Prop) (τ:dn),Jv σ F f fj l=some (ps,τ)→bg ps→∀ k o,ar τ k=some o →
  ∃ d p,(k,d)∈l∧vD σ F f fj d=some (p,o)∧bg p
 | [],ps,τ,h,_,k,o,hk=>by simp [Jv] at h;obtain ⟨_,rfl⟩:=h;simp [ar] at hk
 | (k',d) :: r,ps,τ,h,hp,k,o,hk=>by
  simp only [Jv] at h
  split at h
  ·rename_i p o' q l e1 e2
   simp only [aA,az] at h
   obtain ⟨rfl,rfl⟩:=h
   obtain ⟨xa,wM⟩:=bg.app hp
   simp only [ar] at hk
   split at hk
   ·simp_all
   ·obtain ⟨d',p',h1,h2,h3⟩:=BU r q l e2 wM k o hk
    grind
  ·cases h
theorem He {σ:dn} {f:Nat→Option Nat} {tm:List (Nat×AV)} {R:Value→AV→Prop} {fr:Array Value} (V8:∀ v,R v .mn)
  (hv:∀ d t ps y,EI σ F f fj d (dI tm t)=some (ps,y)→bg ps→R (fr.getD t undef) y):∀ (l:List (Nat×Wd)) (ps:List Prop) (KL:List (Nat×AV)),
  Ju σ F f fj tm l=some (ps,KL)→bg ps→∀ t,R (fr.getD t undef) (dI KL t)
 | [],ps,KL,h,_,t=>by simp [Ju] at h;obtain ⟨_,rfl⟩:=h;exact V8 _
 | (t',d) :: r,ps,KL,h,hp,t=>by
  simp only [Ju] at h
  split at h
  ·rename_i p x q l e1 e2
   simp only [aA,az] at h
   obtain ⟨rfl,rfl⟩:=h
   obtain ⟨xa,wM⟩:=bg.app hp
   simp only [dI]
   split
   ·rename_i hb
    rw [← bK hb]
    exact hv d t' p x e1 xa
   ·exact He V8 hv r q l e2 wM t
  ·cases h
theorem Pr {k0:Nat}:∀ (l:zL) (a b:Nat) (x y:Od),mg (l.filterMap (·.2.wG))=true→(a,x)∈l→(b,y)∈l→x.wG=some k0→y.wG=some k0→a=b:=by
 intro l
 induction l with
 | nil=>simp
 | cons z l ih =>
  intro a b x y hn ha hb hx hy
  have none:∀ c u,(c,u)∈l→u.wG=some k0→idx (l.filterMap (·.2.wG)) k0=none→False:=by
   intro c u hc hu hi
   have pS:k0∈l.filterMap (·.2.wG):=List.mem_filterMap.2 ⟨(c,u),hc,hu⟩
   obtain ⟨i,qT⟩:=List.getElem?_of_mem pS
   exact lX _ _ hi i qT
  rcases kz.1 ha with T6 | T6
  ·rcases kz.1 hb with qQ | qQ
   ·grind
   ·rw [← T6] at hn
    simp only [List.filterMap_cons,hx,mg,bc,Option.isNone_iff_eq_none] at hn
    grind
  ·rcases kz.1 hb with qQ | qQ
   ·rw [← qQ] at hn
    simp only [List.filterMap_cons,hy,mg,bc,Option.isNone_iff_eq_none] at hn
    grind
   ·refine ih a b x y ?_ T6 qQ hx hy
    simp only [List.filterMap_cons] at hn
    split at hn
    ·exact hn
    simp_all [mg,bc]
theorem Ui:∀ {as:List AV} {sz n:Nat} {g:Nat→List AV},IQ as [.mr sz n g]→as=[.mr sz n g]
 | [],_,_,_,h=>h.elim
 | a :: [],_,_,_,h=>by
  rcases h.1 with h1 | ⟨_,f,h1⟩
  ·rw [h1]
  ·cases h1
 | _ :: _ :: _,_,_,_,h=>h.2.elim
theorem Ps {σ:dn} {f:Nat→Option Nat} {d:Od} {p:List Prop} {o:Ob} (h:vD σ F f fj d=some (p,o)) (hp:bg p) {i:Nat} {x:Nat×Nat×(Nat→List AV)} (hr:rowOf o i=some x) :
  ∃ k0 o0,d.wG=some k0∧ar σ k0=some o0∧rowOf o0 i=some x:=by
 obtain ⟨r1,r2,r3⟩:=db hr
 cases d with
 | ah k0 =>
  simp only [vD,aG,az] at h
  obtain ⟨o0,qy,_,rfl⟩:=h
  exact ⟨k0,o0,rfl,qy,(p6 _ _ _ _).1 hr⟩
 | arr k0 n gt =>
  simp only [vD] at h
  split at h
  ·rename_i o0 qy
   split at h
   ·simp only [aA,az] at h
    obtain ⟨rfl,rfl⟩:=h
    obtain ⟨p1,p2,_⟩:=hp
    exact ⟨k0,o0,rfl,qy,kB r1 (by rw [p1];exact r2) (by simp_all)⟩
   ·cases h
  ·cases h
 | Po k0 n gt =>
  simp only [vD] at h
  split at h
  ·rename_i o0 qy
   split at h
   ·simp only [aA,az] at h
    obtain ⟨rfl,rfl⟩:=h
    obtain ⟨p1,p2,_⟩:=hp
    have:=p2 i r2
    have r3:gt i=[.mr x.1 x.2.1 x.2.2]:=r3
    rw [r3] at this
    exact ⟨k0,o0,rfl,qy,kB r1 (nc r2 p1) (Ui this)⟩
   ·cases h
  ·cases h
 | pT k0 n l b =>
  simp only [vD] at h
  split at h
  ·rename_i o0 l' qy Yz
   split at h
   ·rename_i hb
    simp only [aA,az] at h
    obtain ⟨rfl,rfl⟩:=h
    obtain ⟨p1,p2,p3,_⟩:=hp
    simp only [bc,Bool.not_eq_true'] at hb
    have r3:aQ l' b i=[.mr x.1 x.2.1 x.2.2]:=r3
    rw [← EH (p3 i r2) Yz,p2 i r2] at r3
    exact ⟨k0,o0,rfl,qy,kB hb.1 (by rw [p1];exact r2) (OC r3)⟩
   ·cases h
  ·cases h
 | To gt =>
  simp only [vD,aA,az] at h
  grind
 | mp k0 cs =>
  simp only [vD] at h
  split at h
  ·rename_i o0 qy
   split at h
   ·rename_i hb
    simp only [aA,az] at h
    obtain ⟨rfl,rfl⟩:=h
    simp_all
   ·cases h
  ·cases h
 | var k0 ds =>
  simp only [vD] at h
  grind
 | nil sz gt =>
  simp only [vD] at h
  grind
theorem EK {st BV:St} {xc:List (Nat×Wd)} {ps:List Prop} (h:F9 E.m0 st F xc fj nk=some (ps,BV)) (hp:bg ps) (hF:F.isEmpty=true∨∀ b,¬ E.fp b) {fr:Array Value} {w:World} (hr:Nj E st fr w):Nj E BV fr w:=by
 obtain ⟨S,μ,g,hk,hm,ht⟩:=hr
 unfold F9 at h
 split at h
 case h_2=>cases h
 rename_i p tm q dX hn V9 cY
 simp only [aA,az] at h
 obtain ⟨rfl,rfl⟩:=h
 obtain ⟨xa,wM⟩:=bg.app hp
 have N:=Pq hn
 have e:Ext w S μ w (SF μ F st.mJ S) μ:=⟨aF _,fun _ h=>.inl h,fun _ _=>rfl,fun _ _ h=>h⟩
 have RJ:∀ k o,ar dX k=some o→∃ pl c T,Ga E.m0 μ fj k=some pl∧gD w (SF μ F st.mJ S) (Ga E.m0 μ fj) o pl c T ∧
   (0 < pl.cap→∃ k0 o0,ar st.mJ k0=some o0∧μ k0=some pl∧∃ d,(k,d)∈fj∧d.wG=some k0):=by
  intro k o Rz
  obtain ⟨d,pd,sq,hd,Uj⟩:=BU fj q dX cY wM k o Rz
  have mono:∀ {v:Value} {x:AV} {da:Mu},ao w S da v x→ao w (SF μ F st.mJ S) da v x:=fun h=>h.mono (fun _ h=>.inl h) (fun _ _=>rfl) (fun _ _ h=>h)
  have out:∀ k0 o0 pl,ar st.mJ k0=some o0→μ k0=some pl→k0 ∉ F→0 < pl.cap→¬ SF μ F st.mJ S pl.cy:=by
   rintro k0 o0 pl qy tq Yp hc (h1 | ⟨k1,o1,Ar,Ry,wi,Kp,s9,hb⟩)
   ·obtain ⟨jQ,c,T,gF,O2⟩:=g.rep.ob k0 o0 qy
    rw [tq] at gF;cases gF
    exact O2.out hc h1
   ·have fP:k1≠k0:=fun h=>Yp (h ▸ Ry)
    exact g.rep.ne k1 k0 o1 o0 Ar pl fP wi qy Kp tq s9 hc hb
  cases d with
  | ah k0 =>
   simp only [vD,aG,az] at hd
   obtain ⟨o0,qy,_,rfl⟩:=hd
   obtain ⟨pl,c,T,tq,tP⟩:=g.rep.ob k0 o0 qy
   have h1:=tP.ext e (fun _=>rfl) (out k0 o0 pl qy tq (N.fr k _ k0 sq rfl))
   exact ⟨pl,c,T,by rw [zM N sq rfl];exact tq,h1.jV fun a b pl ha hb=>DQ N ha hb,fun _=>⟨k0,o0,qy,tq,_,sq,rfl⟩⟩
  | arr k0 n gt =>
   simp only [vD] at hd
   split at hd
   ·rename_i o0 qy
    split at hd
    ·rename_i hb
     simp only [aA,az] at hd
     obtain ⟨rfl,rfl⟩:=hd
     obtain ⟨p1,p2,_⟩:=Uj
     obtain ⟨pl,c,T,tq,tP⟩:=g.rep.ob k0 o0 qy
     simp only [bc] at hb
     have h1:=tP.ext e (fun _=>rfl) (out k0 o0 pl qy tq (N.fr k _ k0 sq rfl))
     refine ⟨pl,c,T,by rw [zM N sq rfl];exact tq,⟨h1.sz,h1.cy,h1.cap,p1 ▸ h1.len,h1.out,fun i hi=>?_,fun i j x v hi hx hv=>?_,fun hz=>absurd hz (by simp_all)⟩,fun _=>⟨k0,o0,qy,tq,_,sq,rfl⟩⟩
     ·show (gt i).length=_
      rw [p2 i hi];exact h1.s8 i (by rw [p1];exact hi)
     ·have hx:(gt i)[j]?=some x:=hx
      rw [p2 i hi] at hx
      have:=h1.rep i j x v (by rw [p1];exact hi) hx hv
      simp_all
    ·cases hd
   ·cases hd
  | Po k0 n gt =>
   simp only [vD] at hd
   split at hd
   ·rename_i o0 qy
    split at hd
    ·rename_i hb
     simp only [aA,az] at hd
     obtain ⟨rfl,rfl⟩:=hd
     obtain ⟨p1,p2,_⟩:=Uj
     obtain ⟨pl,c,T,tq,tP⟩:=g.rep.ob k0 o0 qy
     simp only [bc] at hb
     have h1:=tP.ext e (fun _=>rfl) (out k0 o0 pl qy tq (N.fr k _ k0 sq rfl))
     refine ⟨pl,c,T,by rw [zM N sq rfl];exact tq,⟨h1.sz,h1.cy,h1.cap,dU p1 h1.len,h1.out,fun i hi=>?_,fun i j x v hi hx hv=>?_,fun hz=>absurd hz (by have:=Nat.le_of_ble_eq_true hb.2;show o0.sz≠0;omega)⟩,fun _=>⟨k0,o0,qy,tq,_,sq,rfl⟩⟩
     ·show (gt i).length=_
      rw [(p2 i hi).len];exact h1.s8 i (nc hi p1)
     ·have hx:(gt i)[j]?=some x:=hx
      obtain ⟨a,ha,hax⟩:=(p2 i hi).get hx
      have:=h1.rep i j a v (nc hi p1) ha hv
      rw [hb.1.1] at this
      exact Uh hax this
    ·cases hd
   ·cases hd
  | mp k0 cs =>
   simp only [vD] at hd
   split at hd
   ·rename_i o0 qy
    split at hd
    ·rename_i hb
     simp only [aA,az] at hd
     obtain ⟨rfl,rfl⟩:=hd
     obtain ⟨rfl,_⟩:=Uj
     obtain ⟨pl,c,T,tq,tP⟩:=g.rep.ob k0 o0 qy
     simp only [bc] at hb
     have I4:=bK hb.2
     have h1:=tP.ext e (fun _=>rfl) (out k0 o0 pl qy tq (N.fr k _ k0 sq rfl))
     refine ⟨pl,c,T,by rw [zM N sq rfl];exact tq,⟨h1.sz,h1.cy,h1.cap,h1.len,h1.out,fun i hi=>absurd hi (by show ¬ i < o0.len;omega),fun i j x v hi=>absurd hi (by show ¬ i < o0.len;omega),fun hz=>?_⟩,fun _=>⟨k0,o0,qy,tq,_,sq,rfl⟩⟩
     obtain ⟨m0,m1,m2,m3,m4⟩:=h1.mp hz
     exact ⟨m0,m1,m2,rfl,m4⟩
    ·cases hd
   ·cases hd
  | To gt =>
   simp only [vD,aA,az] at hd
   obtain ⟨_,rfl⟩:=hd
   exact ⟨⟨0,0,1⟩,#[],0,L6 N sq,⟨rfl,fun h=>absurd h (by simp),by simp,by simp,fun h=>absurd h (by simp),fun i h=>absurd h (by simp),fun i j x v h=>absurd h (by simp),fun h=>absurd (show (1:Nat)=0 from h) (by omega)⟩,fun h=>absurd h (by simp)⟩
  | pT k0 n l b =>
   simp only [vD] at hd
   split at hd
   ·rename_i o0 l' qy Yz
    split at hd
    ·rename_i hb
     simp only [aA,az] at hd
     obtain ⟨rfl,rfl⟩:=hd
     obtain ⟨p1,p2',p3,_⟩:=Uj
     have p2:∀ i,i < n→aQ l' b i=AV.tM (tv E.m0 fj) (o0.get i):=fun i hi=>by rw [← p2' i hi];exact (EH (p3 i hi) Yz).symm
     let gt:Nat→List AV:=aQ l' b
     obtain ⟨pl,c,T,tq,tP⟩:=g.rep.ob k0 o0 qy
     simp only [bc] at hb
     have h1:=tP.ext e (fun _=>rfl) (out k0 o0 pl qy tq (N.fr k _ k0 sq rfl))
     refine ⟨pl,c,T,by rw [zM N sq rfl];exact tq,⟨h1.sz,h1.cy,h1.cap,p1 ▸ h1.len,h1.out,fun i hi=>?_,fun i j x v hi hx hv=>?_,fun hz=>absurd hz (by have:=Nat.le_of_ble_eq_true hb.2;show o0.sz≠0;omega)⟩,fun _=>⟨k0,o0,qy,tq,_,sq,rfl⟩⟩
     ·show (aQ l' b i).length=_
      rw [p2 i hi,vz,List.length_map];exact h1.s8 i (by rw [p1];exact hi)
     ·have hx:(aQ l' b i)[j]?=some x:=hx
      rw [p2 i hi,vz,List.getElem?_map] at hx
      simp only [aG] at hx
      obtain ⟨y,hy,rfl⟩:=hx
      have:=iz (h1.rep i j y v (by rw [p1];exact hi) hy hv)
      exact this.jV fun a b pl ha hb=>DQ N ha hb
    ·cases hd
   ·cases hd
  | var k0 ds =>
   simp only [vD] at hd
   split at hd
   ·rename_i o0 qy
    split at hd
    ·rename_i pw cs hb TO
     simp only [aA,az] at hd
     obtain ⟨rfl,rfl⟩:=hd
     obtain ⟨pl,c,T,tq,tP⟩:=g.rep.ob k0 o0 qy
     simp only [bc] at hb
     have Xg:=bK hb.1.2
     have M8:=Nat.le_of_ble_eq_true hb.2
     have ha:ao w S μ (.agg ((List.range o0.sz).map fun j=>(c[j]?).getD undef).toArray) (.agg (o0.get 0)):=by
      refine .agg (by simp [tP.s8 0 (by omega)]) fun j x v hx hv=>?_
      have hj:j < o0.sz:=by
       have:=(dD.1 hx).1
       rwa [tP.s8 0 (by omega)] at this
      obtain ⟨u,q1,_⟩:=cM tP (i:=0) (by omega) hj
      have Xt:c[j]?=some u:=by simpa using q1
      simp [List.getElem?_range hj,Xt] at hv
      exact iz (tP.rep 0 j x v (by omega) hx (by rw [← hv];simpa using q1))
     have MV:=L8 g N (.agg ds) (.agg (o0.get 0)) _ pw (.agg cs) ha (by simp [EI,TO]) Uj
     obtain ⟨vs,Uk,F3,CZ⟩:=nf MV
     cases Uk
     have hlen:cs.length=o0.sz:=by simpa using F3.symm
     refine ⟨pl,c,T,by rw [zM N sq rfl];exact tq,⟨tP.sz,tP.cy,tP.cap,by have:=tP.len;show 1≤pl.cap;omega,out k0 o0 pl qy tq (N.fr k _ k0 sq rfl),fun i hi=>hlen,fun i j x v hi hx hv=>?_,fun hz=>absurd hz (by show o0.sz≠0;omega)⟩,fun _=>⟨k0,o0,qy,tq,_,sq,rfl⟩⟩
     have hi0:i=0:=by have hi:i < 1:=hi;omega
     subst hi0
     have hx:cs[j]?=some x:=hx
     have hj:j < o0.sz:=by rw [← hlen];exact (dD.1 hx).1
     have sf:c[j]?=some v:=by simpa using hv
     have:=CZ j x v hx (by simp [List.getElem?_range hj,sf])
     show ao w _ (if AV.lz cs then iI else _) v x
     split
     ·rename_i Xf
      exact this.pure (rU Xf hx) iI
     ·exact this
    ·cases hd
   ·cases hd
  | nil sz gt =>
   simp only [vD] at hd
   split at hd
   case h_2=>cases hd
   rename_i YA
   simp only [aA,az] at hd
   obtain ⟨_,rfl⟩:=hd
   exact ⟨⟨0,0,sz⟩,#[],0,L7 N sq,⟨rfl,fun h=>absurd h (by simp),by simp,by simp,fun h=>absurd h (by simp),fun i h=>absurd h (by simp),fun i j x v h=>absurd h (by simp),fun h=>absurd (show sz=0 from h) (by have:=Nat.le_of_ble_eq_true YA;omega)⟩,fun h=>absurd h (by simp)⟩
 have VW:∀ k i x v,iJ w (Ga E.m0 μ fj) dX k i x v→∃ k0 d,(k,d)∈fj∧d.wG=some k0∧iJ w μ st.mJ k0 i x v:=by
  rintro k i x v ⟨o,pl,h1,h2,h3,h4⟩
  obtain ⟨d,pd,sq,hd,Uj⟩:=BU fj q dX cY wM k o h1
  obtain ⟨k0,o0,q1,q2,q3⟩:=Ps hd Uj h2
  rw [zM N sq q1] at h3
  exact ⟨k0,d,sq,q1,o0,pl,q2,q3,h3,h4⟩
 have SZ:MX E.fp E.w0.heap.size w (SF μ F st.mJ S) (Ga E.m0 μ fj) dX:=by
  have YB:∀ k d k0,(k,d)∈fj→d.wG=some k0→((tw fj k).bind Od.wG).getD 0=k0:=fun k d k0 h1 h2=>by rw [qz N.nd h1];simp [h2]
  refine g.mx.tr (fun k=>((tw fj k).bind Od.wG).getD 0) (fun k i x v h=>?_) (fun k i x v k' i' x' v' h h' he=>?_) (fun _ h=>.inl h) (fun _ _=>rfl) (fun k i x v b _ h hb=>⟨rfl,?_,fun h=>h⟩) (fun k o pl h1 h2 h3=>?_)
  ·obtain ⟨k0,d,q1,q2,q3⟩:=VW k i x v h
   show iJ w μ st.mJ (((tw fj k).bind Od.wG).getD 0) i x v
   rw [YB k d k0 q1 q2];exact q3
  ·obtain ⟨k0,d,q1,q2,_⟩:=VW k i x v h
   obtain ⟨Xu,d',Xt,Vl,_⟩:=VW k' i' x' v' h'
   have he:((tw fj k).bind Od.wG).getD 0=((tw fj k').bind Od.wG).getD 0:=he
   rw [YB k d k0 q1 q2,YB k' d' Xu Xt Vl] at he
   exact Pr fj k k' d d' N.od q1 Xt q2 (he ▸ Vl)
  ·rintro (h1 | ⟨k1,o1,Ar,_,wi,Kp,s9,h1⟩)
   ·exact (g.mx.cy h hb).2.1 h1
   ·exact g.mx.obj _ _ _ _ _ h hb k1 o1 Ar wi Kp s9 h1
  ·obtain ⟨Ar,c,T,e1,_,e3⟩:=RJ k o h1
   rw [h2] at e1;cases e1
   obtain ⟨k0,o0,qy,tq,_⟩:=e3 h3
   exact .inl ⟨k0,o0,pl,qy,tq,h3,rfl⟩
 refine ⟨SF μ F st.mJ S,Ga E.m0 μ fj,⟨g.fr,fun b h=>.inl (g.S0 b h),?_,?_,⟨?_,?_⟩,?_,?_,SZ⟩,?_,N.m0,?_⟩
 ·rintro b (h1 | ⟨k1,o1,Ar,Ry,wi,Kp,s9,rfl⟩)
  ·exact g.S1 b h1
  ·obtain ⟨jQ,c,T,gF,O2⟩:=g.rep.ob k1 o1 wi
   rw [Kp] at gF;cases gF
   exact gj (O2.cy s9)
 ·rintro b (h1 | ⟨k1,o1,Ar,Ry,wi,Kp,s9,rfl⟩)
  ·exact g.S2 b h1
  ·rcases g.own k1 o1 Ar wi Kp s9 with h2 | h2
   ·rcases hF with h3 | h3
    ·rw [List.isEmpty_iff] at h3;rw [h3] at Ry;simp at Ry
    ·exact (h3 _ h2).elim
   ·exact .inr h2
 ·intro k o Rz
  obtain ⟨pl,c,T,h1,h2,_⟩:=RJ k o Rz
  exact ⟨pl,c,T,h1,h2⟩
 ·intro k k' o o' pl jQ fP Rz YD tL RK hc oe
  obtain ⟨Ar,c,T,h1,_,h3⟩:=RJ k o Rz
  obtain ⟨rD,c',T',QV,_,h3'⟩:=RJ k' o' YD
  rw [tL] at h1;cases h1
  rw [RK] at QV;cases QV
  obtain ⟨k0,o0,qy,tq,d,hd,hdo⟩:=h3 hc
  obtain ⟨Xu,o0',YE,YF,d',Vi,YG⟩:=h3' oe
  have OG:k0≠Xu:=by
   rintro rfl
   exact fP (Pr fj k k' d d' N.od hd Vi hdo YG)
  exact g.rep.ne k0 Xu o0 o0' pl jQ OG qy YE tq YF hc oe
 ·intro k o pl Rz tL hc
  obtain ⟨Ar,c,T,h1,_,h3⟩:=RJ k o Rz
  rw [tL] at h1;cases h1
  obtain ⟨k0,o0,qy,tq,_⟩:=h3 hc
  exact g.own k0 o0 pl qy tq hc
 ·intro k nL
  unfold Ga
  rw [if_pos nL];exact g.CC k nL
 ·intro k nL
  have nL:nk≤k:=nL
  have:=N.m0
  unfold Ga
  rw [if_neg (by omega)]
  cases hg:tw fj k with
  | none=>rfl
  | some d =>
   have:=N.lt k d (yy hg)
   omega
 ·exact He (R:=fun v x=>ao w (SF μ F st.mJ S) (Ga E.m0 μ fj) v x) (fun _=>.mn) (fun d t ps y h1 h2=>L8 g N d _ _ ps y (ht t) h1 h2) xc p tm V9 xa
def aE (P:Program) (E:Env) (fn:FuncId) (nt:Nat) (dH:Value→World→Prop) (k:List Item) (st:St):Prop :=
 ∀ (tm:Array Value) (w:World),tm.size=nt→Nj E st tm w→∀ (b:Frame),b.fn=fn→b.kind=.normal→∀ cs,
  ∃ v w' fr,dH v w'∧Steps P (lone (b.at ⟨tm,[]⟩ k) cs w) (lone fr cs w')∧fr.fn=fn∧fr.leaving P w' (.returned v)
variable {fn:FuncId} {nt:Nat} {dH:Value→World→Prop} {k k':List Item} {st BV:St}
theorem aE.step (h:aE P E fn nt dH k' st) (hs:∀ (b:Frame) (a:Act) (cs:List Frame) (w:World),step P (lone (b.at a k) cs w)=.next (lone (b.at a k') cs w)):aE P E fn nt dH k st:=by
 intro tm w h1 h2 b h3 h4 cs
 obtain ⟨v,w',fr,q1,q2,q3,q4⟩:=h tm w h1 h2 b h3 h4 cs
 exact ⟨v,w',fr,q1,.head (hs b ⟨tm,[]⟩ cs w) q2,q3,q4⟩
theorem aE.seq {x y:Code} (h:aE P E fn nt dH (.code x :: .code y :: k) st):aE P E fn nt dH (.code (.seq x y) :: k) st:=h.step fun _ _ _ _=>step_seq
theorem aE.block {id:Nat} {c:Code} (h:aE P E fn nt dH (.code c :: .inBlock id :: k) st):aE P E fn nt dH (.code (.block id c) :: k) st:=h.step fun _ _ _ _=>step_block
theorem aE.inBlock {id:Nat} (h:aE P E fn nt dH k st):aE P E fn nt dH (.inBlock id :: k) st:=h.step fun _ _ _ _=>step_inBlock
theorem aE.loop {c:Code} (h:aE P E fn nt dH (.code c :: .inLoop c :: k) st):aE P E fn nt dH (.code (.loop c) :: k) st:=h.step fun _ _ _ _=>step_loop
theorem aE.inLoop {c:Code} (h:aE P E fn nt dH (.code c :: .inLoop c :: k) st):aE P E fn nt dH (.inLoop c :: k) st:=h.step fun _ _ _ _=>step_inLoop
theorem aE.skip (h:aE P E fn nt dH k st):aE P E fn nt dH (.code .skip :: k) st:=h.step fun _ _ _ _=>step_skip
theorem aE.label {l:Nat} (h:aE P E fn nt dH k st):aE P E fn nt dH (.code (.label l) :: k) st:=h.step fun _ _ _ _=>step_label
theorem aE.scope {c:Code} (h:aE P E fn nt dH (.code c :: .inScope c :: k) st):aE P E fn nt dH (.code (.scope c) :: k) st:=h.step fun _ _ _ _=>step_lone_go (by rfl)
theorem aE.inScope {c:Code} (h:aE P E fn nt dH k st):aE P E fn nt dH (.inScope c :: k) st:=h.step fun _ _ _ _=>step_lone_go (by rfl)
theorem aE.exit {id:Nat} (he:exitTo id k=some k') (h:aE P E fn nt dH k' st):aE P E fn nt dH (.code (.exit id) :: k) st:=h.step fun _ _ _ _=>step_exit he
theorem aE.cond {c:Operand} {x y:Code} {q:Bool} (hc:wj st.tm c=.atom (.bool q)) (h1:q=true→aE P E fn nt dH (.code x :: k) st) (h2:q=false→aE P E fn nt dH (.code y :: k) st) :
  aE P E fn nt dH (.code (.cond c x y) :: k) st:=by
 intro tm w hs hr b qQ oc cs
 have Au:=hr
 obtain ⟨S,μ,g,_,_,ht⟩:=Au
 have e:=yw (a:=⟨tm,[]⟩) ht c
 rw [hc] at e
 have e:=cX e
 have As:=step_cond (P:=P) (b:=b) (k:=k) (cs:=cs) (w:=w) (x:=x) (y:=y) e
 cases q with
 | true =>
  obtain ⟨v,w',fr,q1,q2,q3,q4⟩:=h1 rfl tm w hs hr b qQ oc cs
  exact ⟨v,w',fr,q1,.head As q2,q3,q4⟩
 | false =>
  obtain ⟨v,w',fr,q1,q2,q3,q4⟩:=h2 rfl tm w hs hr b qQ oc cs
  exact ⟨v,w',fr,q1,.head As q2,q3,q4⟩
structure bh (E:Env) (m:Nat):Prop where
 m0:E.m0=m
 fp:m=0→∀ b,¬ E.fp b
theorem aE.wk {m:Nat} (hE:bh E m) {xc:List (Nat×Wd)} {ps:List Prop} (h:F9 m st F xc fj nk=some (ps,BV)) (hF:(F.isEmpty || Nat.beq m 0)=true) (hp:bg ps) (hr:aE P E fn nt dH k BV):aE P E fn nt dH k st:=by
 have h':F9 E.m0 st F xc fj nk=some (ps,BV):=by rw [hE.m0];exact h
 refine fun tm w h1 h2=>hr tm w h1 (EK h' hp ?_ h2)
 rcases Bool.or_eq_true_iff.1 hF with h3 | h3
 ·exact .inl h3
 ·exact .inr (hE.fp (bK h3))
def AK (P:Program) (nt:Nat) (c:Code) (orcs:List (Nat×nG)) (st:St):Option (List Prop×St) :=
 match c with
 | .region _ ops draw=>match rF P nt ops.toList st.nk orcs ops.toList 0 st.tm st.mJ with
  | some dc=>match !draw || (P.follows .mixedOrders && Pj ops.toList dc) with
   | true=>some (Ex dc,⟨CL dc st.tm,xw dc st.mJ,st.nk+16 * ops.size⟩)
   | false=>none
  | none=>none
 | _=>none
def wm:List (Nat×nG)→Bool
 | []=>true
 | (_,o) :: r=>!o.wg && wm r
def Vo:List (Nat×nG)→Bool
 | []=>true
 | (_,o) :: r=>o.y.isNone && Vo r
def Vp (P:Program) (E:Env):List (Nat×nG)→Prop
 | []=>True
 | (_,o) :: r=>(match o.y with
  | some y=>Xo P E y
  | none=>True)∧Vp P E r
theorem Hf:∀ {orcs:List (Nat×nG)},wm orcs=true→∀ i x,p9 orcs i=some x→x.wg=true→False
 | [],_,i,x,h,_=>by simp [p9] at h
 | (a,o) :: r,hn,i,x,h,hx=>by
  simp only [wm,bc,Bool.not_eq_true'] at hn
  simp only [p9] at h
  split at h
  ·simp_all
  ·exact Hf hn.2 i x h hx
theorem HV {P:Program} {E:Env}:∀ {orcs:List (Nat×nG)},Vo orcs=true→Vp P E orcs
 | [],_=>trivial
 | (a,o) :: r,hn=>by
  simp only [Vo,bc,Option.isNone_iff_eq_none] at hn
  refine ⟨?_,HV hn.2⟩
  rw [hn.1];trivial
theorem L9 {P:Program} {E:Env}:∀ {orcs:List (Nat×nG)},Vp P E orcs→∀ i x y,p9 orcs i=some x→x.y=some y→Xo P E y
 | [],_,i,x,y,h,_=>by simp [p9] at h
 | (a,o) :: r,hn,i,x,y,h,hx=>by
  simp only [p9] at h
  split at h
  ·cases h
   have:=hn.1
   simp_all
  ·exact L9 hn.2 i x y h hx
theorem xx {rd:Option Nat} {ds:List Deferred} {c:Code} {orcs:List (Nat×nG)} (hz:wm orcs=true∨∀ b,¬ E.fp b) (hy:Vp P E orcs) {ps:List Prop} (h:AK P nt c orcs st=some (ps,BV)) (hp:bg ps)
  {tm:Array Value} {w:World} (hs:tm.size=nt) (zD:Nj E st tm w):c.wpIn (FW rd) 0 P (fun e a w=>e=.normal∧a.tmps.size=nt∧a.defers=ds∧Nj E BV a.tmps w) ⟨tm,ds⟩ w:=by
 have hz:∀ i,Jo P E (p9 orcs i):=fun i=>⟨fun x hx hf=>hz.elim (fun hn=>(Hf hn i x hx hf).elim) id,fun x y hx Tp=>L9 hy i x y hx Tp⟩
 unfold AK at h
 split at h
 case h_2=>cases h
 rename_i id ops draw
 split at h
 case h_2=>cases h
 rename_i dc Xq
 split at h
 case h_2=>cases h
 rename_i hd
 simp only [aA,az] at h
 obtain ⟨rfl,rfl⟩:=h
 obtain ⟨S,μ,g,hk,hm,ht⟩:=zD
 let Q0:Exit→Act→World→Prop:=fun e a w=>e=.normal∧a.tmps.size=nt∧a.defers=ds∧Nj E ⟨CL dc st.tm,xw dc st.mJ,st.nk+16 * ops.size⟩ a.tmps w
 show (Code.region id ops draw).wpIn (FW rd) 0 P Q0 ⟨tm,ds⟩ w
 have hQ:∀ (a':Act) (w':World) (S':Nat→Prop) (da:Mu),a'.tmps.size=nt→a'.defers=ds→Good E (xw dc st.mJ) S' da w'→(∀ k,st.nk+16 * ops.size≤k→da k=none)→(∀ t,ao w' S' da (a'.tmps.getD t undef) (dI (CL dc st.tm) t)) →
   Q0 .normal a' w' :=
  fun a' w' S' da q1 q2 q3 q4 q5=>⟨rfl,q1,q2,S',da,q3,q4,by grind,q5⟩
 cases draw with
 | false =>
  refine wpIn_region ?_
  have:=G6 (P:=P) (E:=E) (Q:=Q0) (rd:=rd) (ds:=ds) (nt:=nt) (nk:=st.nk) (ops:=ops) (orcs:=orcs) hz hm ops.toList 0 ⟨tm,ds⟩ w st.tm st.mJ S μ dc rfl (by simp) hs rfl g (by simpa using hk) ht Xq hp hQ
  rw [List.range_eq_range']
  simpa using this
 | true =>
  simp only [Bool.not_true,Bool.false_or,bc] at hd
  refine wpIn_region_any hd.1 ?_
  have hrf:∀ (n j:Nat),(Array.replicate n false).getD j false=false:=by
   intro n j
   simp only [se,Array.getElem?_replicate]
   split<;>rfl
  refine KM hz hm Xq hp hd.2 hQ ops.size _ ⟨tm,ds⟩ _ S μ (by simp) hs rfl ?_ ?_ ?_ ?_ ?_
  ·simp_all
  ·omega
  ·rw [BS dc 0 st.mJ _ (fun m _=>hrf _ _)];exact g.drew
  ·simp_all
  ·intro t
   rw [EG dc 0 st.tm _ (fun m _=>hrf _ _)]
   exact (ht t).ext (Ext.drew w S μ)
theorem aE.region {c:Code} {orcs:List (Nat×nG)} (hz:wm orcs=true∨∀ b,¬ E.fp b) (hy:Vp P E orcs) {ps:List Prop} (h:AK P nt c orcs st=some (ps,BV)) (hp:bg ps) (hr:aE P E fn nt dH k BV):aE P E fn nt dH (.code c :: k) st:=by
 intro tm w hs zD b qQ oc cs
 have YH:c.wp P (fun e a w=>e=.normal∧a.tmps.size=nt∧a.defers=[]∧Nj E BV a.tmps w) ⟨tm,[]⟩ w:=(wpIn_wide (n:=0)).1 (xx (rd:=none) (ds:=[]) hz hy h hp hs zD)
 obtain ⟨e,a',w',⟨rfl,q1,q2,q3⟩,Ul⟩:=YH b k cs
 have ha:a'=⟨a'.tmps,[]⟩:=by cases a';simp at q2;simp [q2]
 obtain ⟨v,Vf,fr,r1,r2,r3,r4⟩:=hr a'.tmps w' q1 q3 b qQ oc cs
 refine ⟨v,Vf,fr,r1,Steps.trans Ul ?_,r3,r4⟩
 rw [ha];exact r2
end
end Go.Ab
namespace Go.Ab
def aW (E:Env) (dX:dn) (res:AV) (v:Value) (w':World):Prop:=∃ S' da,Good E dX S' da w'∧ao w' S' da v res
def EL (P:Program) (st:St):List ResultVar→Option (List Prop×List AV)
 | []=>some ([],[])
 | .tmp t :: r=>(EL P st r).map fun (p,l)=>(p,dI st.tm t :: l)
 | .cell a t :: r=>match xh P st.mJ t (dI st.tm a),EL P st r with
  | some (p,x,_),some (q,l)=>some (p ++ q,x :: l)
  | _,_=>none
def Pt:List AV→AV
 | [x]=>x
 | l=>.tup l
def xy (P:Program) (fn:Func) (st:St):Option (List Prop×AV):=(EL P st fn.results.toList).map fun (p,l)=>(p,Pt l)
section
variable {P:Program} {E:Env} {fn:FuncId} {nt:Nat} {k:List Item} {st:St}
theorem HW {S:Nat→Prop} {μ:Mu} {w:World} (g:Good E st.mJ S μ w) {tm:Array Value} (ht:∀ t,ao w S μ (tm.getD t undef) (dI st.tm t)) :
  ∀ (l:List ResultVar) (ps:List Prop) (xs:List AV),EL P st l=some (ps,xs)→bg ps→∃ vs:List Value,
   (l.mapM fun r=>(match r with | .tmp t=>pure (tm.getD t undef) | .cell a t=>(do loadVar t (← asAddr (tm.getD a undef)):Sem Value)):Sem (List Value)).run P w=.ok vs w∧vs.length=xs.length ∧
   ∀ (j:Nat) c v,xs[j]?=some c→vs[j]?=some v→ao w S μ v c
 | [],ps,xs,h,_=>by
  simp [EL] at h;simp_all
 | .tmp t :: r,ps,xs,h,hp=>by
  simp only [EL,aG,az] at h
  obtain ⟨⟨p,l⟩,h1,rfl,rfl⟩:=h
  obtain ⟨vs,q1,q2,q3⟩:=HW g ht r p l h1 hp
  refine ⟨tm.getD t undef :: vs,by simp_all,by simp [q2],?_⟩
  grind
 | .cell a t :: r,ps,xs,h,hp=>by
  simp only [EL] at h
  split at h
  ·rename_i p x rd q l h1 h2
   simp only [aA,az] at h
   obtain ⟨rfl,rfl⟩:=h
   obtain ⟨xa,wM⟩:=bg.app hp
   obtain ⟨vs,q1,q2,q3⟩:=HW g ht r q l h2 wM
   obtain ⟨v,r1,r2⟩:=HD (P:=P) g (ht a) h1 xa
   have YI:∃ ad,tm.getD a undef=.pointer (some ad):=by
    cases hv:tm.getD a undef with
    | pointer o =>
     cases o with
     | none=>simp_all [Instr.loadAt,Instr.sureAddr]
     | some ad=>exact ⟨ad,rfl⟩
    | _=>simp_all [Instr.loadAt,Instr.sureAddr]
   obtain ⟨ad,had⟩:=YI
   rw [had] at r1
   simp only [Instr.loadAt,Instr.sureAddr,bD,Sem.run_pure,cV] at r1
   have hA:(asAddr (tm.getD a undef)).run P w=.ok ad w:=by rw [had];rfl
   refine ⟨v :: vs,by simp_all,by simp [q2],?_⟩
   grind
  ·cases h
theorem zN {f:Func} (hf:P.funcs[fn]?=some f) {ps:List Prop} {res:AV} (h:xy P f st=some (ps,res)) (hp:bg ps) {tm:Array Value} {w:World} (hr:Nj E st tm w) {b:Frame} (qQ:b.fn=fn) (oc:b.kind=.normal) (todo:List Item) :
  ∃ v,aW E st.mJ res v w∧Frame.leaving P { b.at ⟨tm,[]⟩ todo with mode:=.returning } w (.returned v):=by
 obtain ⟨S,μ,g,_,_,ht⟩:=hr
 simp only [xy,aG,az] at h
 obtain ⟨⟨p,l⟩,h1,rfl,rfl⟩:=h
 obtain ⟨vs,q1,q2,q3⟩:=HW g ht f.results.toList p l h1 hp
 have hm:(f.results.mapM fun r=>(match r with | .tmp t=>pure (tm.getD t undef) | .cell a t=>(do loadVar t (← asAddr (tm.getD a undef)):Sem Value)):Sem (Array Value)).run P w=.ok vs.toArray w:=by
  rw [Array.mapM_eq_mapM_toList]
  simp only [Sem.run_map,q1,cV]
 have KO:∃ v,ao w S μ v (Pt l)∧(results f tm).run P w=.ok v w:=by
  refine ⟨if h:vs.toArray.size=1 then vs.toArray[0] else .tuple vs.toArray,?_,?_⟩
  ·cases l with
   | nil =>
    have:vs=[]:=List.length_eq_zero_iff.1 q2
    subst this
    simp only [Pt]
    exact .tup rfl fun j c v hc=>by simp at hc
   | cons x r =>
    cases r with
    | nil =>
     simp at q2
     have hs:vs.toArray.size=1:=by simpa using q2
     rw [dif_pos hs]
     exact q3 0 x _ rfl (by simp [q2])
    | cons y r =>
     simp at q2
     have hs:¬ vs.toArray.size=1:=by simp;omega
     rw [dif_neg hs]
     exact .tup (by simp [q2]) fun j c v hc hv=>q3 j c v hc (by simpa using hv)
  ·unfold results
   simp only [bD]
   exact (congrArg (fun r:Result (Array Value)=>r.andThen fun a w'=>Result.ok (if h:a.size=1 then a[0] else Value.tuple a) w') hm)
 obtain ⟨v,hv,ll⟩:=KO
 exact ⟨v,⟨S,μ,g,hv⟩,rfl,rfl,oc,f,by rw [← hf,← qQ];rfl,ll⟩
theorem aE.ret {f:Func} (hf:P.funcs[fn]?=some f) {ps:List Prop} {res:AV} (h:xy P f st=some (ps,res)) (hp:bg ps):aE P E fn nt (aW E st.mJ res) (.code .ret :: k) st:=by
 intro tm w _ hr b qQ oc cs
 obtain ⟨v,h1,h2⟩:=zN hf h hp hr qQ oc (.code .ret :: k)
 exact ⟨v,w,_,h1,.one step_ret,qQ,h2⟩
theorem aE.fin {f:Func} (hf:P.funcs[fn]?=some f) {ps:List Prop} {res:AV} (h:xy P f st=some (ps,res)) (hp:bg ps):aE P E fn nt (aW E st.mJ res) [] st:=by
 intro tm w _ hr b qQ oc cs
 obtain ⟨v,h1,h2⟩:=zN hf h hp hr qQ oc []
 exact ⟨v,w,_,h1,.one step_end,qQ,h2⟩
def tR:List AV→Nat→List (Nat×AV)
 | [],_=>[]
 | x :: r,i=>(i,x) :: tR r (i+1)
theorem zO:∀ (l:List AV) (i t:Nat),dI (tR l i) t=if i≤t then (l[t - i]?).getD .mn else .mn
 | [],i,t=>by simp [tR,dI]
 | x :: r,i,t=>by
  simp only [tR,dI]
  by_cases h:i=t
  ·simp_all
  ·rw [oH h,zO r (i+1) t]
   grind
theorem sor {f:FuncId} {fu:Func} {c:Code} {nt m:Nat} {args:List AV} {σ dX:dn} {res:AV} (hf:P.funcs[f]?=some fu) (hb:fu.body=some c) (hn:fu.ntmps=nt) (ha:Nat.ble args.length nt=true)
  (KP:m=0→σ=[]) (h:∀ E,bh E m→aE P E f nt (aW E dX res) [.code c] ⟨tR args 0,σ,m⟩):Sound P f args σ m res dX:=by
 simp only [Nat.ble_eq] at ha
 intro w S μ vs g hk hl cs
 have hE:bh (sm w S σ μ m) m:=⟨rfl,fun hm b=>by
  rintro (⟨k,o,pl,h1,_⟩ | ⟨k,i,x,v,⟨o,pl,h1,_⟩,_⟩)<;>(rw [KP hm] at h1;simp [ar] at h1)⟩
 let b:Frame:={ (default:Frame) with fn:=f,kind:=.normal }
 have KQ:Frame.enter P f vs .normal=b.at ⟨vs ++ Array.replicate (nt - vs.size) undef,[]⟩ [.code c]:=by
  simp [Frame.enter,Frame.at,hf,hb,hn,b]
 have qR:=hl.1
 obtain ⟨v,w',fr,h1,h2,h3,h4⟩:=h _ hE (vs ++ Array.replicate (nt - vs.size) undef) w (by simp;omega) ⟨S,μ,g,hk,aF _,fun t=>by
  show ao w S μ _ (dI (tR args 0) t)
  rw [zO,if_pos (Nat.zero_le _),Nat.sub_zero]
  cases hx:args[t]? with
  | none=>exact .mn
  | some x =>
   have gk:t < vs.size:=by rw [qR];exact (dD.1 hx).1
   have hv:(vs ++ Array.replicate (nt - vs.size) undef).getD t undef=vs[t]:=by
    simp [se,Array.getElem?_append_left gk,gk]
   rw [hv]
   exact hl.2 t x _ hx (jd gk)⟩ b rfl rfl cs
 rw [← KQ] at h2
 obtain ⟨S',da,g',hv⟩:=h1
 exact ⟨.returned v,w',fr,⟨v,S',da,rfl,g',hv⟩,h2,h3,h4⟩
end
end Go.Ab
namespace Go.Ab
def Um (f:Func):Code:=f.body.getD .skip
def cat:Code→List Bool→Code
 | c,[]=>c
 | .seq a _,false :: p=>cat a p
 | .seq _ b,true :: p=>cat b p
 | .cond _ a _,false :: p=>cat a p
 | .cond _ _ b,true :: p=>cat b p
 | .block _ b,_ :: p=>cat b p
 | .loop b,_ :: p=>cat b p
 | .scope b,_ :: p=>cat b p
 | c,_ :: _=>c
def HX:List Item→Option (List Item)
 | .code (.seq a b) :: k=>some (.code a :: .code b :: k)
 | .code (.block id c) :: k=>some (.code c :: .inBlock id :: k)
 | .code (.loop c) :: k=>some (.code c :: .inLoop c :: k)
 | .inLoop c :: k=>some (.code c :: .inLoop c :: k)
 | .inBlock _ :: k=>some k
 | .code (.scope c) :: k=>some (.code c :: .inScope c :: k)
 | .inScope _ :: k=>some k
 | .code .skip :: k=>some k
 | .code (.label _) :: k=>some k
 | .code (.exit id) :: k=>exitTo id k
 | _=>none
def EM:Nat→List Item→Option (List Item)
 | 0,k=>some k
 | n+1,k=>match HX k with
  | some k'=>EM n k'
  | none=>none
section
variable {P:Program} {E:Env} {fn:FuncId} {nt:Nat} {dH:Value→World→Prop} {k k':List Item} {st BV:St}
theorem aE.HX (h:HX k=some k') (hr:aE P E fn nt dH k' st):aE P E fn nt dH k st:=by
 unfold Ab.HX at h
 split at h
 ·cases h;exact hr.seq
 ·cases h;exact hr.block
 ·cases h;exact hr.loop
 ·cases h;exact hr.inLoop
 ·cases h;exact hr.inBlock
 ·cases h;exact hr.scope
 ·cases h;exact hr.inScope
 ·cases h;exact hr.skip
 ·cases h;exact hr.label
 ·exact hr.exit h
 ·cases h
theorem aE.EM:∀ (n:Nat) {k:List Item},EM n k=some k'→aE P E fn nt dH k' st→aE P E fn nt dH k st
 | 0,k,h,hr=>by simp only [Ab.EM,aA] at h;rw [h];exact hr
 | n+1,k,h,hr=>by
  simp only [Ab.EM] at h
  split at h
  ·rename_i k1 h1
   exact aE.HX h1 (aE.EM n h hr)
  ·cases h
theorem aE.Tr {c x y:Code} {o:Operand} {q:Bool} (hx:c=.cond o x y) (hc:wj st.tm o=.atom (.bool q)) (h1:q=true→aE P E fn nt dH (.code x :: k) st) (h2:q=false→aE P E fn nt dH (.code y :: k) st) :
  aE P E fn nt dH (.code c :: k) st:=by
 grind [aE.cond]
theorem aE.Un {c x y:Code} {o:Operand} {n:Nat} (hx:c=.cond o x y) (hc:wj st.tm o=.bn n) (h1:n=0→aE P E fn nt dH (.code x :: k) st) (h2:aE P E fn nt dH (.code y :: k) st) :
  aE P E fn nt dH (.code c :: k) st:=by
 subst hx
 intro tm w hs hr b qQ oc cs
 have Au:=hr
 obtain ⟨S,μ,g,_,_,ht⟩:=Au
 have e:=yw (a:=⟨tm,[]⟩) ht o
 rw [hc] at e
 obtain ⟨q,e1,e2⟩:∃ q,(⟨tm,[]⟩:Act).eval o=.bool q∧(q=true→n=0):=by
  generalize (⟨tm,[]⟩:Act).eval o=v at e
  cases e with
  | bn q h=>exact ⟨q,rfl,h⟩
 have As:=step_cond (P:=P) (b:=b) (k:=k) (cs:=cs) (w:=w) (x:=x) (y:=y) e1
 cases q with
 | true =>
  obtain ⟨v,w',fr,q1,q2,q3,q4⟩:=h1 (e2 rfl) tm w hs hr b qQ oc cs
  exact ⟨v,w',fr,q1,.head As q2,q3,q4⟩
 | false =>
  obtain ⟨v,w',fr,q1,q2,q3,q4⟩:=h2 tm w hs hr b qQ oc cs
  exact ⟨v,w',fr,q1,.head As q2,q3,q4⟩
end
def AL:dn→List Nat→dn
 | σ,[]=>σ
 | σ,k :: r=>AL (uq σ k) r
theorem aW.RM {E:Env} {res:AV} {v:Value} {w:World}:∀ (ks:List Nat) {σ:dn},aW E σ res v w→aW E (AL σ ks) res v w
 | [],_,h=>h
 | k :: r,_,⟨S,μ,g,hv⟩=>aW.RM r ⟨S,μ,g.del k,hv⟩
theorem aE.YJ {P:Program} {E:Env} {fn:FuncId} {nt:Nat} {k:List Item} {st:St} {c:Code} (ks:List Nat) (hx:c=.ret) {f:Func} (hf:P.funcs[fn]?=some f) {ps:List Prop} {res:AV} {dX:dn} (h:xy P f st=some (ps,res))
  (KP:AL st.mJ ks=dX) (hp:bg ps):aE P E fn nt (aW E dX res) (.code c :: k) st:=by
 subst hx KP
 intro tm w h1 h2 b h3 h4 cs
 obtain ⟨v,w',fr,q1,q2⟩:=aE.ret (E:=E) (nt:=nt) (k:=k) hf h hp tm w h1 h2 b h3 h4 cs
 exact ⟨v,w',fr,q1.RM ks,q2⟩
theorem aE.YK {P:Program} {E:Env} {fn:FuncId} {nt:Nat} {st:St} (ks:List Nat) {f:Func} (hf:P.funcs[fn]?=some f) {ps:List Prop} {res:AV} {dX:dn} (h:xy P f st=some (ps,res))
  (KP:AL st.mJ ks=dX) (hp:bg ps):aE P E fn nt (aW E dX res) [] st:=by
 subst KP
 intro tm w h1 h2 b h3 h4 cs
 obtain ⟨v,w',fr,q1,q2⟩:=aE.fin (E:=E) (nt:=nt) hf h hp tm w h1 h2 b h3 h4 cs
 exact ⟨v,w',fr,q1.RM ks,q2⟩
def Jw (P:Program) (nt m:Nat) (c:Code) (orcs:List (Nat×nG)) (F:List Nat) (xc:List (Nat×Wd)) (fj:zL) (nk:Nat) (st:St):Option (List Prop×St) :=
 match AK P nt c orcs st with
 | some (ps,s1)=>match F9 m s1 F xc fj nk with
  | some (qs,s2)=>some (ps ++ qs,s2)
  | none=>none
 | none=>none
theorem aE.rw {P:Program} {E:Env} {fn:FuncId} {nt:Nat} {dH:Value→World→Prop} {k:List Item} {st BV:St} {m:Nat} {c:Code} {orcs:List (Nat×nG)} {F:List Nat} {xc:List (Nat×Wd)} {fj:zL} {nk:Nat}
  (hE:bh E m) {ps:List Prop} (h:Jw P nt m c orcs F xc fj nk st=some (ps,BV)) (hF:((F.isEmpty && wm orcs) || Nat.beq m 0)=true) (hy:Vp P E orcs) (hp:bg ps) (hr:aE P E fn nt dH k BV):aE P E fn nt dH (.code c :: k) st:=by
 unfold Jw at h
 split at h
 ·rename_i p1 s1 h1
  split at h
  ·rename_i q1 s2 h2
   simp only [aA,az] at h
   obtain ⟨rfl,rfl⟩:=h
   obtain ⟨xa,wM⟩:=bg.app hp
   have Xv:(F.isEmpty || Nat.beq m 0)=true:=by
    rcases Bool.or_eq_true_iff.1 hF with h | h
    ·simp [(Av.1 h).1]
    ·simp [h]
   have hz:wm orcs=true∨∀ b,¬ E.fp b:=by
    rcases Bool.or_eq_true_iff.1 hF with h | h
    ·simp_all
    ·exact .inr (hE.fp (bK h))
   grind [aE.region,aE.wk]
  ·cases h
 ·cases h
abbrev aI (n:Int):AV:=.atom (.int .i64 n)
abbrev aB (b:Bool):AV:=.atom (.bool b)
abbrev aS (s:ByteArray):AV:=.atom (.string s)
def aH {α:Type} (c:α→List AV) (d:α) (l:List α):AV:=.sl l.length fun i=>c (l.getD i d)
def cI (n:Int):List AV:=[aI n]
def cB (b:Bool):List AV:=[aB b]
def cS (s:ByteArray):List AV:=[aS s]
def cU (k:IntKind) (n:Int):List AV:=[.atom (.int k n)]
abbrev ag (n:Int):Int:=IntKind.i64.wrap n
theorem ab {α:Type} {p:Prop} [Decidable p] {x:Option α} {r:α} (h:(if p then x else none)=some r):p∧x=some r:=by
 simp_all
theorem aP {α β:Type} {x:Option α} {f:α→Option β} {r:β} (h:x.bind f=some r):∃ a,x=some a∧f a=some r:=Option.bind_eq_some_iff.1 h
theorem aL {α:Type} {q:Bool} {x y:α} {r:α} (h:cond q x y=r) (hq:q=true):x=r:=by subst hq;exact h
def Alike (x y:AV):Prop:=∀ w S μ v,ao w S μ v x→ao w S μ v y
theorem Alike.refl (x:AV):Alike x x:=fun _ _ _ _ h=>h
theorem Alike.sl {n m:Nat} {g g':Nat→List AV} (hn:n=m) (hg:∀ i,i < m→g' i=g i):Alike (.sl n g) (.sl m g'):=by
 subst hn
 intro w S μ v h
 cases h with
 | sl b off sz f h1 h2 h3 h4 h5=>exact .sl b off sz f h1 (fun i hi=>by simp_all) h3 (fun i j c hi hc=>h4 i j c hi (by simp_all)) h5
theorem Alike.nil {g:Nat→List AV}:Alike .nil (.sl 0 g):=by
 intro w S μ v h
 cases h
 exact .sl 0 0 0 (fun _ _=>undef) (fun h=>absurd h (by omega)) (fun i h=>absurd h (by omega)) (fun i j h=>absurd h (by omega)) (fun i j c h=>absurd h (by omega)) (aF _)
theorem Alike.rp {cs:List AV}:Alike (.rp cs 0) (.pt true cs):=fun _ _ _ _ h=>.pt (fun _=>h) (fun h=>by cases h)
inductive zP:List AV→List AV→Prop where
 | nil:zP [] []
 | cons {x y:AV} {xs ys:List AV}:Alike x y→zP xs ys→zP (x :: xs) (y :: ys)
theorem zP.get {xs ys:List AV} (h:zP xs ys):xs.length=ys.length∧∀ (j:Nat) y,ys[j]?=some y→∃ x,xs[j]?=some x∧Alike x y:=by
 induction h with
 | nil=>simp
 | cons h1 _ ih =>
  grind
theorem Alike.agg {xs ys:List AV} (h:zP xs ys):Alike (.agg xs) (.agg ys):=by
 intro w S μ v hv
 obtain ⟨h1,h2⟩:=h.get
 cases hv with
 | agg q1 q2 =>
  refine .agg (q1.trans h1) fun j y v hy hv=>?_
  obtain ⟨x,hx,ha⟩:=h2 j y hy
  exact ha _ _ _ _ (q2 j x v hx hv)
theorem Sound.conv {P:Program} {f:FuncId} {args Ts:List AV} {σ dX:dn} {m:Nat} {res:AV} (h:Sound P f args σ m res dX) (ha:zP Ts args):Sound P f Ts σ m res dX:=by
 obtain ⟨h1,h2⟩:=ha.get
 intro w S μ vs g hk hl
 refine h w S μ vs g hk ⟨hl.1.trans h1,fun j c v hc hv=>?_⟩
 obtain ⟨x,hx,we⟩:=h2 j c hc
 exact we _ _ _ _ (hl.2 j x v hx hv)
def ss (k:IntKind) (a b:Int):Int:=k.wrap (BitVec.ofInt k.bits a ||| BitVec.ofInt k.bits b).toNat
def Jx (k:IntKind) (a b:Int):Int:=k.wrap (BitVec.ofInt k.bits a &&& BitVec.ofInt k.bits b).toNat
def gJ (k:IntKind) (a b:Int):Int:=k.wrap (a * 2 ^ (min b.toNat k.bits))
def oy (k:IntKind) (a b:Int):Int:=a.fdiv (2 ^ (min b.toNat k.bits))
theorem dR {n:Int} {m:Nat} (h:0≤n∧n < (m:Int)):n.toNat < m:=by omega
theorem mo {a b:Bool} (h:a=true) (k:b=true):(a && b)=true:=by rw [h,k];rfl
theorem rG {α:Type} (c:α→List AV) (d x:α) (n i:Nat) (hi:i < (List.replicate n x).length):c ((List.replicate n x).getD i d)=c x:=by
 simp_all
theorem oz {α:Type} (c:α→List AV) (d x:α) (n i:Nat) {z:List AV} (h:IQ z (c x)) (hi:i < (List.replicate n x).length):IQ z (c ((List.replicate n x).getD i d)):=by simp_all
theorem DR {α:Type} (c:α→List AV) (d:α) (l:List α) (a b i:Nat) (hi:i < ((l.take b).drop a).length):c (((l.take b).drop a).getD i d)=c (l.getD (bu a i) d):=by
 have h1:a+i < min b l.length:=by simp at hi;omega
 rw [dg]
 grind
theorem b9 {α:Type} (c:α→List AV) (d:α) (l:List α) (i:Nat) (hi:i < l.length):c (l.getD i d)=(l.map c).getD i []:=by
 simp_all
theorem RN {α:Type} (l:List α) (a b:Nat) (h1:a≤b) (h2:b≤l.length):b - a=((l.take b).drop a).length:=by simp;omega
theorem xz {α:Type} (l:List α) (a b:Nat) (h1:a≤b∧b≤l.length):b - a=((l.take b).drop a).length:=RN l a b h1.1 h1.2
end Go.Ab
namespace Go.Ab
theorem condSplit {α:Type} {q:Bool} {x y r:α} (h:cond q x y=r):(q=true∧x=r)∨(q=false∧y=r):=by grind
theorem bL {α:Type} (c:α→List AV) (d:α) (l m:List α) {n:Nat} {g1 g2:Nat→List AV} (hn:n=l.length) (h1:∀ z,z < l.length→c (l.getD z d)=g1 z)
  (h2:∀ z,z < m.length→c (m.getD z d)=g2 z) (i:Nat) (hi:i < (l ++ m).length):c ((l ++ m).getD i d)=if i < n then g1 i else g2 (i - n):=by
 grind
theorem ax {α:Type} {l m:List α} {n k:Nat} (hn:n=l.length) (hk:k=m.length):n+k=(l ++ m).length:=by subst hn hk;simp
theorem xA {α:Type} (c:α→List AV) (d:α) (l:List α) (k:Nat) (x:α) {g:Nat→List AV} (h1:∀ z,z < l.length→c (l.getD z d)=g z) (i:Nat) (hi:i < (l.set k x).length) :
  c ((l.set k x).getD i d)=if i=k then c x else g i:=by
 grind
theorem mL {α:Type} {l:List α} {n k:Nat} {x:α} (hn:n=l.length):n=(l.set k x).length:=by subst hn;simp
def kp:List Nat→List (Nat×Wd)
 | []=>[]
 | t :: r=>(t,.ah) :: kp r
def kq:List Nat→zL
 | []=>[]
 | k :: r=>(k,.ah k) :: kq r
def vO (n:Nat) (cs:List AV):Ob:=⟨true,n,1,true,fun _=>cs⟩
def vN (n:Nat) (cs:List AV):Ob:=⟨true,n,1,false,fun _=>cs⟩
def aO {α:Type} (sz:Nat) (c:α→List AV) (d:α) (l:List α):Ob:=⟨false,sz,l.length,true,fun zi=>c (l.getD zi d)⟩
def Tt:Nat→Nat→List Bool→List Bool
 | 0,_,acc=>acc
 | k+1,n,acc=>match Nat.ble n 1 with
  | true=>acc
  | false=>Tt k (n / 2) (Nat.beq (n % 2) 1 :: acc)
def pth (n:Nat):List Bool:=Tt 400 n []
theorem o1:0 < 1:=Nat.one_pos
theorem z0 {n:Nat}:0+n≤n:=Nat.le_of_eq (Nat.zero_add _)
section
variable {P:Program} {E:Env} {fn:FuncId} {nt:Nat} {dH:Value→World→Prop} {k:List Item} {st:St} {m:Nat}
theorem aE.sA (n:Nat) (k':List Item) (hr:aE P E fn nt dH k' st) (h:Ab.EM n k=some k':=by kernel_rfl):aE P E fn nt dH k st:=aE.EM n h hr
theorem aE.sC {c:Code} (t:Nat) (x y:Code) (q:Bool) (h1:q=true→aE P E fn nt dH (.code x :: k) st) (h2:q=false→aE P E fn nt dH (.code y :: k) st) (hx:c=.cond (.tmp t) x y:=by kernel_rfl) (hc:wj st.tm (.tmp t)=.atom (.bool q):=by kernel_rfl) :
  aE P E fn nt dH (.code c :: k) st:=aE.Tr hx hc h1 h2
theorem aE.sT {c:Code} (f:Func) (ks:List Nat) (ps:List Prop) {res:AV} {dX:dn} (hp:bg ps) (hx:c=.ret:=by kernel_rfl) (hf:P.funcs[fn]?=some f:=by kernel_rfl) (h:xy P f st=some (ps,res):=by kernel_rfl)
  (KP:AL st.mJ ks=dX:=by rfl):aE P E fn nt (aW E dX res) (.code c :: k) st:=aE.YJ ks hx hf h KP hp
theorem aE.sF (f:Func) (ks:List Nat) (ps:List Prop) {res:AV} {dX:dn} (hp:bg ps) (hf:P.funcs[fn]?=some f:=by kernel_rfl) (h:xy P f st=some (ps,res):=by kernel_rfl)
  (KP:AL st.mJ ks=dX:=by rfl):aE P E fn nt (aW E dX res) [] st:=aE.YK ks hf h KP hp
def nK (n:Nat) (k:List Item):List Item:=match Ab.EM n k with
 | some k'=>k'
 | none=>[]
def QZ:List Item→Code
 | .code c :: _=>c
 | _=>.ret
def Xw:List Item→List Item
 | _ :: k=>k
 | []=>[]
def cdX:Code→Code
 | .cond _ x _=>x
 | c=>c
def cdY:Code→Code
 | .cond _ _ y=>y
 | c=>c
def Pu (n:Nat) (k:List Item):Bool:=match Ab.EM n k with
 | some (.code _ :: _)=>true
 | _=>false
def nS (P:Program) (nt m:Nat) (c:Code) (orcs:List (Nat×nG)) (F:List Nat) (xc:List (Nat×Wd)) (fj:zL) (nk:Nat) (st:St):St:=match Jw P nt m c orcs F xc fj nk st with
 | some x=>x.2
 | none=>st
def nV (m:Nat) (st:St) (F:List Nat) (xc:List (Nat×Wd)) (fj:zL) (nk:Nat):St:=match F9 m st F xc fj nk with
 | some x=>x.2
 | none=>st
def Pv:Option (List Prop×St)→Option (List Prop)
 | some x=>some x.1
 | none=>none
theorem HY {n:Nat} {k:List Item} (h:Pu n k=true):Ab.EM n k=some (.code (QZ (nK n k)) :: Xw (nK n k)):=by
 unfold Pu at h
 unfold nK
 split at h
 ·rename_i c k' h1;rw [h1];rfl
 ·cases h
theorem yz {x:Option (List Prop×St)} {ps:List Prop} (h:Pv x=some ps):∃ s,x=some (ps,s):=by
 cases x with
 | none=>cases h
 | some y=>cases h;exact ⟨y.2,rfl⟩
theorem ae (hE:bh E m) (n:Nat) (orcs:List (Nat×nG)) (F:List Nat) (xc:List (Nat×Wd)) (fj:zL) (nk:Nat) {ps:List Prop} (hp:bg ps)
  (hr:aE P E fn nt dH (Xw (nK n k)) (nS P nt m (QZ (nK n k)) orcs F xc fj nk st)) (h0:Pu n k=true:=by kernel_rfl)
  (h:Pv (Jw P nt m (QZ (nK n k)) orcs F xc fj nk st)=some ps:=by kernel_rfl) (hF:(((F.isEmpty && wm orcs) || Nat.beq m 0) && Vo orcs)=true:=by kernel_rfl):aE P E fn nt dH k st:=by
 obtain ⟨s,hs⟩:=yz h
 refine aE.EM n (HY h0) (aE.rw hE hs (Av.1 hF).1 (HV (Av.1 hF).2) hp ?_)
 grind [nS,QZ,nK]
theorem cP (hE:bh E m) (n:Nat) (F:List Nat) (xc:List (Nat×Wd)) (fj:zL) (nk:Nat) {ps:List Prop} (hp:bg ps) {k':List Item} {BV:St} (hr:aE P E fn nt dH k' BV)
  (h0:Ab.EM n k=some k':=by kernel_rfl) (h:F9 m st F xc fj nk=some (ps,BV):=by kernel_rfl) (hF:(F.isEmpty || Nat.beq m 0)=true:=by kernel_rfl):aE P E fn nt dH k st :=
 aE.EM n h0 (aE.wk hE h hF hp hr)
theorem Pw (hE:bh E m) (F:List Nat) (xc:List (Nat×Wd)) (fj:zL) (nk:Nat) {ps:List Prop} (hp:bg ps) (hr:aE P E fn nt dH k (nV m st F xc fj nk))
  (h:Pv (F9 m st F xc fj nk)=some ps:=by kernel_rfl) (hF:(F.isEmpty || Nat.beq m 0)=true:=by kernel_rfl):aE P E fn nt dH k st:=by
 grind [yz,nV,aE.wk]
theorem dr (n t:Nat) {R:Type} {q:Bool} {x y r:R} (h:(bif q then x else y)=r) (h1:q=true→x=r→aE P E fn nt dH (.code (cdX (QZ (nK n k))) :: Xw (nK n k)) st)
  (h2:q=false→y=r→aE P E fn nt dH (.code (cdY (QZ (nK n k))) :: Xw (nK n k)) st) (h0:Pu n k=true:=by kernel_rfl)
  (hx:QZ (nK n k)=.cond (.tmp t) (cdX (QZ (nK n k))) (cdY (QZ (nK n k))):=by kernel_rfl) (hc:wj st.tm (.tmp t)=.atom (.bool q):=by kernel_rfl):aE P E fn nt dH k st :=
 aE.EM n (HY h0) (aE.Tr hx hc (fun hq=>h1 hq (by rw [hq] at h;exact h)) (fun hq=>h2 hq (by rw [hq] at h;exact h)))
theorem cZ (hE:bh E m) (n:Nat) (f:Func) (F:List Nat) (xc:List (Nat×Wd)) (fj:zL) (nk:Nat) {ps:List Prop} (hp:bg ps) (ks:List Nat) {Th:List Prop} (wM:bg Th) {res:AV} {dX:dn}
  (h0:Pu n k=true:=by kernel_rfl) (hx:QZ (nK n k)=.ret:=by kernel_rfl) (h:Pv (F9 m st F xc fj nk)=some ps:=by kernel_rfl) (hf:P.funcs[fn]?=some f:=by kernel_rfl)
  (h2:xy P f (nV m st F xc fj nk)=some (Th,res):=by kernel_rfl) (KP:AL (nV m st F xc fj nk).mJ ks=dX:=by kernel_rfl) (hF:(F.isEmpty || Nat.beq m 0)=true:=by kernel_rfl):aE P E fn nt (aW E dX res) k st:=by
 obtain ⟨s,hs⟩:=yz h
 have e:nV m st F xc fj nk=s:=by unfold nV;rw [hs]
 rw [e] at h2 KP
 exact aE.EM n (HY h0) (aE.wk hE hs hF hp (aE.sT f ks Th wM hx hf h2 KP))
theorem YL (hE:bh E m) (n:Nat) (f:Func) (F:List Nat) (xc:List (Nat×Wd)) (fj:zL) (nk:Nat) {ps:List Prop} (hp:bg ps) (ks:List Nat) {Th:List Prop} (wM:bg Th) {res:AV} {dX:dn}
  (h0:Ab.EM n k=some []:=by kernel_rfl) (h:Pv (F9 m st F xc fj nk)=some ps:=by kernel_rfl) (hf:P.funcs[fn]?=some f:=by kernel_rfl)
  (h2:xy P f (nV m st F xc fj nk)=some (Th,res):=by kernel_rfl) (KP:AL (nV m st F xc fj nk).mJ ks=dX:=by kernel_rfl) (hF:(F.isEmpty || Nat.beq m 0)=true:=by kernel_rfl):aE P E fn nt (aW E dX res) k st:=by
 grind [yz,nV,aE.EM,aE.wk,aE.sF]
def Wa (st:St) (k i sz len:Nat) (g:Nat→List AV):Option (List Prop) :=
 match ar st.mJ k with
 | some o=>match o.var with
  | false=>some [i < o.len,o.get i=[.mr sz len g]]
  | true=>none
 | none=>none
def stO (st:St) (k i sz len:Nat) (g:Nat→List AV):St :=
 match ar st.mJ k with
 | some o=>⟨st.tm,sset (sset st.mJ k ⟨false,o.sz,o.len,false,fun m=>if m=i then [.os st.nk 0 len] else o.get m⟩) st.nk ⟨false,sz,len,true,g⟩,st.nk+16⟩
 | none=>st
theorem RO (k1 i sz len:Nat) (g:Nat→List AV) {ps:List Prop} (hp:bg ps) (hr:aE P E fn nt dH k (stO st k1 i sz len g)) (h:Wa st k1 i sz len g=some ps:=by kernel_rfl):aE P E fn nt dH k st:=by
 refine fun tm w h1 h2=>hr tm w h1 ?_
 obtain ⟨S,μ,g0,hk,hm,ht⟩:=h2
 unfold Wa at h
 unfold stO
 cases ho:ar st.mJ k1 with
 | none=>rw [ho] at h;cases h
 | some o =>
  rw [ho] at h
  simp only at h ⊢
  cases hv:o.var with
  | true=>rw [hv] at h;cases h
  | false =>
   rw [hv] at h
   simp only [aA] at h
   subst h
   obtain ⟨p1,p2,_⟩:=hp
   obtain ⟨q,e1,e2⟩:=g0.opn (hk st.nk (aF _)) hm ho (kB (x:=(sz,len,g)) hv p1 p2)
   exact ⟨S,bT μ st.nk q,e2,fun n hn=>by
    have hn:st.nk+16≤n:=hn
    unfold bT;grind,by grind,fun t=>(ht t).ext e1⟩
def Wb (st:St) (k q i:Nat):Option (List Prop) :=
 match HP st.mJ k q i with
 | some x=>some x.1
 | none=>none
def stL (st:St) (k q i:Nat):St :=
 match HP st.mJ k q i with
 | some x=>⟨st.tm,eF st.mJ x.2,st.nk⟩
 | none=>st
theorem Px (k1 q i:Nat) {ps:List Prop} (hp:bg ps) (hr:aE P E fn nt dH k (stL st k1 q i)) (h:Wb st k1 q i=some ps:=by kernel_rfl):aE P E fn nt dH k st:=by
 refine fun tm w h1 h2=>hr tm w h1 ?_
 obtain ⟨S,μ,g0,hk,hm,ht⟩:=h2
 unfold Wb at h
 unfold stL
 cases hc:HP st.mJ k1 q i with
 | none=>rw [hc] at h;cases h
 | some x =>
  rw [hc] at h
  simp only [aA] at h
  subst h
  exact ⟨S,μ,G1 hc hp g0,hk,hm,ht⟩
def mR {α:Type} (sz:Nat) (c:α→List AV) (d:α) (l:List α):List AV:=[.mr sz l.length (fun i=>c (l.getD i d))]
def aM {α:Type} (sz:Nat) (c:α→List AV) (d:α) (l:List (List α)):Ob:=⟨false,1,l.length,false,fun m=>mR sz c d (l.getD m [])⟩
theorem AM {α:Type} {sz:Nat} {c:α→List AV} {d:α} (E:List (List α)) (i q n:Nat) (row:List α) (r:List (Nat×Nat×Nat)) (hi:i < E.length) (hr:∀ x∈r,x.1≠i) :
  ∀ m,m < (E.set i row).length→aQ r (fun m=>mR sz c d ((E.set i row).getD m [])) m=if m=i then mR sz c d row else aQ ((i,q,n) :: r) (fun m=>mR sz c d (E.getD m [])) m:=by
 intro m _
 have gen:∀ (r:List (Nat×Nat×Nat)),m≠i→aQ r (fun m=>mR sz c d ((E.set i row).getD m [])) m=aQ r (fun m=>mR sz c d (E.getD m [])) m:=by
  intro r hm
  induction r with
  | nil=>simp only [aQ,fk];rw [List.getElem?_set_ne (fun h=>hm h.symm)]
  | cons x r ih =>
   grind [aQ]
 by_cases hm:m=i
 ·subst hm
  rw [if_pos rfl]
  clear gen
  induction r with
  | nil=>simp only [aQ,fk];rw [List.getElem?_set_self hi];rfl
  | cons x r ih =>
   obtain ⟨a,b,e⟩:=x
   have h1:m≠a:=fun h=>hr (a,b,e) List.mem_cons_self h.symm
   simp_all [aQ,if_neg,List.mem_cons_of_mem]
 simp_all [if_neg,aQ]
theorem uB {α:Type} {sz:Nat} {c:α→List AV} {d:α} (E:List (List α)) (i q n:Nat) (r:List (Nat×Nat×Nat)) (hr:∀ x∈r,x.1≠i) :
  ∀ m,m < E.length→aQ r (fun m=>mR sz c d (E.getD m [])) m=if m=i then mR sz c d (E.getD i []) else aQ ((i,q,n) :: r) (fun m=>mR sz c d (E.getD m [])) m:=by
 intro m _
 by_cases hm:m=i
 ·subst hm
  rw [if_pos rfl]
  induction r with
  | nil=>rfl
  | cons x r ih =>
   obtain ⟨a,b,e⟩:=x
   have h1:m≠a:=fun h=>hr (a,b,e) List.mem_cons_self h.symm
   simp_all [aQ,if_neg,List.mem_cons_of_mem]
 simp_all [if_neg,aQ]
theorem Py {α:Type} {sz:Nat} {c:α→List AV} {d:α} (E:List (List α)) (i q n:Nat) (row:List α) (r:List (Nat×Nat×Nat)) (he:E.getD i []=row) (hr:∀ x∈r,x.1≠i) :
  ∀ m,m < E.length→aQ r (fun m=>mR sz c d (E.getD m [])) m=if m=i then mR sz c d row else aQ ((i,q,n) :: r) (fun m=>mR sz c d (E.getD m [])) m:=by
 subst he;exact uB E i q n r hr
theorem qA {α:Type} (E:List (List α)) (row:List α):(E ++ [row]).getD E.length []=row:=by simp
theorem Uo {α:Type} (E:List α) (row:α):E.length < (E ++ [row]).length:=by simp
theorem RP {α:Type} {sz:Nat} {c:α→List AV} {d:α} (E:List (List α)) (row:List α) {q n n2:Nat} {b:Nat→List AV} (h:n=n2) (hb:b 0=[.os q 0 n]) :
  ∀ m,m < (E ++ [row]).length→aQ [(E.length,q,n2)] (fun m=>mR sz c d ((E ++ [row]).getD m [])) m=if m < E.length then mR sz c d (E.getD m []) else b (m - E.length):=by
 intro m hm
 subst h
 simp only [lD,List.length_singleton] at hm
 simp only [aQ]
 grind
theorem RR {b:Nat→List AV} {i1:Nat} (i k n n1 N:Nat) (h1:i1=i):∀ m,m < N→aQ [(i,k,n1)] b m=if m=i1 then [.os k 0 n1] else aQ [(i,k,n)] b m:=by
 grind [aQ]
theorem gO {c:Prop} [Decidable c] {x:AV} {l:List AV} (h:c):(if c then [x] else l)[0]?=some x:=by rw [if_pos h];rfl
theorem EN {i:Nat}:∀ x∈([]:List (Nat×Nat×Nat)),x.1≠i:=fun _ h=>by simp at h
theorem YM {i j k n:Nat} {r:List (Nat×Nat×Nat)} (h:j≠i) (hr:∀ x∈r,x.1≠i):∀ x∈(j,k,n) :: r,x.1≠i:=fun x hx=>by
 grind
theorem pc {p:Prop} {ps:List Prop} (h:p) (t:bg ps):bg (p :: ps):=⟨h,t⟩
theorem pn:bg []:=trivial
theorem z1 (n:Nat):0+n≤n:=z0
theorem cH {α:Type} (c:α→List AV) (d:α) (l:List α) (k:Nat) (x:α) (i:Nat) (hi:i < (l.set k x).length):c ((l.set k x).getD i d)=if i=k then c x else (fun zi=>c (l.getD zi d)) i :=
 xA c d l k x (fun _ _=>rfl) i hi
theorem aD {α:Type} (l:List α) (k:Nat) (x:α):l.length=(l.set k x).length:=mL rfl
end
section
variable {P:Program} {kt:TypeId} {A B:Type} (ck:A→AV) (cv:B→AV) {eq:A→A→Bool} (h:∀ a b,zl P kt (ck a) (ck b)=some (eq a b))
include h
end
def I:Bool:=true
def wI (x:Int):Prop:=-9223372036854775808≤x∧x≤9223372036854775807
def wK (k:IntKind) (x:Int):Prop:=k.min≤x∧x≤k.max
def wB (_:Bool):Prop:=True
def wS (s:ByteArray):Prop:=s.size≤9223372036854775807
def wL {A:Type} (wf:A→Prop) (l:List A):Prop:=l.length≤9223372036854775807∧∀ y,y∈l→wf y
def kE {α:Type} (l:List α) (i j:Nat):List α:=l.take i ++ l.drop j ++ l.drop (i+(l.length - j))
theorem DS {α:Type} {l:List α} {i j:Nat} (h:i≤j∧j≤l.length):l.length=(kE l i j).length:=by simp [kE];omega
theorem Ma {α:Type} (c:α→List AV) (d:α) (l:List α) (i j:Nat) (h:i≤j∧j≤l.length) (z:Nat) (hz:z < (kE l i j).length) :
  c ((kE l i j).getD z d)=if z < i - 0 then c (l.getD z d) else if z < (i - 0)+(l.length - j) then c (l.getD (bu j (z - (i - 0))) d) else c (l.getD z d):=by
 have hz:=DS h ▸ hz
 have e1:(l.take i).length=i:=by simp;omega
 have e2:(l.take i ++ l.drop j).length=i+(l.length - j):=by simp;omega
 simp only [kE,Nat.sub_zero,fk,dg]
 grind
theorem HZ {α:Type} {l:List α} {a n:Nat} (h:0 < n∧a+n≤l.length):a=(l.take a).length:=by simp;omega
theorem Pz {α:Type} (c:α→List AV) (d:α) (l:List α) (a z:Nat) (hz:z < (l.take a).length):c ((l.take a).getD z d)=c (l.getD z d):=by
 grind
def PA:Nat→List AV
 | 0=>[]
 | n+1=>.mn :: PA n
theorem RU (n:Nat):(PA n).length=n:=by induction n with
 | zero=>rfl
 | succ n ih=>simp [PA,ih]
theorem Mb {n j:Nat} {x:AV} (h:(PA n)[j]?=some x):x=.mn:=by
 induction n generalizing j with
 | zero=>simp [PA] at h
 | succ n ih=>grind [PA]
theorem aE.split {P:Program} {E:Env} {fn:FuncId} {nt:Nat} {dH:Value→World→Prop} {kk:List Item} {s0:St} (t k off m:Nat) (o:Ob) (ht:dI s0.tm t=.os k off m) (ho:ar s0.mJ k=some o) (hv:(!o.var && Nat.ble 1 o.sz)=true) (hm:bu off m=o.len)
  (h1:aE P E fn nt dH kk ⟨s0.tm,sset s0.mJ k ⟨false,o.sz,bu off m+1,o.pr,fun i=>if i < bu off m then o.get i else PA o.sz⟩,s0.nk⟩)
  (h2:aE P E fn nt dH kk ⟨(t,.Bw k off m) :: s0.tm,s0.mJ,s0.nk⟩):aE P E fn nt dH kk s0:=by
 intro tm w hs hr b hb hk cs
 obtain ⟨S,μ,g,nL,tq,V9⟩:=hr
 simp only [bc,Bool.not_eq_true',Nat.ble_eq] at hv
 have Wc:=V9 t
 rw [show dI s0.tm t=_ from ht] at Wc
 generalize KO:tm.getD t undef=v at Wc
 cases Wc with
 | os pl tL q1 q2 q3 =>
  rename_i cap a
  obtain ⟨jQ,c,T,RK,cY⟩:=g.rep.ob k o ho
  rw [tL] at RK;cases RK
  have ez:bu off m=off+m:=dg _ _
  by_cases hc:m < cap
  ·have vg:0 < pl.cap:=by omega
   have gw:=g.write ho tL vg cY (by omega) ⟨false,o.sz,bu off m+1,o.pr,fun i=>if i < bu off m then o.get i else PA o.sz⟩ c rfl rfl (show bu off m+1≤pl.cap by omega) (fun i hi=>by
    show (if i < bu off m then o.get i else PA o.sz).length=o.sz
    split
    ·exact cY.s8 i (by omega)
    ·exact RU _) (fun i j x v hi hx hv=>by
    have hx:(if i < bu off m then o.get i else PA o.sz)[j]?=some x:=hx
    split at hx
    ·exact cY.rep i j x v (by omega) hx hv
    ·rw [Mb hx];exact .mn) (fun i x hx=>⟨(by
    obtain ⟨_,r2,r3⟩:=db hx
    have r3:(if i < bu off m then o.get i else PA o.sz)=[.mr x.1 x.2.1 x.2.2]:=r3
    split at r3
    ·grind [kB]
    ·have:=Mb (n:=o.sz) (j:=0) (x:=.mr x.1 x.2.1 x.2.2) (by rw [r3];rfl)
     cases this),rfl⟩)
   have hw:w.setRow pl.cy c=w:=setRow_self w pl.cy c T (0,0) ((cY.cy vg).trans (by grind [fm]))
   rw [hw] at gw
   exact h1 tm w hs ⟨S,μ,gw.2,nL,tq,V9⟩ b hb hk cs
  ·have:cap=m:=by omega
   subst this
   refine h2 tm w hs ⟨S,μ,g,nL,tq,fun t'=>?_⟩ b hb hk cs
   show ao w S μ (tm.getD t' undef) (dI ((t,.Bw k off cap) ::  s0.tm) t')
   simp only [dI]
   split
   ·rename_i hb
    rw [← bK hb,KO]
    exact .Bw pl tL q1 q3
   ·exact V9 t'
end Go.Ab
namespace Go.Ab
open Go.ChangeShapes Go.WideShapes Go.ChangeAt Go.RowKit
def Jy (w:World) (b:Nat):Prop:=b < w.heap.size
def DT (w:World) (cs:List Value) (c:List AV):Prop :=
 cs.length=c.length∧∀ (j:Nat) (a:AV) (v:Value),c[j]?=some a→cs[j]?=some v→ao w (Jy w) iI v a
theorem DT.nil {w:World}:DT w [] []:=⟨rfl,fun j a v h=>by simp at h⟩
theorem DT.append {w:World} {a b:List Value} {c d:List AV} (h1:DT w a c) (h2:DT w b d):DT w (a ++ b) (c ++ d):=by
 refine ⟨by simp [h1.1,h2.1],fun j x v hx hv=>?_⟩
 by_cases hj:j < a.length
 ·rw [ia (by rw [← h1.1];exact hj)] at hx
  rw [ia hj] at hv
  exact h1.2 j x v hx hv
 ·rw [jt (by rw [← h1.1];omega)] at hx
  rw [jt (by omega)] at hv
  rw [← h1.1] at hx
  exact h2.2 _ x v hx hv
theorem DT.step {w:World} {cs:List Value} {o n:Nat} {c d:List AV} (h1:DT w ((cs.drop o).take n) c) (h2:DT w (cs.drop (o+n)) d):DT w (cs.drop o) (c ++ d):=by
 have e:cs.drop o=(cs.drop o).take n ++ cs.drop (o+n):=by rw [← List.drop_drop];exact (List.take_append_drop n _).symm
 rw [e];exact h1.append h2
theorem DT.done {w:World} {cs:List Value} {o:Nat} (h:cs.length=o):DT w (cs.drop o) []:=by
 rw [List.drop_of_length_le (by omega)];exact .nil
theorem DT.one {w:World} {v:Value} {a:AV} (h:ao w (Jy w) iI v a):DT w [v] [a]:=by
 refine ⟨rfl,fun j x u hx hu=>?_⟩
 cases j with
 | zero=>simp at hx hu;subst hx hu;exact h
 | succ j=>simp at hx
def l3 (P:Program) (t:TypeId) {A:Type} (wf:A→Prop) (c:A→List AV):Prop :=
 ∀ (H:Type) (enc:TypeId×Value→H) (w:World) (n:Nat) (cs:List Value) (x:DataW H×List MemPlace),DataW.trod enc P w 0 (fun _=>true) true n t cs=some x→∃ y:A,wf y∧DT w cs (c y)
variable {P:Program} {t e:TypeId}
theorem l3.int (ht:P.underlying t=some (.int .i64)):l3 P t wI cI:=by
 intro H enc w n cs x h
 obtain ⟨n,rfl,_,hw⟩:=DataW.trod_int ht h
 refine ⟨n,?_,DT.one (.atom _)⟩
 simp [Lit.wf,IntKind.min,IntKind.max,IntKind.signed,IntKind.bits] at hw
 exact ⟨by omega,by omega⟩
theorem l3.bool (ht:P.underlying t=some .bool):l3 P t wB cB:=by
 intro H enc w n cs x h
 obtain ⟨b,rfl,_⟩:=DataW.trod_bool ht h
 exact ⟨b,trivial,DT.one (.atom _)⟩
theorem l3.str (ht:P.underlying t=some .string):l3 P t wS cS:=by
 intro H enc w n cs x h
 obtain ⟨s,rfl,_,hs⟩:=DataW.trod_string ht h
 refine ⟨s,?_,DT.one (.atom _)⟩
 unfold maxLen at hs;unfold wS;omega
theorem Jz {a:Addr} (h:a.spot=none) (n:Nat):a.add n=⟨a.block,a.off+n,none⟩:=by
 obtain ⟨b,o,s⟩:=a
 simp only at h;subst h
 unfold Addr.add
 by_cases h:n=0<;>simp [h]
theorem l3.slice {A:Type} {wf:A→Prop} {c:A→List AV} (d:A) (ht:P.underlying t=some (.slice e)) (he:l3 P e wf c) {sz:Nat} (hs:P.cellsOf e=sz) (hz:0 < sz) (hc:∀ y,(c y).length=sz) :
  l3 P t (wL wf) (fun l=>[aH c d l]):=by
 intro H enc w n cs x h
 rcases Go.Deep.open_slice ht h with ⟨rfl,_⟩ | ⟨a,len,cap,m,k,D,Pl,rfl,_,hlc,hcm,hm,_,hx⟩
 ·refine ⟨[],⟨by simp,by simp⟩,DT.one ?_⟩
  exact .sl 0 0 0 (fun _ _=>default) (fun h=>absurd h (cW _)) (fun i h=>absurd h (cW _)) (fun i j h=>absurd h (cW _)) (fun i j c h=>absurd h (cW _)) (aF _)
 ·simp only [if_true] at hm
  subst hm
  rw [hs] at hx
  have we:∀ i,i < len→∃ z:List Value×A,w.cells? 0 (a.add (i * sz)) sz=some z.1∧wf z.2∧DT w z.1 (c z.2):=fun i hi=>by
   obtain ⟨GU,h1,h2⟩:=hx i (by omega)
   obtain ⟨y,hy,F1⟩:=he H enc w k GU _ h2
   exact ⟨(GU,y),h1,hy,F1⟩
  haveI:Inhabited (List Value×A):=⟨([],d)⟩
  obtain ⟨Z,hZ⟩:=Go.Deep.choose_lt we
  have hlen:((List.range len).map fun i=>(Z i).2).length=len:=by simp
  have pZ:∀ i,i < len→((List.range len).map fun i=>(Z i).2).getD i d=(Z i).2:=fun i hi=>by
   simp [List.getD,hi]
  have CF:∀ i j,i < len→j < sz→w.cell? ((a.add (i * sz)).add j)=some ((Z i).1.getD j default):=fun i j hi hj=>by
   obtain ⟨_,hl,hg⟩:=World.cells?_some (hZ i hi).1
   rw [hg j hj]
   have:j < (Z i).1.length:=by omega
   simp [List.getD,this]
  have PB:0 < len→a.spot=none∧a.block < w.heap.size:=fun h0=>by
   have:=CF 0 0 h0 hz
   simp only [Nat.zero_mul,Addr.add,if_true] at this
   unfold World.cell? at this
   split at this
   ·rename_i cc tt ff hh
    refine ⟨?_,(Array.getElem?_eq_some_iff.1 hh).1⟩
    cases hs:a.spot with
    | none=>rfl
    | some z=>simp [hs] at this
   ·cases this
  refine ⟨(List.range len).map fun i=>(Z i).2,⟨by rw [hlen];unfold maxLen at hcm;omega,?_⟩,DT.one ?_⟩
  ·intro y hy
   simp only [List.mem_map,vn] at hy
   obtain ⟨i,hi,rfl⟩:=hy
   exact (hZ i hi).2.1
  ·unfold aH
   rw [hlen]
   refine .sl a.block a.off sz (fun i j=>(Z i).1.getD j default) (fun h0=>⟨?_,(PB h0).2⟩) (fun i hi=>hc _) (fun i j hi hj=>?_) (fun i j x hi hx=>?_) hlc
   ·have:=(PB h0).1
    obtain ⟨b,o,s⟩:=a
    simp only at this;subst this;rfl
   ·have h0:=(PB (by omega)).1
    have:=CF i j hi hj
    rwa [Jz h0,Jz rfl] at this
   ·rw [pZ i hi] at hx
    have hj:j < (c (Z i).2).length:=(dD.1 hx).1
    have Tm:j < (Z i).1.length:=by rw [(hZ i hi).2.2.1];exact hj
    refine (hZ i hi).2.2.2 j x _ hx ?_
    simp [List.getD,Tm]
theorem EO {H:Type} {enc:TypeId×Value→H} {w:World} {fs:Array Field} {n:Nat} {cs:List Value} {x:DataW H×List MemPlace} (ht:P.underlying t=some (.struct fs)) (h:DataW.trod enc P w 0 (fun _=>true) true n t cs=some x) :
  cs.length=P.cellsOf t∧∃ m,∀ (i:Nat) (f:Field),fs[i]?=some f→∃ y,DataW.trod enc P w 0 (fun _=>true) true m f.type ((cs.drop f.offset).take (P.cellsOf f.type))=some y:=by
 obtain ⟨xs,m,_,_,hl,hx,hf⟩:=DataW.trod_struct ht h
 refine ⟨hl,m,fun i f hi=>?_⟩
 rw [hf i f hi]
 have:i < xs.length:=by rw [hx];exact (Array.getElem?_eq_some_iff.1 hi).1
 exact ⟨xs[i],o6 this⟩
theorem vE {H:Type} {enc:TypeId×Value→H} {w:World} {fs:Array Field} {m:Nat} {cs:List Value} (hf:∀ (i:Nat) (f:Field),fs[i]?=some f→∃ y,DataW.trod enc P w 0 (fun _=>true) true m f.type ((cs.drop f.offset).take (P.cellsOf f.type))=some y)
  (i:Nat) {te:TypeId} (o n:Nat) {A:Type} {wf:A→Prop} {c:A→List AV} (he:l3 P te wf c) (hi:(fs[i]?).map (fun (f:Field)=>(f.type,f.offset))=some (te,o)) (hn:P.cellsOf te=n):∃ y:A,wf y∧DT w ((cs.drop o).take n) (c y):=by
 simp only [aG,az] at hi
 obtain ⟨f,hf1,hf2,hf3⟩:=hi
 obtain ⟨y,hy⟩:=hf i f hf1
 rw [hf2,hf3,hn] at hy
 exact he H enc w m _ y hy
section
variable {H:Type} {enc:TypeId×Value→H} {w:World} {base:Nat} {v:Value} {d:DataW H} {ps:List MemPlace} {A:Type} {wf:A→Prop}
theorem RV {g:A→AV} (ho:l3 P t wf (fun l=>[g l])) (hv:v.cells=#[v]) (h:DataW.Trod enc P w 0 (fun _=>true) true t v d ps):∃ y,wf y∧ao w (Jy w) iI v (g y):=by
 obtain ⟨n,hn⟩:=h
 rw [hv] at hn
 obtain ⟨y,hy,hs⟩:=ho H enc w n _ _ hn
 exact ⟨y,hy,hs.2 0 _ _ rfl rfl⟩
theorem JA {g:A→AV} (ht:P.underlying t=some (.slice e)) (ho:l3 P t wf (fun l=>[g l])) (hv:Value.okWide P w .any base t v) (h:DataW.Trod enc P w 0 (fun _=>true) true t v d ps):∃ y,wf y∧ao w (Jy w) iI v (g y):=by
 obtain ⟨a,l,c,rfl⟩:=okWide_slice ht hv
 exact RV ho rfl h
theorem RL.nil {S:Nat→Prop} {μ:Mu}:RL w S μ #[] []:=⟨rfl,fun j c v h=>by simp at h⟩
theorem rl2 {S:Nat→Prop} {μ:Mu} {v0 v1:Value} {a0 a1:AV} (h0:ao w S μ v0 a0) (h1:ao w S μ v1 a1):RL w S μ #[v0,v1] [a0,a1]:=by
 refine ⟨rfl,fun j c v hc hv=>?_⟩
 match j with
 | 0=>simp at hc hv;subst hc hv;exact h0
 | 1=>simp at hc hv;subst hc hv;exact h1
 | j+2=>simp at hc
end
theorem Mc {H:Type} {enc:TypeId×Value→H} (hl:laidOutB P=true) {W W':World} (hb:Below W.heap.size W W') (sp:Nat→Bool) :
  ∀ (ts:List TypeId) (vs:List Value) (ds:List (DataW H)) (p:List MemPlace),(ts.all fun t=>P.readableRec t && decide (t < P.types.size))=true→(∀ x∈p,x.block < W.heap.size)→(∀ x∈p,sp x.block=true) →
   DataW.TrodAll enc P W 0 (fun _=>true) true ts vs ds p→DataW.TrodAll enc P W' 0 sp true ts vs ds p
 | [],[],[],_,_,_,_,h=>h
 | t :: ts,v :: vs,d :: ds,p,hr,gk,NV,h=>by
  obtain ⟨a,b,h1,h2,rfl⟩:=h
  simp only [List.all_cons,bc,decide_eq_true_eq] at hr
  refine ⟨a,b,?_,Mc hl hb sp ts vs ds b (by simpa using hr.2) (fun x hx=>gk x (by simp [hx])) (fun x hx=>NV x (by simp [hx])) h2,rfl⟩
  exact WideElems.Trod_stays hl hr.1.1 hr.1.2 h1 (fun x hx=>hb.same (gk x (by simp [hx]))) (fun x hx=>NV x (by simp [hx]))
theorem PC {H:Type} {enc:TypeId×Value→H} {f:FuncId} {fn:Func} {s:ChangeSpec} {apart fresh handsOn again:Bool} {W:World} {args:Array Value} {ds gs:List (DataW H)} {before:List MemPlace} {tb:TypeId} {PD:List AV}
  (Tu:s.vars=[]) (hl:laidOutB P=true) (We:(fn.params.toList.all fun t=>P.readableRec t && decide (t < P.types.size))=true) (Na:fn.resultTypes=#[tb]) (hb:P.underlying tb=some .bool)
  (Vj:s.fn H ds={ results:=[.lit (.bool true)],args:=ds })
  (hW:DataW.Whole enc P fn.params.toList s.vars apart W args.toList ds gs before)
  (Wf:RL W (Jy W) iI args PD) (hs:Sound P f PD [] 0 (aB true) []) :
  Calls P f args W fun e W'=>∃ v,e=.returned v∧s.post enc P fn apart fresh handsOn again W args v W':=by
 have Wg:Good (sm W (Jy W) [] iI 0) [] (Jy W) iI W:=by
  refine ⟨Fr.refl _ _,fun _ h=>h,fun _ h=>h,fun _ h=>.inl h,?_,fun k o pl h=>(by cases h),fun k hk=>absurd hk (cW _),MX.nil fun k o i h=>by cases h⟩
  constructor<;>intros<;>simp_all [ar]
 refine (hs W (Jy W) iI args Wg (fun _ _=>rfl) Wf).mono fun e W' ⟨v,S',da,he,hg,hv⟩=>?_
 have KR:Below W.heap.size W W':=⟨hg.fr.os,hg.fr.tape,hg.fr.output,hg.fr.size,fun b hb=>hg.fr.cy b hb (fun h=>h.elim (fun ⟨k,o,pl,h,_⟩=>by cases h) (fun ⟨k,i,x,v,⟨o,pl,h,_⟩,_⟩=>by cases h))⟩
 have sf:v=.bool true:=by cases hv;rfl
 subst he sf
 refine ⟨_,rfl,?_⟩
 have YN:=hW
 obtain ⟨p,q,hA,hV,rfl,hfz,Xi⟩:=hW
 rw [Tu] at hV
 obtain ⟨rfl,rfl⟩:=trodVars_none hV
 rw [List.append_nil] at YN
 have gk:∀ x∈p,x.block < W.heap.size:=fun x hx=>YN.lt x hx
 have hre:∀ sp:Nat→Bool,(∀ x∈p,sp x.block=true)→DataW.TrodAll enc P W' 0 sp true fn.params.toList args.toList (s.fn H (ds ++ [])).args p:=fun sp NV=>by
  rw [List.append_nil,Vj]
  exact Mc hl KR sp _ _ _ _ We gk NV hA
 have Uk:∀ sp:Nat→Bool,DataW.TrodVars enc P W' sp s.vars (s.fn H (ds ++ [])).vars []:=fun sp=>by
  rw [List.append_nil,Vj,Tu];rfl
 have Wh:∀ (b:Nat) (sp:Nat→Bool) (hd:Bool),DataW.TrodAll enc P W' b sp hd fn.resultTypes.toList ((Value.bool true).resultList fn.resultTypes.size) (s.fn H (ds ++ [])).results []:=fun b sp hd=>by
  rw [List.append_nil,Vj,Na]
  exact trodAll_mk1 (shut_bool hb true)
 refine ⟨ds,[],p,[],p,[],YN,Wh _ _ _,hre _ (fun x hx=>by simpa using gk x hx),Uk _,World.keptBut_mono (fun x hx=>⟨hx,Or.inr (Or.inl hx)⟩) (KR.frame _),fun _=>?_⟩
 refine ⟨ok_one Na rfl (okWide_bool_mk hb _),(s.fn H (ds ++ [])).results ++ (s.fn H (ds ++ [])).args,_,p,⟨p,[],trodAll_append (hre _ (fun _ _=>rfl)) (Wh _ _ _),Uk _,by simp,?_,by simpa using Xi⟩,fun x hx _=>hx⟩
 ·intro b off hp
  exact (KR.frozen (gk _ hp)).trans (hfz b off (by simpa using hp))
end Go.Ab
namespace Go.Ab
def zs:Obj→Bool
 | .loop _=>true
 | .deferred _=>true
 | .mapIter _ _ _ _=>true
 | _=>false
theorem KS (sz:Nat) (c:Array Value) (T:TypeId):zs (zB sz c T)=false:=by
 cases sz<;>rfl
theorem EP {w:World} {l:Nat} {o o':Obj} (h:w.heap[l]?=some o) (ho:zs o=true) (vj:zs o'=true) (a:Addr):(w.putObj l o').cell? a=w.cell? a:=by
 unfold World.cell?
 by_cases e:a.block=l
 ·rw [e,h,World.putObj_heap_same (Array.getElem?_eq_some_iff.1 h).1]
  cases o<;>cases o'<;>simp_all [zs]
 ·rw [World.putObj_heap_other e]
theorem ao.oA {w w':World} {S S':Nat→Prop} (hS:∀ b,S b→S' b) (hc:∀ a,w'.cell? a=w.cell? a) {μ:Mu} {v:Value} {x:AV} (h:ao w S μ v x):ao w' S' μ v x:=by
 induction h with
 | atom v=>exact .atom v
 | agg h1 _ ih=>exact .agg h1 ih
 | tup h1 _ ih=>exact .tup h1 ih
 | sl b off sz f h1 h2 h3 _ h5 ih=>exact .sl b off sz f (fun hl=>⟨(h1 hl).1,hS _ (h1 hl).2⟩) h2 (fun i j hi hj=>(hc _).trans (h3 i j hi hj)) ih h5
 | rp b o f h1 h2 _ ih=>simp_all [rp,trans]
 | op pl h=>exact .op pl h
 | os pl h h1 h2 h3=>exact .os pl h h1 h2 h3
 | fn h1 h2 _ _ MQ MR=>exact .fn h1 h2 MQ MR
 | when _ hu ih=>exact .when ih hu
 | mp pl h=>exact .mp pl h
 | bn b h=>exact .bn b h
 | pt _ h2 ih=>exact .pt ih h2
 | ov pl h h1=>exact .ov pl h h1
 | Bw pl h h1 h2=>exact .Bw pl h h1 h2
 | nq _ h1 h2 ih=>exact .nq ih h1 h2
 | nil=>exact .nil
 | mn=>exact .mn
 | mr=>exact .mr
theorem gD.oA {w w':World} {S S':Nat→Prop} {μ:Mu} {o:Ob} {pl:Place} {c:Array Value} {T:TypeId} (h:gD w S μ o pl c T) (hS:∀ b,S b→S' b) (hc:∀ a,w'.cell? a=w.cell? a)
  (hb:0 < pl.cap→w'.heap[pl.cy]?=w.heap[pl.cy]?) (ho:0 < pl.cap→¬ S' pl.cy):gD w' S' μ o pl c T :=
 { h with
  cy:=fun hc=>(hb hc).trans (h.cy hc)
  out:=ho
  rep:=fun i j x v hi hx hv=>(h.rep i j x v hi hx hv).oA hS hc
  mp:=fun hz=>let ⟨h0,h1,h2,h3,h4⟩:=h.mp hz;⟨h0,h1,h2,h3,fun j x v hx hv=>(h4 j x v hx hv).oA hS hc⟩ }
theorem Good.PE {E:Env} {σ:dn} {S:Nat→Prop} {μ:Mu} {w:World} (g:Good E σ S μ w) {k:Nat} {o:Ob} {pl:Place} (ho:ar σ k=some o) (hm:μ k=some pl) (hc:0 < pl.cap) {l:Nat} {ob:Obj}
  (hl:w.heap[l]?=some ob) (ha:zs ob=true):pl.cy≠l:=by
 obtain ⟨jQ,c,T,gF,h⟩:=g.rep.ob k o ho
 rw [hm] at gF;cases gF
 rintro rfl
 rw [h.cy hc] at hl
 grind [KS]
theorem Good.PF {E:Env} {σ:dn} {S:Nat→Prop} {μ:Mu} {w:World} (g:Good E σ S μ w) {k i:Nat} {x:Nat×Nat×(Nat→List AV)} {v:Value} {b:Nat} (hv:iJ w μ σ k i x v) (hb:ptrTo v b) {l:Nat} {ob:Obj}
  (hl:w.heap[l]?=some ob) (ha:zs ob=true):b≠l:=by
 obtain ⟨_,_,_,c,T,h⟩:=g.mx.cy hv hb
 rintro rfl
 rw [h] at hl
 cases hl;cases ha
theorem Good.Tv {E:Env} {σ:dn} {S:Nat→Prop} {μ:Mu} {w:World} (g:Good E σ S μ w) {l:Nat} {ob:Obj} (hl:w.heap[l]?=some ob) (ha:zs ob=true):¬ M5 w σ μ l:=by
 rintro (⟨k,o,pl,ho,hm,hc,he⟩ | ⟨k,i,x,v,hv,hb⟩)
 ·exact g.PE ho hm hc hl ha he
 ·exact g.PF hv hb hl ha rfl
theorem MX.aux {fp SX:Nat→Prop} {n0 SY:Nat} {w w':World} {S S':Nat→Prop} {μ:Mu} {σ:dn} (h:MX fp n0 w S μ σ) (hS:∀ b,S b→S' b) (hc:∀ a,w'.cell? a=w.cell? a)
  (hp:∀ k i x v b,iJ w' μ σ k i x v→iJ w μ σ k i x v→ptrTo v b→w'.heap[b]?=w.heap[b]?∧¬ S' b∧((fp b∨n0≤b)→(SX b∨SY≤b))):MX SX SY w' S' μ σ:=by
 have back:∀ {k i x v},iJ w' μ σ k i x v→iJ w μ σ k i x v:=fun ⟨o,pl,h1,h2,h3,h4⟩=>⟨o,pl,h1,h2,h3,by rw [← hc];exact h4⟩
 refine ⟨fun k i x v hv=>?_,fun k i x v b hv=>h.obj k i x v b (back hv),fun k i x v b k' i' x' v' hv sf=>h.two k i x v b k' i' x' v' (back hv) (back sf)⟩
 obtain ⟨a,cap,rfl,h1,h2,h3⟩:=h.row _ _ _ _ (back hv)
 refine ⟨a,cap,rfl,h1,h2,fun vg=>?_⟩
 obtain ⟨b,c,T,rfl,h4,h5⟩:=h3 vg
 obtain ⟨p1,p2,p3⟩:=hp _ _ _ _ b hv (back hv) ⟨_,_,rfl,vg⟩
 exact ⟨b,c,T,rfl,h4.oA hS hc (fun _=>p1) (fun _=>p2),p3 h5⟩
theorem Good.put {E:Env} {σ:dn} {S:Nat→Prop} {μ:Mu} {w:World} (g:Good E σ S μ w) {l:Nat} {o o':Obj} (h:w.heap[l]?=some o) (ho:zs o=true) (vj:zs o'=true) (hl:E.w0.heap.size≤l∨E.fp l) :
  Good E σ S μ (w.putObj l o'):=by
 have hc:=EP h ho vj
 refine ⟨⟨g.fr.os,g.fr.tape,g.fr.output,by simpa using g.fr.size,fun b hb hf=>?_⟩,g.S0,fun b hb=>by simpa using g.S1 b hb,g.S2,⟨fun k x hx=>?_,g.rep.ne⟩,g.own,g.CC,
  g.mx.aux (fun _ h=>h) hc fun k i x v b _ hv hb=>⟨World.putObj_heap_other (g.PF hv hb h ho),(g.mx.cy hv hb).2.1,fun h=>h⟩⟩
 ·have fP:b≠l:=by rintro rfl;rcases hl with h | h;omega;exact hf h
  rw [World.putObj_heap_other fP];exact g.fr.cy b hb hf
 ·obtain ⟨pl,c,T,hm,hr⟩:=g.rep.ob k x hx
  exact ⟨pl,c,T,hm,hr.oA (fun _ h=>h) hc (fun wH=>World.putObj_heap_other (g.PE hx hm wH h ho)) hr.out⟩
theorem Good.aux {E:Env} {σ:dn} {S:Nat→Prop} {μ:Mu} {w:World} (g:Good E σ S μ w) (o:Obj) (ho:zs o=true) :
  Ext w S μ (w.alloc o) (fun b=>S b∨b=w.heap.size) μ∧Good E σ (fun b=>S b∨b=w.heap.size) μ (w.alloc o):=by
 have hold:∀ b,b < w.heap.size→(w.alloc o).heap[b]?=w.heap[b]?:=fun b hb=>eB hb
 have Q6:(w.alloc o).heap[w.heap.size]?=some o:=World.alloc_heap_new w o
 have e:Ext w S μ (w.alloc o) (fun b=>S b∨b=w.heap.size) μ:=⟨by simp,fun _ h=>.inl h,fun b hb=>hold b (g.S1 b hb),fun _ _ h=>h⟩
 refine ⟨e,⟨g.fr.os,g.fr.tape,g.fr.output,by have:=g.fr.size;simp;omega,fun b hb hf=>(hold b (nc hb g.fr.size)).trans (g.fr.cy b hb hf)⟩,fun b hb=>.inl (g.S0 b hb),?_,?_,⟨fun k x hx=>?_,g.rep.ne⟩,g.own,g.CC,g.Kr hold (fun _ h=>.inl h) (fun b h=>h.elim .inl fun h=>.inr (Nat.le_of_eq h.symm))⟩
 ·rintro b (hb | rfl)
  ·have:=g.S1 b hb;simp;omega
  ·simp
 ·rintro b (hb | rfl)
  ·exact g.S2 b hb
  ·exact .inr g.fr.size
 ·obtain ⟨pl,c,T,hm,hr⟩:=g.rep.ob k x hx
  have gk:0 < pl.cap→pl.cy < w.heap.size:=fun hc=>gj (hr.cy hc)
  refine ⟨pl,c,T,hm,hr.ext e (fun hc=>hold _ (gk hc)) (fun hc=>?_)⟩
  rintro (h | h)
  ·exact hr.out hc h
  ·have:=gk hc;omega
def Md (w:World) (S:Nat→Prop) (σ:dn) (μ:Mu) (m:Nat):Env:=⟨w,S,M5 w σ μ,μ,m⟩
theorem Good.base {E:Env} {σ:dn} {S:Nat→Prop} {μ:Mu} {w:World} (g:Good E σ S μ w) (m:Nat):Good (Md w S σ μ m) σ S μ w :=
 ⟨Fr.refl _ _,fun _ h=>h,g.S1,fun _ h=>.inl h,g.rep,fun k o pl ho hm hc=>.inl (.inl ⟨k,o,pl,ho,hm,hc,rfl⟩),fun _ _=>rfl,
  g.mx.aux (fun _ h=>h) (fun _=>rfl) fun k i x v b hv _ hb=>⟨rfl,(g.mx.cy hv hb).2.1,fun _=>.inl (.inr ⟨k,i,x,v,hv,hb⟩)⟩⟩
theorem Good.Uq {E:Env} {σ dX:dn} {S S':Nat→Prop} {μ da:Mu} {w w':World} (g:Good E σ S μ w) {m:Nat} (hm:E.m0≤m) (g':Good (Md w S σ μ m) dX S' da w'):Good E dX S' da w':=by
 have Nb:∀ b,M5 w σ μ b→E.fp b∨E.w0.heap.size≤b:=by
  rintro b (⟨k,o,pl,ho,hm,hc,rfl⟩ | ⟨k,i,x,v,hv,hb⟩)
  ·exact g.own k o pl ho hm hc
  ·exact (g.mx.cy hv hb).2.2.1
 refine ⟨⟨g'.fr.os.trans g.fr.os,g'.fr.tape.trans g.fr.tape,g'.fr.output.trans g.fr.output,dU g.fr.size g'.fr.size,fun b hb hf=>?_⟩,fun b hb=>g'.S0 b (g.S0 b hb),g'.S1,fun b hb=>?_,g'.rep,fun k o pl ho hm hc=>?_,fun k hk=>?_,
  g'.mx.aux (fun _ h=>h) (fun _=>rfl) fun k i x v b hv _ hb=>⟨rfl,(g'.mx.cy hv hb).2.1,fun h=>h.elim (Nb b) fun h=>.inr (dU g.fr.size h)⟩⟩
 ·refine (g'.fr.cy b (nc hb g.fr.size) fun h=>?_).trans (g.fr.cy b hb hf)
  rcases Nb b h with h1 | h1
  ·exact hf h1
  ·omega
 ·rcases g'.S2 b hb with h1 | h1
  ·exact g.S2 b h1
  ·exact .inr (dU g.fr.size h1)
 ·rcases g'.own k o pl ho hm hc with h1 | h1
  ·exact Nb _ h1
  ·exact .inr (dU g.fr.size h1)
 ·rw [g'.CC k (nc hk hm)];exact g.CC k hk
def WI (P:Program) (E:Env) (nt:Nat) (c:Code) (st BV:St):Prop:=∀ (l:Nat) (tm:Array Value) (w:World),tm.size=nt→Nj E st tm w →
 c.wpIn (FW (some l)) 0 P (fun e a w'=>e=.normal∧a.tmps.size=nt∧a.defers=[]∧Nj E BV a.tmps w') ⟨tm,[]⟩ w
theorem WI.seq {P:Program} {E:Env} {nt:Nat} {x y:Code} {st Wi st2:St} (h1:WI P E nt x st Wi) (h2:WI P E nt y Wi st2):WI P E nt (.seq x y) st st2:=by
 intro l tm w hs hr
 refine wpIn_seq (wpIn_mono (h1 l tm w hs hr) ?_)
 rintro e ⟨t,ds⟩ w' ⟨rfl,q1,q2,q3⟩
 simp only at q1 q2
 subst q2
 exact h2 l t w' q1 q3
theorem WI.block {P:Program} {E:Env} {nt:Nat} {id:Nat} {x:Code} {st Wi:St} (h1:WI P E nt x st Wi):WI P E nt (.block id x) st Wi:=by
 intro l tm w hs hr
 refine wpIn_block (wpIn_mono (h1 l tm w hs hr) ?_)
 rintro e a w' ⟨rfl,q1,q2,q3⟩
 exact ⟨rfl,q1,q2,q3⟩
theorem WI.rw {P:Program} {E:Env} {nt m:Nat} {c:Code} {orcs:List (Nat×nG)} {F:List Nat} {xc:List (Nat×Wd)} {fj:zL} {nk:Nat} {st BV:St} (hE:bh E m) {ps:List Prop}
  (h:Jw P nt m c orcs F xc fj nk st=some (ps,BV)) (hF:(((F.isEmpty && wm orcs) || Nat.beq m 0) && Vo orcs)=true) (hp:bg ps):WI P E nt c st BV:=by
 intro l tm w hs hr
 unfold Jw at h
 split at h
 ·rename_i p1 s1 h1
  split at h
  ·rename_i q1 s2 h2
   simp only [aA,az] at h
   obtain ⟨rfl,rfl⟩:=h
   obtain ⟨xa,wM⟩:=bg.app hp
   obtain ⟨hF,hY⟩:=Av.1 hF
   have hz:wm orcs=true∨∀ b,¬ E.fp b:=by
    rcases Bool.or_eq_true_iff.1 hF with h | h
    ·simp_all
    ·exact .inr (hE.fp (bK h))
   have Xv:F.isEmpty=true∨∀ b,¬ E.fp b:=by
    rcases Bool.or_eq_true_iff.1 hF with h | h
    ·simp_all
    ·exact .inr (hE.fp (bK h))
   refine wpIn_mono (xx (rd:=some l) (ds:=[]) hz (HV hY) h1 xa hs hr) ?_
   rintro e a w' ⟨rfl,q1,q2,q3⟩
   refine ⟨rfl,q1,q2,EK (by rw [hE.m0];exact h2) wM Xv q3⟩
  ·cases h
 ·cases h
abbrev KT (D:Nat):Deferred:={ target:=.collected D,args:=#[] }
def mM (P:Program) (E:Env) (D:Nat) (fn:FuncId) (nt:Nat) (dH:Value→World→Prop) (k:List Item) (st:St):Prop :=
 ∀ (tm:Array Value) (w:World),tm.size=nt→Nj E st tm w→∀ (b:Frame),b.fn=fn→b.kind=.normal→∀ cs,
  ∃ v w' fr,dH v w'∧Steps P (lone (b.at ⟨tm,[KT D]⟩ k) cs w) (lone fr cs w')∧fr.fn=fn∧fr.leaving P w' (.returned v)
section
variable {P:Program} {E E9:Env} {D:Nat} {fn:FuncId} {nt:Nat} {dH:Value→World→Prop} {k k':List Item} {st BV:St}
theorem mM.step (h:mM P E D fn nt dH k' st) (hs:∀ (b:Frame) (a:Act) (cs:List Frame) (w:World),step P (lone (b.at a k) cs w)=.next (lone (b.at a k') cs w)):mM P E D fn nt dH k st:=by
 intro tm w h1 h2 b h3 h4 cs
 obtain ⟨v,w',fr,q1,q2,q3,q4⟩:=h tm w h1 h2 b h3 h4 cs
 exact ⟨v,w',fr,q1,.head (hs b ⟨tm,[KT D]⟩ cs w) q2,q3,q4⟩
theorem mM.seq {x y:Code} (h:mM P E D fn nt dH (.code x :: .code y :: k) st):mM P E D fn nt dH (.code (.seq x y) :: k) st:=h.step fun _ _ _ _=>step_seq
theorem mM.inBlock {id:Nat} (h:mM P E D fn nt dH k st):mM P E D fn nt dH (.inBlock id :: k) st:=h.step fun _ _ _ _=>step_inBlock
theorem mM.rw {m:Nat} {c:Code} {orcs:List (Nat×nG)} {F:List Nat} {xc:List (Nat×Wd)} {fj:zL} {nk:Nat} (hE:bh E m) {ps:List Prop}
  (h:Jw P nt m c orcs F xc fj nk st=some (ps,BV)) (hF:(((F.isEmpty && wm orcs) || Nat.beq m 0) && Vo orcs)=true) (hp:bg ps) (hr:mM P E D fn nt dH k BV):mM P E D fn nt dH (.code c :: k) st:=by
 unfold Jw at h
 split at h
 ·rename_i p1 s1 h1
  split at h
  ·rename_i q1 s2 h2
   simp only [aA,az] at h
   obtain ⟨rfl,rfl⟩:=h
   obtain ⟨xa,wM⟩:=bg.app hp
   obtain ⟨hF,hY⟩:=Av.1 hF
   have hz:wm orcs=true∨∀ b,¬ E.fp b:=by
    rcases Bool.or_eq_true_iff.1 hF with h | h
    ·simp_all
    ·exact .inr (hE.fp (bK h))
   have Xv:F.isEmpty=true∨∀ b,¬ E.fp b:=by
    rcases Bool.or_eq_true_iff.1 hF with h | h
    ·simp_all
    ·exact .inr (hE.fp (bK h))
   intro tm w hs zD b qQ oc cs
   have YH:=(wpIn_wide (n:=0)).1 (xx (rd:=none) (ds:=[KT D]) hz (HV hY) h1 xa hs zD)
   obtain ⟨e,a',w',⟨rfl,q1,q2,q3⟩,Ul⟩:=YH b k cs
   have ha:a'=⟨a'.tmps,[KT D]⟩:=by cases a';simp at q2;simp [q2]
   obtain ⟨v,Vf,fr,r1,r2,r3,r4⟩:=hr a'.tmps w' q1 (EK (by rw [hE.m0];exact h2) wM Xv q3) b qQ oc cs
   refine ⟨v,Vf,fr,r1,Steps.trans Ul ?_,r3,r4⟩
   rw [ha];exact r2
  ·cases h
 ·cases h
theorem mM.ret {c:Code} (HB:∀ σ S μ w,Good E9 σ S μ w→Good E σ S μ w) (hmm:E.m0≤E9.m0) (hD:E9.w0.heap[D]?=some (.deferred (some []))) (Nb:¬ E9.fp D) (hDE:E.w0.heap.size≤D) (ks:List Nat) (hx:c=.ret)
  {f:Func} (hf:P.funcs[fn]?=some f) {ps:List Prop} {res:AV} {dX:dn} (h:xy P f st=some (ps,res)) (KP:AL st.mJ ks=dX) (hp:bg ps):mM P E9 D fn nt (aW E dX res) (.code c :: k) st:=by
 subst hx KP
 intro tm w hs hr b qQ oc cs
 obtain ⟨S,μ,g,hk,hm,ht⟩:=hr
 have YO:w.heap[D]?=some (.deferred (some [])):=(g.fr.cy D (gj hD) Nb).trans hD
 have Au:Nj E st tm (w.putObj D (.deferred none)):=⟨S,μ,(HB _ _ _ _ g).put YO rfl rfl (.inl hDE),hk,dU hmm hm,fun t=>(ht t).oA (fun _ h=>h) (EP YO rfl rfl)⟩
 obtain ⟨v,h1,h2⟩:=zN hf h hp Au qQ oc (.code .ret :: k)
 refine ⟨v,_,_,h1.RM ks,.head step_ret (.one (step_collected (fr:={ b.at ⟨tm,[KT D]⟩ (.code .ret :: k) with mode:=.returning }) (by simp) rfl rfl (run_takeDeferred YO))),?_,h2⟩
 exact qQ
theorem Gb {f:FuncId} {fu:Func} {c:Code} {m:Nat} {args:List AV} {σ dX:dn} {res:AV} (hf:P.funcs[f]?=some fu) (hb:fu.body=some c) (hn:fu.ntmps=nt) (ha:Nat.ble args.length nt=true)
  {w:World} {S:Nat→Prop} {μ:Mu} {vs:Array Value} (h:aE P (sm w S σ μ m) f nt (aW (sm w S σ μ m) dX res) [.code c] ⟨tR args 0,σ,m⟩) (g:Good (sm w S σ μ m) σ S μ w) (hk:∀ k,m≤k→μ k=none) (hl:RL w S μ vs args) :
  Calls P f vs w fun e w'=>∃ v S' da,e=.returned v∧Good (sm w S σ μ m) dX S' da w'∧ao w' S' da v res:=by
 simp only [Nat.ble_eq] at ha
 intro cs
 let b:Frame:={ (default:Frame) with fn:=f,kind:=.normal }
 have KQ:Frame.enter P f vs .normal=b.at ⟨vs ++ Array.replicate (nt - vs.size) undef,[]⟩ [.code c]:=by
  simp [Frame.enter,Frame.at,hf,hb,hn,b]
 have qR:=hl.1
 obtain ⟨v,w',fr,h1,h2,h3,h4⟩:=h (vs ++ Array.replicate (nt - vs.size) undef) w (by simp;omega) ⟨S,μ,g,hk,aF _,fun t=>by
  show ao w S μ _ (dI (tR args 0) t)
  rw [zO,if_pos (Nat.zero_le _),Nat.sub_zero]
  cases hx:args[t]? with
  | none=>exact .mn
  | some x =>
   have gk:t < vs.size:=by rw [qR];exact (dD.1 hx).1
   have hv:(vs ++ Array.replicate (nt - vs.size) undef).getD t undef=vs[t]:=by
    simp [se,Array.getElem?_append_left gk,gk]
   rw [hv]
   exact hl.2 t x _ hx (jd gk)⟩ b rfl rfl cs
 rw [← KQ] at h2
 obtain ⟨S',da,g',hv⟩:=h1
 exact ⟨.returned v,w',fr,⟨v,S',da,rfl,g',hv⟩,h2,h3,h4⟩
theorem aE.range {m m1 m9 YP:Nat} (hE:bh E m) {Wj:Operand} {ps:Array Tmp} {assign body c1:Code} {bd:nG} {PD:Nat→List AV} {qU dX:dn} {res x:AV} {gid:FuncId} {fu:Func} {IL:List Nat} {ld:qS}
  (YQ:bd.wg=false) (Ro:bd.ks.length=m1) (hf:P.funcs[gid]?=some fu) (hb:fu.body=some c1) (hn:fu.ntmps=YP) (ha:∀ l,Nat.ble (PD l).length YP=true)
  (Xr:∀ l,AD P (fun g a s _ r s'=>g=gid∧a=PD l∧s=qU∧r=res∧s'=dX) st.nk st.mJ (wj st.tm Wj) [.atom (.func (.yield l) #[] #[])] bd=some ⟨[gid=gid∧PD l=PD l∧qU=qU∧res=res∧dX=dX],x,IL,ld⟩)
  (YR:∀ (E1:Env) (l:Nat) (r:Loop),E1.m0=m1→E1.w0.heap[l]?=some (.loop r)→¬ E1.fp l→r.state=.ready→r.pending=none→r.params=ps→r.assign=assign→r.body=body→r.tmps.size=nt →
   (∀ t,ao E1.w0 E1.S0 E1.μ0 (r.tmps.getD t undef) ((dI st.tm t).jV (idx bd.ks)))→aE P E1 gid YP (aW E1 dX res) [.code c1] ⟨tR (PD l) 0,qU,m1⟩)
  (hm9:m≤m9) (h9:m9≠0) (VI:m9≤st.nk+16)
  (Wk:∀ (E9:Env) (D:Nat),bh E9 m9→(∀ σ S μ w,Good E9 σ S μ w→Good E σ S μ w)→E.m0≤E9.m0→E9.w0.heap[D]?=some (.deferred (some []))→¬ E9.fp D→E.w0.heap.size≤D→mM P E9 D fn nt dH k ⟨st.tm,eF st.mJ ld,st.nk+16⟩) :
  aE P E fn nt dH (.code (.rangeFunc Wj ps assign body) :: k) st:=by
 intro tm w hs hr b qQ oc cs
 obtain ⟨S,μ,g,hk,hm,ht⟩:=hr
 obtain ⟨e1,g1⟩:=g.aux (.deferred (some [])) rfl
 obtain ⟨e2,g2⟩:=g1.aux (.loop { state:=.ready,pending:=none,fn:=b.fn,tmps:=tm,params:=ps,assign,body,defers:=w.heap.size }) rfl
 obtain ⟨W,hW⟩:∃ W,W=(w.alloc (.deferred (some []))).alloc (.loop { state:=.ready,pending:=none,fn:=b.fn,tmps:=tm,params:=ps,assign,body,defers:=w.heap.size }):=⟨_,rfl⟩
 rw [← hW] at e2 g2
 have OS:(Instr.enterLoop b.fn tm ps assign body none).run P w=.ok (w.heap.size+1,[KT w.heap.size]) W:=by rw [hW];exact run_enterLoop_outer _ _ _ _ _
 have hL:W.heap[w.heap.size+1]?=some (.loop { state:=.ready,pending:=none,fn:=b.fn,tmps:=tm,params:=ps,assign,body,defers:=w.heap.size }):=by
  rw [hW];have:=World.alloc_heap_new (w.alloc (.deferred (some []))) (.loop { state:=.ready,pending:=none,fn:=b.fn,tmps:=tm,params:=ps,assign,body,defers:=w.heap.size });rwa [World.size_alloc] at this
 have hDf:W.heap[w.heap.size]?=some (.deferred (some [])):=by
  rw [hW];exact (eB (by simp)).trans (World.alloc_heap_new w _)
 have hS1:∀ b,b=w.heap.size∨b=w.heap.size+1→(S b∨b=w.heap.size)∨b=(w.alloc (.deferred (some []))).heap.size:=by
  rintro b (rfl | rfl)
  ·exact .inl (.inr rfl)
  ·exact .inr (by simp)
 have YS:∀ t,ao W (fun b=>(S b∨b=w.heap.size)∨b=(w.alloc (.deferred (some []))).heap.size) μ (tm.getD t undef) (dI st.tm t):=fun t=>((ht t).ext e1).ext e2
 have hfv:=yw (a:=⟨tm,[]⟩) YS Wj
 have YT:=Xr (w.heap.size+1)
 have hqs:bg [gid=gid∧PD (w.heap.size+1)=PD (w.heap.size+1)∧qU=qU∧res=res∧dX=dX]:=⟨⟨rfl,rfl,rfl,rfl,rfl⟩,trivial⟩
 obtain ⟨YU,vs,hinv,Ur⟩:=CI (ob:=fun g a s _ r s'=>g=gid∧a=PD (w.heap.size+1)∧s=qU∧r=res∧s'=dX) g2 (fun j _=>hk _ (by omega)) hm hfv
  (vargs:=#[.func (.yield (w.heap.size+1)) #[] #[]]) (by
   refine ⟨rfl,fun j c v hc hv=>?_⟩
   cases j with
   | zero=>simp at hc hv;subst hc hv;exact .atom _
   | succ j=>simp at hc)
  (fun h=>by rw [YQ] at h;cases h) (by
   rintro YU as' bs acv acw acx vs ⟨rfl,rfl,rfl,rfl,rfl⟩ g0 MY mK
   rw [Ro] at g0 MY ⊢
   refine Gb hf hb hn (ha _) (YR _ (w.heap.size+1) _ rfl hL ?_ rfl rfl rfl rfl rfl hs fun t=>?_) g0 MY mK
   ·exact g0.Tv hL rfl
   ·exact ((YS t).jV (f:=idx bd.ks) (da:=kf μ bd.ks) (fun a b pl ha hb=>xn a b pl ha hb)).mono (fun _ h=>.inl h) (fun _ _=>rfl) (fun _ _ h=>h)) YT hqs
 obtain ⟨e,w2,fr,⟨v,S2,Xx,rfl,ex,g3,NW,hv⟩,Us,Vj,Ut⟩:=Ur (({ b with roundOf:=none }:Frame).atR { tmps:=tm,defers:=[KT w.heap.size] } (.inRangeFunc (w.heap.size+1) :: k) :: cs)
 have YV:w2.heap[w.heap.size+1]?=some (.loop { state:=.ready,pending:=none,fn:=b.fn,tmps:=tm,params:=ps,assign,body,defers:=w.heap.size }):=(ex.cy _ (hS1 _ (.inr rfl))).trans hL
 have hD2:w2.heap[w.heap.size]?=some (.deferred (some [])):=(ex.cy _ (hS1 _ (.inl rfl))).trans hDf
 obtain ⟨W3,Xy⟩:∃ W3,W3=w2.putObj (w.heap.size+1) (.loop { state:=.exhausted,pending:=none,fn:=b.fn,tmps:=tm,params:=ps,assign,body,defers:=w.heap.size }):=⟨_,rfl⟩
 have ER:(Instr.endLoop (w.heap.size+1)).run P w2=.ok none W3:=by rw [Xy];exact run_endLoop YV (by simp)
 have hc3:∀ a,W3.cell? a=w2.cell? a:=by rw [Xy];exact EP YV rfl rfl
 have g4:Good E (eF st.mJ ld) S2 Xx W3:=by rw [Xy];exact g3.put YV rfl rfl (.inl (by have:=g.fr.size;omega))
 have hD3:W3.heap[w.heap.size]?=some (.deferred (some [])):=by rw [Xy,World.putObj_heap_other (by omega)];exact hD2
 have r9:Nj (Md W3 S2 (eF st.mJ ld) Xx m9) ⟨st.tm,eF st.mJ ld,st.nk+16⟩ tm W3 :=
  ⟨S2,Xx,g4.base m9,fun k nL=>NW k (.inr nL) (hk k (by have:st.nk+16≤k:=nL;omega)),VI,fun t=>((YS t).ext ex).oA (fun _ h=>h) hc3⟩
 obtain ⟨v',w',fr',q1,q2,q3,q4⟩:=Wk (Md W3 S2 (eF st.mJ ld) Xx m9) w.heap.size ⟨rfl,fun h=>absurd h h9⟩ (fun σ S μ w h=>g4.Uq (by rw [hE.m0];exact hm9) h) (by rw [hE.m0];exact hm9) hD3
  (g4.Tv hD3 rfl) g.fr.size tm W3 hs r9 b qQ oc cs
 refine ⟨v',w',fr',q1,?_,q3,q4⟩
 have hat:∀ (a:Act) (k:List Item),b.at a k=({ b with roundOf:=none }:Frame).atR a k:=fun a k=>by simp [Frame.at,Frame.atR]
 simp only [bD] at hinv
 cases hd:(Deferred.ofValue ((⟨tm,[]⟩:Act).eval Wj) #[.func (.yield (w.heap.size+1)) #[] #[]]).run P W with
 | halt x w'=>rw [hd] at hinv;cases hinv
 | ok d wd =>
  rw [hd] at hinv
  rw [hat]
  refine .head (stepR_rangeFunc (b:={ b with roundOf:=none }) (a:=⟨tm,[]⟩) OS (show (resolve (⟨tm,[]⟩:Act).eval (rangeCall Wj (w.heap.size+1)) 0).run P W=.ok d wd by rw [← hd];simp [resolve,Act.eval]) hinv) ?_
  refine Steps.trans Us (.head (step_leave_returned Ut) ?_)
  rw [finish_atR_inRangeFunc]
  refine .head (stepR_endRangeFunc ER) ?_
  rw [hat] at q2
  exact q2
end
section
variable {P:Program} {E E9:Env} {D:Nat} {fn:FuncId} {nt m:Nat} {dH:Value→World→Prop} {k k':List Item} {st BV:St}
theorem mM.HX (h:HX k=some k') (hr:mM P E D fn nt dH k' st):mM P E D fn nt dH k st:=by
 unfold Ab.HX at h
 split at h
 ·cases h;exact hr.seq
 ·cases h;exact hr.step fun _ _ _ _=>step_block
 ·cases h;exact hr.step fun _ _ _ _=>step_loop
 ·cases h;exact hr.step fun _ _ _ _=>step_inLoop
 ·cases h;exact hr.inBlock
 ·cases h;exact hr.step fun _ _ _ _=>step_lone_go (by rfl)
 ·cases h;exact hr.step fun _ _ _ _=>step_lone_go (by rfl)
 ·cases h;exact hr.step fun _ _ _ _=>step_skip
 ·cases h;exact hr.step fun _ _ _ _=>step_label
 ·exact hr.step fun _ _ _ _=>step_exit h
 ·cases h
theorem mM.EM:∀ (n:Nat) {k:List Item},EM n k=some k'→mM P E D fn nt dH k' st→mM P E D fn nt dH k st
 | 0,k,h,hr=>by simp only [Ab.EM,aA] at h;rw [h];exact hr
 | n+1,k,h,hr=>by
  simp only [Ab.EM] at h
  split at h
  ·rename_i k1 h1
   exact mM.HX h1 (mM.EM n h hr)
  ·cases h
end
end Go.Ab
