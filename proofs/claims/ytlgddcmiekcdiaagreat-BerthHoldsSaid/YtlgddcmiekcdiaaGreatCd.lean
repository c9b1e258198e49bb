/- Abstract values over the heap of the machine, and functions read off its code (part 4). No conditions. -/
import Derived.Test.YtlgddcmiekcdiaaGreatCc
import Derived.ProofKit
import Derived.Deep.Slices
import Derived.OpenShut
import Derived.ChangeOld
import Derived.SizedLaws
import Derived.RangeFuncLeaves
set_option linter.unusedVariables false
set_option linter.unusedSimpArgs false
namespace Go.Ab
section
variable {P:Program} {E:Env} {m0 nk:Nat} {F:List Nat} {fC:Ad}
theorem Cs {σ:dw} {f:Nat→Option Nat}:∀ (l:Ad) (ps:List Prop) (τ:dw),J7 σ F f fC l=some (ps,τ)→bj ps→∀ k o,au τ k=some o →
  ∃ d p,(k,d)∈l∧wb σ F f fC d=some (p,o)∧bj p
 | [],ps,τ,h,_,k,o,hk=>by simp [J7] at h;obtain ⟨_,rfl⟩:=h;simp [au] at hk
 | (k',d) :: r,ps,τ,h,hp,k,o,hk=>by
  simp only [J7] at h
  split at h
  ·rename_i p o' q l e1 e2
   simp only [az,ay] at h
   obtain ⟨rfl,rfl⟩:=h
   obtain ⟨xC,xh⟩:=bj.app hp
   simp only [au] at hk
   split at hk
   ·simp_all
   ·obtain ⟨d',p',h1,h2,h3⟩:=Cs r q l e2 xh k o hk
    grind
  ·cases h
theorem HM {σ:dw} {f:Nat→Option Nat} {tm:List (Nat×AV)} {R:Value→AV→Prop} {fr:Array Value} (WK:∀ v,R v .m9)
  (hv:∀ d t ps y,Fg σ F f fC d (ee tm t)=some (ps,y)→bj ps→R (fr.getD t undef) y):∀ (l:List (Nat×Wd)) (ps:List Prop) (Ln:List (Nat×AV)),
  J6 σ F f fC tm l=some (ps,Ln)→bj ps→∀ t,R (fr.getD t undef) (ee Ln t)
 | [],ps,Ln,h,_,t=>by simp [J6] at h;obtain ⟨_,rfl⟩:=h;exact WK _
 | (t',d) :: r,ps,Ln,h,hp,t=>by
  simp only [J6] at h
  split at h
  ·rename_i p x q l e1 e2
   simp only [az,ay] at h
   obtain ⟨rfl,rfl⟩:=h
   obtain ⟨xC,xh⟩:=bj.app hp
   simp only [ee]
   split
   ·rename_i hb
    rw [← bO hb]
    exact hv d t' p x e1 xC
   ·exact HM WK hv r q l e2 xh t
  ·cases h
theorem PZ {k0:Nat}:∀ (l:Ad) (a b:Nat) (x y:Od),mP (l.filterMap (·.2.xe))=true→(a,x)∈l→(b,y)∈l→x.xe=some k0→y.xe=some k0→a=b:=by
 intro l
 induction l with
 | nil=>simp
 | cons z l ih =>
  intro a b x y hn ha hb hx hy
  have none:∀ c u,(c,u)∈l→u.xe=some k0→idx (l.filterMap (·.2.xe)) k0=none→False:=by
   intro c u hc hu hi
   have uP:k0∈l.filterMap (·.2.xe):=List.mem_filterMap.2 ⟨(c,u),hc,hu⟩
   obtain ⟨i,rr⟩:=List.getElem?_of_mem uP
   exact mm _ _ hi i rr
  rcases kL.1 ha with UI | UI
  ·rcases kL.1 hb with rL | rL
   ·grind
   ·rw [← UI] at hn
    simp only [List.filterMap_cons,hx,mP,bh,Option.isNone_iff_eq_none] at hn
    grind
  ·rcases kL.1 hb with rL | rL
   ·rw [← rL] at hn
    simp only [List.filterMap_cons,hy,mP,bh,Option.isNone_iff_eq_none] at hn
    grind
   ·refine ih a b x y ?_ UI rL hx hy
    simp only [List.filterMap_cons] at hn
    split at hn
    ·exact hn
    simp_all [mP,bh]
theorem UW:∀ {as:List AV} {sz n:Nat} {g:Nat→List AV},Js as [.mr sz n g]→as=[.mr sz n g]
 | [],_,_,_,h=>h.elim
 | a :: [],_,_,_,h=>by
  rcases h.1 with h1 | ⟨_,f,h1⟩
  ·rw [h1]
  ·cases h1
 | _ :: _ :: _,_,_,_,h=>h.2.elim
theorem P0 {σ:dw} {f:Nat→Option Nat} {d:Od} {p:List Prop} {o:Ob} (h:wb σ F f fC d=some (p,o)) (hp:bj p) {i:Nat} {x:Nat×Nat×(Nat→List AV)} (hr:rowOf o i=some x) :
  ∃ k0 o0,d.xe=some k0∧au σ k0=some o0∧rowOf o0 i=some x:=by
 obtain ⟨r1,r2,r3⟩:=da hr
 cases d with
 | ag k0 =>
  simp only [wb,aL,ay] at h
  obtain ⟨o0,qQ,_,rfl⟩:=h
  exact ⟨k0,o0,rfl,qQ,(qn _ _ _ _).1 hr⟩
 | arr k0 n gt =>
  simp only [wb] at h
  split at h
  ·rename_i o0 qQ
   split at h
   ·simp only [az,ay] at h
    obtain ⟨rfl,rfl⟩:=h
    obtain ⟨p1,p2,_⟩:=hp
    exact ⟨k0,o0,rfl,qQ,kN r1 (by rw [p1];exact r2) (by simp_all)⟩
   ·cases h
  ·cases h
 | PW k0 n gt =>
  simp only [wb] at h
  split at h
  ·rename_i o0 qQ
   split at h
   ·simp only [az,ay] at h
    obtain ⟨rfl,rfl⟩:=h
    obtain ⟨p1,p2,_⟩:=hp
    have:=p2 i r2
    have r3:gt i=[.mr x.1 x.2.1 x.2.2]:=r3
    rw [r3] at this
    exact ⟨k0,o0,rfl,qQ,kN r1 (pJ r2 p1) (UW this)⟩
   ·cases h
  ·cases h
 | qg k0 n l b =>
  simp only [wb] at h
  split at h
  ·rename_i o0 l' qQ Y4
   split at h
   ·rename_i hb
    simp only [az,ay] at h
    obtain ⟨rfl,rfl⟩:=h
    obtain ⟨p1,p2,p3,_⟩:=hp
    simp only [bh,Bool.not_eq_true'] at hb
    have r3:aW l' b i=[.mr x.1 x.2.1 x.2.2]:=r3
    rw [← Ff (p3 i r2) Y4,p2 i r2] at r3
    exact ⟨k0,o0,rfl,qQ,kN hb.1 (by rw [p1];exact r2) (Pa r3)⟩
   ·cases h
  ·cases h
 | TY gt =>
  simp only [wb,az,ay] at h
  grind
 | mp k0 cs =>
  simp only [wb] at h
  split at h
  ·rename_i o0 qQ
   split at h
   ·rename_i hb
    simp only [az,ay] at h
    obtain ⟨rfl,rfl⟩:=h
    simp_all
   ·cases h
  ·cases h
 | var k0 ds =>
  simp only [wb] at h
  grind
 | nil sz gt =>
  simp only [wb] at h
  grind
theorem Fi {st Ct:St} {xD:List (Nat×Wd)} {ps:List Prop} (h:GN E.m0 st F xD fC nk=some (ps,Ct)) (hp:bj ps) (hF:F.isEmpty=true∨∀ b,¬ E.fp b) {fr:Array Value} {w:World} (hr:OH E st fr w):OH E Ct fr w:=by
 obtain ⟨S,μ,g,hk,hm,ht⟩:=hr
 unfold GN at h
 split at h
 case h_2=>cases h
 rename_i p tm q eS hn WL cZ
 simp only [az,ay] at h
 obtain ⟨rfl,rfl⟩:=h
 obtain ⟨xC,xh⟩:=bj.app hp
 have N:=PY hn
 have e:Ext w S μ w (SF μ F st.oh S) μ:=⟨aG _,fun _ h=>.inl h,fun _ _=>rfl,fun _ _ h=>h⟩
 have Sl:∀ k o,au eS k=some o→∃ pl c T,GO E.m0 μ fC k=some pl∧gR w (SF μ F st.oh S) (GO E.m0 μ fC) o pl c T ∧
   (0 < pl.cap→∃ k0 o0,au st.oh k0=some o0∧μ k0=some pl∧∃ d,(k,d)∈fC∧d.xe=some k0):=by
  intro k o Sc
  obtain ⟨d,pd,sN,hd,UX⟩:=Cs fC q eS cZ xh k o Sc
  have mono:∀ {v:Value} {x:AV} {dn:Mu},aq w S dn v x→aq w (SF μ F st.oh S) dn v x:=fun h=>h.mono (fun _ h=>.inl h) (fun _ _=>rfl) (fun _ _ h=>h)
  have out:∀ k0 o0 pl,au st.oh k0=some o0→μ k0=some pl→k0 ∉ F→0 < pl.cap→¬ SF μ F st.oh S pl.cK:=by
   rintro k0 o0 pl qQ tO YT hc (h1 | ⟨k1,o1,AO,Sb,wV,K0,tC,hb⟩)
   ·obtain ⟨j9,c,T,gV,PA⟩:=g.rep.ob k0 o0 qQ
    rw [tO] at gV;cases gV
    exact PA.out hc h1
   ·have fZ:k1≠k0:=fun h=>YT (h ▸ Sb)
    exact g.rep.ne k1 k0 o1 o0 AO pl fZ wV qQ K0 tO tC hc hb
  cases d with
  | ag k0 =>
   simp only [wb,aL,ay] at hd
   obtain ⟨o0,qQ,_,rfl⟩:=hd
   obtain ⟨pl,c,T,tO,uk⟩:=g.rep.ob k0 o0 qQ
   have h1:=uk.ext e (fun _=>rfl) (out k0 o0 pl qQ tO (N.fr k _ k0 sN rfl))
   exact ⟨pl,c,T,by rw [Ae N sN rfl];exact tO,h1.kB fun a b pl ha hb=>Em N ha hb,fun _=>⟨k0,o0,qQ,tO,_,sN,rfl⟩⟩
  | arr k0 n gt =>
   simp only [wb] at hd
   split at hd
   ·rename_i o0 qQ
    split at hd
    ·rename_i hb
     simp only [az,ay] at hd
     obtain ⟨rfl,rfl⟩:=hd
     obtain ⟨p1,p2,_⟩:=UX
     obtain ⟨pl,c,T,tO,uk⟩:=g.rep.ob k0 o0 qQ
     simp only [bh] at hb
     have h1:=uk.ext e (fun _=>rfl) (out k0 o0 pl qQ tO (N.fr k _ k0 sN rfl))
     refine ⟨pl,c,T,by rw [Ae N sN rfl];exact tO,⟨h1.sz,h1.cK,h1.cap,p1 ▸ h1.len,h1.out,fun i hi=>?_,fun i j x v hi hx hv=>?_,fun hz=>absurd hz (by simp_all)⟩,fun _=>⟨k0,o0,qQ,tO,_,sN,rfl⟩⟩
     ·show (gt i).length=_
      rw [p2 i hi];exact h1.tB i (by rw [p1];exact hi)
     ·have hx:(gt i)[j]?=some x:=hx
      rw [p2 i hi] at hx
      have:=h1.rep i j x v (by rw [p1];exact hi) hx hv
      simp_all
    ·cases hd
   ·cases hd
  | PW k0 n gt =>
   simp only [wb] at hd
   split at hd
   ·rename_i o0 qQ
    split at hd
    ·rename_i hb
     simp only [az,ay] at hd
     obtain ⟨rfl,rfl⟩:=hd
     obtain ⟨p1,p2,_⟩:=UX
     obtain ⟨pl,c,T,tO,uk⟩:=g.rep.ob k0 o0 qQ
     simp only [bh] at hb
     have h1:=uk.ext e (fun _=>rfl) (out k0 o0 pl qQ tO (N.fr k _ k0 sN rfl))
     refine ⟨pl,c,T,by rw [Ae N sN rfl];exact tO,⟨h1.sz,h1.cK,h1.cap,eC p1 h1.len,h1.out,fun i hi=>?_,fun i j x v hi hx hv=>?_,fun hz=>absurd hz (by have:=Nat.le_of_ble_eq_true hb.2;show o0.sz≠0;omega)⟩,fun _=>⟨k0,o0,qQ,tO,_,sN,rfl⟩⟩
     ·show (gt i).length=_
      rw [(p2 i hi).len];exact h1.tB i (pJ hi p1)
     ·have hx:(gt i)[j]?=some x:=hx
      obtain ⟨a,ha,hax⟩:=(p2 i hi).get hx
      have:=h1.rep i j a v (pJ hi p1) ha hv
      rw [hb.1.1] at this
      exact UU hax this
    ·cases hd
   ·cases hd
  | mp k0 cs =>
   simp only [wb] at hd
   split at hd
   ·rename_i o0 qQ
    split at hd
    ·rename_i hb
     simp only [az,ay] at hd
     obtain ⟨rfl,rfl⟩:=hd
     obtain ⟨rfl,_⟩:=UX
     obtain ⟨pl,c,T,tO,uk⟩:=g.rep.ob k0 o0 qQ
     simp only [bh] at hb
     have JF:=bO hb.2
     have h1:=uk.ext e (fun _=>rfl) (out k0 o0 pl qQ tO (N.fr k _ k0 sN rfl))
     refine ⟨pl,c,T,by rw [Ae N sN rfl];exact tO,⟨h1.sz,h1.cK,h1.cap,h1.len,h1.out,fun i hi=>absurd hi (by show ¬ i < o0.len;omega),fun i j x v hi=>absurd hi (by show ¬ i < o0.len;omega),fun hz=>?_⟩,fun _=>⟨k0,o0,qQ,tO,_,sN,rfl⟩⟩
     obtain ⟨m0,m1,m2,m3,m4⟩:=h1.mp hz
     exact ⟨m0,m1,m2,rfl,m4⟩
    ·cases hd
   ·cases hd
  | TY gt =>
   simp only [wb,az,ay] at hd
   obtain ⟨_,rfl⟩:=hd
   exact ⟨⟨0,0,1⟩,#[],0,MG N sN,⟨rfl,fun h=>absurd h (by simp),by simp,by simp,fun h=>absurd h (by simp),fun i h=>absurd h (by simp),fun i j x v h=>absurd h (by simp),fun h=>absurd (show (1:Nat)=0 from h) (by omega)⟩,fun h=>absurd h (by simp)⟩
  | qg k0 n l b =>
   simp only [wb] at hd
   split at hd
   ·rename_i o0 l' qQ Y4
    split at hd
    ·rename_i hb
     simp only [az,ay] at hd
     obtain ⟨rfl,rfl⟩:=hd
     obtain ⟨p1,p2',p3,_⟩:=UX
     have p2:∀ i,i < n→aW l' b i=AV.ug (tQ E.m0 fC) (o0.get i):=fun i hi=>by rw [← p2' i hi];exact (Ff (p3 i hi) Y4).symm
     let gt:Nat→List AV:=aW l' b
     obtain ⟨pl,c,T,tO,uk⟩:=g.rep.ob k0 o0 qQ
     simp only [bh] at hb
     have h1:=uk.ext e (fun _=>rfl) (out k0 o0 pl qQ tO (N.fr k _ k0 sN rfl))
     refine ⟨pl,c,T,by rw [Ae N sN rfl];exact tO,⟨h1.sz,h1.cK,h1.cap,p1 ▸ h1.len,h1.out,fun i hi=>?_,fun i j x v hi hx hv=>?_,fun hz=>absurd hz (by have:=Nat.le_of_ble_eq_true hb.2;show o0.sz≠0;omega)⟩,fun _=>⟨k0,o0,qQ,tO,_,sN,rfl⟩⟩
     ·show (aW l' b i).length=_
      rw [p2 i hi,v7,List.length_map];exact h1.tB i (by rw [p1];exact hi)
     ·have hx:(aW l' b i)[j]?=some x:=hx
      rw [p2 i hi,v7,List.getElem?_map] at hx
      simp only [aL] at hx
      obtain ⟨y,hy,rfl⟩:=hx
      have:=iQ (h1.rep i j y v (by rw [p1];exact hi) hy hv)
      exact this.kB fun a b pl ha hb=>Em N ha hb
    ·cases hd
   ·cases hd
  | var k0 ds =>
   simp only [wb] at hd
   split at hd
   ·rename_i o0 qQ
    split at hd
    ·rename_i pw cs hb Us
     simp only [az,ay] at hd
     obtain ⟨rfl,rfl⟩:=hd
     obtain ⟨pl,c,T,tO,uk⟩:=g.rep.ob k0 o0 qQ
     simp only [bh] at hb
     have XN:=bO hb.1.2
     have Jq:=Nat.le_of_ble_eq_true hb.2
     have ha:aq w S μ (.agg ((List.range o0.sz).map fun j=>(c[j]?).getD undef).toArray) (.agg (o0.get 0)):=by
      refine .agg (by simp [uk.tB 0 (by omega)]) fun j x v hx hv=>?_
      have hj:j < o0.sz:=by
       have:=(dJ.1 hx).1
       rwa [uk.tB 0 (by omega)] at this
      obtain ⟨u,q1,_⟩:=cQ uk (i:=0) (by omega) hj
      have X0:c[j]?=some u:=by simpa using q1
      simp [List.getElem?_range hj,X0] at hv
      exact iQ (uk.rep 0 j x v (by omega) hx (by rw [← hv];simpa using q1))
     have Nz:=MI g N (.agg ds) (.agg (o0.get 0)) _ pw (.agg cs) ha (by simp [Fg,Us]) UX
     obtain ⟨vs,UY,GH,Dy⟩:=nL Nz
     cases UY
     have hlen:cs.length=o0.sz:=by simpa using GH.symm
     refine ⟨pl,c,T,by rw [Ae N sN rfl];exact tO,⟨uk.sz,uk.cK,uk.cap,by have:=uk.len;show 1≤pl.cap;omega,out k0 o0 pl qQ tO (N.fr k _ k0 sN rfl),fun i hi=>hlen,fun i j x v hi hx hv=>?_,fun hz=>absurd hz (by show o0.sz≠0;omega)⟩,fun _=>⟨k0,o0,qQ,tO,_,sN,rfl⟩⟩
     have hi0:i=0:=by have hi:i < 1:=hi;omega
     subst hi0
     have hx:cs[j]?=some x:=hx
     have hj:j < o0.sz:=by rw [← hlen];exact (dJ.1 hx).1
     have sJ:c[j]?=some v:=by simpa using hv
     have:=Dy j x v hx (by simp [List.getElem?_range hj,sJ])
     show aq w _ (if AV.lS cs then iL else _) v x
     split
     ·rename_i XM
      exact this.pure (su XM hx) iL
     ·exact this
    ·cases hd
   ·cases hd
  | nil sz gt =>
   simp only [wb] at hd
   split at hd
   case h_2=>cases hd
   rename_i Y5
   simp only [az,ay] at hd
   obtain ⟨_,rfl⟩:=hd
   exact ⟨⟨0,0,sz⟩,#[],0,MH N sN,⟨rfl,fun h=>absurd h (by simp),by simp,by simp,fun h=>absurd h (by simp),fun i h=>absurd h (by simp),fun i j x v h=>absurd h (by simp),fun h=>absurd (show sz=0 from h) (by have:=Nat.le_of_ble_eq_true Y5;omega)⟩,fun h=>absurd h (by simp)⟩
 have Wy:∀ k i x v,ja w (GO E.m0 μ fC) eS k i x v→∃ k0 d,(k,d)∈fC∧d.xe=some k0∧ja w μ st.oh k0 i x v:=by
  rintro k i x v ⟨o,pl,h1,h2,h3,h4⟩
  obtain ⟨d,pd,sN,hd,UX⟩:=Cs fC q eS cZ xh k o h1
  obtain ⟨k0,o0,q1,q2,q3⟩:=P0 hd UX h2
  rw [Ae N sN q1] at h3
  exact ⟨k0,d,sN,q1,o0,pl,q2,q3,h3,h4⟩
 have TC:MX E.fp E.w0.heap.size w (SF μ F st.oh S) (GO E.m0 μ fC) eS:=by
  have Y6:∀ k d k0,(k,d)∈fC→d.xe=some k0→((tR fC k).bind Od.xe).getD 0=k0:=fun k d k0 h1 h2=>by rw [qR N.nd h1];simp [h2]
  refine g.mx.tr (fun k=>((tR fC k).bind Od.xe).getD 0) (fun k i x v h=>?_) (fun k i x v k' i' x' v' h h' he=>?_) (fun _ h=>.inl h) (fun _ _=>rfl) (fun k i x v b _ h hb=>⟨rfl,?_,fun h=>h⟩) (fun k o pl h1 h2 h3=>?_)
  ·obtain ⟨k0,d,q1,q2,q3⟩:=Wy k i x v h
   show ja w μ st.oh (((tR fC k).bind Od.xe).getD 0) i x v
   rw [Y6 k d k0 q1 q2];exact q3
  ·obtain ⟨k0,d,q1,q2,_⟩:=Wy k i x v h
   obtain ⟨X1,d',X0,VV,_⟩:=Wy k' i' x' v' h'
   have he:((tR fC k).bind Od.xe).getD 0=((tR fC k').bind Od.xe).getD 0:=he
   rw [Y6 k d k0 q1 q2,Y6 k' d' X1 X0 VV] at he
   exact PZ fC k k' d d' N.od q1 X0 q2 (he ▸ VV)
  ·rintro (h1 | ⟨k1,o1,AO,_,wV,K0,tC,h1⟩)
   ·exact (g.mx.cK h hb).2.1 h1
   ·exact g.mx.obj _ _ _ _ _ h hb k1 o1 AO wV K0 tC h1
  ·obtain ⟨AO,c,T,e1,_,e3⟩:=Sl k o h1
   rw [h2] at e1;cases e1
   obtain ⟨k0,o0,qQ,tO,_⟩:=e3 h3
   exact .inl ⟨k0,o0,pl,qQ,tO,h3,rfl⟩
 refine ⟨SF μ F st.oh S,GO E.m0 μ fC,⟨g.fr,fun b h=>.inl (g.S0 b h),?_,?_,⟨?_,?_⟩,?_,?_,TC⟩,?_,N.m0,?_⟩
 ·rintro b (h1 | ⟨k1,o1,AO,Sb,wV,K0,tC,rfl⟩)
  ·exact g.S1 b h1
  ·obtain ⟨j9,c,T,gV,PA⟩:=g.rep.ob k1 o1 wV
   rw [K0] at gV;cases gV
   exact gz (PA.cK tC)
 ·rintro b (h1 | ⟨k1,o1,AO,Sb,wV,K0,tC,rfl⟩)
  ·exact g.S2 b h1
  ·rcases g.own k1 o1 AO wV K0 tC with h2 | h2
   ·rcases hF with h3 | h3
    ·rw [List.isEmpty_iff] at h3;rw [h3] at Sb;simp at Sb
    ·exact (h3 _ h2).elim
   ·exact .inr h2
 ·intro k o Sc
  obtain ⟨pl,c,T,h1,h2,_⟩:=Sl k o Sc
  exact ⟨pl,c,T,h1,h2⟩
 ·intro k k' o o' pl j9 fZ Sc Y7 uf Sm hc oG
  obtain ⟨AO,c,T,h1,_,h3⟩:=Sl k o Sc
  obtain ⟨rY,c',T',Rs,_,h3'⟩:=Sl k' o' Y7
  rw [uf] at h1;cases h1
  rw [Sm] at Rs;cases Rs
  obtain ⟨k0,o0,qQ,tO,d,hd,hdo⟩:=h3 hc
  obtain ⟨X1,o0',Y8,Y9,d',VT,Za⟩:=h3' oG
  have Pe:k0≠X1:=by
   rintro rfl
   exact fZ (PZ fC k k' d d' N.od hd VT hdo Za)
  exact g.rep.ne k0 X1 o0 o0' pl j9 Pe qQ Y8 tO Y9 hc oG
 ·intro k o pl Sc uf hc
  obtain ⟨AO,c,T,h1,_,h3⟩:=Sl k o Sc
  rw [uf] at h1;cases h1
  obtain ⟨k0,o0,qQ,tO,_⟩:=h3 hc
  exact g.own k0 o0 pl qQ tO hc
 ·intro k oQ
  unfold GO
  rw [if_pos oQ];exact g.Eh k oQ
 ·intro k oQ
  have oQ:nk≤k:=oQ
  have:=N.m0
  unfold GO
  rw [if_neg (by omega)]
  cases hg:tR fC k with
  | none=>rfl
  | some d =>
   have:=N.lt k d (yW hg)
   omega
 ·exact HM (R:=fun v x=>aq w (SF μ F st.oh S) (GO E.m0 μ fC) v x) (fun _=>.m9) (fun d t ps y h1 h2=>MI g N d _ _ ps y (ht t) h1 h2) xD p tm WL xC
def aD (P:Program) (E:Env) (fn:FuncId) (nt:Nat) (dN:Value→World→Prop) (k:List Item) (st:St):Prop :=
 ∀ (tm:Array Value) (w:World),tm.size=nt→OH E st tm w→∀ (b:Frame),b.fn=fn→b.kind=.normal→∀ cs,
  ∃ v w' fr,dN v w'∧Steps P (lone (b.at ⟨tm,[]⟩ k) cs w) (lone fr cs w')∧fr.fn=fn∧fr.leaving P w' (.returned v)
variable {fn:FuncId} {nt:Nat} {dN:Value→World→Prop} {k k':List Item} {st Ct:St}
theorem aD.step (h:aD P E fn nt dN k' st) (hs:∀ (b:Frame) (a:Act) (cs:List Frame) (w:World),step P (lone (b.at a k) cs w)=.next (lone (b.at a k') cs w)):aD P E fn nt dN k st:=by
 intro tm w h1 h2 b h3 h4 cs
 obtain ⟨v,w',fr,q1,q2,q3,q4⟩:=h tm w h1 h2 b h3 h4 cs
 exact ⟨v,w',fr,q1,.head (hs b ⟨tm,[]⟩ cs w) q2,q3,q4⟩
theorem aD.seq {x y:Code} (h:aD P E fn nt dN (.code x :: .code y :: k) st):aD P E fn nt dN (.code (.seq x y) :: k) st:=h.step fun _ _ _ _=>step_seq
theorem aD.block {id:Nat} {c:Code} (h:aD P E fn nt dN (.code c :: .inBlock id :: k) st):aD P E fn nt dN (.code (.block id c) :: k) st:=h.step fun _ _ _ _=>step_block
theorem aD.inBlock {id:Nat} (h:aD P E fn nt dN k st):aD P E fn nt dN (.inBlock id :: k) st:=h.step fun _ _ _ _=>step_inBlock
theorem aD.loop {c:Code} (h:aD P E fn nt dN (.code c :: .inLoop c :: k) st):aD P E fn nt dN (.code (.loop c) :: k) st:=h.step fun _ _ _ _=>step_loop
theorem aD.inLoop {c:Code} (h:aD P E fn nt dN (.code c :: .inLoop c :: k) st):aD P E fn nt dN (.inLoop c :: k) st:=h.step fun _ _ _ _=>step_inLoop
theorem aD.skip (h:aD P E fn nt dN k st):aD P E fn nt dN (.code .skip :: k) st:=h.step fun _ _ _ _=>step_skip
theorem aD.label {l:Nat} (h:aD P E fn nt dN k st):aD P E fn nt dN (.code (.label l) :: k) st:=h.step fun _ _ _ _=>step_label
theorem aD.scope {c:Code} (h:aD P E fn nt dN (.code c :: .inScope c :: k) st):aD P E fn nt dN (.code (.scope c) :: k) st:=h.step fun _ _ _ _=>step_lone_go (by rfl)
theorem aD.inScope {c:Code} (h:aD P E fn nt dN k st):aD P E fn nt dN (.inScope c :: k) st:=h.step fun _ _ _ _=>step_lone_go (by rfl)
theorem aD.exit {id:Nat} (he:exitTo id k=some k') (h:aD P E fn nt dN k' st):aD P E fn nt dN (.code (.exit id) :: k) st:=h.step fun _ _ _ _=>step_exit he
theorem aD.cond {c:Operand} {x y:Code} {q:Bool} (hc:xS st.tm c=.atom (.bool q)) (h1:q=true→aD P E fn nt dN (.code x :: k) st) (h2:q=false→aD P E fn nt dN (.code y :: k) st) :
  aD P E fn nt dN (.code (.cond c x y) :: k) st:=by
 intro tm w hs hr b rL o5 cs
 have AQ:=hr
 obtain ⟨S,μ,g,_,_,ht⟩:=AQ
 have e:=A8 (a:=⟨tm,[]⟩) ht c
 rw [hc] at e
 have e:=cY e
 have AP:=step_cond (P:=P) (b:=b) (k:=k) (cs:=cs) (w:=w) (x:=x) (y:=y) e
 cases q with
 | true =>
  obtain ⟨v,w',fr,q1,q2,q3,q4⟩:=h1 rfl tm w hs hr b rL o5 cs
  exact ⟨v,w',fr,q1,.head AP q2,q3,q4⟩
 | false =>
  obtain ⟨v,w',fr,q1,q2,q3,q4⟩:=h2 rfl tm w hs hr b rL o5 cs
  exact ⟨v,w',fr,q1,.head AP q2,q3,q4⟩
structure bq (E:Env) (m:Nat):Prop where
 m0:E.m0=m
 fp:m=0→∀ b,¬ E.fp b
theorem aD.wk {m:Nat} (hE:bq E m) {xD:List (Nat×Wd)} {ps:List Prop} (h:GN m st F xD fC nk=some (ps,Ct)) (hF:(F.isEmpty || Nat.beq m 0)=true) (hp:bj ps) (hr:aD P E fn nt dN k Ct):aD P E fn nt dN k st:=by
 have h':GN E.m0 st F xD fC nk=some (ps,Ct):=by rw [hE.m0];exact h
 refine fun tm w h1 h2=>hr tm w h1 (Fi h' hp ?_ h2)
 rcases Bool.or_eq_true_iff.1 hF with h3 | h3
 ·exact .inl h3
 ·exact .inr (hE.fp (bO h3))
def Ba (P:Program) (nt:Nat) (c:Code) (orcs:List (Nat×oa)) (st:St):Option (List Prop×St) :=
 match c with
 | .region _ ops draw=>match r7 P nt ops.toList st.nk orcs ops.toList 0 st.tm st.oh with
  | some db=>match !draw || (P.follows .mixedOrders && PS ops.toList db) with
   | true=>some (E3 db,⟨Dl db st.tm,xV db st.oh,st.nk+16 * ops.size⟩)
   | false=>none
  | none=>none
 | _=>none
def wW:List (Nat×oa)→Bool
 | []=>true
 | (_,o) :: r=>!o.xi && wW r
def VY:List (Nat×oa)→Bool
 | []=>true
 | (_,o) :: r=>o.y.isNone && VY r
def VZ (P:Program) (E:Env):List (Nat×oa)→Prop
 | []=>True
 | (_,o) :: r=>(match o.y with
  | some y=>XV P E y
  | none=>True)∧VZ P E r
theorem HN:∀ {orcs:List (Nat×oa)},wW orcs=true→∀ i x,qq orcs i=some x→x.xi=true→False
 | [],_,i,x,h,_=>by simp [qq] at h
 | (a,o) :: r,hn,i,x,h,hx=>by
  simp only [wW,bh,Bool.not_eq_true'] at hn
  simp only [qq] at h
  split at h
  ·simp_all
  ·exact HN hn.2 i x h hx
theorem Iz {P:Program} {E:Env}:∀ {orcs:List (Nat×oa)},VY orcs=true→VZ P E orcs
 | [],_=>trivial
 | (a,o) :: r,hn=>by
  simp only [VY,bh,Option.isNone_iff_eq_none] at hn
  refine ⟨?_,Iz hn.2⟩
  rw [hn.1];trivial
theorem MJ {P:Program} {E:Env}:∀ {orcs:List (Nat×oa)},VZ P E orcs→∀ i x y,qq orcs i=some x→x.y=some y→XV P E y
 | [],_,i,x,y,h,_=>by simp [qq] at h
 | (a,o) :: r,hn,i,x,y,h,hx=>by
  simp only [qq] at h
  split at h
  ·cases h
   have:=hn.1
   simp_all
  ·exact MJ hn.2 i x y h hx
theorem xW {rd:Option Nat} {ds:List Deferred} {c:Code} {orcs:List (Nat×oa)} (hz:wW orcs=true∨∀ b,¬ E.fp b) (hy:VZ P E orcs) {ps:List Prop} (h:Ba P nt c orcs st=some (ps,Ct)) (hp:bj ps)
  {tm:Array Value} {w:World} (hs:tm.size=nt) (zZ:OH E st tm w):c.wpIn (FW rd) 0 P (fun e a w=>e=.normal∧a.tmps.size=nt∧a.defers=ds∧OH E Ct a.tmps w) ⟨tm,ds⟩ w:=by
 have hz:∀ i,J0 P E (qq orcs i):=fun i=>⟨fun x hx hf=>hz.elim (fun hn=>(HN hn i x hx hf).elim) id,fun x y hx TZ=>MJ hy i x y hx TZ⟩
 unfold Ba at h
 split at h
 case h_2=>cases h
 rename_i id ops draw
 split at h
 case h_2=>cases h
 rename_i db XY
 split at h
 case h_2=>cases h
 rename_i hd
 simp only [az,ay] at h
 obtain ⟨rfl,rfl⟩:=h
 obtain ⟨S,μ,g,hk,hm,ht⟩:=zZ
 let Q0:Exit→Act→World→Prop:=fun e a w=>e=.normal∧a.tmps.size=nt∧a.defers=ds∧OH E ⟨Dl db st.tm,xV db st.oh,st.nk+16 * ops.size⟩ a.tmps w
 show (Code.region id ops draw).wpIn (FW rd) 0 P Q0 ⟨tm,ds⟩ w
 have hQ:∀ (a':Act) (w':World) (S':Nat→Prop) (dn:Mu),a'.tmps.size=nt→a'.defers=ds→Good E (xV db st.oh) S' dn w'→(∀ k,st.nk+16 * ops.size≤k→dn k=none)→(∀ t,aq w' S' dn (a'.tmps.getD t undef) (ee (Dl db st.tm) t)) →
   Q0 .normal a' w' :=
  fun a' w' S' dn q1 q2 q3 q4 q5=>⟨rfl,q1,q2,S',dn,q3,q4,by grind,q5⟩
 cases draw with
 | false =>
  refine wpIn_region ?_
  have:=HE (P:=P) (E:=E) (Q:=Q0) (rd:=rd) (ds:=ds) (nt:=nt) (nk:=st.nk) (ops:=ops) (orcs:=orcs) hz hm ops.toList 0 ⟨tm,ds⟩ w st.tm st.oh S μ db rfl (by simp) hs rfl g (by simpa using hk) ht XY hp hQ
  rw [List.range_eq_range']
  simpa using this
 | true =>
  simp only [Bool.not_true,Bool.false_or,bh] at hd
  refine wpIn_region_any hd.1 ?_
  have hrf:∀ (n j:Nat),(Array.replicate n false).getD j false=false:=by
   intro n j
   simp only [uc,Array.getElem?_replicate]
   split<;>rfl
  refine Lo hz hm XY hp hd.2 hQ ops.size _ ⟨tm,ds⟩ _ S μ (by simp) hs rfl ?_ ?_ ?_ ?_ ?_
  ·simp_all
  ·omega
  ·rw [Cq db 0 st.oh _ (fun m _=>hrf _ _)];exact g.drew
  ·simp_all
  ·intro t
   rw [Fe db 0 st.tm _ (fun m _=>hrf _ _)]
   exact (ht t).ext (Ext.drew w S μ)
theorem aD.region {c:Code} {orcs:List (Nat×oa)} (hz:wW orcs=true∨∀ b,¬ E.fp b) (hy:VZ P E orcs) {ps:List Prop} (h:Ba P nt c orcs st=some (ps,Ct)) (hp:bj ps) (hr:aD P E fn nt dN k Ct):aD P E fn nt dN (.code c :: k) st:=by
 intro tm w hs zZ b rL o5 cs
 have Zb:c.wp P (fun e a w=>e=.normal∧a.tmps.size=nt∧a.defers=[]∧OH E Ct a.tmps w) ⟨tm,[]⟩ w:=(wpIn_wide (n:=0)).1 (xW (rd:=none) (ds:=[]) hz hy h hp hs zZ)
 obtain ⟨e,a',w',⟨rfl,q1,q2,q3⟩,UZ⟩:=Zb b k cs
 have ha:a'=⟨a'.tmps,[]⟩:=by cases a';simp at q2;simp [q2]
 obtain ⟨v,VQ,fr,r1,r2,r3,r4⟩:=hr a'.tmps w' q1 q3 b rL o5 cs
 refine ⟨v,VQ,fr,r1,Steps.trans UZ ?_,r3,r4⟩
 rw [ha];exact r2
end
end Go.Ab
namespace Go.Ab
def bd (E:Env) (eS:dw) (res:AV) (v:Value) (w':World):Prop:=∃ S' dn,Good E eS S' dn w'∧aq w' S' dn v res
def Fj (P:Program) (st:St):List ResultVar→Option (List Prop×List AV)
 | []=>some ([],[])
 | .tmp t :: r=>(Fj P st r).map fun (p,l)=>(p,ee st.tm t :: l)
 | .cell a t :: r=>match xI P st.oh t (ee st.tm a),Fj P st r with
  | some (p,x,_),some (q,l)=>some (p ++ q,x :: l)
  | _,_=>none
def P1:List AV→AV
 | [x]=>x
 | l=>.tup l
def xX (P:Program) (fn:Func) (st:St):Option (List Prop×AV):=(Fj P st fn.results.toList).map fun (p,l)=>(p,P1 l)
section
variable {P:Program} {E:Env} {fn:FuncId} {nt:Nat} {k:List Item} {st:St}
theorem IA {S:Nat→Prop} {μ:Mu} {w:World} (g:Good E st.oh S μ w) {tm:Array Value} (ht:∀ t,aq w S μ (tm.getD t undef) (ee st.tm t)) :
  ∀ (l:List ResultVar) (ps:List Prop) (xs:List AV),Fj P st l=some (ps,xs)→bj ps→∃ vs:List Value,
   (l.mapM fun r=>(match r with | .tmp t=>pure (tm.getD t undef) | .cell a t=>(do loadVar t (← asAddr (tm.getD a undef)):Sem Value)):Sem (List Value)).run P w=.ok vs w∧vs.length=xs.length ∧
   ∀ (j:Nat) c v,xs[j]?=some c→vs[j]?=some v→aq w S μ v c
 | [],ps,xs,h,_=>by
  simp [Fj] at h;simp_all
 | .tmp t :: r,ps,xs,h,hp=>by
  simp only [Fj,aL,ay] at h
  obtain ⟨⟨p,l⟩,h1,rfl,rfl⟩:=h
  obtain ⟨vs,q1,q2,q3⟩:=IA g ht r p l h1 hp
  refine ⟨tm.getD t undef :: vs,by simp_all,by simp [q2],?_⟩
  grind
 | .cell a t :: r,ps,xs,h,hp=>by
  simp only [Fj] at h
  split at h
  ·rename_i p x rd q l h1 h2
   simp only [az,ay] at h
   obtain ⟨rfl,rfl⟩:=h
   obtain ⟨xC,xh⟩:=bj.app hp
   obtain ⟨vs,q1,q2,q3⟩:=IA g ht r q l h2 xh
   obtain ⟨v,r1,r2⟩:=Ie (P:=P) g (ht a) h1 xC
   have Zc:∃ ad,tm.getD a undef=.pointer (some ad):=by
    cases hv:tm.getD a undef with
    | pointer o =>
     cases o with
     | none=>simp_all [Instr.loadAt,Instr.sureAddr]
     | some ad=>exact ⟨ad,rfl⟩
    | _=>simp_all [Instr.loadAt,Instr.sureAddr]
   obtain ⟨ad,had⟩:=Zc
   rw [had] at r1
   simp only [Instr.loadAt,Instr.sureAddr,bH,Sem.run_pure,cX] at r1
   have hA:(asAddr (tm.getD a undef)).run P w=.ok ad w:=by rw [had];rfl
   refine ⟨v :: vs,by simp_all,by simp [q2],?_⟩
   grind
  ·cases h
theorem Af {f:Func} (hf:P.funcs[fn]?=some f) {ps:List Prop} {res:AV} (h:xX P f st=some (ps,res)) (hp:bj ps) {tm:Array Value} {w:World} (hr:OH E st tm w) {b:Frame} (rL:b.fn=fn) (o5:b.kind=.normal) (todo:List Item) :
  ∃ v,bd E st.oh res v w∧Frame.leaving P { b.at ⟨tm,[]⟩ todo with mode:=.returning } w (.returned v):=by
 obtain ⟨S,μ,g,_,_,ht⟩:=hr
 simp only [xX,aL,ay] at h
 obtain ⟨⟨p,l⟩,h1,rfl,rfl⟩:=h
 obtain ⟨vs,q1,q2,q3⟩:=IA g ht f.results.toList p l h1 hp
 have hm:(f.results.mapM fun r=>(match r with | .tmp t=>pure (tm.getD t undef) | .cell a t=>(do loadVar t (← asAddr (tm.getD a undef)):Sem Value)):Sem (Array Value)).run P w=.ok vs.toArray w:=by
  rw [Array.mapM_eq_mapM_toList]
  simp only [Sem.run_map,q1,cX]
 have J8:∃ v,aq w S μ v (P1 l)∧(results f tm).run P w=.ok v w:=by
  refine ⟨if h:vs.toArray.size=1 then vs.toArray[0] else .tuple vs.toArray,?_,?_⟩
  ·cases l with
   | nil =>
    have:vs=[]:=List.length_eq_zero_iff.1 q2
    subst this
    simp only [P1]
    exact .tup rfl fun j c v hc=>by simp at hc
   | cons x r =>
    cases r with
    | nil =>
     simp at q2
     have hs:vs.toArray.size=1:=by simpa using q2
     rw [dif_pos hs]
     exact q3 0 x _ rfl (by simp [q2])
    | cons y r =>
     simp at q2
     have hs:¬ vs.toArray.size=1:=by simp;omega
     rw [dif_neg hs]
     exact .tup (by simp [q2]) fun j c v hc hv=>q3 j c v hc (by simpa using hv)
  ·unfold results
   simp only [bH]
   exact (congrArg (fun r:Result (Array Value)=>r.andThen fun a w'=>Result.ok (if h:a.size=1 then a[0] else Value.tuple a) w') hm)
 obtain ⟨v,hv,lG⟩:=J8
 exact ⟨v,⟨S,μ,g,hv⟩,rfl,rfl,o5,f,by rw [← hf,← rL];rfl,lG⟩
theorem aD.ret {f:Func} (hf:P.funcs[fn]?=some f) {ps:List Prop} {res:AV} (h:xX P f st=some (ps,res)) (hp:bj ps):aD P E fn nt (bd E st.oh res) (.code .ret :: k) st:=by
 intro tm w _ hr b rL o5 cs
 obtain ⟨v,h1,h2⟩:=Af hf h hp hr rL o5 (.code .ret :: k)
 exact ⟨v,w,_,h1,.one step_ret,rL,h2⟩
theorem aD.fin {f:Func} (hf:P.funcs[fn]?=some f) {ps:List Prop} {res:AV} (h:xX P f st=some (ps,res)) (hp:bj ps):aD P E fn nt (bd E st.oh res) [] st:=by
 intro tm w _ hr b rL o5 cs
 obtain ⟨v,h1,h2⟩:=Af hf h hp hr rL o5 []
 exact ⟨v,w,_,h1,.one step_end,rL,h2⟩
def Ag:List AV→Nat→List (Nat×AV)
 | [],_=>[]
 | x :: r,i=>(i,x) :: Ag r (i+1)
theorem Fk:∀ (l:List AV) (i t:Nat),ee (Ag l i) t=if i≤t then (l[t - i]?).getD .m9 else .m9
 | [],i,t=>by simp [Ag,ee]
 | x :: r,i,t=>by
  simp only [Ag,ee]
  by_cases h:i=t
  ·simp_all
  ·rw [oZ h,Fk r (i+1) t]
   grind
theorem sor {f:FuncId} {fu:Func} {c:Code} {nt m:Nat} {args:List AV} {σ eS:dw} {res:AV} (hf:P.funcs[f]?=some fu) (hb:fu.body=some c) (hn:fu.ntmps=nt) (ha:Nat.ble args.length nt=true)
  (Lq:m=0→σ=[]) (h:∀ E,bq E m→aD P E f nt (bd E eS res) [.code c] ⟨Ag args 0,σ,m⟩):Sound P f args σ m res eS:=by
 simp only [Nat.ble_eq] at ha
 intro w S μ vs g hk hl cs
 have hE:bq (xN w S σ μ m) m:=⟨rfl,fun hm b=>by
  rintro (⟨k,o,pl,h1,_⟩ | ⟨k,i,x,v,⟨o,pl,h1,_⟩,_⟩)<;>(rw [Lq hm] at h1;simp [au] at h1)⟩
 let b:Frame:={ (default:Frame) with fn:=f,kind:=.normal }
 have U0:Frame.enter P f vs .normal=b.at ⟨vs ++ Array.replicate (nt - vs.size) undef,[]⟩ [.code c]:=by
  simp [Frame.enter,Frame.at,hf,hb,hn,b]
 have rM:=hl.1
 obtain ⟨v,w',fr,h1,h2,h3,h4⟩:=h _ hE (vs ++ Array.replicate (nt - vs.size) undef) w (by simp;omega) ⟨S,μ,g,hk,aG _,fun t=>by
  show aq w S μ _ (ee (Ag args 0) t)
  rw [Fk,if_pos (Nat.zero_le _),Nat.sub_zero]
  cases hx:args[t]? with
  | none=>exact .m9
  | some x =>
   have gS:t < vs.size:=by rw [rM];exact (dJ.1 hx).1
   have hv:(vs ++ Array.replicate (nt - vs.size) undef).getD t undef=vs[t]:=by
    simp [uc,Array.getElem?_append_left gS,gS]
   rw [hv]
   exact hl.2 t x _ hx (jG gS)⟩ b rfl rfl cs
 rw [← U0] at h2
 obtain ⟨S',dn,g',hv⟩:=h1
 exact ⟨.returned v,w',fr,⟨v,S',dn,rfl,g',hv⟩,h2,h3,h4⟩
end
end Go.Ab
namespace Go.Ab
def U1 (f:Func):Code:=f.body.getD .skip
def cat:Code→List Bool→Code
 | c,[]=>c
 | .seq a _,false :: p=>cat a p
 | .seq _ b,true :: p=>cat b p
 | .cond _ a _,false :: p=>cat a p
 | .cond _ _ b,true :: p=>cat b p
 | .block _ b,_ :: p=>cat b p
 | .loop b,_ :: p=>cat b p
 | .scope b,_ :: p=>cat b p
 | c,_ :: _=>c
def IC:List Item→Option (List Item)
 | .code (.seq a b) :: k=>some (.code a :: .code b :: k)
 | .code (.block id c) :: k=>some (.code c :: .inBlock id :: k)
 | .code (.loop c) :: k=>some (.code c :: .inLoop c :: k)
 | .inLoop c :: k=>some (.code c :: .inLoop c :: k)
 | .inBlock _ :: k=>some k
 | .code (.scope c) :: k=>some (.code c :: .inScope c :: k)
 | .inScope _ :: k=>some k
 | .code .skip :: k=>some k
 | .code (.label _) :: k=>some k
 | .code (.exit id) :: k=>exitTo id k
 | _=>none
def Fl:Nat→List Item→Option (List Item)
 | 0,k=>some k
 | n+1,k=>match IC k with
  | some k'=>Fl n k'
  | none=>none
section
variable {P:Program} {E:Env} {fn:FuncId} {nt:Nat} {dN:Value→World→Prop} {k k':List Item} {st Ct:St}
theorem aD.IC (h:IC k=some k') (hr:aD P E fn nt dN k' st):aD P E fn nt dN k st:=by
 unfold Ab.IC at h
 split at h
 ·cases h;exact hr.seq
 ·cases h;exact hr.block
 ·cases h;exact hr.loop
 ·cases h;exact hr.inLoop
 ·cases h;exact hr.inBlock
 ·cases h;exact hr.scope
 ·cases h;exact hr.inScope
 ·cases h;exact hr.skip
 ·cases h;exact hr.label
 ·exact hr.exit h
 ·cases h
theorem aD.Fl:∀ (n:Nat) {k:List Item},Fl n k=some k'→aD P E fn nt dN k' st→aD P E fn nt dN k st
 | 0,k,h,hr=>by simp only [Ab.Fl,az] at h;rw [h];exact hr
 | n+1,k,h,hr=>by
  simp only [Ab.Fl] at h
  split at h
  ·rename_i k1 h1
   exact aD.IC h1 (aD.Fl n h hr)
  ·cases h
theorem aD.T0 {c x y:Code} {o:Operand} {q:Bool} (hx:c=.cond o x y) (hc:xS st.tm o=.atom (.bool q)) (h1:q=true→aD P E fn nt dN (.code x :: k) st) (h2:q=false→aD P E fn nt dN (.code y :: k) st) :
  aD P E fn nt dN (.code c :: k) st:=by
 grind [aD.cond]
theorem aD.U2 {c x y:Code} {o:Operand} {n:Nat} (hx:c=.cond o x y) (hc:xS st.tm o=.bn n) (h1:n=0→aD P E fn nt dN (.code x :: k) st) (h2:aD P E fn nt dN (.code y :: k) st) :
  aD P E fn nt dN (.code c :: k) st:=by
 subst hx
 intro tm w hs hr b rL o5 cs
 have AQ:=hr
 obtain ⟨S,μ,g,_,_,ht⟩:=AQ
 have e:=A8 (a:=⟨tm,[]⟩) ht o
 rw [hc] at e
 obtain ⟨q,e1,e2⟩:∃ q,(⟨tm,[]⟩:Act).eval o=.bool q∧(q=true→n=0):=by
  generalize (⟨tm,[]⟩:Act).eval o=v at e
  cases e with
  | bn q h=>exact ⟨q,rfl,h⟩
 have AP:=step_cond (P:=P) (b:=b) (k:=k) (cs:=cs) (w:=w) (x:=x) (y:=y) e1
 cases q with
 | true =>
  obtain ⟨v,w',fr,q1,q2,q3,q4⟩:=h1 (e2 rfl) tm w hs hr b rL o5 cs
  exact ⟨v,w',fr,q1,.head AP q2,q3,q4⟩
 | false =>
  obtain ⟨v,w',fr,q1,q2,q3,q4⟩:=h2 tm w hs hr b rL o5 cs
  exact ⟨v,w',fr,q1,.head AP q2,q3,q4⟩
end
def Bb:dw→List Nat→dw
 | σ,[]=>σ
 | σ,k :: r=>Bb (uM σ k) r
theorem bd.Sn {E:Env} {res:AV} {v:Value} {w:World}:∀ (ks:List Nat) {σ:dw},bd E σ res v w→bd E (Bb σ ks) res v w
 | [],_,h=>h
 | k :: r,_,⟨S,μ,g,hv⟩=>bd.Sn r ⟨S,μ,g.del k,hv⟩
theorem aD.Zd {P:Program} {E:Env} {fn:FuncId} {nt:Nat} {k:List Item} {st:St} {c:Code} (ks:List Nat) (hx:c=.ret) {f:Func} (hf:P.funcs[fn]?=some f) {ps:List Prop} {res:AV} {eS:dw} (h:xX P f st=some (ps,res))
  (Lq:Bb st.oh ks=eS) (hp:bj ps):aD P E fn nt (bd E eS res) (.code c :: k) st:=by
 subst hx Lq
 intro tm w h1 h2 b h3 h4 cs
 obtain ⟨v,w',fr,q1,q2⟩:=aD.ret (E:=E) (nt:=nt) (k:=k) hf h hp tm w h1 h2 b h3 h4 cs
 exact ⟨v,w',fr,q1.Sn ks,q2⟩
theorem aD.Ze {P:Program} {E:Env} {fn:FuncId} {nt:Nat} {st:St} (ks:List Nat) {f:Func} (hf:P.funcs[fn]?=some f) {ps:List Prop} {res:AV} {eS:dw} (h:xX P f st=some (ps,res))
  (Lq:Bb st.oh ks=eS) (hp:bj ps):aD P E fn nt (bd E eS res) [] st:=by
 subst Lq
 intro tm w h1 h2 b h3 h4 cs
 obtain ⟨v,w',fr,q1,q2⟩:=aD.fin (E:=E) (nt:=nt) hf h hp tm w h1 h2 b h3 h4 cs
 exact ⟨v,w',fr,q1.Sn ks,q2⟩
def J9 (P:Program) (nt m:Nat) (c:Code) (orcs:List (Nat×oa)) (F:List Nat) (xD:List (Nat×Wd)) (fC:Ad) (nk:Nat) (st:St):Option (List Prop×St) :=
 match Ba P nt c orcs st with
 | some (ps,s1)=>match GN m s1 F xD fC nk with
  | some (qs,s2)=>some (ps ++ qs,s2)
  | none=>none
 | none=>none
theorem aD.rw {P:Program} {E:Env} {fn:FuncId} {nt:Nat} {dN:Value→World→Prop} {k:List Item} {st Ct:St} {m:Nat} {c:Code} {orcs:List (Nat×oa)} {F:List Nat} {xD:List (Nat×Wd)} {fC:Ad} {nk:Nat}
  (hE:bq E m) {ps:List Prop} (h:J9 P nt m c orcs F xD fC nk st=some (ps,Ct)) (hF:((F.isEmpty && wW orcs) || Nat.beq m 0)=true) (hy:VZ P E orcs) (hp:bj ps) (hr:aD P E fn nt dN k Ct):aD P E fn nt dN (.code c :: k) st:=by
 unfold J9 at h
 split at h
 ·rename_i p1 s1 h1
  split at h
  ·rename_i q1 s2 h2
   simp only [az,ay] at h
   obtain ⟨rfl,rfl⟩:=h
   obtain ⟨xC,xh⟩:=bj.app hp
   have X2:(F.isEmpty || Nat.beq m 0)=true:=by
    rcases Bool.or_eq_true_iff.1 hF with h | h
    ·simp [(AR.1 h).1]
    ·simp [h]
   have hz:wW orcs=true∨∀ b,¬ E.fp b:=by
    rcases Bool.or_eq_true_iff.1 hF with h | h
    ·simp_all
    ·exact .inr (hE.fp (bO h))
   grind [aD.region,aD.wk]
  ·cases h
 ·cases h
abbrev aI (n:Int):AV:=.atom (.int .i64 n)
abbrev aB (b:Bool):AV:=.atom (.bool b)
abbrev aS (s:ByteArray):AV:=.atom (.string s)
def aH {α:Type} (c:α→List AV) (d:α) (l:List α):AV:=.sl l.length fun i=>c (l.getD i d)
def cI (n:Int):List AV:=[aI n]
def cB (b:Bool):List AV:=[aB b]
def cS (s:ByteArray):List AV:=[aS s]
def cU (k:IntKind) (n:Int):List AV:=[.atom (.int k n)]
abbrev ah (n:Int):Int:=IntKind.i64.wrap n
theorem ab {α:Type} {p:Prop} [Decidable p] {x:Option α} {r:α} (h:(if p then x else none)=some r):p∧x=some r:=by
 simp_all
theorem aQ {α β:Type} {x:Option α} {f:α→Option β} {r:β} (h:x.bind f=some r):∃ a,x=some a∧f a=some r:=Option.bind_eq_some_iff.1 h
theorem aF {α:Type} {q:Bool} {x y:α} {r:α} (h:cond q x y=r) (hq:q=true):x=r:=by subst hq;exact h
def Alike (x y:AV):Prop:=∀ w S μ v,aq w S μ v x→aq w S μ v y
theorem Alike.refl (x:AV):Alike x x:=fun _ _ _ _ h=>h
theorem Alike.sl {n m:Nat} {g g':Nat→List AV} (hn:n=m) (hg:∀ i,i < m→g' i=g i):Alike (.sl n g) (.sl m g'):=by
 subst hn
 intro w S μ v h
 cases h with
 | sl b off sz f h1 h2 h3 h4 h5=>exact .sl b off sz f h1 (fun i hi=>by simp_all) h3 (fun i j c hi hc=>h4 i j c hi (by simp_all)) h5
theorem Alike.nil {g:Nat→List AV}:Alike .nil (.sl 0 g):=by
 intro w S μ v h
 cases h
 exact .sl 0 0 0 (fun _ _=>undef) (fun h=>absurd h (by omega)) (fun i h=>absurd h (by omega)) (fun i j h=>absurd h (by omega)) (fun i j c h=>absurd h (by omega)) (aG _)
theorem Alike.rp {cs:List AV}:Alike (.rp cs 0) (.pt true cs):=fun _ _ _ _ h=>.pt (fun _=>h) (fun h=>by cases h)
inductive Ah:List AV→List AV→Prop where
 | nil:Ah [] []
 | cons {x y:AV} {xs ys:List AV}:Alike x y→Ah xs ys→Ah (x :: xs) (y :: ys)
theorem Ah.get {xs ys:List AV} (h:Ah xs ys):xs.length=ys.length∧∀ (j:Nat) y,ys[j]?=some y→∃ x,xs[j]?=some x∧Alike x y:=by
 induction h with
 | nil=>simp
 | cons h1 _ ih =>
  grind
theorem Alike.agg {xs ys:List AV} (h:Ah xs ys):Alike (.agg xs) (.agg ys):=by
 intro w S μ v hv
 obtain ⟨h1,h2⟩:=h.get
 cases hv with
 | agg q1 q2 =>
  refine .agg (q1.trans h1) fun j y v hy hv=>?_
  obtain ⟨x,hx,ha⟩:=h2 j y hy
  exact ha _ _ _ _ (q2 j x v hx hv)
theorem Sound.conv {P:Program} {f:FuncId} {args T4:List AV} {σ eS:dw} {m:Nat} {res:AV} (h:Sound P f args σ m res eS) (ha:Ah T4 args):Sound P f T4 σ m res eS:=by
 obtain ⟨h1,h2⟩:=ha.get
 intro w S μ vs g hk hl
 refine h w S μ vs g hk ⟨hl.1.trans h1,fun j c v hc hv=>?_⟩
 obtain ⟨x,hx,wT⟩:=h2 j c hc
 exact wT _ _ _ _ (hl.2 j x v hx hv)
def sO (k:IntKind) (a b:Int):Int:=k.wrap (BitVec.ofInt k.bits a ||| BitVec.ofInt k.bits b).toNat
def Ka (k:IntKind) (a b:Int):Int:=k.wrap (BitVec.ofInt k.bits a &&& BitVec.ofInt k.bits b).toNat
def gZ (k:IntKind) (a b:Int):Int:=k.wrap (a * 2 ^ (min b.toNat k.bits))
def oU (k:IntKind) (a b:Int):Int:=a.fdiv (2 ^ (min b.toNat k.bits))
theorem dS {n:Int} {m:Nat} (h:0≤n∧n < (m:Int)):n.toNat < m:=by omega
theorem lU {a b:Bool} (h:a=true) (k:b=true):(a && b)=true:=by rw [h,k];rfl
theorem r8 {α:Type} (c:α→List AV) (d x:α) (n i:Nat) (hi:i < (List.replicate n x).length):c ((List.replicate n x).getD i d)=c x:=by
 simp_all
theorem oV {α:Type} (c:α→List AV) (d x:α) (n i:Nat) {z:List AV} (h:Js z (c x)) (hi:i < (List.replicate n x).length):Js z (c ((List.replicate n x).getD i d)):=by simp_all
theorem En {α:Type} (c:α→List AV) (d:α) (l:List α) (a b i:Nat) (hi:i < ((l.take b).drop a).length):c (((l.take b).drop a).getD i d)=c (l.getD (bA a i) d):=by
 have h1:a+i < min b l.length:=by simp at hi;omega
 rw [df]
 grind
theorem cg {α:Type} (c:α→List AV) (d:α) (l:List α) (i:Nat) (hi:i < l.length):c (l.getD i d)=(l.map c).getD i []:=by
 simp_all
theorem So {α:Type} (l:List α) (a b:Nat) (h1:a≤b) (h2:b≤l.length):b - a=((l.take b).drop a).length:=by simp;omega
theorem xY {α:Type} (l:List α) (a b:Nat) (h1:a≤b∧b≤l.length):b - a=((l.take b).drop a).length:=So l a b h1.1 h1.2
end Go.Ab
namespace Go.Ab
theorem condSplit {α:Type} {q:Bool} {x y r:α} (h:cond q x y=r):(q=true∧x=r)∨(q=false∧y=r):=by grind
theorem bP {α:Type} (c:α→List AV) (d:α) (l m:List α) {n:Nat} {g1 g2:Nat→List AV} (hn:n=l.length) (h1:∀ z,z < l.length→c (l.getD z d)=g1 z)
  (h2:∀ z,z < m.length→c (m.getD z d)=g2 z) (i:Nat) (hi:i < (l ++ m).length):c ((l ++ m).getD i d)=if i < n then g1 i else g2 (i - n):=by
 grind
theorem ax {α:Type} {l m:List α} {n k:Nat} (hn:n=l.length) (hk:k=m.length):n+k=(l ++ m).length:=by subst hn hk;simp
theorem xZ {α:Type} (c:α→List AV) (d:α) (l:List α) (k:Nat) (x:α) {g:Nat→List AV} (h1:∀ z,z < l.length→c (l.getD z d)=g z) (i:Nat) (hi:i < (l.set k x).length) :
  c ((l.set k x).getD i d)=if i=k then c x else g i:=by
 grind
theorem ni {α:Type} {l:List α} {n k:Nat} {x:α} (hn:n=l.length):n=(l.set k x).length:=by subst hn;simp
def kp:List Nat→List (Nat×Wd)
 | []=>[]
 | t :: r=>(t,.ag) :: kp r
def kq:List Nat→Ad
 | []=>[]
 | k :: r=>(k,.ag k) :: kq r
def vO (n:Nat) (cs:List AV):Ob:=⟨true,n,1,true,fun _=>cs⟩
def vN (n:Nat) (cs:List AV):Ob:=⟨true,n,1,false,fun _=>cs⟩
def aO {α:Type} (sz:Nat) (c:α→List AV) (d:α) (l:List α):Ob:=⟨false,sz,l.length,true,fun zi=>c (l.getD zi d)⟩
def T5:Nat→Nat→List Bool→List Bool
 | 0,_,acc=>acc
 | k+1,n,acc=>match Nat.ble n 1 with
  | true=>acc
  | false=>T5 k (n / 2) (Nat.beq (n % 2) 1 :: acc)
def pth (n:Nat):List Bool:=T5 400 n []
theorem o1:0 < 1:=Nat.one_pos
theorem z0 {n:Nat}:0+n≤n:=Nat.le_of_eq (Nat.zero_add _)
section
variable {P:Program} {E:Env} {fn:FuncId} {nt:Nat} {dN:Value→World→Prop} {k:List Item} {st:St} {m:Nat}
theorem aD.sA (n:Nat) (k':List Item) (hr:aD P E fn nt dN k' st) (h:Ab.Fl n k=some k':=by kernel_rfl):aD P E fn nt dN k st:=aD.Fl n h hr
theorem aD.sC {c:Code} (t:Nat) (x y:Code) (q:Bool) (h1:q=true→aD P E fn nt dN (.code x :: k) st) (h2:q=false→aD P E fn nt dN (.code y :: k) st) (hx:c=.cond (.tmp t) x y:=by kernel_rfl) (hc:xS st.tm (.tmp t)=.atom (.bool q):=by kernel_rfl) :
  aD P E fn nt dN (.code c :: k) st:=aD.T0 hx hc h1 h2
theorem aD.sT {c:Code} (f:Func) (ks:List Nat) (ps:List Prop) {res:AV} {eS:dw} (hp:bj ps) (hx:c=.ret:=by kernel_rfl) (hf:P.funcs[fn]?=some f:=by kernel_rfl) (h:xX P f st=some (ps,res):=by kernel_rfl)
  (Lq:Bb st.oh ks=eS:=by rfl):aD P E fn nt (bd E eS res) (.code c :: k) st:=aD.Zd ks hx hf h Lq hp
theorem aD.sF (f:Func) (ks:List Nat) (ps:List Prop) {res:AV} {eS:dw} (hp:bj ps) (hf:P.funcs[fn]?=some f:=by kernel_rfl) (h:xX P f st=some (ps,res):=by kernel_rfl)
  (Lq:Bb st.oh ks=eS:=by rfl):aD P E fn nt (bd E eS res) [] st:=aD.Ze ks hf h Lq hp
def nK (n:Nat) (k:List Item):List Item:=match Ab.Fl n k with
 | some k'=>k'
 | none=>[]
def Rx:List Item→Code
 | .code c :: _=>c
 | _=>.ret
def X3:List Item→List Item
 | _ :: k=>k
 | []=>[]
def cdX:Code→Code
 | .cond _ x _=>x
 | c=>c
def cdY:Code→Code
 | .cond _ _ y=>y
 | c=>c
def P2 (n:Nat) (k:List Item):Bool:=match Ab.Fl n k with
 | some (.code _ :: _)=>true
 | _=>false
def nS (P:Program) (nt m:Nat) (c:Code) (orcs:List (Nat×oa)) (F:List Nat) (xD:List (Nat×Wd)) (fC:Ad) (nk:Nat) (st:St):St:=match J9 P nt m c orcs F xD fC nk st with
 | some x=>x.2
 | none=>st
def nV (m:Nat) (st:St) (F:List Nat) (xD:List (Nat×Wd)) (fC:Ad) (nk:Nat):St:=match GN m st F xD fC nk with
 | some x=>x.2
 | none=>st
def P3:Option (List Prop×St)→Option (List Prop)
 | some x=>some x.1
 | none=>none
theorem IE {n:Nat} {k:List Item} (h:P2 n k=true):Ab.Fl n k=some (.code (Rx (nK n k)) :: X3 (nK n k)):=by
 unfold P2 at h
 unfold nK
 split at h
 ·rename_i c k' h1;rw [h1];rfl
 ·cases h
theorem yX {x:Option (List Prop×St)} {ps:List Prop} (h:P3 x=some ps):∃ s,x=some (ps,s):=by
 cases x with
 | none=>cases h
 | some y=>cases h;exact ⟨y.2,rfl⟩
theorem ae (hE:bq E m) (n:Nat) (orcs:List (Nat×oa)) (F:List Nat) (xD:List (Nat×Wd)) (fC:Ad) (nk:Nat) {ps:List Prop} (hp:bj ps)
  (hr:aD P E fn nt dN (X3 (nK n k)) (nS P nt m (Rx (nK n k)) orcs F xD fC nk st)) (h0:P2 n k=true:=by kernel_rfl)
  (h:P3 (J9 P nt m (Rx (nK n k)) orcs F xD fC nk st)=some ps:=by kernel_rfl) (hF:(((F.isEmpty && wW orcs) || Nat.beq m 0) && VY orcs)=true:=by kernel_rfl):aD P E fn nt dN k st:=by
 obtain ⟨s,hs⟩:=yX h
 refine aD.Fl n (IE h0) (aD.rw hE hs (AR.1 hF).1 (Iz (AR.1 hF).2) hp ?_)
 grind [nS,Rx,nK]
theorem cV (hE:bq E m) (n:Nat) (F:List Nat) (xD:List (Nat×Wd)) (fC:Ad) (nk:Nat) {ps:List Prop} (hp:bj ps) {k':List Item} {Ct:St} (hr:aD P E fn nt dN k' Ct)
  (h0:Ab.Fl n k=some k':=by kernel_rfl) (h:GN m st F xD fC nk=some (ps,Ct):=by kernel_rfl) (hF:(F.isEmpty || Nat.beq m 0)=true:=by kernel_rfl):aD P E fn nt dN k st :=
 aD.Fl n h0 (aD.wk hE h hF hp hr)
theorem P4 (hE:bq E m) (F:List Nat) (xD:List (Nat×Wd)) (fC:Ad) (nk:Nat) {ps:List Prop} (hp:bj ps) (hr:aD P E fn nt dN k (nV m st F xD fC nk))
  (h:P3 (GN m st F xD fC nk)=some ps:=by kernel_rfl) (hF:(F.isEmpty || Nat.beq m 0)=true:=by kernel_rfl):aD P E fn nt dN k st:=by
 grind [yX,nV,aD.wk]
theorem dm (n t:Nat) {R:Type} {q:Bool} {x y r:R} (h:(bif q then x else y)=r) (h1:q=true→x=r→aD P E fn nt dN (.code (cdX (Rx (nK n k))) :: X3 (nK n k)) st)
  (h2:q=false→y=r→aD P E fn nt dN (.code (cdY (Rx (nK n k))) :: X3 (nK n k)) st) (h0:P2 n k=true:=by kernel_rfl)
  (hx:Rx (nK n k)=.cond (.tmp t) (cdX (Rx (nK n k))) (cdY (Rx (nK n k))):=by kernel_rfl) (hc:xS st.tm (.tmp t)=.atom (.bool q):=by kernel_rfl):aD P E fn nt dN k st :=
 aD.Fl n (IE h0) (aD.T0 hx hc (fun hq=>h1 hq (by rw [hq] at h;exact h)) (fun hq=>h2 hq (by rw [hq] at h;exact h)))
theorem cP (hE:bq E m) (n:Nat) (f:Func) (F:List Nat) (xD:List (Nat×Wd)) (fC:Ad) (nk:Nat) {ps:List Prop} (hp:bj ps) (ks:List Nat) {TR:List Prop} (xh:bj TR) {res:AV} {eS:dw}
  (h0:P2 n k=true:=by kernel_rfl) (hx:Rx (nK n k)=.ret:=by kernel_rfl) (h:P3 (GN m st F xD fC nk)=some ps:=by kernel_rfl) (hf:P.funcs[fn]?=some f:=by kernel_rfl)
  (h2:xX P f (nV m st F xD fC nk)=some (TR,res):=by kernel_rfl) (Lq:Bb (nV m st F xD fC nk).oh ks=eS:=by kernel_rfl) (hF:(F.isEmpty || Nat.beq m 0)=true:=by kernel_rfl):aD P E fn nt (bd E eS res) k st:=by
 obtain ⟨s,hs⟩:=yX h
 have e:nV m st F xD fC nk=s:=by unfold nV;rw [hs]
 rw [e] at h2 Lq
 exact aD.Fl n (IE h0) (aD.wk hE hs hF hp (aD.sT f ks TR xh hx hf h2 Lq))
theorem Zf (hE:bq E m) (n:Nat) (f:Func) (F:List Nat) (xD:List (Nat×Wd)) (fC:Ad) (nk:Nat) {ps:List Prop} (hp:bj ps) (ks:List Nat) {TR:List Prop} (xh:bj TR) {res:AV} {eS:dw}
  (h0:Ab.Fl n k=some []:=by kernel_rfl) (h:P3 (GN m st F xD fC nk)=some ps:=by kernel_rfl) (hf:P.funcs[fn]?=some f:=by kernel_rfl)
  (h2:xX P f (nV m st F xD fC nk)=some (TR,res):=by kernel_rfl) (Lq:Bb (nV m st F xD fC nk).oh ks=eS:=by kernel_rfl) (hF:(F.isEmpty || Nat.beq m 0)=true:=by kernel_rfl):aD P E fn nt (bd E eS res) k st:=by
 grind [yX,nV,aD.Fl,aD.wk,aD.sF]
def WM (st:St) (k i sz len:Nat) (g:Nat→List AV):Option (List Prop) :=
 match au st.oh k with
 | some o=>match o.var with
  | false=>some [i < o.len,o.get i=[.mr sz len g]]
  | true=>none
 | none=>none
def stO (st:St) (k i sz len:Nat) (g:Nat→List AV):St :=
 match au st.oh k with
 | some o=>⟨st.tm,sset (sset st.oh k ⟨false,o.sz,o.len,false,fun m=>if m=i then [.os st.nk 0 len] else o.get m⟩) st.nk ⟨false,sz,len,true,g⟩,st.nk+16⟩
 | none=>st
theorem Sp (k1 i sz len:Nat) (g:Nat→List AV) {ps:List Prop} (hp:bj ps) (hr:aD P E fn nt dN k (stO st k1 i sz len g)) (h:WM st k1 i sz len g=some ps:=by kernel_rfl):aD P E fn nt dN k st:=by
 refine fun tm w h1 h2=>hr tm w h1 ?_
 obtain ⟨S,μ,g0,hk,hm,ht⟩:=h2
 unfold WM at h
 unfold stO
 cases ho:au st.oh k1 with
 | none=>rw [ho] at h;cases h
 | some o =>
  rw [ho] at h
  simp only at h ⊢
  cases hv:o.var with
  | true=>rw [hv] at h;cases h
  | false =>
   rw [hv] at h
   simp only [az] at h
   subst h
   obtain ⟨p1,p2,_⟩:=hp
   obtain ⟨q,e1,e2⟩:=g0.opn (hk st.nk (aG _)) hm ho (kN (x:=(sz,len,g)) hv p1 p2)
   exact ⟨S,bZ μ st.nk q,e2,fun n hn=>by
    have hn:st.nk+16≤n:=hn
    unfold bZ;grind,by grind,fun t=>(ht t).ext e1⟩
def WN (st:St) (k q i:Nat):Option (List Prop) :=
 match It st.oh k q i with
 | some x=>some x.1
 | none=>none
def stL (st:St) (k q i:Nat):St :=
 match It st.oh k q i with
 | some x=>⟨st.tm,fA st.oh x.2,st.nk⟩
 | none=>st
theorem P5 (k1 q i:Nat) {ps:List Prop} (hp:bj ps) (hr:aD P E fn nt dN k (stL st k1 q i)) (h:WN st k1 q i=some ps:=by kernel_rfl):aD P E fn nt dN k st:=by
 refine fun tm w h1 h2=>hr tm w h1 ?_
 obtain ⟨S,μ,g0,hk,hm,ht⟩:=h2
 unfold WN at h
 unfold stL
 cases hc:It st.oh k1 q i with
 | none=>rw [hc] at h;cases h
 | some x =>
  rw [hc] at h
  simp only [az] at h
  subst h
  exact ⟨S,μ,Hy hc hp g0,hk,hm,ht⟩
def mR {α:Type} (sz:Nat) (c:α→List AV) (d:α) (l:List α):List AV:=[.mr sz l.length (fun i=>c (l.getD i d))]
def aM {α:Type} (sz:Nat) (c:α→List AV) (d:α) (l:List (List α)):Ob:=⟨false,1,l.length,false,fun m=>mR sz c d (l.getD m [])⟩
theorem Bc {α:Type} {sz:Nat} {c:α→List AV} {d:α} (E:List (List α)) (i q n:Nat) (row:List α) (r:List (Nat×Nat×Nat)) (hi:i < E.length) (hr:∀ x∈r,x.1≠i) :
  ∀ m,m < (E.set i row).length→aW r (fun m=>mR sz c d ((E.set i row).getD m [])) m=if m=i then mR sz c d row else aW ((i,q,n) :: r) (fun m=>mR sz c d (E.getD m [])) m:=by
 intro m _
 have gen:∀ (r:List (Nat×Nat×Nat)),m≠i→aW r (fun m=>mR sz c d ((E.set i row).getD m [])) m=aW r (fun m=>mR sz c d (E.getD m [])) m:=by
  intro r hm
  induction r with
  | nil=>simp only [aW,fE];rw [List.getElem?_set_ne (fun h=>hm h.symm)]
  | cons x r ih =>
   grind [aW]
 by_cases hm:m=i
 ·subst hm
  rw [if_pos rfl]
  clear gen
  induction r with
  | nil=>simp only [aW,fE];rw [List.getElem?_set_self hi];rfl
  | cons x r ih =>
   obtain ⟨a,b,e⟩:=x
   have h1:m≠a:=fun h=>hr (a,b,e) List.mem_cons_self h.symm
   simp_all [aW,if_neg,List.mem_cons_of_mem]
 simp_all [if_neg,aW]
theorem uW {α:Type} {sz:Nat} {c:α→List AV} {d:α} (E:List (List α)) (i q n:Nat) (r:List (Nat×Nat×Nat)) (hr:∀ x∈r,x.1≠i) :
  ∀ m,m < E.length→aW r (fun m=>mR sz c d (E.getD m [])) m=if m=i then mR sz c d (E.getD i []) else aW ((i,q,n) :: r) (fun m=>mR sz c d (E.getD m [])) m:=by
 intro m _
 by_cases hm:m=i
 ·subst hm
  rw [if_pos rfl]
  induction r with
  | nil=>rfl
  | cons x r ih =>
   obtain ⟨a,b,e⟩:=x
   have h1:m≠a:=fun h=>hr (a,b,e) List.mem_cons_self h.symm
   simp_all [aW,if_neg,List.mem_cons_of_mem]
 simp_all [if_neg,aW]
theorem P6 {α:Type} {sz:Nat} {c:α→List AV} {d:α} (E:List (List α)) (i q n:Nat) (row:List α) (r:List (Nat×Nat×Nat)) (he:E.getD i []=row) (hr:∀ x∈r,x.1≠i) :
  ∀ m,m < E.length→aW r (fun m=>mR sz c d (E.getD m [])) m=if m=i then mR sz c d row else aW ((i,q,n) :: r) (fun m=>mR sz c d (E.getD m [])) m:=by
 subst he;exact uW E i q n r hr
theorem qS {α:Type} (E:List (List α)) (row:List α):(E ++ [row]).getD E.length []=row:=by simp
theorem U3 {α:Type} (E:List α) (row:α):E.length < (E ++ [row]).length:=by simp
theorem Sq {α:Type} {sz:Nat} {c:α→List AV} {d:α} (E:List (List α)) (row:List α) {q n n2:Nat} {b:Nat→List AV} (h:n=n2) (hb:b 0=[.os q 0 n]) :
  ∀ m,m < (E ++ [row]).length→aW [(E.length,q,n2)] (fun m=>mR sz c d ((E ++ [row]).getD m [])) m=if m < E.length then mR sz c d (E.getD m []) else b (m - E.length):=by
 intro m hm
 subst h
 simp only [lY,List.length_singleton] at hm
 simp only [aW]
 grind
theorem Sr {b:Nat→List AV} {i1:Nat} (i k n n1 N:Nat) (h1:i1=i):∀ m,m < N→aW [(i,k,n1)] b m=if m=i1 then [.os k 0 n1] else aW [(i,k,n)] b m:=by
 grind [aW]
theorem gO {c:Prop} [Decidable c] {x:AV} {l:List AV} (h:c):(if c then [x] else l)[0]?=some x:=by rw [if_pos h];rfl
theorem Fm {i:Nat}:∀ x∈([]:List (Nat×Nat×Nat)),x.1≠i:=fun _ h=>by simp at h
theorem Zg {i j k n:Nat} {r:List (Nat×Nat×Nat)} (h:j≠i) (hr:∀ x∈r,x.1≠i):∀ x∈(j,k,n) :: r,x.1≠i:=fun x hx=>by
 grind
theorem pc {p:Prop} {ps:List Prop} (h:p) (t:bj ps):bj (p :: ps):=⟨h,t⟩
theorem pn:bj []:=trivial
theorem z1 (n:Nat):0+n≤n:=z0
theorem cL {α:Type} (c:α→List AV) (d:α) (l:List α) (k:Nat) (x:α) (i:Nat) (hi:i < (l.set k x).length):c ((l.set k x).getD i d)=if i=k then c x else (fun zi=>c (l.getD zi d)) i :=
 xZ c d l k x (fun _ _=>rfl) i hi
theorem aA {α:Type} (l:List α) (k:Nat) (x:α):l.length=(l.set k x).length:=ni rfl
end
section
variable {P:Program} {kt:TypeId} {A B:Type} (ck:A→AV) (cv:B→AV) {eq:A→A→Bool} (h:∀ a b,zP P kt (ck a) (ck b)=some (eq a b))
include h
end
def I:Bool:=true
def wI (x:Int):Prop:=-9223372036854775808≤x∧x≤9223372036854775807
def wK (k:IntKind) (x:Int):Prop:=k.min≤x∧x≤k.max
def wB (_:Bool):Prop:=True
def wS (s:ByteArray):Prop:=s.size≤9223372036854775807
def wL {A:Type} (wf:A→Prop) (l:List A):Prop:=l.length≤9223372036854775807∧∀ y,y∈l→wf y
def kR {α:Type} (l:List α) (i j:Nat):List α:=l.take i ++ l.drop j ++ l.drop (i+(l.length - j))
theorem Eo {α:Type} {l:List α} {i j:Nat} (h:i≤j∧j≤l.length):l.length=(kR l i j).length:=by simp [kR];omega
theorem MK {α:Type} (c:α→List AV) (d:α) (l:List α) (i j:Nat) (h:i≤j∧j≤l.length) (z:Nat) (hz:z < (kR l i j).length) :
  c ((kR l i j).getD z d)=if z < i - 0 then c (l.getD z d) else if z < (i - 0)+(l.length - j) then c (l.getD (bA j (z - (i - 0))) d) else c (l.getD z d):=by
 have hz:=Eo h ▸ hz
 have e1:(l.take i).length=i:=by simp;omega
 have e2:(l.take i ++ l.drop j).length=i+(l.length - j):=by simp;omega
 simp only [kR,Nat.sub_zero,fE,df]
 grind
theorem IG {α:Type} {l:List α} {a n:Nat} (h:0 < n∧a+n≤l.length):a=(l.take a).length:=by simp;omega
theorem P7 {α:Type} (c:α→List AV) (d:α) (l:List α) (a z:Nat) (hz:z < (l.take a).length):c ((l.take a).getD z d)=c (l.getD z d):=by
 grind
def P8:Nat→List AV
 | 0=>[]
 | n+1=>.m9 :: P8 n
theorem Ss (n:Nat):(P8 n).length=n:=by induction n with
 | zero=>rfl
 | succ n ih=>simp [P8,ih]
theorem ML {n j:Nat} {x:AV} (h:(P8 n)[j]?=some x):x=.m9:=by
 induction n generalizing j with
 | zero=>simp [P8] at h
 | succ n ih=>grind [P8]
theorem aD.split {P:Program} {E:Env} {fn:FuncId} {nt:Nat} {dN:Value→World→Prop} {kk:List Item} {s0:St} (t k off m:Nat) (o:Ob) (ht:ee s0.tm t=.os k off m) (ho:au s0.oh k=some o) (hv:(!o.var && Nat.ble 1 o.sz)=true) (hm:bA off m=o.len)
  (h1:aD P E fn nt dN kk ⟨s0.tm,sset s0.oh k ⟨false,o.sz,bA off m+1,o.pr,fun i=>if i < bA off m then o.get i else P8 o.sz⟩,s0.nk⟩)
  (h2:aD P E fn nt dN kk ⟨(t,.B4 k off m) :: s0.tm,s0.oh,s0.nk⟩):aD P E fn nt dN kk s0:=by
 intro tm w hs hr b hb hk cs
 obtain ⟨S,μ,g,oQ,tO,WL⟩:=hr
 simp only [bh,Bool.not_eq_true',Nat.ble_eq] at hv
 have WO:=WL t
 rw [show ee s0.tm t=_ from ht] at WO
 generalize J8:tm.getD t undef=v at WO
 cases WO with
 | os pl uf q1 q2 q3 =>
  rename_i cap a
  obtain ⟨j9,c,T,Sm,cZ⟩:=g.rep.ob k o ho
  rw [uf] at Sm;cases Sm
  have ez:bA off m=off+m:=df _ _
  by_cases hc:m < cap
  ·have vQ:0 < pl.cap:=by omega
   have gw:=g.write ho uf vQ cZ (by omega) ⟨false,o.sz,bA off m+1,o.pr,fun i=>if i < bA off m then o.get i else P8 o.sz⟩ c rfl rfl (show bA off m+1≤pl.cap by omega) (fun i hi=>by
    show (if i < bA off m then o.get i else P8 o.sz).length=o.sz
    split
    ·exact cZ.tB i (by omega)
    ·exact Ss _) (fun i j x v hi hx hv=>by
    have hx:(if i < bA off m then o.get i else P8 o.sz)[j]?=some x:=hx
    split at hx
    ·exact cZ.rep i j x v (by omega) hx hv
    ·rw [ML hx];exact .m9) (fun i x hx=>⟨(by
    obtain ⟨_,r2,r3⟩:=da hx
    have r3:(if i < bA off m then o.get i else P8 o.sz)=[.mr x.1 x.2.1 x.2.2]:=r3
    split at r3
    ·grind [kN]
    ·have:=ML (n:=o.sz) (j:=0) (x:=.mr x.1 x.2.1 x.2.2) (by rw [r3];rfl)
     cases this),rfl⟩)
   have hw:w.setRow pl.cK c=w:=setRow_self w pl.cK c T (0,0) ((cZ.cK vQ).trans (by grind [fF]))
   rw [hw] at gw
   exact h1 tm w hs ⟨S,μ,gw.2,oQ,tO,WL⟩ b hb hk cs
  ·have:cap=m:=by omega
   subst this
   refine h2 tm w hs ⟨S,μ,g,oQ,tO,fun t'=>?_⟩ b hb hk cs
   show aq w S μ (tm.getD t' undef) (ee ((t,.B4 k off cap) ::  s0.tm) t')
   simp only [ee]
   split
   ·rename_i hb
    rw [← bO hb,J8]
    exact .B4 pl uf q1 q3
   ·exact WL t'
end Go.Ab
namespace Go.Ab
open Go.ChangeShapes Go.WideShapes Go.ChangeAt Go.RowKit
def IH (w:World) (b:Nat):Prop:=b < w.heap.size
def B5 (w:World) (cs:List Value) (c:List AV):Prop :=
 cs.length=c.length∧∀ (j:Nat) (a:AV) (v:Value),c[j]?=some a→cs[j]?=some v→aq w (IH w) iL v a
theorem B5.nil {w:World}:B5 w [] []:=⟨rfl,fun j a v h=>by simp at h⟩
theorem B5.append {w:World} {a b:List Value} {c d:List AV} (h1:B5 w a c) (h2:B5 w b d):B5 w (a ++ b) (c ++ d):=by
 refine ⟨by simp [h1.1,h2.1],fun j x v hx hv=>?_⟩
 by_cases hj:j < a.length
 ·rw [iz (by rw [← h1.1];exact hj)] at hx
  rw [iz hj] at hv
  exact h1.2 j x v hx hv
 ·rw [jH (by rw [← h1.1];omega)] at hx
  rw [jH (by omega)] at hv
  rw [← h1.1] at hx
  exact h2.2 _ x v hx hv
theorem B5.step {w:World} {cs:List Value} {o n:Nat} {c d:List AV} (h1:B5 w ((cs.drop o).take n) c) (h2:B5 w (cs.drop (o+n)) d):B5 w (cs.drop o) (c ++ d):=by
 have e:cs.drop o=(cs.drop o).take n ++ cs.drop (o+n):=by rw [← List.drop_drop];exact (List.take_append_drop n _).symm
 rw [e];exact h1.append h2
theorem B5.done {w:World} {cs:List Value} {o:Nat} (h:cs.length=o):B5 w (cs.drop o) []:=by
 rw [List.drop_of_length_le (by omega)];exact .nil
theorem B5.one {w:World} {v:Value} {a:AV} (h:aq w (IH w) iL v a):B5 w [v] [a]:=by
 refine ⟨rfl,fun j x u hx hu=>?_⟩
 cases j with
 | zero=>simp at hx hu;subst hx hu;exact h
 | succ j=>simp at hx
def iY (P:Program) (t:TypeId) {A:Type} (wf:A→Prop) (c:A→List AV):Prop :=
 ∀ (H:Type) (enc:TypeId×Value→H) (w:World) (n:Nat) (cs:List Value) (x:DataW H×List MemPlace),DataW.trod enc P w 0 (fun _=>true) true n t cs=some x→∃ y:A,wf y∧B5 w cs (c y)
variable {P:Program} {t e:TypeId}
theorem iY.int (ht:P.underlying t=some (.int .i64)):iY P t wI cI:=by
 intro H enc w n cs x h
 obtain ⟨n,rfl,_,hw⟩:=DataW.trod_int ht h
 refine ⟨n,?_,B5.one (.atom _)⟩
 simp [Lit.wf,IntKind.min,IntKind.max,IntKind.signed,IntKind.bits] at hw
 exact ⟨by omega,by omega⟩
theorem iY.Zh {k:IntKind} (ht:P.underlying t=some (.int k)):iY P t (wK k) (cU k):=by
 intro H enc w n cs x h
 obtain ⟨n,rfl,_,hw⟩:=DataW.trod_int ht h
 refine ⟨n,?_,B5.one (.atom _)⟩
 simp [Lit.wf] at hw
 exact ⟨hw.1,hw.2⟩
theorem iY.bool (ht:P.underlying t=some .bool):iY P t wB cB:=by
 intro H enc w n cs x h
 obtain ⟨b,rfl,_⟩:=DataW.trod_bool ht h
 exact ⟨b,trivial,B5.one (.atom _)⟩
theorem iY.str (ht:P.underlying t=some .string):iY P t wS cS:=by
 intro H enc w n cs x h
 obtain ⟨s,rfl,_,hs⟩:=DataW.trod_string ht h
 refine ⟨s,?_,B5.one (.atom _)⟩
 unfold maxLen at hs;unfold wS;omega
theorem Kb {a:Addr} (h:a.spot=none) (n:Nat):a.add n=⟨a.block,a.off+n,none⟩:=by
 obtain ⟨b,o,s⟩:=a
 simp only at h;subst h
 unfold Addr.add
 by_cases h:n=0<;>simp [h]
theorem iY.slice {A:Type} {wf:A→Prop} {c:A→List AV} (d:A) (ht:P.underlying t=some (.slice e)) (he:iY P e wf c) {sz:Nat} (hs:P.cellsOf e=sz) (hz:0 < sz) (hc:∀ y,(c y).length=sz) :
  iY P t (wL wf) (fun l=>[aH c d l]):=by
 intro H enc w n cs x h
 rcases Go.Deep.open_slice ht h with ⟨rfl,_⟩ | ⟨a,len,cap,m,k,D,Pl,rfl,_,hlc,hcm,hm,_,hx⟩
 ·refine ⟨[],⟨by simp,by simp⟩,B5.one ?_⟩
  exact .sl 0 0 0 (fun _ _=>default) (fun h=>absurd h (dX _)) (fun i h=>absurd h (dX _)) (fun i j h=>absurd h (dX _)) (fun i j c h=>absurd h (dX _)) (aG _)
 ·simp only [if_true] at hm
  subst hm
  rw [hs] at hx
  have wT:∀ i,i < len→∃ z:List Value×A,w.cells? 0 (a.add (i * sz)) sz=some z.1∧wf z.2∧B5 w z.1 (c z.2):=fun i hi=>by
   obtain ⟨Hr,h1,h2⟩:=hx i (by omega)
   obtain ⟨y,hy,GF⟩:=he H enc w k Hr _ h2
   exact ⟨(Hr,y),h1,hy,GF⟩
  haveI:Inhabited (List Value×A):=⟨([],d)⟩
  obtain ⟨Z,hZ⟩:=Go.Deep.choose_lt wT
  have hlen:((List.range len).map fun i=>(Z i).2).length=len:=by simp
  have qm:∀ i,i < len→((List.range len).map fun i=>(Z i).2).getD i d=(Z i).2:=fun i hi=>by
   simp [List.getD,hi]
  have Dg:∀ i j,i < len→j < sz→w.cell? ((a.add (i * sz)).add j)=some ((Z i).1.getD j default):=fun i j hi hj=>by
   obtain ⟨_,hl,hg⟩:=World.cells?_some (hZ i hi).1
   rw [hg j hj]
   have:j < (Z i).1.length:=by omega
   simp [List.getD,this]
  have P9:0 < len→a.spot=none∧a.block < w.heap.size:=fun h0=>by
   have:=Dg 0 0 h0 hz
   simp only [Nat.zero_mul,Addr.add,if_true] at this
   unfold World.cell? at this
   split at this
   ·rename_i cc tt ff hh
    refine ⟨?_,(Array.getElem?_eq_some_iff.1 hh).1⟩
    cases hs:a.spot with
    | none=>rfl
    | some z=>simp [hs] at this
   ·cases this
  refine ⟨(List.range len).map fun i=>(Z i).2,⟨by rw [hlen];unfold maxLen at hcm;omega,?_⟩,B5.one ?_⟩
  ·intro y hy
   simp only [List.mem_map,vT] at hy
   obtain ⟨i,hi,rfl⟩:=hy
   exact (hZ i hi).2.1
  ·unfold aH
   rw [hlen]
   refine .sl a.block a.off sz (fun i j=>(Z i).1.getD j default) (fun h0=>⟨?_,(P9 h0).2⟩) (fun i hi=>hc _) (fun i j hi hj=>?_) (fun i j x hi hx=>?_) hlc
   ·have:=(P9 h0).1
    obtain ⟨b,o,s⟩:=a
    simp only at this;subst this;rfl
   ·have h0:=(P9 (by omega)).1
    have:=Dg i j hi hj
    rwa [Kb h0,Kb rfl] at this
   ·rw [qm i hi] at hx
    have hj:j < (c (Z i).2).length:=(dJ.1 hx).1
    have TW:j < (Z i).1.length:=by rw [(hZ i hi).2.2.1];exact hj
    refine (hZ i hi).2.2.2 j x _ hx ?_
    simp [List.getD,TW]
theorem sP {H:Type} {enc:TypeId×Value→H} {w:World} {fs:Array Field} {n:Nat} {cs:List Value} {x:DataW H×List MemPlace} (ht:P.underlying t=some (.struct fs)) (h:DataW.trod enc P w 0 (fun _=>true) true n t cs=some x) :
  cs.length=P.cellsOf t∧∃ m,∀ (i:Nat) (f:Field),fs[i]?=some f→∃ y,DataW.trod enc P w 0 (fun _=>true) true m f.type ((cs.drop f.offset).take (P.cellsOf f.type))=some y:=by
 obtain ⟨xs,m,_,_,hl,hx,hf⟩:=DataW.trod_struct ht h
 refine ⟨hl,m,fun i f hi=>?_⟩
 rw [hf i f hi]
 have:i < xs.length:=by rw [hx];exact (Array.getElem?_eq_some_iff.1 hi).1
 exact ⟨xs[i],pG this⟩
theorem n6 {H:Type} {enc:TypeId×Value→H} {w:World} {fs:Array Field} {m:Nat} {cs:List Value} (hf:∀ (i:Nat) (f:Field),fs[i]?=some f→∃ y,DataW.trod enc P w 0 (fun _=>true) true m f.type ((cs.drop f.offset).take (P.cellsOf f.type))=some y)
  (i:Nat) {te:TypeId} (o n:Nat) {A:Type} {wf:A→Prop} {c:A→List AV} (he:iY P te wf c) (hi:(fs[i]?).map (fun (f:Field)=>(f.type,f.offset))=some (te,o)) (hn:P.cellsOf te=n):∃ y:A,wf y∧B5 w ((cs.drop o).take n) (c y):=by
 simp only [aL,ay] at hi
 obtain ⟨f,hf1,hf2,hf3⟩:=hi
 obtain ⟨y,hy⟩:=hf i f hf1
 rw [hf2,hf3,hn] at hy
 exact he H enc w m _ y hy
section
variable {H:Type} {enc:TypeId×Value→H} {w:World} {base:Nat} {v:Value} {d:DataW H} {ps:List MemPlace} {A:Type} {wf:A→Prop}
theorem Su {g:A→AV} (ho:iY P t wf (fun l=>[g l])) (hv:v.cells=#[v]) (h:DataW.Trod enc P w 0 (fun _=>true) true t v d ps):∃ y,wf y∧aq w (IH w) iL v (g y):=by
 obtain ⟨n,hn⟩:=h
 rw [hv] at hn
 obtain ⟨y,hy,hs⟩:=ho H enc w n _ _ hn
 exact ⟨y,hy,hs.2 0 _ _ rfl rfl⟩
theorem Qa {g:A→AV} (ht:P.underlying t=some (.slice e)) (ho:iY P t wf (fun l=>[g l])) (hv:Value.okWide P w .any base t v) (h:DataW.Trod enc P w 0 (fun _=>true) true t v d ps):∃ y,wf y∧aq w (IH w) iL v (g y):=by
 obtain ⟨a,l,c,rfl⟩:=okWide_slice ht hv
 exact Su ho rfl h
theorem HO {fs:Array Field} {c:A→List AV} (ht:P.underlying t=some (.struct fs)) (ho:iY P t wf c) (hv:Value.okWide P w .any base t v) (h:DataW.Trod enc P w 0 (fun _=>true) true t v d ps):∃ y,wf y∧aq w (IH w) iL v (.agg (c y)):=by
 obtain ⟨cs,rfl,_⟩:=okWide_struct ht hv
 obtain ⟨n,hn⟩:=h
 obtain ⟨y,hy,hs⟩:=ho H enc w n _ _ hn
 refine ⟨y,hy,.agg (by simpa [Value.cells] using hs.1) fun j x u hx hu=>hs.2 j x u hx (by simpa [Value.cells] using hu)⟩
theorem RL.nil {S:Nat→Prop} {μ:Mu}:RL w S μ #[] []:=⟨rfl,fun j c v h=>by simp at h⟩
theorem rl3 {S:Nat→Prop} {μ:Mu} {v0 v1 v2:Value} {a0 a1 a2:AV} (h0:aq w S μ v0 a0) (h1:aq w S μ v1 a1) (h2:aq w S μ v2 a2):RL w S μ #[v0,v1,v2] [a0,a1,a2]:=by
 refine ⟨rfl,fun j c v hc hv=>?_⟩
 match j with
 | 0=>simp at hc hv;subst hc hv;exact h0
 | 1=>simp at hc hv;subst hc hv;exact h1
 | 2=>simp at hc hv;subst hc hv;exact h2
 | j+3=>simp at hc
end
theorem MM {H:Type} {enc:TypeId×Value→H} (hl:laidOutB P=true) {W W':World} (hb:Below W.heap.size W W') (sp:Nat→Bool) :
  ∀ (ts:List TypeId) (vs:List Value) (ds:List (DataW H)) (p:List MemPlace),(ts.all fun t=>P.readableRec t && decide (t < P.types.size))=true→(∀ x∈p,x.block < W.heap.size)→(∀ x∈p,sp x.block=true) →
   DataW.TrodAll enc P W 0 (fun _=>true) true ts vs ds p→DataW.TrodAll enc P W' 0 sp true ts vs ds p
 | [],[],[],_,_,_,_,h=>h
 | t :: ts,v :: vs,d :: ds,p,hr,gS,OA,h=>by
  obtain ⟨a,b,h1,h2,rfl⟩:=h
  simp only [List.all_cons,bh,decide_eq_true_eq] at hr
  refine ⟨a,b,?_,MM hl hb sp ts vs ds b (by simpa using hr.2) (fun x hx=>gS x (by simp [hx])) (fun x hx=>OA x (by simp [hx])) h2,rfl⟩
  exact WideElems.Trod_stays hl hr.1.1 hr.1.2 h1 (fun x hx=>hb.same (gS x (by simp [hx]))) (fun x hx=>OA x (by simp [hx]))
theorem Qb {H:Type} {enc:TypeId×Value→H} {f:FuncId} {fn:Func} {s:ChangeSpec} {apart fresh handsOn again:Bool} {W:World} {args:Array Value} {ds gs:List (DataW H)} {before:List MemPlace} {tb:TypeId} {avs:List AV}
  (T6:s.vars=[]) (hl:laidOutB P=true) (WQ:(fn.params.toList.all fun t=>P.readableRec t && decide (t < P.types.size))=true) (NK:fn.resultTypes=#[tb]) (hb:P.underlying tb=some .bool)
  (Wo:s.fn H ds={ results:=[.lit (.bool true)],args:=ds })
  (hW:DataW.Whole enc P fn.params.toList s.vars apart W args.toList ds gs before)
  (WR:RL W (IH W) iL args avs) (hs:Sound P f avs [] 0 (aB true) []) :
  Calls P f args W fun e W'=>∃ v,e=.returned v∧s.post enc P fn apart fresh handsOn again W args v W':=by
 have WS:Good (xN W (IH W) [] iL 0) [] (IH W) iL W:=by
  refine ⟨Fr.refl _ _,fun _ h=>h,fun _ h=>h,fun _ h=>.inl h,?_,fun k o pl h=>(by cases h),fun k hk=>absurd hk (dX _),MX.nil fun k o i h=>by cases h⟩
  constructor<;>intros<;>simp_all [au]
 refine (hs W (IH W) iL args WS (fun _ _=>rfl) WR).mono fun e W' ⟨v,S',dn,he,hg,hv⟩=>?_
 have Lr:Below W.heap.size W W':=⟨hg.fr.os,hg.fr.tape,hg.fr.output,hg.fr.size,fun b hb=>hg.fr.cK b hb (fun h=>h.elim (fun ⟨k,o,pl,h,_⟩=>by cases h) (fun ⟨k,i,x,v,⟨o,pl,h,_⟩,_⟩=>by cases h))⟩
 have sJ:v=.bool true:=by cases hv;rfl
 subst he sJ
 refine ⟨_,rfl,?_⟩
 have Zi:=hW
 obtain ⟨p,q,hA,hV,rfl,hfz,XP⟩:=hW
 rw [T6] at hV
 obtain ⟨rfl,rfl⟩:=trodVars_none hV
 rw [List.append_nil] at Zi
 have gS:∀ x∈p,x.block < W.heap.size:=fun x hx=>Zi.lt x hx
 have hre:∀ sp:Nat→Bool,(∀ x∈p,sp x.block=true)→DataW.TrodAll enc P W' 0 sp true fn.params.toList args.toList (s.fn H (ds ++ [])).args p:=fun sp OA=>by
  rw [List.append_nil,Wo]
  exact MM hl Lr sp _ _ _ _ WQ gS OA hA
 have UY:∀ sp:Nat→Bool,DataW.TrodVars enc P W' sp s.vars (s.fn H (ds ++ [])).vars []:=fun sp=>by
  rw [List.append_nil,Wo,T6];rfl
 have WT:∀ (b:Nat) (sp:Nat→Bool) (hd:Bool),DataW.TrodAll enc P W' b sp hd fn.resultTypes.toList ((Value.bool true).resultList fn.resultTypes.size) (s.fn H (ds ++ [])).results []:=fun b sp hd=>by
  rw [List.append_nil,Wo,NK]
  exact trodAll_mk1 (shut_bool hb true)
 refine ⟨ds,[],p,[],p,[],Zi,WT _ _ _,hre _ (fun x hx=>by simpa using gS x hx),UY _,World.keptBut_mono (fun x hx=>⟨hx,Or.inr (Or.inl hx)⟩) (Lr.frame _),fun _=>?_⟩
 refine ⟨ok_one NK rfl (okWide_bool_mk hb _),(s.fn H (ds ++ [])).results ++ (s.fn H (ds ++ [])).args,_,p,⟨p,[],trodAll_append (hre _ (fun _ _=>rfl)) (WT _ _ _),UY _,by simp,?_,by simpa using XP⟩,fun x hx _=>hx⟩
 ·intro b off hp
  exact (Lr.frozen (gS _ hp)).trans (hfz b off (by simpa using hp))
end Go.Ab
namespace Go.Ab
def Bd:Obj→Bool
 | .loop _=>true
 | .deferred _=>true
 | .mapIter _ _ _ _=>true
 | _=>false
theorem Ls (sz:Nat) (c:Array Value) (T:TypeId):Bd (zX sz c T)=false:=by
 cases sz<;>rfl
theorem Kc {w:World} {l:Nat} {o o':Obj} (h:w.heap[l]?=some o) (ho:Bd o=true) (vR:Bd o'=true) (a:Addr):(w.putObj l o').cell? a=w.cell? a:=by
 unfold World.cell?
 by_cases e:a.block=l
 ·rw [e,h,World.putObj_heap_same (Array.getElem?_eq_some_iff.1 h).1]
  cases o<;>cases o'<;>simp_all [Bd]
 ·rw [World.putObj_heap_other e]
theorem aq.qt {w w':World} {S S':Nat→Prop} (hS:∀ b,S b→S' b) (hc:∀ a,w'.cell? a=w.cell? a) {μ:Mu} {v:Value} {x:AV} (h:aq w S μ v x):aq w' S' μ v x:=by
 induction h with
 | atom v=>exact .atom v
 | agg h1 _ ih=>exact .agg h1 ih
 | tup h1 _ ih=>exact .tup h1 ih
 | sl b off sz f h1 h2 h3 _ h5 ih=>exact .sl b off sz f (fun hl=>⟨(h1 hl).1,hS _ (h1 hl).2⟩) h2 (fun i j hi hj=>(hc _).trans (h3 i j hi hj)) ih h5
 | rp b o f h1 h2 _ ih=>simp_all [rp,trans]
 | op pl h=>exact .op pl h
 | os pl h h1 h2 h3=>exact .os pl h h1 h2 h3
 | fn h1 h2 _ _ Nv Nw=>exact .fn h1 h2 Nv Nw
 | when _ hu ih=>exact .when ih hu
 | mp pl h=>exact .mp pl h
 | bn b h=>exact .bn b h
 | pt _ h2 ih=>exact .pt ih h2
 | ov pl h h1=>exact .ov pl h h1
 | B4 pl h h1 h2=>exact .B4 pl h h1 h2
 | nq _ h1 h2 ih=>exact .nq ih h1 h2
 | nil=>exact .nil
 | m9=>exact .m9
 | mr=>exact .mr
theorem gR.qt {w w':World} {S S':Nat→Prop} {μ:Mu} {o:Ob} {pl:Place} {c:Array Value} {T:TypeId} (h:gR w S μ o pl c T) (hS:∀ b,S b→S' b) (hc:∀ a,w'.cell? a=w.cell? a)
  (hb:0 < pl.cap→w'.heap[pl.cK]?=w.heap[pl.cK]?) (ho:0 < pl.cap→¬ S' pl.cK):gR w' S' μ o pl c T :=
 { h with
  cK:=fun hc=>(hb hc).trans (h.cK hc)
  out:=ho
  rep:=fun i j x v hi hx hv=>(h.rep i j x v hi hx hv).qt hS hc
  mp:=fun hz=>let ⟨h0,h1,h2,h3,h4⟩:=h.mp hz;⟨h0,h1,h2,h3,fun j x v hx hv=>(h4 j x v hx hv).qt hS hc⟩ }
theorem Good.U4 {E:Env} {σ:dw} {S:Nat→Prop} {μ:Mu} {w:World} (g:Good E σ S μ w) {k:Nat} {o:Ob} {pl:Place} (ho:au σ k=some o) (hm:μ k=some pl) (hc:0 < pl.cap) {l:Nat} {ob:Obj}
  (hl:w.heap[l]?=some ob) (ha:Bd ob=true):pl.cK≠l:=by
 obtain ⟨j9,c,T,gV,h⟩:=g.rep.ob k o ho
 rw [hm] at gV;cases gV
 rintro rfl
 rw [h.cK hc] at hl
 grind [Ls]
theorem Good.U5 {E:Env} {σ:dw} {S:Nat→Prop} {μ:Mu} {w:World} (g:Good E σ S μ w) {k i:Nat} {x:Nat×Nat×(Nat→List AV)} {v:Value} {b:Nat} (hv:ja w μ σ k i x v) (hb:ptrTo v b) {l:Nat} {ob:Obj}
  (hl:w.heap[l]?=some ob) (ha:Bd ob=true):b≠l:=by
 obtain ⟨_,_,_,c,T,h⟩:=g.mx.cK hv hb
 rintro rfl
 rw [h] at hl
 cases hl;cases ha
theorem MX.aux {fp Tz:Nat→Prop} {n0 TA:Nat} {w w':World} {S S':Nat→Prop} {μ:Mu} {σ:dw} (h:MX fp n0 w S μ σ) (hS:∀ b,S b→S' b) (hc:∀ a,w'.cell? a=w.cell? a)
  (hp:∀ k i x v b,ja w' μ σ k i x v→ja w μ σ k i x v→ptrTo v b→w'.heap[b]?=w.heap[b]?∧¬ S' b∧((fp b∨n0≤b)→(Tz b∨TA≤b))):MX Tz TA w' S' μ σ:=by
 have back:∀ {k i x v},ja w' μ σ k i x v→ja w μ σ k i x v:=fun ⟨o,pl,h1,h2,h3,h4⟩=>⟨o,pl,h1,h2,h3,by rw [← hc];exact h4⟩
 refine ⟨fun k i x v hv=>?_,fun k i x v b hv=>h.obj k i x v b (back hv),fun k i x v b k' i' x' v' hv sJ=>h.two k i x v b k' i' x' v' (back hv) (back sJ)⟩
 obtain ⟨a,cap,rfl,h1,h2,h3⟩:=h.row _ _ _ _ (back hv)
 refine ⟨a,cap,rfl,h1,h2,fun vQ=>?_⟩
 obtain ⟨b,c,T,rfl,h4,h5⟩:=h3 vQ
 obtain ⟨p1,p2,p3⟩:=hp _ _ _ _ b hv (back hv) ⟨_,_,rfl,vQ⟩
 exact ⟨b,c,T,rfl,h4.qt hS hc (fun _=>p1) (fun _=>p2),p3 h5⟩
theorem Good.put {E:Env} {σ:dw} {S:Nat→Prop} {μ:Mu} {w:World} (g:Good E σ S μ w) {l:Nat} {o o':Obj} (h:w.heap[l]?=some o) (ho:Bd o=true) (vR:Bd o'=true) (hl:E.w0.heap.size≤l∨E.fp l) :
  Good E σ S μ (w.putObj l o'):=by
 have hc:=Kc h ho vR
 refine ⟨⟨g.fr.os,g.fr.tape,g.fr.output,by simpa using g.fr.size,fun b hb hf=>?_⟩,g.S0,fun b hb=>by simpa using g.S1 b hb,g.S2,⟨fun k x hx=>?_,g.rep.ne⟩,g.own,g.Eh,
  g.mx.aux (fun _ h=>h) hc fun k i x v b _ hv hb=>⟨World.putObj_heap_other (g.U5 hv hb h ho),(g.mx.cK hv hb).2.1,fun h=>h⟩⟩
 ·have fZ:b≠l:=by rintro rfl;rcases hl with h | h;omega;exact hf h
  rw [World.putObj_heap_other fZ];exact g.fr.cK b hb hf
 ·obtain ⟨pl,c,T,hm,hr⟩:=g.rep.ob k x hx
  exact ⟨pl,c,T,hm,hr.qt (fun _ h=>h) hc (fun xf=>World.putObj_heap_other (g.U4 hx hm xf h ho)) hr.out⟩
theorem Good.aux {E:Env} {σ:dw} {S:Nat→Prop} {μ:Mu} {w:World} (g:Good E σ S μ w) (o:Obj) (ho:Bd o=true) :
  Ext w S μ (w.alloc o) (fun b=>S b∨b=w.heap.size) μ∧Good E σ (fun b=>S b∨b=w.heap.size) μ (w.alloc o):=by
 have hold:∀ b,b < w.heap.size→(w.alloc o).heap[b]?=w.heap[b]?:=fun b hb=>ft hb
 have RE:(w.alloc o).heap[w.heap.size]?=some o:=World.alloc_heap_new w o
 have e:Ext w S μ (w.alloc o) (fun b=>S b∨b=w.heap.size) μ:=⟨by simp,fun _ h=>.inl h,fun b hb=>hold b (g.S1 b hb),fun _ _ h=>h⟩
 refine ⟨e,⟨g.fr.os,g.fr.tape,g.fr.output,by have:=g.fr.size;simp;omega,fun b hb hf=>(hold b (pJ hb g.fr.size)).trans (g.fr.cK b hb hf)⟩,fun b hb=>.inl (g.S0 b hb),?_,?_,⟨fun k x hx=>?_,g.rep.ne⟩,g.own,g.Eh,g.K2 hold (fun _ h=>.inl h) (fun b h=>h.elim .inl fun h=>.inr (Nat.le_of_eq h.symm))⟩
 ·rintro b (hb | rfl)
  ·have:=g.S1 b hb;simp;omega
  ·simp
 ·rintro b (hb | rfl)
  ·exact g.S2 b hb
  ·exact .inr g.fr.size
 ·obtain ⟨pl,c,T,hm,hr⟩:=g.rep.ob k x hx
  have gS:0 < pl.cap→pl.cK < w.heap.size:=fun hc=>gz (hr.cK hc)
  refine ⟨pl,c,T,hm,hr.ext e (fun hc=>hold _ (gS hc)) (fun hc=>?_)⟩
  rintro (h | h)
  ·exact hr.out hc h
  ·have:=gS hc;omega
def WU (w:World) (S:Nat→Prop) (σ:dw) (μ:Mu) (m:Nat):Env:=⟨w,S,RO w σ μ,μ,m⟩
theorem Good.base {E:Env} {σ:dw} {S:Nat→Prop} {μ:Mu} {w:World} (g:Good E σ S μ w) (m:Nat):Good (WU w S σ μ m) σ S μ w :=
 ⟨Fr.refl _ _,fun _ h=>h,g.S1,fun _ h=>.inl h,g.rep,fun k o pl ho hm hc=>.inl (.inl ⟨k,o,pl,ho,hm,hc,rfl⟩),fun _ _=>rfl,
  g.mx.aux (fun _ h=>h) (fun _=>rfl) fun k i x v b hv _ hb=>⟨rfl,(g.mx.cK hv hb).2.1,fun _=>.inl (.inr ⟨k,i,x,v,hv,hb⟩)⟩⟩
def WI (P:Program) (E:Env) (nt:Nat) (c:Code) (st Ct:St):Prop:=∀ (l:Nat) (tm:Array Value) (w:World),tm.size=nt→OH E st tm w →
 c.wpIn (FW (some l)) 0 P (fun e a w'=>e=.normal∧a.tmps.size=nt∧a.defers=[]∧OH E Ct a.tmps w') ⟨tm,[]⟩ w
theorem WI.seq {P:Program} {E:Env} {nt:Nat} {x y:Code} {st WW st2:St} (h1:WI P E nt x st WW) (h2:WI P E nt y WW st2):WI P E nt (.seq x y) st st2:=by
 intro l tm w hs hr
 refine wpIn_seq (wpIn_mono (h1 l tm w hs hr) ?_)
 rintro e ⟨t,ds⟩ w' ⟨rfl,q1,q2,q3⟩
 simp only at q1 q2
 subst q2
 exact h2 l t w' q1 q3
theorem WI.block {P:Program} {E:Env} {nt:Nat} {id:Nat} {x:Code} {st WW:St} (h1:WI P E nt x st WW):WI P E nt (.block id x) st WW:=by
 intro l tm w hs hr
 refine wpIn_block (wpIn_mono (h1 l tm w hs hr) ?_)
 rintro e a w' ⟨rfl,q1,q2,q3⟩
 exact ⟨rfl,q1,q2,q3⟩
theorem WI.rw {P:Program} {E:Env} {nt m:Nat} {c:Code} {orcs:List (Nat×oa)} {F:List Nat} {xD:List (Nat×Wd)} {fC:Ad} {nk:Nat} {st Ct:St} (hE:bq E m) {ps:List Prop}
  (h:J9 P nt m c orcs F xD fC nk st=some (ps,Ct)) (hF:(((F.isEmpty && wW orcs) || Nat.beq m 0) && VY orcs)=true) (hp:bj ps):WI P E nt c st Ct:=by
 intro l tm w hs hr
 unfold J9 at h
 split at h
 ·rename_i p1 s1 h1
  split at h
  ·rename_i q1 s2 h2
   simp only [az,ay] at h
   obtain ⟨rfl,rfl⟩:=h
   obtain ⟨xC,xh⟩:=bj.app hp
   obtain ⟨hF,hY⟩:=AR.1 hF
   have hz:wW orcs=true∨∀ b,¬ E.fp b:=by
    rcases Bool.or_eq_true_iff.1 hF with h | h
    ·simp_all
    ·exact .inr (hE.fp (bO h))
   have X2:F.isEmpty=true∨∀ b,¬ E.fp b:=by
    rcases Bool.or_eq_true_iff.1 hF with h | h
    ·simp_all
    ·exact .inr (hE.fp (bO h))
   refine wpIn_mono (xW (rd:=some l) (ds:=[]) hz (Iz hY) h1 xC hs hr) ?_
   rintro e a w' ⟨rfl,q1,q2,q3⟩
   refine ⟨rfl,q1,q2,Fi (by rw [hE.m0];exact h2) xh X2 q3⟩
  ·cases h
 ·cases h
abbrev Qc (D:Nat):Deferred:={ target:=.collected D,args:=#[] }
def nZ (P:Program) (E:Env) (D:Nat) (fn:FuncId) (nt:Nat) (dN:Value→World→Prop) (k:List Item) (st:St):Prop :=
 ∀ (tm:Array Value) (w:World),tm.size=nt→OH E st tm w→∀ (b:Frame),b.fn=fn→b.kind=.normal→∀ cs,
  ∃ v w' fr,dN v w'∧Steps P (lone (b.at ⟨tm,[Qc D]⟩ k) cs w) (lone fr cs w')∧fr.fn=fn∧fr.leaving P w' (.returned v)
section
variable {P:Program} {E E9:Env} {D:Nat} {fn:FuncId} {nt:Nat} {dN:Value→World→Prop} {k k':List Item} {st Ct:St}
theorem nZ.step (h:nZ P E D fn nt dN k' st) (hs:∀ (b:Frame) (a:Act) (cs:List Frame) (w:World),step P (lone (b.at a k) cs w)=.next (lone (b.at a k') cs w)):nZ P E D fn nt dN k st:=by
 intro tm w h1 h2 b h3 h4 cs
 obtain ⟨v,w',fr,q1,q2,q3,q4⟩:=h tm w h1 h2 b h3 h4 cs
 exact ⟨v,w',fr,q1,.head (hs b ⟨tm,[Qc D]⟩ cs w) q2,q3,q4⟩
theorem nZ.seq {x y:Code} (h:nZ P E D fn nt dN (.code x :: .code y :: k) st):nZ P E D fn nt dN (.code (.seq x y) :: k) st:=h.step fun _ _ _ _=>step_seq
theorem nZ.inBlock {id:Nat} (h:nZ P E D fn nt dN k st):nZ P E D fn nt dN (.inBlock id :: k) st:=h.step fun _ _ _ _=>step_inBlock
theorem nZ.rw {m:Nat} {c:Code} {orcs:List (Nat×oa)} {F:List Nat} {xD:List (Nat×Wd)} {fC:Ad} {nk:Nat} (hE:bq E m) {ps:List Prop}
  (h:J9 P nt m c orcs F xD fC nk st=some (ps,Ct)) (hF:(((F.isEmpty && wW orcs) || Nat.beq m 0) && VY orcs)=true) (hp:bj ps) (hr:nZ P E D fn nt dN k Ct):nZ P E D fn nt dN (.code c :: k) st:=by
 unfold J9 at h
 split at h
 ·rename_i p1 s1 h1
  split at h
  ·rename_i q1 s2 h2
   simp only [az,ay] at h
   obtain ⟨rfl,rfl⟩:=h
   obtain ⟨xC,xh⟩:=bj.app hp
   obtain ⟨hF,hY⟩:=AR.1 hF
   have hz:wW orcs=true∨∀ b,¬ E.fp b:=by
    rcases Bool.or_eq_true_iff.1 hF with h | h
    ·simp_all
    ·exact .inr (hE.fp (bO h))
   have X2:F.isEmpty=true∨∀ b,¬ E.fp b:=by
    rcases Bool.or_eq_true_iff.1 hF with h | h
    ·simp_all
    ·exact .inr (hE.fp (bO h))
   intro tm w hs zZ b rL o5 cs
   have Zb:=(wpIn_wide (n:=0)).1 (xW (rd:=none) (ds:=[Qc D]) hz (Iz hY) h1 xC hs zZ)
   obtain ⟨e,a',w',⟨rfl,q1,q2,q3⟩,UZ⟩:=Zb b k cs
   have ha:a'=⟨a'.tmps,[Qc D]⟩:=by cases a';simp at q2;simp [q2]
   obtain ⟨v,VQ,fr,r1,r2,r3,r4⟩:=hr a'.tmps w' q1 (Fi (by rw [hE.m0];exact h2) xh X2 q3) b rL o5 cs
   refine ⟨v,VQ,fr,r1,Steps.trans UZ ?_,r3,r4⟩
   rw [ha];exact r2
  ·cases h
 ·cases h
theorem nZ.ret {c:Code} (HB:∀ σ S μ w,Good E9 σ S μ w→Good E σ S μ w) (hmm:E.m0≤E9.m0) (hD:E9.w0.heap[D]?=some (.deferred (some []))) (R0:¬ E9.fp D) (hDE:E.w0.heap.size≤D) (ks:List Nat) (hx:c=.ret)
  {f:Func} (hf:P.funcs[fn]?=some f) {ps:List Prop} {res:AV} {eS:dw} (h:xX P f st=some (ps,res)) (Lq:Bb st.oh ks=eS) (hp:bj ps):nZ P E9 D fn nt (bd E eS res) (.code c :: k) st:=by
 subst hx Lq
 intro tm w hs hr b rL o5 cs
 obtain ⟨S,μ,g,hk,hm,ht⟩:=hr
 have Zj:w.heap[D]?=some (.deferred (some [])):=(g.fr.cK D (gz hD) R0).trans hD
 have AQ:OH E st tm (w.putObj D (.deferred none)):=⟨S,μ,(HB _ _ _ _ g).put Zj rfl rfl (.inl hDE),hk,eC hmm hm,fun t=>(ht t).qt (fun _ h=>h) (Kc Zj rfl rfl)⟩
 obtain ⟨v,h1,h2⟩:=Af hf h hp AQ rL o5 (.code .ret :: k)
 refine ⟨v,_,_,h1.Sn ks,.head step_ret (.one (step_collected (fr:={ b.at ⟨tm,[Qc D]⟩ (.code .ret :: k) with mode:=.returning }) (by simp) rfl rfl (run_takeDeferred Zj))),?_,h2⟩
 exact rL
end
section
variable {P:Program} {E E9:Env} {D:Nat} {fn:FuncId} {nt m:Nat} {dN:Value→World→Prop} {k k':List Item} {st Ct:St}
theorem nZ.IC (h:IC k=some k') (hr:nZ P E D fn nt dN k' st):nZ P E D fn nt dN k st:=by
 unfold Ab.IC at h
 split at h
 ·cases h;exact hr.seq
 ·cases h;exact hr.step fun _ _ _ _=>step_block
 ·cases h;exact hr.step fun _ _ _ _=>step_loop
 ·cases h;exact hr.step fun _ _ _ _=>step_inLoop
 ·cases h;exact hr.inBlock
 ·cases h;exact hr.step fun _ _ _ _=>step_lone_go (by rfl)
 ·cases h;exact hr.step fun _ _ _ _=>step_lone_go (by rfl)
 ·cases h;exact hr.step fun _ _ _ _=>step_skip
 ·cases h;exact hr.step fun _ _ _ _=>step_label
 ·exact hr.step fun _ _ _ _=>step_exit h
 ·cases h
theorem nZ.Fl:∀ (n:Nat) {k:List Item},Fl n k=some k'→nZ P E D fn nt dN k' st→nZ P E D fn nt dN k st
 | 0,k,h,hr=>by simp only [Ab.Fl,az] at h;rw [h];exact hr
 | n+1,k,h,hr=>by
  simp only [Ab.Fl] at h
  split at h
  ·rename_i k1 h1
   exact nZ.IC h1 (nZ.Fl n h hr)
  ·cases h
end
end Go.Ab
