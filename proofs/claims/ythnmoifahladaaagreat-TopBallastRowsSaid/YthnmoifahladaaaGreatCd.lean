/- Abstract values over the heap of the machine, and functions read off its code (part 4). No conditions. -/
import Derived.Test.YthnmoifahladaaaGreatCc
import Derived.ProofKit
import Derived.Deep.Slices
import Derived.OpenShut
import Derived.ChangeOld
import Derived.SizedLaws
import Derived.RangeFuncLeaves
set_option linter.unusedVariables false
set_option linter.unusedSimpArgs false
namespace Go.Ab
section
variable {P:Program} {E:Env} {m0 nk:Nat} {F:List Nat} {fI:Ek}
theorem K5 {σ:eE} {f:Nat->Option Nat}:∀ (l:Ek) (ps:List Prop) (τ:eE),Xf σ F f fI l=some (ps,τ)->bm ps->∀ k o,au τ k=some o ->
  ∃ d p,(k,d)∈l/\CG σ F f fI d=some (p,o)/\bm p
 | [],ps,τ,h,_,k,o,hk=>by simp [Xf] at h;obtain ⟨_,rfl⟩:=h;simp [au] at hk
 | (k',d) :: r,ps,τ,h,hp,k,o,hk=>by
  simp only [Xf] at h
  split at h
  ·rename_i p o' q l e1 e2
   simp only [aL,aG] at h
   obtain ⟨rfl,rfl⟩:=h
   obtain ⟨Ej,DZ⟩:=bm.app hp
   simp only [au] at hk
   split at hk
   ·simp_all
   ·obtain ⟨d',p',h1,h2,h3⟩:=K5 r q l e2 DZ k o hk
    grind
  ·cases h
theorem S6 {σ:eE} {f:Nat->Option Nat} {tm:List (Nat×AV)} {R:Value->AV->Prop} {fr:Array Value} (aph:∀ v,R v .rk)
  (hv:∀ d t ps y,Pf σ F f fI d (fz tm t)=some (ps,y)->bm ps->R (fr.getD t undef) y):∀ (l:List (Nat×Wd)) (ps:List Prop) (Y3:List (Nat×AV)),
  Xe σ F f fI tm l=some (ps,Y3)->bm ps->∀ t,R (fr.getD t undef) (fz Y3 t)
 | [],ps,Y3,h,_,t=>by simp [Xe] at h;obtain ⟨_,rfl⟩:=h;exact aph _
 | (t',d) :: r,ps,Y3,h,hp,t=>by
  simp only [Xe] at h
  split at h
  ·rename_i p x q l e1 e2
   simp only [aL,aG] at h
   obtain ⟨rfl,rfl⟩:=h
   obtain ⟨Ej,DZ⟩:=bm.app hp
   simp only [fz]
   split
   ·rename_i hb
    rw [<- cw hb]
    exact hv d t' p x e1 Ej
   ·exact S6 aph hv r q l e2 DZ t
  ·cases h
theorem afy {k0:Nat}:∀ (l:Ek) (a b:Nat) (x y:Od),qq (l.filterMap (·.2.DW))=true->(a,x)∈l->(b,y)∈l->x.DW=some k0->y.DW=some k0->a=b:=by
 intro l
 induction l with
 | nil=>simp
 | cons z l ih =>
  intro a b x y hn ha hb hx hy
  have none:∀ c u,(c,u)∈l->u.DW=some k0->idx (l.filterMap (·.2.DW)) k0=none->False:=by
   intro c u hc hu hi
   have m5:k0∈l.filterMap (·.2.DW):=List.mem_filterMap.2 ⟨(c,u),hc,hu⟩
   obtain ⟨i,sB⟩:=List.getElem?_of_mem m5
   exact pV _ _ hi i sB
  rcases lG.1 ha with ha1 | ha1
  ·rcases lG.1 hb with wV | wV
   ·grind
   ·rw [<- ha1] at hn
    simp only [List.filterMap_cons,hx,qq,a7,Option.isNone_iff_eq_none] at hn
    grind
  ·rcases lG.1 hb with wV | wV
   ·rw [<- wV] at hn
    simp only [List.filterMap_cons,hy,qq,a7,Option.isNone_iff_eq_none] at hn
    grind
   ·refine ih a b x y ?_ ha1 wV hx hy
    simp only [List.filterMap_cons] at hn
    split at hn
    ·exact hn
    simp_all [qq,a7]
theorem amG:∀ {as:List AV} {sz n:Nat} {g:Nat->List AV},Uj as [.mr sz n g]->as=[.mr sz n g]
 | [],_,_,_,h=>h.elim
 | a :: [],_,_,_,h=>by
  rcases h.1 with h1 | ⟨_,f,h1⟩
  ·rw [h1]
  ·cases h1
 | _ :: _ :: _,_,_,_,h=>h.2.elim
theorem afz {σ:eE} {f:Nat->Option Nat} {d:Od} {p:List Prop} {o:Ob} (h:CG σ F f fI d=some (p,o)) (hp:bm p) {i:Nat} {x:Nat×Nat×(Nat->List AV)} (hr:rowOf o i=some x) :
  ∃ k0 o0,d.DW=some k0/\au σ k0=some o0/\rowOf o0 i=some x:=by
 obtain ⟨r1,r2,r3⟩:=dW hr
 cases d with
 | af k0 =>
  simp only [CG,aW,aG] at h
  obtain ⟨o0,wj,_,rfl⟩:=h
  exact ⟨k0,o0,rfl,wj,(vd _ _ _ _).1 hr⟩
 | arr k0 n gt =>
  simp only [CG] at h
  split at h
  ·rename_i o0 wj
   split at h
   ·simp only [aL,aG] at h
    obtain ⟨rfl,rfl⟩:=h
    obtain ⟨p1,p2,_⟩:=hp
    exact ⟨k0,o0,rfl,wj,nh r1 (by rw [p1];exact r2) (by simp_all)⟩
   ·cases h
  ·cases h
 | arz k0 n gt =>
  simp only [CG] at h
  split at h
  ·rename_i o0 wj
   split at h
   ·simp only [aL,aG] at h
    obtain ⟨rfl,rfl⟩:=h
    obtain ⟨p1,p2,_⟩:=hp
    have:=p2 i r2
    have r3:gt i=[.mr x.1 x.2.1 x.2.2]:=r3
    rw [r3] at this
    exact ⟨k0,o0,rfl,wj,nh r1 (uf r2 p1) (amG this)⟩
   ·cases h
  ·cases h
 | Cr k0 n l b =>
  simp only [CG] at h
  split at h
  ·rename_i o0 l' wj hl'
   split at h
   ·rename_i hb
    simp only [aL,aG] at h
    obtain ⟨rfl,rfl⟩:=h
    obtain ⟨p1,p2,p3,_⟩:=hp
    simp only [a7,Bool.not_eq_true'] at hb
    have r3:an l' b i=[.mr x.1 x.2.1 x.2.2]:=r3
    rw [<- Pe (p3 i r2) hl',p2 i r2] at r3
    exact ⟨k0,o0,rfl,wj,nh hb.1 (by rw [p1];exact r2) (aeP r3)⟩
   ·cases h
  ·cases h
 | nim gt =>
  simp only [CG,aL,aG] at h
  grind
 | mp k0 cs =>
  simp only [CG] at h
  split at h
  ·rename_i o0 wj
   split at h
   ·rename_i hb
    simp only [aL,aG] at h
    obtain ⟨rfl,rfl⟩:=h
    simp_all
   ·cases h
  ·cases h
 | var k0 ds =>
  simp only [CG] at h
  grind
 | nil sz gt =>
  simp only [CG] at h
  grind
theorem Ph {st Jj:St} {uX:List (Nat×Wd)} {ps:List Prop} (h:Ni E.m0 st F uX fI nk=some (ps,Jj)) (hp:bm ps) (hF:F.isEmpty=true\/∀ b,¬ E.fp b) {fr:Array Value} {w:World} (hr:Rep E st fr w):Rep E Jj fr w:=by
 obtain ⟨S,μ,g,hk,hm,ht⟩:=hr
 unfold Ni at h
 split at h
 case h_2=>cases h
 rename_i p tm q gj hn htm dS
 simp only [aL,aG] at h
 obtain ⟨rfl,rfl⟩:=h
 obtain ⟨Ej,DZ⟩:=bm.app hp
 have N:=afx hn
 have e:Ext w S μ w (SF μ F st.sq S) μ:=⟨aN _,fun _ h=>.inl h,fun _ _=>rfl,fun _ _ h=>h⟩
 have hod:∀ k o,au gj k=some o->∃ pl c T,R3 E.m0 μ fI k=some pl/\jq w (SF μ F st.sq S) (R3 E.m0 μ fI) o pl c T /\
   (0 < pl.cap->∃ k0 o0,au st.sq k0=some o0/\μ k0=some pl/\∃ d,(k,d)∈fI/\d.DW=some k0):=by
  intro k o hko
  obtain ⟨d,pd,yE,hd,hpd⟩:=K5 fI q gj dS DZ k o hko
  have mono:∀ {v:Value} {x:AV} {eB:Mu},ak w S eB v x->ak w (SF μ F st.sq S) eB v x:=fun h=>h.mono (fun _ h=>.inl h) (fun _ _=>rfl) (fun _ _ h=>h)
  have out:∀ k0 o0 pl,au st.sq k0=some o0->μ k0=some pl->k0 ∉ F->0 < pl.cap->¬ SF μ F st.sq S pl.dD:=by
   rintro k0 o0 pl wj zR hnF hc (h1 | ⟨k1,o1,Ji,hkF,DB,YH,zx,hb⟩)
   ·obtain ⟨mf,c,T,jl,afc⟩:=g.rep.ob k0 o0 wj
    rw [zR] at jl;cases jl
    exact afc.out hc h1
   ·have gH:k1≠k0:=fun h=>hnF (h ▸ hkF)
    exact g.rep.ne k1 k0 o1 o0 Ji pl gH DB wj YH zR zx hc hb
  cases d with
  | af k0 =>
   simp only [CG,aW,aG] at hd
   obtain ⟨o0,wj,_,rfl⟩:=hd
   obtain ⟨pl,c,T,zR,AD⟩:=g.rep.ob k0 o0 wj
   have h1:=AD.ext e (fun _=>rfl) (out k0 o0 pl wj zR (N.fr k _ k0 yE rfl))
   exact ⟨pl,c,T,by rw [HV N yE rfl];exact zR,h1.mO fun a b pl ha hb=>Oi N ha hb,fun _=>⟨k0,o0,wj,zR,_,yE,rfl⟩⟩
  | arr k0 n gt =>
   simp only [CG] at hd
   split at hd
   ·rename_i o0 wj
    split at hd
    ·rename_i hb
     simp only [aL,aG] at hd
     obtain ⟨rfl,rfl⟩:=hd
     obtain ⟨p1,p2,_⟩:=hpd
     obtain ⟨pl,c,T,zR,AD⟩:=g.rep.ob k0 o0 wj
     simp only [a7] at hb
     have h1:=AD.ext e (fun _=>rfl) (out k0 o0 pl wj zR (N.fr k _ k0 yE rfl))
     refine ⟨pl,c,T,by rw [HV N yE rfl];exact zR,⟨h1.sz,h1.dD,h1.cap,p1 ▸ h1.len,h1.out,fun i hi=>?_,fun i j x v hi hx hv=>?_,fun hz=>absurd hz (by simp_all)⟩,fun _=>⟨k0,o0,wj,zR,_,yE,rfl⟩⟩
     ·show (gt i).length=_
      rw [p2 i hi];exact h1.zw i (by rw [p1];exact hi)
     ·have hx:(gt i)[j]?=some x:=hx
      rw [p2 i hi] at hx
      have:=h1.rep i j x v (by rw [p1];exact hi) hx hv
      simp_all
    ·cases hd
   ·cases hd
  | arz k0 n gt =>
   simp only [CG] at hd
   split at hd
   ·rename_i o0 wj
    split at hd
    ·rename_i hb
     simp only [aL,aG] at hd
     obtain ⟨rfl,rfl⟩:=hd
     obtain ⟨p1,p2,_⟩:=hpd
     obtain ⟨pl,c,T,zR,AD⟩:=g.rep.ob k0 o0 wj
     simp only [a7] at hb
     have h1:=AD.ext e (fun _=>rfl) (out k0 o0 pl wj zR (N.fr k _ k0 yE rfl))
     refine ⟨pl,c,T,by rw [HV N yE rfl];exact zR,⟨h1.sz,h1.dD,h1.cap,eF p1 h1.len,h1.out,fun i hi=>?_,fun i j x v hi hx hv=>?_,fun hz=>absurd hz (by have:=Nat.le_of_ble_eq_true hb.2;show o0.sz≠0;omega)⟩,fun _=>⟨k0,o0,wj,zR,_,yE,rfl⟩⟩
     ·show (gt i).length=_
      rw [(p2 i hi).len];exact h1.zw i (uf hi p1)
     ·have hx:(gt i)[j]?=some x:=hx
      obtain ⟨a,ha,hax⟩:=(p2 i hi).get hx
      have:=h1.rep i j a v (uf hi p1) ha hv
      rw [hb.1.1] at this
      exact amF hax this
    ·cases hd
   ·cases hd
  | mp k0 cs =>
   simp only [CG] at hd
   split at hd
   ·rename_i o0 wj
    split at hd
    ·rename_i hb
     simp only [aL,aG] at hd
     obtain ⟨rfl,rfl⟩:=hd
     obtain ⟨rfl,_⟩:=hpd
     obtain ⟨pl,c,T,zR,AD⟩:=g.rep.ob k0 o0 wj
     simp only [a7] at hb
     have WH:=cw hb.2
     have h1:=AD.ext e (fun _=>rfl) (out k0 o0 pl wj zR (N.fr k _ k0 yE rfl))
     refine ⟨pl,c,T,by rw [HV N yE rfl];exact zR,⟨h1.sz,h1.dD,h1.cap,h1.len,h1.out,fun i hi=>absurd hi (by show ¬ i < o0.len;omega),fun i j x v hi=>absurd hi (by show ¬ i < o0.len;omega),fun hz=>?_⟩,fun _=>⟨k0,o0,wj,zR,_,yE,rfl⟩⟩
     obtain ⟨m0,m1,m2,m3,m4⟩:=h1.mp hz
     exact ⟨m0,m1,m2,rfl,m4⟩
    ·cases hd
   ·cases hd
  | nim gt =>
   simp only [CG,aL,aG] at hd
   obtain ⟨_,rfl⟩:=hd
   exact ⟨⟨0,0,1⟩,#[],0,abh N yE,⟨rfl,fun h=>absurd h (by simp),by simp,by simp,fun h=>absurd h (by simp),fun i h=>absurd h (by simp),fun i j x v h=>absurd h (by simp),fun h=>absurd (show (1:Nat)=0 from h) (by omega)⟩,fun h=>absurd h (by simp)⟩
  | Cr k0 n l b =>
   simp only [CG] at hd
   split at hd
   ·rename_i o0 l' wj hl'
    split at hd
    ·rename_i hb
     simp only [aL,aG] at hd
     obtain ⟨rfl,rfl⟩:=hd
     obtain ⟨p1,p2',p3,_⟩:=hpd
     have p2:∀ i,i < n->an l' b i=AV.Ay (zT E.m0 fI) (o0.get i):=fun i hi=>by rw [<- p2' i hi];exact (Pe (p3 i hi) hl').symm
     let gt:Nat->List AV:=an l' b
     obtain ⟨pl,c,T,zR,AD⟩:=g.rep.ob k0 o0 wj
     simp only [a7] at hb
     have h1:=AD.ext e (fun _=>rfl) (out k0 o0 pl wj zR (N.fr k _ k0 yE rfl))
     refine ⟨pl,c,T,by rw [HV N yE rfl];exact zR,⟨h1.sz,h1.dD,h1.cap,p1 ▸ h1.len,h1.out,fun i hi=>?_,fun i j x v hi hx hv=>?_,fun hz=>absurd hz (by have:=Nat.le_of_ble_eq_true hb.2;show o0.sz≠0;omega)⟩,fun _=>⟨k0,o0,wj,zR,_,yE,rfl⟩⟩
     ·show (an l' b i).length=_
      rw [p2 i hi,CB,List.length_map];exact h1.zw i (by rw [p1];exact hi)
     ·have hx:(an l' b i)[j]?=some x:=hx
      rw [p2 i hi,CB,List.getElem?_map] at hx
      simp only [aW] at hx
      obtain ⟨y,hy,rfl⟩:=hx
      have:=j6 (h1.rep i j y v (by rw [p1];exact hi) hy hv)
      exact this.mO fun a b pl ha hb=>Oi N ha hb
    ·cases hd
   ·cases hd
  | var k0 ds =>
   simp only [CG] at hd
   split at hd
   ·rename_i o0 wj
    split at hd
    ·rename_i pw cs hb hcs
     simp only [aL,aG] at hd
     obtain ⟨rfl,rfl⟩:=hd
     obtain ⟨pl,c,T,zR,AD⟩:=g.rep.ob k0 o0 wj
     simp only [a7] at hb
     have hl1:=cw hb.1.2
     have hz1:=Nat.le_of_ble_eq_true hb.2
     have ha:ak w S μ (.agg ((List.range o0.sz).map fun j=>(c[j]?).getD undef).toArray) (.agg (o0.get 0)):=by
      refine .agg (by simp [AD.zw 0 (by omega)]) fun j x v hx hv=>?_
      have hj:j < o0.sz:=by
       have:=(fe.1 hx).1
       rwa [AD.zw 0 (by omega)] at this
      obtain ⟨u,q1,_⟩:=dL AD (i:=0) (by omega) hj
      have q1':c[j]?=some u:=by simpa using q1
      simp [List.getElem?_range hj,q1'] at hv
      exact j6 (AD.rep 0 j x v (by omega) hx (by rw [<- hv];simpa using q1))
     have acK:=abj g N (.agg ds) (.agg (o0.get 0)) _ pw (.agg cs) ha (by simp [Pf,hcs]) hpd
     obtain ⟨vs,hvs,RV,Ng⟩:=rr acK
     cases hvs
     have hlen:cs.length=o0.sz:=by simpa using RV.symm
     refine ⟨pl,c,T,by rw [HV N yE rfl];exact zR,⟨AD.sz,AD.dD,AD.cap,by have:=AD.len;show 1<=pl.cap;omega,out k0 o0 pl wj zR (N.fr k _ k0 yE rfl),fun i hi=>hlen,fun i j x v hi hx hv=>?_,fun hz=>absurd hz (by show o0.sz≠0;omega)⟩,fun _=>⟨k0,o0,wj,zR,_,yE,rfl⟩⟩
     have hi0:i=0:=by have hi:i < 1:=hi;omega
     subst hi0
     have hx:cs[j]?=some x:=hx
     have hj:j < o0.sz:=by rw [<- hlen];exact (fe.1 hx).1
     have yB:c[j]?=some v:=by simpa using hv
     have:=Ng j x v hx (by simp [List.getElem?_range hj,yB])
     show ak w _ (if AV.oY cs then kF else _) v x
     split
     ·rename_i hpp
      exact this.pure (yi hpp hx) kF
     ·exact this
    ·cases hd
   ·cases hd
  | nil sz gt =>
   simp only [CG] at hd
   split at hd
   case h_2=>cases hd
   rename_i arl
   simp only [aL,aG] at hd
   obtain ⟨_,rfl⟩:=hd
   exact ⟨⟨0,0,sz⟩,#[],0,abi N yE,⟨rfl,fun h=>absurd h (by simp),by simp,by simp,fun h=>absurd h (by simp),fun i h=>absurd h (by simp),fun i j x v h=>absurd h (by simp),fun h=>absurd (show sz=0 from h) (by have:=Nat.le_of_ble_eq_true arl;omega)⟩,fun h=>absurd h (by simp)⟩
 have hrw:∀ k i x v,kr w (R3 E.m0 μ fI) gj k i x v->∃ k0 d,(k,d)∈fI/\d.DW=some k0/\kr w μ st.sq k0 i x v:=by
  rintro k i x v ⟨o,pl,h1,h2,h3,h4⟩
  obtain ⟨d,pd,yE,hd,hpd⟩:=K5 fI q gj dS DZ k o h1
  obtain ⟨k0,o0,q1,q2,q3⟩:=afz hd hpd h2
  rw [HV N yE q1] at h3
  exact ⟨k0,d,yE,q1,o0,pl,q2,q3,h3,h4⟩
 have hmx:MX E.fp E.w0.heap.size w (SF μ F st.sq S) (R3 E.m0 μ fI) gj:=by
  have hφ:∀ k d k0,(k,d)∈fI->d.DW=some k0->((zU fI k).bind Od.DW).getD 0=k0:=fun k d k0 h1 h2=>by rw [wm N.nd h1];simp [h2]
  refine g.mx.tr (fun k=>((zU fI k).bind Od.DW).getD 0) (fun k i x v h=>?_) (fun k i x v k' i' x' v' h h' he=>?_) (fun _ h=>.inl h) (fun _ _=>rfl) (fun k i x v b _ h hb=>⟨rfl,?_,fun h=>h⟩) (fun k o pl h1 h2 h3=>?_)
  ·obtain ⟨k0,d,q1,q2,q3⟩:=hrw k i x v h
   show kr w μ st.sq (((zU fI k).bind Od.DW).getD 0) i x v
   rw [hφ k d k0 q1 q2];exact q3
  ·obtain ⟨k0,d,q1,q2,_⟩:=hrw k i x v h
   obtain ⟨k0',d',q1',q2',_⟩:=hrw k' i' x' v' h'
   have he:((zU fI k).bind Od.DW).getD 0=((zU fI k').bind Od.DW).getD 0:=he
   rw [hφ k d k0 q1 q2,hφ k' d' k0' q1' q2'] at he
   exact afy fI k k' d d' N.od q1 q1' q2 (he ▸ q2')
  ·rintro (h1 | ⟨k1,o1,Ji,_,DB,YH,zx,h1⟩)
   ·exact (g.mx.dD h hb).2.1 h1
   ·exact g.mx.obj _ _ _ _ _ h hb k1 o1 Ji DB YH zx h1
  ·obtain ⟨Ji,c,T,e1,_,e3⟩:=hod k o h1
   rw [h2] at e1;cases e1
   obtain ⟨k0,o0,wj,zR,_⟩:=e3 h3
   exact .inl ⟨k0,o0,pl,wj,zR,h3,rfl⟩
 refine ⟨SF μ F st.sq S,R3 E.m0 μ fI,⟨g.fr,fun b h=>.inl (g.S0 b h),?_,?_,⟨?_,?_⟩,?_,?_,hmx⟩,?_,N.m0,?_⟩
 ·rintro b (h1 | ⟨k1,o1,Ji,hkF,DB,YH,zx,rfl⟩)
  ·exact g.S1 b h1
  ·obtain ⟨mf,c,T,jl,afc⟩:=g.rep.ob k1 o1 DB
   rw [YH] at jl;cases jl
   exact iV (afc.dD zx)
 ·rintro b (h1 | ⟨k1,o1,Ji,hkF,DB,YH,zx,rfl⟩)
  ·exact g.S2 b h1
  ·rcases g.own k1 o1 Ji DB YH zx with h2 | h2
   ·rcases hF with h3 | h3
    ·rw [List.isEmpty_iff] at h3;rw [h3] at hkF;simp at hkF
    ·exact (h3 _ h2).elim
   ·exact .inr h2
 ·intro k o hko
  obtain ⟨pl,c,T,h1,h2,_⟩:=hod k o hko
  exact ⟨pl,c,T,h1,h2⟩
 ·intro k k' o o' pl mf gH hko aro Ax aj5 hc sS
  obtain ⟨Ji,c,T,h1,_,h3⟩:=hod k o hko
  obtain ⟨xQ,c',T',YG,_,h3'⟩:=hod k' o' aro
  rw [Ax] at h1;cases h1
  rw [aj5] at YG;cases YG
  obtain ⟨k0,o0,wj,zR,d,hd,hdo⟩:=h3 hc
  obtain ⟨k0',o0',arp,arq,d',hd',ars⟩:=h3' sS
  have hkk:k0≠k0':=by
   rintro rfl
   exact gH (afy fI k k' d d' N.od hd hd' hdo ars)
  exact g.rep.ne k0 k0' o0 o0' pl mf hkk wj arp zR arq hc sS
 ·intro k o pl hko Ax hc
  obtain ⟨Ji,c,T,h1,_,h3⟩:=hod k o hko
  rw [Ax] at h1;cases h1
  obtain ⟨k0,o0,wj,zR,_⟩:=h3 hc
  exact g.own k0 o0 pl wj zR hc
 ·intro k tg
  unfold R3
  rw [if_pos tg];exact g.Oc k tg
 ·intro k tg
  have tg:nk<=k:=tg
  have:=N.m0
  unfold R3
  rw [if_neg (by omega)]
  cases hg:zU fI k with
  | none=>rfl
  | some d =>
   have:=N.lt k d (Gw hg)
   omega
 ·exact S6 (R:=fun v x=>ak w (SF μ F st.sq S) (R3 E.m0 μ fI) v x) (fun _=>.rk) (fun d t ps y h1 h2=>abj g N d _ _ ps y (ht t) h1 h2) uX p tm htm Ej
def ay (P:Program) (E:Env) (fn:FuncId) (nt:Nat) (eC:Value->World->Prop) (k:List Item) (st:St):Prop :=
 ∀ (tm:Array Value) (w:World),tm.size=nt->Rep E st tm w->∀ (b:Frame),b.fn=fn->b.kind=.normal->∀ cs,
  ∃ v w' fr,eC v w'/\Steps P (lone (b.at ⟨tm,[]⟩ k) cs w) (lone fr cs w')/\fr.fn=fn/\fr.leaving P w' (.returned v)
variable {fn:FuncId} {nt:Nat} {eC:Value->World->Prop} {k k':List Item} {st Jj:St}
theorem ay.step (h:ay P E fn nt eC k' st) (hs:∀ (b:Frame) (a:Act) (cs:List Frame) (w:World),step P (lone (b.at a k) cs w)=.next (lone (b.at a k') cs w)):ay P E fn nt eC k st:=by
 intro tm w h1 h2 b h3 h4 cs
 obtain ⟨v,w',fr,q1,q2,q3,q4⟩:=h tm w h1 h2 b h3 h4 cs
 exact ⟨v,w',fr,q1,.head (hs b ⟨tm,[]⟩ cs w) q2,q3,q4⟩
theorem ay.seq {x y:Code} (h:ay P E fn nt eC (.code x :: .code y :: k) st):ay P E fn nt eC (.code (.seq x y) :: k) st:=h.step fun _ _ _ _=>step_seq
theorem ay.block {id:Nat} {c:Code} (h:ay P E fn nt eC (.code c :: .inBlock id :: k) st):ay P E fn nt eC (.code (.block id c) :: k) st:=h.step fun _ _ _ _=>step_block
theorem ay.inBlock {id:Nat} (h:ay P E fn nt eC k st):ay P E fn nt eC (.inBlock id :: k) st:=h.step fun _ _ _ _=>step_inBlock
theorem ay.loop {c:Code} (h:ay P E fn nt eC (.code c :: .inLoop c :: k) st):ay P E fn nt eC (.code (.loop c) :: k) st:=h.step fun _ _ _ _=>step_loop
theorem ay.inLoop {c:Code} (h:ay P E fn nt eC (.code c :: .inLoop c :: k) st):ay P E fn nt eC (.inLoop c :: k) st:=h.step fun _ _ _ _=>step_inLoop
theorem ay.skip (h:ay P E fn nt eC k st):ay P E fn nt eC (.code .skip :: k) st:=h.step fun _ _ _ _=>step_skip
theorem ay.label {l:Nat} (h:ay P E fn nt eC k st):ay P E fn nt eC (.code (.label l) :: k) st:=h.step fun _ _ _ _=>step_label
theorem ay.scope {c:Code} (h:ay P E fn nt eC (.code c :: .inScope c :: k) st):ay P E fn nt eC (.code (.scope c) :: k) st:=h.step fun _ _ _ _=>step_lone_go (by rfl)
theorem ay.inScope {c:Code} (h:ay P E fn nt eC k st):ay P E fn nt eC (.inScope c :: k) st:=h.step fun _ _ _ _=>step_lone_go (by rfl)
theorem ay.exit {id:Nat} (he:exitTo id k=some k') (h:ay P E fn nt eC k' st):ay P E fn nt eC (.code (.exit id) :: k) st:=h.step fun _ _ _ _=>step_exit he
theorem ay.cond {c:Operand} {x y:Code} {q:Bool} (hc:Hu st.tm c=.atom (.bool q)) (h1:q=true->ay P E fn nt eC (.code x :: k) st) (h2:q=false->ay P E fn nt eC (.code y :: k) st) :
  ay P E fn nt eC (.code (.cond c x y) :: k) st:=by
 intro tm w hs hr b wV ss cs
 have Jk:=hr
 obtain ⟨S,μ,g,_,_,ht⟩:=Jk
 have e:=JC (a:=⟨tm,[]⟩) ht c
 rw [hc] at e
 have e:=dR e
 have Jm:=step_cond (P:=P) (b:=b) (k:=k) (cs:=cs) (w:=w) (x:=x) (y:=y) e
 cases q with
 | true =>
  obtain ⟨v,w',fr,q1,q2,q3,q4⟩:=h1 rfl tm w hs hr b wV ss cs
  exact ⟨v,w',fr,q1,.head Jm q2,q3,q4⟩
 | false =>
  obtain ⟨v,w',fr,q1,q2,q3,q4⟩:=h2 rfl tm w hs hr b wV ss cs
  exact ⟨v,w',fr,q1,.head Jm q2,q3,q4⟩
structure aP (E:Env) (m:Nat):Prop where
 m0:E.m0=m
 fp:m=0->∀ b,¬ E.fp b
theorem ay.wk {m:Nat} (hE:aP E m) {uX:List (Nat×Wd)} {ps:List Prop} (h:Ni m st F uX fI nk=some (ps,Jj)) (hF:(F.isEmpty || Nat.beq m 0)=true) (hp:bm ps) (hr:ay P E fn nt eC k Jj):ay P E fn nt eC k st:=by
 have h':Ni E.m0 st F uX fI nk=some (ps,Jj):=by rw [hE.m0];exact h
 refine fun tm w h1 h2=>hr tm w h1 (Ph h' hp ?_ h2)
 rcases Bool.or_eq_true_iff.1 hF with h3 | h3
 ·exact .inl h3
 ·exact .inr (hE.fp (cw h3))
def JE (P:Program) (nt:Nat) (c:Code) (orcs:List (Nat×rS)) (st:St):Option (List Prop×St) :=
 match c with
 | .region _ ops draw=>match xS P nt ops.toList st.nk orcs ops.toList 0 st.tm st.sq with
  | some dX=>match !draw || (P.follows .mixedOrders && afs ops.toList dX) with
   | true=>some (O3 dX,⟨MR dX st.tm,ED dX st.sq,st.nk+16 * ops.size⟩)
   | false=>none
  | none=>none
 | _=>none
def Bv:List (Nat×rS)->Bool
 | []=>true
 | (_,o) :: r=>!o.D1 && Bv r
def noY:List (Nat×rS)->Bool
 | []=>true
 | (_,o) :: r=>o.y.isNone && noY r
def YsP (P:Program) (E:Env):List (Nat×rS)->Prop
 | []=>True
 | (_,o) :: r=>(match o.y with
  | some y=>YOK P E y
  | none=>True)/\YsP P E r
theorem S7:∀ {orcs:List (Nat×rS)},Bv orcs=true->∀ i x,vg orcs i=some x->x.D1=true->False
 | [],_,i,x,h,_=>by simp [vg] at h
 | (a,o) :: r,hn,i,x,h,hx=>by
  simp only [Bv,a7,Bool.not_eq_true'] at hn
  simp only [vg] at h
  split at h
  ·simp_all
  ·exact S7 hn.2 i x h hx
theorem Ul {P:Program} {E:Env}:∀ {orcs:List (Nat×rS)},noY orcs=true->YsP P E orcs
 | [],_=>trivial
 | (a,o) :: r,hn=>by
  simp only [noY,a7,Option.isNone_iff_eq_none] at hn
  refine ⟨?_,Ul hn.2⟩
  rw [hn.1];trivial
theorem abk {P:Program} {E:Env}:∀ {orcs:List (Nat×rS)},YsP P E orcs->∀ i x y,vg orcs i=some x->x.y=some y->YOK P E y
 | [],_,i,x,y,h,_=>by simp [vg] at h
 | (a,o) :: r,hn,i,x,y,h,hx=>by
  simp only [vg] at h
  split at h
  ·cases h
   have:=hn.1
   simp_all
  ·exact abk hn.2 i x y h hx
theorem EE {rd:Option Nat} {ds:List Deferred} {c:Code} {orcs:List (Nat×rS)} (hz:Bv orcs=true\/∀ b,¬ E.fp b) (hy:YsP P E orcs) {ps:List Prop} (h:JE P nt c orcs st=some (ps,Jj)) (hp:bm ps)
  {tm:Array Value} {w:World} (hs:tm.size=nt) (HN:Rep E st tm w):c.wpIn (FW rd) 0 P (fun e a w=>e=.normal/\a.tmps.size=nt/\a.defers=ds/\Rep E Jj a.tmps w) ⟨tm,ds⟩ w:=by
 have hz:∀ i,W8 P E (vg orcs i):=fun i=>⟨fun x hx hf=>hz.elim (fun hn=>(S7 hn i x hx hf).elim) id,fun x y hx hxy=>abk hy i x y hx hxy⟩
 unfold JE at h
 split at h
 case h_2=>cases h
 rename_i id ops draw
 split at h
 case h_2=>cases h
 rename_i dX htr
 split at h
 case h_2=>cases h
 rename_i hd
 simp only [aL,aG] at h
 obtain ⟨rfl,rfl⟩:=h
 obtain ⟨S,μ,g,hk,hm,ht⟩:=HN
 let Q0:Exit->Act->World->Prop:=fun e a w=>e=.normal/\a.tmps.size=nt/\a.defers=ds/\Rep E ⟨MR dX st.tm,ED dX st.sq,st.nk+16 * ops.size⟩ a.tmps w
 show (Code.region id ops draw).wpIn (FW rd) 0 P Q0 ⟨tm,ds⟩ w
 have hQ:∀ (a':Act) (w':World) (S':Nat->Prop) (eB:Mu),a'.tmps.size=nt->a'.defers=ds->Good E (ED dX st.sq) S' eB w'->(∀ k,st.nk+16 * ops.size<=k->eB k=none)->(∀ t,ak w' S' eB (a'.tmps.getD t undef) (fz (MR dX st.tm) t)) ->
   Q0 .normal a' w' :=
  fun a' w' S' eB q1 q2 q3 q4 q5=>⟨rfl,q1,q2,S',eB,q3,q4,by grind,q5⟩
 cases draw with
 | false =>
  refine wpIn_region ?_
  have:=SW (P:=P) (E:=E) (Q:=Q0) (rd:=rd) (ds:=ds) (nt:=nt) (nk:=st.nk) (ops:=ops) (orcs:=orcs) hz hm ops.toList 0 ⟨tm,ds⟩ w st.tm st.sq S μ dX rfl (by simp) hs rfl g (by simpa using hk) ht htr hp hQ
  rw [List.range_eq_range']
  simpa using this
 | true =>
  simp only [Bool.not_true,Bool.false_or,a7] at hd
  refine wpIn_region_any hd.1 ?_
  have hrf:∀ (n j:Nat),(Array.replicate n false).getD j false=false:=by
   intro n j
   simp only [As,Array.getElem?_replicate]
   split<;>rfl
  refine Y5 hz hm htr hp hd.2 hQ ops.size _ ⟨tm,ds⟩ _ S μ (by simp) hs rfl ?_ ?_ ?_ ?_ ?_
  ·simp_all
  ·omega
  ·rw [K3 dX 0 st.sq _ (fun m _=>hrf _ _)];exact g.drew
  ·simp_all
  ·intro t
   rw [Pd dX 0 st.tm _ (fun m _=>hrf _ _)]
   exact (ht t).ext (Ext.drew w S μ)
theorem ay.region {c:Code} {orcs:List (Nat×rS)} (hz:Bv orcs=true\/∀ b,¬ E.fp b) (hy:YsP P E orcs) {ps:List Prop} (h:JE P nt c orcs st=some (ps,Jj)) (hp:bm ps) (hr:ay P E fn nt eC k Jj):ay P E fn nt eC (.code c :: k) st:=by
 intro tm w hs HN b wV ss cs
 have hwp:c.wp P (fun e a w=>e=.normal/\a.tmps.size=nt/\a.defers=[]/\Rep E Jj a.tmps w) ⟨tm,[]⟩ w:=(wpIn_wide (n:=0)).1 (EE (rd:=none) (ds:=[]) hz hy h hp hs HN)
 obtain ⟨e,a',w',⟨rfl,q1,q2,q3⟩,amK⟩:=hwp b k cs
 have ha:a'=⟨a'.tmps,[]⟩:=by cases a';simp at q2;simp [q2]
 obtain ⟨v,w'',fr,r1,r2,r3,r4⟩:=hr a'.tmps w' q1 q3 b wV ss cs
 refine ⟨v,w'',fr,r1,Steps.trans amK ?_,r3,r4⟩
 rw [ha];exact r2
end
end Go.Ab
namespace Go.Ab
def aQ (E:Env) (gj:eE) (res:AV) (v:Value) (w':World):Prop:=∃ S' eB,Good E gj S' eB w'/\ak w' S' eB v res
def Pj (P:Program) (st:St):List ResultVar->Option (List Prop×List AV)
 | []=>some ([],[])
 | .tmp t :: r=>(Pj P st r).map fun (p,l)=>(p,fz st.tm t :: l)
 | .cell a t :: r=>match Eo P st.sq t (fz st.tm a),Pj P st r with
  | some (p,x,_),some (q,l)=>some (p ++ q,x :: l)
  | _,_=>none
def afB:List AV->AV
 | [x]=>x
 | l=>.tup l
def DC (P:Program) (fn:Func) (st:St):Option (List Prop×AV):=(Pj P st fn.results.toList).map fun (p,l)=>(p,afB l)
section
variable {P:Program} {E:Env} {fn:FuncId} {nt:Nat} {k:List Item} {st:St}
theorem Um {S:Nat->Prop} {μ:Mu} {w:World} (g:Good E st.sq S μ w) {tm:Array Value} (ht:∀ t,ak w S μ (tm.getD t undef) (fz st.tm t)) :
  ∀ (l:List ResultVar) (ps:List Prop) (xs:List AV),Pj P st l=some (ps,xs)->bm ps->∃ vs:List Value,
   (l.mapM fun r=>(match r with | .tmp t=>pure (tm.getD t undef) | .cell a t=>(do loadVar t (<- asAddr (tm.getD a undef)):Sem Value)):Sem (List Value)).run P w=.ok vs w/\vs.length=xs.length /\
   ∀ (j:Nat) c v,xs[j]?=some c->vs[j]?=some v->ak w S μ v c
 | [],ps,xs,h,_=>by
  simp [Pj] at h;simp_all
 | .tmp t :: r,ps,xs,h,hp=>by
  simp only [Pj,aW,aG] at h
  obtain ⟨⟨p,l⟩,h1,rfl,rfl⟩:=h
  obtain ⟨vs,q1,q2,q3⟩:=Um g ht r p l h1 hp
  refine ⟨tm.getD t undef :: vs,by simp_all,by simp [q2],?_⟩
  grind
 | .cell a t :: r,ps,xs,h,hp=>by
  simp only [Pj] at h
  split at h
  ·rename_i p x rd q l h1 h2
   simp only [aL,aG] at h
   obtain ⟨rfl,rfl⟩:=h
   obtain ⟨Ej,DZ⟩:=bm.app hp
   obtain ⟨vs,q1,q2,q3⟩:=Um g ht r q l h2 DZ
   obtain ⟨v,r1,r2⟩:=T0 (P:=P) g (ht a) h1 Ej
   have aru:∃ ad,tm.getD a undef=.pointer (some ad):=by
    cases hv:tm.getD a undef with
    | pointer o =>
     cases o with
     | none=>simp_all [Instr.loadAt,Instr.sureAddr]
     | some ad=>exact ⟨ad,rfl⟩
    | _=>simp_all [Instr.loadAt,Instr.sureAddr]
   obtain ⟨ad,had⟩:=aru
   rw [had] at r1
   simp only [Instr.loadAt,Instr.sureAddr,b8,Sem.run_pure,dP] at r1
   have hA:(asAddr (tm.getD a undef)).run P w=.ok ad w:=by rw [had];rfl
   refine ⟨v :: vs,by simp_all,by simp [q2],?_⟩
   grind
  ·cases h
theorem HW {f:Func} (hf:P.funcs[fn]?=some f) {ps:List Prop} {res:AV} (h:DC P f st=some (ps,res)) (hp:bm ps) {tm:Array Value} {w:World} (hr:Rep E st tm w) {b:Frame} (wV:b.fn=fn) (ss:b.kind=.normal) (todo:List Item) :
  ∃ v,aQ E st.sq res v w/\Frame.leaving P { b.at ⟨tm,[]⟩ todo with mode:=.returning } w (.returned v):=by
 obtain ⟨S,μ,g,_,_,ht⟩:=hr
 simp only [DC,aW,aG] at h
 obtain ⟨⟨p,l⟩,h1,rfl,rfl⟩:=h
 obtain ⟨vs,q1,q2,q3⟩:=Um g ht f.results.toList p l h1 hp
 have hm:(f.results.mapM fun r=>(match r with | .tmp t=>pure (tm.getD t undef) | .cell a t=>(do loadVar t (<- asAddr (tm.getD a undef)):Sem Value)):Sem (Array Value)).run P w=.ok vs.toArray w:=by
  rw [Array.mapM_eq_mapM_toList]
  simp only [Sem.run_map,q1,dP]
 have ac8:∃ v,ak w S μ v (afB l)/\(results f tm).run P w=.ok v w:=by
  refine ⟨if h:vs.toArray.size=1 then vs.toArray[0] else .tuple vs.toArray,?_,?_⟩
  ·cases l with
   | nil =>
    have:vs=[]:=List.length_eq_zero_iff.1 q2
    subst this
    simp only [afB]
    exact .tup rfl fun j c v hc=>by simp at hc
   | cons x r =>
    cases r with
    | nil =>
     simp at q2
     have hs:vs.toArray.size=1:=by simpa using q2
     rw [dif_pos hs]
     exact q3 0 x _ rfl (by simp [q2])
    | cons y r =>
     simp at q2
     have hs:¬ vs.toArray.size=1:=by simp;omega
     rw [dif_neg hs]
     exact .tup (by simp [q2]) fun j c v hc hv=>q3 j c v hc (by simpa using hv)
  ·unfold results
   simp only [b8]
   exact (congrArg (fun r:Result (Array Value)=>r.andThen fun a w'=>Result.ok (if h:a.size=1 then a[0] else Value.tuple a) w') hm)
 obtain ⟨v,hv,oD⟩:=ac8
 exact ⟨v,⟨S,μ,g,hv⟩,rfl,rfl,ss,f,by rw [<- hf,<- wV];rfl,oD⟩
theorem ay.ret {f:Func} (hf:P.funcs[fn]?=some f) {ps:List Prop} {res:AV} (h:DC P f st=some (ps,res)) (hp:bm ps):ay P E fn nt (aQ E st.sq res) (.code .ret :: k) st:=by
 intro tm w _ hr b wV ss cs
 obtain ⟨v,h1,h2⟩:=HW hf h hp hr wV ss (.code .ret :: k)
 exact ⟨v,w,_,h1,.one step_ret,wV,h2⟩
theorem ay.fin {f:Func} (hf:P.funcs[fn]?=some f) {ps:List Prop} {res:AV} (h:DC P f st=some (ps,res)) (hp:bm ps):ay P E fn nt (aQ E st.sq res) [] st:=by
 intro tm w _ hr b wV ss cs
 obtain ⟨v,h1,h2⟩:=HW hf h hp hr wV ss []
 exact ⟨v,w,_,h1,.one step_end,wV,h2⟩
def HX:List AV->Nat->List (Nat×AV)
 | [],_=>[]
 | x :: r,i=>(i,x) :: HX r (i+1)
theorem Pk:∀ (l:List AV) (i t:Nat),fz (HX l i) t=if i<=t then (l[t - i]?).getD .rk else .rk
 | [],i,t=>by simp [HX,fz]
 | x :: r,i,t=>by
  simp only [HX,fz]
  by_cases h:i=t
  ·simp_all
  ·rw [tH h,Pk r (i+1) t]
   grind
theorem sor {f:FuncId} {fu:Func} {c:Code} {nt m:Nat} {args:List AV} {σ gj:eE} {res:AV} (hf:P.funcs[f]?=some fu) (hb:fu.body=some c) (hn:fu.ntmps=nt) (ha:Nat.ble args.length nt=true)
  (Un:m=0->σ=[]) (h:∀ E,aP E m->ay P E f nt (aQ E gj res) [.code c] ⟨HX args 0,σ,m⟩):Sound P f args σ m res gj:=by
 simp only [Nat.ble_eq] at ha
 intro w S μ vs g hk hl cs
 have hE:aP (Eu w S σ μ m) m:=⟨rfl,fun hm b=>by
  rintro (⟨k,o,pl,h1,_⟩ | ⟨k,i,x,v,⟨o,pl,h1,_⟩,_⟩)<;>(rw [Un hm] at h1;simp [au] at h1)⟩
 let b:Frame:={ (default:Frame) with fn:=f,kind:=.normal }
 have amL:Frame.enter P f vs .normal=b.at ⟨vs ++ Array.replicate (nt - vs.size) undef,[]⟩ [.code c]:=by
  simp [Frame.enter,Frame.at,hf,hb,hn,b]
 have xB:=hl.1
 obtain ⟨v,w',fr,h1,h2,h3,h4⟩:=h _ hE (vs ++ Array.replicate (nt - vs.size) undef) w (by simp;omega) ⟨S,μ,g,hk,aN _,fun t=>by
  show ak w S μ _ (fz (HX args 0) t)
  rw [Pk,if_pos (Nat.zero_le _),Nat.sub_zero]
  cases hx:args[t]? with
  | none=>exact .rk
  | some x =>
   have iQ:t < vs.size:=by rw [xB];exact (fe.1 hx).1
   have hv:(vs ++ Array.replicate (nt - vs.size) undef).getD t undef=vs[t]:=by
    simp [As,Array.getElem?_append_left iQ,iQ]
   rw [hv]
   exact hl.2 t x _ hx (lF iQ)⟩ b rfl rfl cs
 rw [<- amL] at h2
 obtain ⟨S',eB,g',hv⟩:=h1
 exact ⟨.returned v,w',fr,⟨v,S',eB,rfl,g',hv⟩,h2,h3,h4⟩
end
end Go.Ab
namespace Go.Ab
def amM (f:Func):Code:=f.body.getD .skip
def cat:Code->List Bool->Code
 | c,[]=>c
 | .seq a _,false :: p=>cat a p
 | .seq _ b,true :: p=>cat b p
 | .cond _ a _,false :: p=>cat a p
 | .cond _ _ b,true :: p=>cat b p
 | .block _ b,_ :: p=>cat b p
 | .loop b,_ :: p=>cat b p
 | .scope b,_ :: p=>cat b p
 | c,_ :: _=>c
def Uo:List Item->Option (List Item)
 | .code (.seq a b) :: k=>some (.code a :: .code b :: k)
 | .code (.block id c) :: k=>some (.code c :: .inBlock id :: k)
 | .code (.loop c) :: k=>some (.code c :: .inLoop c :: k)
 | .inLoop c :: k=>some (.code c :: .inLoop c :: k)
 | .inBlock _ :: k=>some k
 | .code (.scope c) :: k=>some (.code c :: .inScope c :: k)
 | .inScope _ :: k=>some k
 | .code .skip :: k=>some k
 | .code (.label _) :: k=>some k
 | .code (.exit id) :: k=>exitTo id k
 | _=>none
def Oj:Nat->List Item->Option (List Item)
 | 0,k=>some k
 | n+1,k=>match Uo k with
  | some k'=>Oj n k'
  | none=>none
section
variable {P:Program} {E:Env} {fn:FuncId} {nt:Nat} {eC:Value->World->Prop} {k k':List Item} {st Jj:St}
theorem ay.Uo (h:Uo k=some k') (hr:ay P E fn nt eC k' st):ay P E fn nt eC k st:=by
 unfold Ab.Uo at h
 split at h
 ·cases h;exact hr.seq
 ·cases h;exact hr.block
 ·cases h;exact hr.loop
 ·cases h;exact hr.inLoop
 ·cases h;exact hr.inBlock
 ·cases h;exact hr.scope
 ·cases h;exact hr.inScope
 ·cases h;exact hr.skip
 ·cases h;exact hr.label
 ·exact hr.exit h
 ·cases h
theorem ay.Oj:∀ (n:Nat) {k:List Item},Oj n k=some k'->ay P E fn nt eC k' st->ay P E fn nt eC k st
 | 0,k,h,hr=>by simp only [Ab.Oj,aL] at h;rw [h];exact hr
 | n+1,k,h,hr=>by
  simp only [Ab.Oj] at h
  split at h
  ·rename_i k1 h1
   exact ay.Uo h1 (ay.Oj n h hr)
  ·cases h
theorem ay.apj {c x y:Code} {o:Operand} {q:Bool} (hx:c=.cond o x y) (hc:Hu st.tm o=.atom (.bool q)) (h1:q=true->ay P E fn nt eC (.code x :: k) st) (h2:q=false->ay P E fn nt eC (.code y :: k) st) :
  ay P E fn nt eC (.code c :: k) st:=by
 grind [ay.cond]
theorem ay.afC {c x y:Code} {o:Operand} {n:Nat} (hx:c=.cond o x y) (hc:Hu st.tm o=.bn n) (h1:n=0->ay P E fn nt eC (.code x :: k) st) (h2:ay P E fn nt eC (.code y :: k) st) :
  ay P E fn nt eC (.code c :: k) st:=by
 subst hx
 intro tm w hs hr b wV ss cs
 have Jk:=hr
 obtain ⟨S,μ,g,_,_,ht⟩:=Jk
 have e:=JC (a:=⟨tm,[]⟩) ht o
 rw [hc] at e
 obtain ⟨q,e1,e2⟩:∃ q,(⟨tm,[]⟩:Act).eval o=.bool q/\(q=true->n=0):=by
  generalize (⟨tm,[]⟩:Act).eval o=v at e
  cases e with
  | bn q h=>exact ⟨q,rfl,h⟩
 have Jm:=step_cond (P:=P) (b:=b) (k:=k) (cs:=cs) (w:=w) (x:=x) (y:=y) e1
 cases q with
 | true =>
  obtain ⟨v,w',fr,q1,q2,q3,q4⟩:=h1 (e2 rfl) tm w hs hr b wV ss cs
  exact ⟨v,w',fr,q1,.head Jm q2,q3,q4⟩
 | false =>
  obtain ⟨v,w',fr,q1,q2,q3,q4⟩:=h2 tm w hs hr b wV ss cs
  exact ⟨v,w',fr,q1,.head Jm q2,q3,q4⟩
end
def Hx:eE->List Nat->eE
 | σ,[]=>σ
 | σ,k :: r=>Hx (Bm σ k) r
theorem aQ.aj6 {E:Env} {res:AV} {v:Value} {w:World}:∀ (ks:List Nat) {σ:eE},aQ E σ res v w->aQ E (Hx σ ks) res v w
 | [],_,h=>h
 | k :: r,_,⟨S,μ,g,hv⟩=>aQ.aj6 r ⟨S,μ,g.del k,hv⟩
theorem ay.arv {P:Program} {E:Env} {fn:FuncId} {nt:Nat} {k:List Item} {st:St} {c:Code} (ks:List Nat) (hx:c=.ret) {f:Func} (hf:P.funcs[fn]?=some f) {ps:List Prop} {res:AV} {gj:eE} (h:DC P f st=some (ps,res))
  (Un:Hx st.sq ks=gj) (hp:bm ps):ay P E fn nt (aQ E gj res) (.code c :: k) st:=by
 subst hx Un
 intro tm w h1 h2 b h3 h4 cs
 obtain ⟨v,w',fr,q1,q2⟩:=ay.ret (E:=E) (nt:=nt) (k:=k) hf h hp tm w h1 h2 b h3 h4 cs
 exact ⟨v,w',fr,q1.aj6 ks,q2⟩
theorem ay.arw {P:Program} {E:Env} {fn:FuncId} {nt:Nat} {st:St} (ks:List Nat) {f:Func} (hf:P.funcs[fn]?=some f) {ps:List Prop} {res:AV} {gj:eE} (h:DC P f st=some (ps,res))
  (Un:Hx st.sq ks=gj) (hp:bm ps):ay P E fn nt (aQ E gj res) [] st:=by
 subst Un
 intro tm w h1 h2 b h3 h4 cs
 obtain ⟨v,w',fr,q1,q2⟩:=ay.fin (E:=E) (nt:=nt) hf h hp tm w h1 h2 b h3 h4 cs
 exact ⟨v,w',fr,q1.aj6 ks,q2⟩
def Pm (P:Program) (nt m:Nat) (c:Code) (orcs:List (Nat×rS)) (F:List Nat) (uX:List (Nat×Wd)) (fI:Ek) (nk:Nat) (st:St):Option (List Prop×St) :=
 match JE P nt c orcs st with
 | some (ps,s1)=>match Ni m s1 F uX fI nk with
  | some (qs,s2)=>some (ps ++ qs,s2)
  | none=>none
 | none=>none
theorem ay.rw {P:Program} {E:Env} {fn:FuncId} {nt:Nat} {eC:Value->World->Prop} {k:List Item} {st Jj:St} {m:Nat} {c:Code} {orcs:List (Nat×rS)} {F:List Nat} {uX:List (Nat×Wd)} {fI:Ek} {nk:Nat}
  (hE:aP E m) {ps:List Prop} (h:Pm P nt m c orcs F uX fI nk st=some (ps,Jj)) (hF:((F.isEmpty && Bv orcs) || Nat.beq m 0)=true) (hy:YsP P E orcs) (hp:bm ps) (hr:ay P E fn nt eC k Jj):ay P E fn nt eC (.code c :: k) st:=by
 unfold Pm at h
 split at h
 ·rename_i p1 s1 h1
  split at h
  ·rename_i q1 s2 h2
   simp only [aL,aG] at h
   obtain ⟨rfl,rfl⟩:=h
   obtain ⟨Ej,DZ⟩:=bm.app hp
   have hF':(F.isEmpty || Nat.beq m 0)=true:=by
    rcases Bool.or_eq_true_iff.1 hF with h | h
    ·simp [(Jl.1 h).1]
    ·simp [h]
   have hz:Bv orcs=true\/∀ b,¬ E.fp b:=by
    rcases Bool.or_eq_true_iff.1 hF with h | h
    ·simp_all
    ·exact .inr (hE.fp (cw h))
   grind [ay.region,ay.wk]
  ·cases h
 ·cases h
abbrev aI (n:Int):AV:=.atom (.int .i64 n)
abbrev aB (b:Bool):AV:=.atom (.bool b)
abbrev aS (s:ByteArray):AV:=.atom (.string s)
def b5 {α:Type} (c:α->List AV) (d:α) (l:List α):AV:=.sl l.length fun i=>c (l.getD i d)
def cI (n:Int):List AV:=[aI n]
def cB (b:Bool):List AV:=[aB b]
def cS (s:ByteArray):List AV:=[aS s]
def cU (k:IntKind) (n:Int):List AV:=[.atom (.int k n)]
abbrev aE (n:Int):Int:=IntKind.i64.wrap n
theorem ae {α:Type} {p:Prop} [Decidable p] {x:Option α} {r:α} (h:(if p then x else none)=some r):p/\x=some r:=by
 simp_all
theorem ax {α β:Type} {x:Option α} {f:α->Option β} {r:β} (h:x.bind f=some r):∃ a,x=some a/\f a=some r:=Option.bind_eq_some_iff.1 h
theorem aR {α:Type} {q:Bool} {x y:α} {r:α} (h:cond q x y=r) (hq:q=true):x=r:=by subst hq;exact h
def Alike (x y:AV):Prop:=∀ w S μ v,ak w S μ v x->ak w S μ v y
theorem Alike.refl (x:AV):Alike x x:=fun _ _ _ _ h=>h
theorem Alike.sl {n m:Nat} {g g':Nat->List AV} (hn:n=m) (hg:∀ i,i < m->g' i=g i):Alike (.sl n g) (.sl m g'):=by
 subst hn
 intro w S μ v h
 cases h with
 | sl b off sz f h1 h2 h3 h4 h5=>exact .sl b off sz f h1 (fun i hi=>by simp_all) h3 (fun i j c hi hc=>h4 i j c hi (by simp_all)) h5
theorem Alike.nil {g:Nat->List AV}:Alike .nil (.sl 0 g):=by
 intro w S μ v h
 cases h
 exact .sl 0 0 0 (fun _ _=>undef) (fun h=>absurd h (by omega)) (fun i h=>absurd h (by omega)) (fun i j h=>absurd h (by omega)) (fun i j c h=>absurd h (by omega)) (aN _)
theorem Alike.rp {cs:List AV}:Alike (.rp cs 0) (.pt true cs):=fun _ _ _ _ h=>.pt (fun _=>h) (fun h=>by cases h)
inductive HY:List AV->List AV->Prop where
 | nil:HY [] []
 | cons {x y:AV} {xs ys:List AV}:Alike x y->HY xs ys->HY (x :: xs) (y :: ys)
theorem HY.get {xs ys:List AV} (h:HY xs ys):xs.length=ys.length/\∀ (j:Nat) y,ys[j]?=some y->∃ x,xs[j]?=some x/\Alike x y:=by
 induction h with
 | nil=>simp
 | cons h1 _ ih =>
  grind
theorem Alike.agg {xs ys:List AV} (h:HY xs ys):Alike (.agg xs) (.agg ys):=by
 intro w S μ v hv
 obtain ⟨h1,h2⟩:=h.get
 cases hv with
 | agg q1 q2 =>
  refine .agg (q1.trans h1) fun j y v hy hv=>?_
  obtain ⟨x,hx,ha⟩:=h2 j y hy
  exact ha _ _ _ _ (q2 j x v hx hv)
theorem Sound.conv {P:Program} {f:FuncId} {args alu:List AV} {σ gj:eE} {m:Nat} {res:AV} (h:Sound P f args σ m res gj) (ha:HY alu args):Sound P f alu σ m res gj:=by
 obtain ⟨h1,h2⟩:=ha.get
 intro w S μ vs g hk hl
 refine h w S μ vs g hk ⟨hl.1.trans h1,fun j c v hc hv=>?_⟩
 obtain ⟨x,hx,Dz⟩:=h2 j c hc
 exact Dz _ _ _ _ (hl.2 j x v hx hv)
def Nj (k:IntKind) (a b:Int):Int:=k.wrap (BitVec.ofInt k.bits a ||| BitVec.ofInt k.bits b).toNat
def JF (k:IntKind) (a b:Int):Int:=k.wrap (BitVec.ofInt k.bits a &&& BitVec.ofInt k.bits b).toNat
def zV (k:IntKind) (a b:Int):Int:=k.wrap (BitVec.ofInt k.bits a &&& ~~~BitVec.ofInt k.bits b).toNat
def AF (k:IntKind) (a b:Int):Int:=k.wrap (a * 2 ^ (min b.toNat k.bits))
def wX (k:IntKind) (a b:Int):Int:=a.fdiv (2 ^ (min b.toNat k.bits))
theorem dV {n:Int} {m:Nat} (h:0<=n/\n < (m:Int)):n.toNat < m:=by omega
theorem o5 {a b:Bool} (h:a=true) (k:b=true):(a && b)=true:=by rw [h,k];rfl
theorem aj7 {α:Type} (c:α->List AV) (d:α) (l m:List α) (i:Nat) (_:i < (l ++ m).length) :
  c ((l ++ m).getD i d)=if i < l.length then c (l.getD i d) else c (m.getD (i - l.length) d):=by
 grind
theorem ru {α:Type} (c:α->List AV) (d x:α) (n i:Nat) (hi:i < (List.replicate n x).length):c ((List.replicate n x).getD i d)=c x:=by
 simp_all
theorem qI {α:Type} (c:α->List AV) (d x:α) (n i:Nat) {z:List AV} (h:Uj z (c x)) (hi:i < (List.replicate n x).length):Uj z (c ((List.replicate n x).getD i d)):=by simp_all
theorem Ok {α:Type} (c:α->List AV) (d:α) (l:List α) (a b i:Nat) (hi:i < ((l.take b).drop a).length):c (((l.take b).drop a).getD i d)=c (l.getD (bB a i) d):=by
 have h1:a+i < min b l.length:=by simp at hi;omega
 rw [dc]
 grind
theorem dJ {α:Type} (c:α->List AV) (d:α) (l:List α) (i:Nat) (hi:i < l.length):c (l.getD i d)=(l.map c).getD i []:=by
 simp_all
theorem aj8 {α:Type} (l:List α) (a b:Nat) (h1:a<=b) (h2:b<=l.length):b - a=((l.take b).drop a).length:=by simp;omega
theorem EF {α:Type} (l:List α) (a b:Nat) (h1:a<=b/\b<=l.length):b - a=((l.take b).drop a).length:=aj8 l a b h1.1 h1.2
end Go.Ab
namespace Go.Ab
theorem condSplit {α:Type} {q:Bool} {x y r:α} (h:cond q x y=r):(q=true/\x=r)\/(q=false/\y=r):=by grind
theorem tK {α:Type} (c:α->List AV) (d:α) (l m:List α) {n:Nat} {g1 g2:Nat->List AV} (hn:n=l.length) (h1:∀ z,z < l.length->c (l.getD z d)=g1 z)
  (h2:∀ z,z < m.length->c (m.getD z d)=g2 z) (i:Nat) (hi:i < (l ++ m).length):c ((l ++ m).getD i d)=if i < n then g1 i else g2 (i - n):=by
 grind
theorem wo {α:Type} {l m:List α} {n k:Nat} (hn:n=l.length) (hk:k=m.length):n+k=(l ++ m).length:=by subst hn hk;simp
theorem EG {α:Type} (c:α->List AV) (d:α) (l:List α) (k:Nat) (x:α) {g:Nat->List AV} (h1:∀ z,z < l.length->c (l.getD z d)=g z) (i:Nat) (hi:i < (l.set k x).length) :
  c ((l.set k x).getD i d)=if i=k then c x else g i:=by
 grind
theorem kH {α:Type} {l:List α} {n k:Nat} {x:α} (hn:n=l.length):n=(l.set k x).length:=by subst hn;simp
def rT (b:ByteArray):List Int:=b.data.toList.map fun x=>(x.toNat:Int)
theorem HZ (b:ByteArray):b.size=(rT b).length:=by simp_all [rT,List.length_map,Array.length_toList]
theorem Pn (b:ByteArray) (z:Nat) (hz:z < (rT b).length):cU .u8 ((rT b).getD z 0)=[.atom (.int .u8 (kG b z))]:=by
 have h:z < b.data.size:=by simpa [rT] using hz
 have h2:z < b.size:=h
 have e:b[z]?=some b.data[z]:=by rw [getElem?_pos b z h2];rfl
 simp [cU,rT,kG,e,ep,getElem?_pos b.data z h]
def kp:List Nat->List (Nat×Wd)
 | []=>[]
 | t :: r=>(t,.af) :: kp r
def kq:List Nat->Ek
 | []=>[]
 | k :: r=>(k,.af k) :: kq r
def vO (n:Nat) (cs:List AV):Ob:=⟨true,n,1,true,fun _=>cs⟩
def vN (n:Nat) (cs:List AV):Ob:=⟨true,n,1,false,fun _=>cs⟩
def aO {α:Type} (sz:Nat) (c:α->List AV) (d:α) (l:List α):Ob:=⟨false,sz,l.length,true,fun zi=>c (l.getD zi d)⟩
def alv:Nat->Nat->List Bool->List Bool
 | 0,_,acc=>acc
 | k+1,n,acc=>match Nat.ble n 1 with
  | true=>acc
  | false=>alv k (n / 2) (Nat.beq (n % 2) 1 :: acc)
def pth (n:Nat):List Bool:=alv 400 n []
theorem o1:0 < 1:=Nat.one_pos
theorem z0 {n:Nat}:0+n<=n:=Nat.le_of_eq (Nat.zero_add _)
section
variable {P:Program} {E:Env} {fn:FuncId} {nt:Nat} {eC:Value->World->Prop} {k:List Item} {st:St} {m:Nat}
theorem ay.sA (n:Nat) (k':List Item) (hr:ay P E fn nt eC k' st) (h:Ab.Oj n k=some k':=by kernel_rfl):ay P E fn nt eC k st:=ay.Oj n h hr
theorem ay.sT {c:Code} (f:Func) (ks:List Nat) (ps:List Prop) {res:AV} {gj:eE} (hp:bm ps) (hx:c=.ret:=by kernel_rfl) (hf:P.funcs[fn]?=some f:=by kernel_rfl) (h:DC P f st=some (ps,res):=by kernel_rfl)
  (Un:Hx st.sq ks=gj:=by rfl):ay P E fn nt (aQ E gj res) (.code c :: k) st:=ay.arv ks hx hf h Un hp
theorem ay.sF (f:Func) (ks:List Nat) (ps:List Prop) {res:AV} {gj:eE} (hp:bm ps) (hf:P.funcs[fn]?=some f:=by kernel_rfl) (h:DC P f st=some (ps,res):=by kernel_rfl)
  (Un:Hx st.sq ks=gj:=by rfl):ay P E fn nt (aQ E gj res) [] st:=ay.arw ks hf h Un hp
def nK (n:Nat) (k:List Item):List Item:=match Ab.Oj n k with
 | some k'=>k'
 | none=>[]
def Xg:List Item->Code
 | .code c :: _=>c
 | _=>.ret
def tlK:List Item->List Item
 | _ :: k=>k
 | []=>[]
def cdX:Code->Code
 | .cond _ x _=>x
 | c=>c
def cdY:Code->Code
 | .cond _ _ y=>y
 | c=>c
def Uq (n:Nat) (k:List Item):Bool:=match Ab.Oj n k with
 | some (.code _ :: _)=>true
 | _=>false
def nS (P:Program) (nt m:Nat) (c:Code) (orcs:List (Nat×rS)) (F:List Nat) (uX:List (Nat×Wd)) (fI:Ek) (nk:Nat) (st:St):St:=match Pm P nt m c orcs F uX fI nk st with
 | some x=>x.2
 | none=>st
def nV (m:Nat) (st:St) (F:List Nat) (uX:List (Nat×Wd)) (fI:Ek) (nk:Nat):St:=match Ni m st F uX fI nk with
 | some x=>x.2
 | none=>st
def Ur:Option (List Prop×St)->Option (List Prop)
 | some x=>some x.1
 | none=>none
theorem Us {n:Nat} {k:List Item} (h:Uq n k=true):Ab.Oj n k=some (.code (Xg (nK n k)) :: tlK (nK n k)):=by
 unfold Uq at h
 unfold nK
 split at h
 ·rename_i c k' h1;rw [h1];rfl
 ·cases h
theorem Gx {x:Option (List Prop×St)} {ps:List Prop} (h:Ur x=some ps):∃ s,x=some (ps,s):=by
 cases x with
 | none=>cases h
 | some y=>cases h;exact ⟨y.2,rfl⟩
theorem rnR (hE:aP E m) (n:Nat) (orcs:List (Nat×rS)) (F:List Nat) (uX:List (Nat×Wd)) (fI:Ek) (nk:Nat) {ps:List Prop} (hp:bm ps)
  (hr:ay P E fn nt eC (tlK (nK n k)) (nS P nt m (Xg (nK n k)) orcs F uX fI nk st)) (h0:Uq n k=true:=by kernel_rfl)
  (h:Ur (Pm P nt m (Xg (nK n k)) orcs F uX fI nk st)=some ps:=by kernel_rfl) (hF:(((F.isEmpty && Bv orcs) || Nat.beq m 0) && noY orcs)=true:=by kernel_rfl):ay P E fn nt eC k st:=by
 obtain ⟨s,hs⟩:=Gx h
 refine ay.Oj n (Us h0) (ay.rw hE hs (Jl.1 hF).1 (Ul (Jl.1 hF).2) hp ?_)
 grind [nS,Xg,nK]
theorem rnW (hE:aP E m) (n:Nat) (F:List Nat) (uX:List (Nat×Wd)) (fI:Ek) (nk:Nat) {ps:List Prop} (hp:bm ps) {k':List Item} {Jj:St} (hr:ay P E fn nt eC k' Jj)
  (h0:Ab.Oj n k=some k':=by kernel_rfl) (h:Ni m st F uX fI nk=some (ps,Jj):=by kernel_rfl) (hF:(F.isEmpty || Nat.beq m 0)=true:=by kernel_rfl):ay P E fn nt eC k st :=
 ay.Oj n h0 (ay.wk hE h hF hp hr)
theorem rnX (hE:aP E m) (F:List Nat) (uX:List (Nat×Wd)) (fI:Ek) (nk:Nat) {ps:List Prop} (hp:bm ps) (hr:ay P E fn nt eC k (nV m st F uX fI nk))
  (h:Ur (Ni m st F uX fI nk)=some ps:=by kernel_rfl) (hF:(F.isEmpty || Nat.beq m 0)=true:=by kernel_rfl):ay P E fn nt eC k st:=by
 grind [Gx,nV,ay.wk]
theorem cx (n t:Nat) {R:Type} {q:Bool} {x y r:R} (h:(bif q then x else y)=r) (h1:q=true->x=r->ay P E fn nt eC (.code (cdX (Xg (nK n k))) :: tlK (nK n k)) st)
  (h2:q=false->y=r->ay P E fn nt eC (.code (cdY (Xg (nK n k))) :: tlK (nK n k)) st) (h0:Uq n k=true:=by kernel_rfl)
  (hx:Xg (nK n k)=.cond (.tmp t) (cdX (Xg (nK n k))) (cdY (Xg (nK n k))):=by kernel_rfl) (hc:Hu st.tm (.tmp t)=.atom (.bool q):=by kernel_rfl):ay P E fn nt eC k st :=
 ay.Oj n (Us h0) (ay.apj hx hc (fun hq=>h1 hq (by rw [hq] at h;exact h)) (fun hq=>h2 hq (by rw [hq] at h;exact h)))
theorem jn (hE:aP E m) (n:Nat) (f:Func) (F:List Nat) (uX:List (Nat×Wd)) (fI:Ek) (nk:Nat) {ps:List Prop} (hp:bm ps) (ks:List Nat) {ps2:List Prop} (DZ:bm ps2) {res:AV} {gj:eE}
  (h0:Uq n k=true:=by kernel_rfl) (hx:Xg (nK n k)=.ret:=by kernel_rfl) (h:Ur (Ni m st F uX fI nk)=some ps:=by kernel_rfl) (hf:P.funcs[fn]?=some f:=by kernel_rfl)
  (h2:DC P f (nV m st F uX fI nk)=some (ps2,res):=by kernel_rfl) (Un:Hx (nV m st F uX fI nk).sq ks=gj:=by kernel_rfl) (hF:(F.isEmpty || Nat.beq m 0)=true:=by kernel_rfl):ay P E fn nt (aQ E gj res) k st:=by
 obtain ⟨s,hs⟩:=Gx h
 have e:nV m st F uX fI nk=s:=by unfold nV;rw [hs]
 rw [e] at h2 Un
 exact ay.Oj n (Us h0) (ay.wk hE hs hF hp (ay.sT f ks ps2 DZ hx hf h2 Un))
theorem rnF (hE:aP E m) (n:Nat) (f:Func) (F:List Nat) (uX:List (Nat×Wd)) (fI:Ek) (nk:Nat) {ps:List Prop} (hp:bm ps) (ks:List Nat) {ps2:List Prop} (DZ:bm ps2) {res:AV} {gj:eE}
  (h0:Ab.Oj n k=some []:=by kernel_rfl) (h:Ur (Ni m st F uX fI nk)=some ps:=by kernel_rfl) (hf:P.funcs[fn]?=some f:=by kernel_rfl)
  (h2:DC P f (nV m st F uX fI nk)=some (ps2,res):=by kernel_rfl) (Un:Hx (nV m st F uX fI nk).sq ks=gj:=by kernel_rfl) (hF:(F.isEmpty || Nat.beq m 0)=true:=by kernel_rfl):ay P E fn nt (aQ E gj res) k st:=by
 grind [Gx,nV,ay.Oj,ay.wk,ay.sF]
def apl (st:St) (k i sz len:Nat) (g:Nat->List AV):Option (List Prop) :=
 match au st.sq k with
 | some o=>match o.var with
  | false=>some [i < o.len,o.get i=[.mr sz len g]]
  | true=>none
 | none=>none
def stO (st:St) (k i sz len:Nat) (g:Nat->List AV):St :=
 match au st.sq k with
 | some o=>⟨st.tm,sset (sset st.sq k ⟨false,o.sz,o.len,false,fun m=>if m=i then [.os st.nk 0 len] else o.get m⟩) st.nk ⟨false,sz,len,true,g⟩,st.nk+16⟩
 | none=>st
theorem rnO (k1 i sz len:Nat) (g:Nat->List AV) {ps:List Prop} (hp:bm ps) (hr:ay P E fn nt eC k (stO st k1 i sz len g)) (h:apl st k1 i sz len g=some ps:=by kernel_rfl):ay P E fn nt eC k st:=by
 refine fun tm w h1 h2=>hr tm w h1 ?_
 obtain ⟨S,μ,g0,hk,hm,ht⟩:=h2
 unfold apl at h
 unfold stO
 cases ho:au st.sq k1 with
 | none=>rw [ho] at h;cases h
 | some o =>
  rw [ho] at h
  simp only at h ⊢
  cases hv:o.var with
  | true=>rw [hv] at h;cases h
  | false =>
   rw [hv] at h
   simp only [aL] at h
   subst h
   obtain ⟨p1,p2,_⟩:=hp
   obtain ⟨q,e1,e2⟩:=g0.opn (hk st.nk (aN _)) hm ho (nh (x:=(sz,len,g)) hv p1 p2)
   exact ⟨S,cK μ st.nk q,e2,fun n hn=>by
    have hn:st.nk+16<=n:=hn
    unfold cK;grind,by grind,fun t=>(ht t).ext e1⟩
def apm (st:St) (k q i:Nat):Option (List Prop) :=
 match Ue st.sq k q i with
 | some x=>some x.1
 | none=>none
def Ut (st:St) (k q i:Nat):St :=
 match Ue st.sq k q i with
 | some x=>⟨st.tm,gS st.sq x.2,st.nk⟩
 | none=>st
theorem rnL (k1 q i:Nat) {ps:List Prop} (hp:bm ps) (hr:ay P E fn nt eC k (Ut st k1 q i)) (h:apm st k1 q i=some ps:=by kernel_rfl):ay P E fn nt eC k st:=by
 refine fun tm w h1 h2=>hr tm w h1 ?_
 obtain ⟨S,μ,g0,hk,hm,ht⟩:=h2
 unfold apm at h
 unfold Ut
 cases hc:Ue st.sq k1 q i with
 | none=>rw [hc] at h;cases h
 | some x =>
  rw [hc] at h
  simp only [aL] at h
  subst h
  exact ⟨S,μ,SQ hc hp g0,hk,hm,ht⟩
def mR {α:Type} (sz:Nat) (c:α->List AV) (d:α) (l:List α):List AV:=[.mr sz l.length (fun i=>c (l.getD i d))]
def aM {α:Type} (sz:Nat) (c:α->List AV) (d:α) (l:List (List α)):Ob:=⟨false,1,l.length,false,fun m=>mR sz c d (l.getD m [])⟩
theorem JG {α:Type} {sz:Nat} {c:α->List AV} {d:α} (E:List (List α)) (i q n:Nat) (row:List α) (r:List (Nat×Nat×Nat)) (hi:i < E.length) (hr:∀ x∈r,x.1≠i) :
  ∀ m,m < (E.set i row).length->an r (fun m=>mR sz c d ((E.set i row).getD m [])) m=if m=i then mR sz c d row else an ((i,q,n) :: r) (fun m=>mR sz c d (E.getD m [])) m:=by
 intro m _
 have gen:∀ (r:List (Nat×Nat×Nat)),m≠i->an r (fun m=>mR sz c d ((E.set i row).getD m [])) m=an r (fun m=>mR sz c d (E.getD m [])) m:=by
  intro r hm
  induction r with
  | nil=>simp only [an,ep];rw [List.getElem?_set_ne (fun h=>hm h.symm)]
  | cons x r ih =>
   grind [an]
 by_cases hm:m=i
 ·subst hm
  rw [if_pos rfl]
  clear gen
  induction r with
  | nil=>simp only [an,ep];rw [List.getElem?_set_self hi];rfl
  | cons x r ih =>
   obtain ⟨a,b,e⟩:=x
   have h1:m≠a:=fun h=>hr (a,b,e) List.mem_cons_self h.symm
   simp_all [an,if_neg,List.mem_cons_of_mem]
 simp_all [if_neg,an]
theorem Bw {α:Type} {sz:Nat} {c:α->List AV} {d:α} (E:List (List α)) (i q n:Nat) (r:List (Nat×Nat×Nat)) (hr:∀ x∈r,x.1≠i) :
  ∀ m,m < E.length->an r (fun m=>mR sz c d (E.getD m [])) m=if m=i then mR sz c d (E.getD i []) else an ((i,q,n) :: r) (fun m=>mR sz c d (E.getD m [])) m:=by
 intro m _
 by_cases hm:m=i
 ·subst hm
  rw [if_pos rfl]
  induction r with
  | nil=>rfl
  | cons x r ih =>
   obtain ⟨a,b,e⟩:=x
   have h1:m≠a:=fun h=>hr (a,b,e) List.mem_cons_self h.symm
   simp_all [an,if_neg,List.mem_cons_of_mem]
 simp_all [if_neg,an]
theorem afF {α:Type} {sz:Nat} {c:α->List AV} {d:α} (E:List (List α)) (i q n:Nat) (row:List α) (r:List (Nat×Nat×Nat)) (he:E.getD i []=row) (hr:∀ x∈r,x.1≠i) :
  ∀ m,m < E.length->an r (fun m=>mR sz c d (E.getD m [])) m=if m=i then mR sz c d row else an ((i,q,n) :: r) (fun m=>mR sz c d (E.getD m [])) m:=by
 subst he;exact Bw E i q n r hr
theorem wq {α:Type} (E:List (List α)) (row:List α):(E ++ [row]).getD E.length []=row:=by simp
theorem amO {α:Type} (E:List α) (row:α):E.length < (E ++ [row]).length:=by simp
theorem aka {α:Type} {sz:Nat} {c:α->List AV} {d:α} (E:List (List α)) (row:List α) {q n n2:Nat} {b:Nat->List AV} (h:n=n2) (hb:b 0=[.os q 0 n]) :
  ∀ m,m < (E ++ [row]).length->an [(E.length,q,n2)] (fun m=>mR sz c d ((E ++ [row]).getD m [])) m=if m < E.length then mR sz c d (E.getD m []) else b (m - E.length):=by
 intro m hm
 subst h
 simp only [gI,List.length_singleton] at hm
 simp only [an]
 grind
theorem akb {b:Nat->List AV} {i1:Nat} (i k n n1 N:Nat) (h1:i1=i):∀ m,m < N->an [(i,k,n1)] b m=if m=i1 then [.os k 0 n1] else an [(i,k,n)] b m:=by
 grind [an]
theorem gO {c:Prop} [Decidable c] {x:AV} {l:List AV} (h:c):(if c then [x] else l)[0]?=some x:=by rw [if_pos h];rfl
theorem Po {i:Nat}:∀ x∈([]:List (Nat×Nat×Nat)),x.1≠i:=fun _ h=>by simp at h
theorem neC {i j k n:Nat} {r:List (Nat×Nat×Nat)} (h:j≠i) (hr:∀ x∈r,x.1≠i):∀ x∈(j,k,n) :: r,x.1≠i:=fun x hx=>by
 grind
theorem pc {p:Prop} {ps:List Prop} (h:p) (t:bm ps):bm (p :: ps):=⟨h,t⟩
theorem pn:bm []:=trivial
theorem z1 (n:Nat):0+n<=n:=z0
theorem cF {α:Type} (c:α->List AV) (d:α) (l:List α) (k:Nat) (x:α) (i:Nat) (hi:i < (l.set k x).length):c ((l.set k x).getD i d)=if i=k then c x else (fun zi=>c (l.getD zi d)) i :=
 EG c d l k x (fun _ _=>rfl) i hi
theorem az {α:Type} (l:List α) (k:Nat) (x:α):l.length=(l.set k x).length:=kH rfl
theorem bT {α:Type} (l m:List α):l.length+m.length=(l ++ m).length:=wo rfl rfl
end
def vj {A B:Type} (ck:A->AV) (cv:B->AV):List (A×B)->List AV
 | []=>[]
 | p :: r=>ck p.1 :: cv p.2 :: vj ck cv r
def ld {A B:Type} (eq:A->A->Bool):List (A×B)->A->Option B
 | [],_=>none
 | p :: r,x=>cond (eq p.1 x) (some p.2) (ld eq r x)
def CH {A B:Type} (eq:A->A->Bool):List (A×B)->A->B->List (A×B)
 | [],x,y=>[(x,y)]
 | p :: r,x,y=>cond (eq p.1 x) ((p.1,y) :: r) (p :: CH eq r x y)
theorem apn {P:Program} {kt:TypeId}:∀ a b:ByteArray,Ez P kt (aS a) (aS b)=some (iP a b):=fun _ _=>rfl
section
variable {P:Program} {kt:TypeId} {A B:Type} (ck:A->AV) (cv:B->AV) {eq:A->A->Bool} (h:∀ a b,Ez P kt (ck a) (ck b)=some (eq a b))
include h
theorem Pp:∀ (l:List (A×B)) (x:A),look P kt (vj ck cv l) (ck x)=some ((ld eq l x).map cv)
 | [],x=>rfl
 | p :: r,x=>by
  simp only [vj,look,h,ld]
  cases eq p.1 x with
  | true=>rfl
  | false=>exact Pp r x
theorem JH:∀ (l:List (A×B)) (x:A) (y:B),Jy P kt (vj ck cv l) (ck x) (cv y)=some (vj ck cv (CH eq l x y))
 | [],x,y=>rfl
 | p :: r,x,y=>by
  simp only [vj,Jy,h,CH]
  cases eq p.1 x with
  | true=>rfl
  | false=>simp only [JH r x y];rfl
theorem Xh {z:AV} {d:B} (hz:z=cv d) (l:List (A×B)) (x:A):(look P kt (vj ck cv l) (ck x)).map (fun zr=>zr.getD z)=some (cv ((ld eq l x).getD d)):=by
 simp_all [Pp,ld]
theorem look_ok {z:AV} {d:B} (hz:z=cv d) (l:List (A×B)) (x:A):(look P kt (vj ck cv l) (ck x)).map (fun zr=>AV.tup [zr.getD z,.atom (.bool zr.isSome)])=some (AV.tup [cv ((ld eq l x).getD d),aB (ld eq l x).isSome]):=by
 simp_all [Pp,ld]
end
def I:Bool:=true
def wI (x:Int):Prop:=-9223372036854775808<=x/\x<=9223372036854775807
def wK (k:IntKind) (x:Int):Prop:=k.min<=x/\x<=k.max
def wB (_:Bool):Prop:=True
def wS (s:ByteArray):Prop:=s.size<=9223372036854775807
def wL {A:Type} (wf:A->Prop) (l:List A):Prop:=l.length<=9223372036854775807/\∀ y,y∈l->wf y
def ub {α:Type} (l:List α) (i j:Nat):List α:=l.take i ++ l.drop j ++ l.drop (i+(l.length - j))
theorem Ol {α:Type} {l:List α} {i j:Nat} (h:i<=j/\j<=l.length):l.length=(ub l i j).length:=by simp [ub];omega
theorem abm {α:Type} (c:α->List AV) (d:α) (l:List α) (i j:Nat) (h:i<=j/\j<=l.length) (z:Nat) (hz:z < (ub l i j).length) :
  c ((ub l i j).getD z d)=if z < i - 0 then c (l.getD z d) else if z < (i - 0)+(l.length - j) then c (l.getD (bB j (z - (i - 0))) d) else c (l.getD z d):=by
 have hz:=Ol h ▸ hz
 have e1:(l.take i).length=i:=by simp;omega
 have e2:(l.take i ++ l.drop j).length=i+(l.length - j):=by simp;omega
 simp only [ub,Nat.sub_zero,ep,dc]
 grind
theorem Uu {α:Type} {l:List α} {a n:Nat} (h:0 < n/\a+n<=l.length):a=(l.take a).length:=by simp;omega
theorem afG {α:Type} (c:α->List AV) (d:α) (l:List α) (a z:Nat) (hz:z < (l.take a).length):c ((l.take a).getD z d)=c (l.getD z d):=by
 grind
def S8:Nat->List AV
 | 0=>[]
 | n+1=>.rk :: S8 n
theorem akc (n:Nat):(S8 n).length=n:=by induction n with
 | zero=>rfl
 | succ n ih=>simp [S8,ih]
theorem abn {n j:Nat} {x:AV} (h:(S8 n)[j]?=some x):x=.rk:=by
 induction n generalizing j with
 | zero=>simp [S8] at h
 | succ n ih=>grind [S8]
theorem ac9 {m sz:Nat} (g:Nat->List AV) (h:∀ i,oZ (g i)=true):∀ i,i < m+1->oZ (if i < m then g i else S8 sz)=true:=fun i _=>by
 split
 ·exact h i
 ·induction sz with
  | zero=>rfl
  | succ n ih=>simp only [S8,oZ,a7];exact ⟨rfl,ih⟩
theorem afH {α:Type} (c:α->List AV) (d:α) (l m:List α) (sz:Nat) {g2:Nat->List AV} (i:Nat) (hi:i < (l ++ m).length) (hm:m.length=1:=by rfl) (h2:c (m.getD 0 d)=g2 0:=by rfl) :
  c ((l ++ m).getD i d)=if i < l.length then (if i < l.length then c (l.getD i d) else S8 sz) else if i < l.length+1 then g2 (bB 0 (i - l.length)) else (if i < l.length then c (l.getD i d) else S8 sz):=by
 rw [aj7 c d l m i hi]
 by_cases h:i < l.length
 ·simp_all
 ·have WY:i - l.length=0:=by simp at hi;omega
  rw [if_neg h,if_neg h,if_pos (by simp at hi;omega),WY,h2];rfl
theorem afI {α:Type} (c:α->List AV) (d:α) (l m:List α) (sz:Nat) {p:Nat} (hp:p=l.length) {g2:Nat->List AV} (i:Nat) (hi:i < (l ++ m).length) (hm:m.length=1:=by rfl) (h2:c (m.getD 0 d)=g2 0:=by rfl) :
  c ((l ++ m).getD i d)=if i < p then (if i < p then c (l.getD i d) else S8 sz) else if i < p+1 then g2 (bB 0 (i - p)) else (if i < p then c (l.getD i d) else S8 sz):=by
 subst hp;exact afH c d l m sz i hi hm h2
theorem afJ {α:Type} {l m:List α} {p:Nat} (hp:p=l.length) (hm:m.length=1):p+1=(l ++ m).length:=by subst hp;simp [hm]
theorem ada {α:Type} (c:α->List AV) (d:α) (l m:List α) {off n:Nat} (hp:bB off n=l.length) {g2:Nat->List AV} (i:Nat) (hi:i < (l.drop off ++ m).length) (hm:m.length=1:=by rfl) (h2:c (m.getD 0 d)=g2 0:=by rfl) :
  c ((l.drop off ++ m).getD i d)=if i < n then c (l.getD (bB off i) d) else g2 (bB 0 (i - n)):=by
 rw [dc] at hp
 have hl:(l.drop off).length=n:=by rw [xP];omega
 by_cases h:i < n
 ·rw [if_pos h,dc]
  grind
 ·rw [if_neg h]
  rw [gI,hl,hm] at hi
  have e:i - n=0:=by omega
  rw [e]
  show _=g2 0
  simp_all
theorem S9 {α:Type} {l m:List α} {off n:Nat} (hp:bB off n=l.length) (hm:m.length=1):n+1=(l.drop off ++ m).length:=by
 rw [dc] at hp
 rw [gI,xP,hm];omega
theorem ay.split {P:Program} {E:Env} {fn:FuncId} {nt:Nat} {eC:Value->World->Prop} {kk:List Item} {s0:St} (t k off m:Nat) (o:Ob) (ht:fz s0.tm t=.os k off m) (ho:au s0.sq k=some o) (hv:(!o.var && Nat.ble 1 o.sz)=true) (hm:bB off m=o.len)
  (h1:ay P E fn nt eC kk ⟨s0.tm,sset s0.sq k ⟨false,o.sz,bB off m+1,o.pr,fun i=>if i < bB off m then o.get i else S8 o.sz⟩,s0.nk⟩)
  (h2:ay P E fn nt eC kk ⟨(t,.KG k off m) :: s0.tm,s0.sq,s0.nk⟩):ay P E fn nt eC kk s0:=by
 intro tm w hs hr b hb hk cs
 obtain ⟨S,μ,g,tg,zR,htm⟩:=hr
 simp only [a7,Bool.not_eq_true',Nat.ble_eq] at hv
 have hvt:=htm t
 rw [show fz s0.tm t=_ from ht] at hvt
 generalize ac8:tm.getD t undef=v at hvt
 cases hvt with
 | os pl Ax q1 q2 q3 =>
  rename_i cap a
  obtain ⟨mf,c,T,aj5,dS⟩:=g.rep.ob k o ho
  rw [Ax] at aj5;cases aj5
  have ez:bB off m=off+m:=dc _ _
  by_cases hc:m < cap
  ·have Au:0 < pl.cap:=by omega
   have gw:=g.write ho Ax Au dS (by omega) ⟨false,o.sz,bB off m+1,o.pr,fun i=>if i < bB off m then o.get i else S8 o.sz⟩ c rfl rfl (show bB off m+1<=pl.cap by omega) (fun i hi=>by
    show (if i < bB off m then o.get i else S8 o.sz).length=o.sz
    split
    ·exact dS.zw i (by omega)
    ·exact akc _) (fun i j x v hi hx hv=>by
    have hx:(if i < bB off m then o.get i else S8 o.sz)[j]?=some x:=hx
    split at hx
    ·exact dS.rep i j x v (by omega) hx hv
    ·rw [abn hx];exact .rk) (fun i x hx=>⟨(by
    obtain ⟨_,r2,r3⟩:=dW hx
    have r3:(if i < bB off m then o.get i else S8 o.sz)=[.mr x.1 x.2.1 x.2.2]:=r3
    split at r3
    ·grind [nh]
    ·have:=abn (n:=o.sz) (j:=0) (x:=.mr x.1 x.2.1 x.2.2) (by rw [r3];rfl)
     cases this),rfl⟩)
   have hw:w.setRow pl.dD c=w:=setRow_self w pl.dD c T (0,0) ((dS.dD Au).trans (by grind [gY]))
   rw [hw] at gw
   exact h1 tm w hs ⟨S,μ,gw.2,tg,zR,htm⟩ b hb hk cs
  ·have:cap=m:=by omega
   subst this
   refine h2 tm w hs ⟨S,μ,g,tg,zR,fun t'=>?_⟩ b hb hk cs
   show ak w S μ (tm.getD t' undef) (fz ((t,.KG k off cap) ::  s0.tm) t')
   simp only [fz]
   split
   ·rename_i hb
    rw [<- cw hb,ac8]
    exact .KG pl Ax q1 q3
   ·exact htm t'
noncomputable def both {A:Type} (x y:Option A):Option A:=open Classical in if x=y then x else none
theorem adb {A:Type} {x y:Option A} {r:A} (h:both x y=some r):x=some r/\y=some r:=by
 grind [both]
theorem ade {A:Type} (x:Option A):both x x=x:=by unfold both;rw [if_pos rfl]
abbrev rM {α:Type} (c:α->List AV) (d:α) (l:List α):Wd:=.sl l.length fun i=>c (l.getD i d)
abbrev pY {α:Type} (k:Nat) (c:α->List AV) (d:α) (l:List α):Od:=.arr k l.length fun i=>c (l.getD i d)
theorem Ta {α:Type} (c:α->List AV) (d:α) (l m:List α) (i:Nat) (hi:i < (l ++ m).length):c ((l ++ m).getD i d)=if i < l.length then c (l.getD i d) else (m.map c).getD (i - l.length) [] :=
 tK c d l m rfl (fun _ _=>rfl) (dJ c d m) i hi
theorem eR {α:Type} (c:α->List AV) (d:α) (l:List α) (i:Nat) (_:i < l.length):c (l.getD i d)=c (l.getD i d):=rfl
theorem eZ {α:Type} (c:α->List AV) (d:α) (l:List α) (i:Nat) (_:i < l.length):c (l.getD i d)=c (l.getD (bB 0 i) d):=rfl
theorem lR {α:Type} (n:Nat) (d:α):n=(List.replicate n d).length:=po.symm
theorem lQ {α:Type} (n:Nat) (d:α):(List.replicate n d).length<=n:=Nat.le_of_eq po
theorem oN (l:List (List AV)) (h:l.all AV.su=true:=by rfl) (i:Nat) (_:i < l.length):AV.su (l.getD (bB 0 i) [])=true:=by
 rw [show bB 0 i=i from rfl]
 have:=List.all_eq_true.1 h
 grind
theorem fL {α:Type} (c:α->List AV) (d:α) (l:List α) (h:∀ x,AV.Dx (c x)=true:=by exact fun _=>rfl) (i:Nat) (_:i < l.length):AV.Dx (c (l.getD i d))=true:=h _
noncomputable def bt (f:Func) (n:Nat):Code:=cat (amM f) (pth n)
theorem sO {P:Program} {f:FuncId} {m:Nat} {args:List AV} {σ gj:eE} {res:AV} (fu:Func) (nt:Nat) (h:∀ E,aP E m->ay P E f nt (aQ E gj res) [.code (bt fu 1)] ⟨HX args 0,σ,m⟩)
  (Un:m=0->σ=[]:=by first | exact fun _=>rfl | exact fun h=>absurd h (by decide)) (hf:P.funcs[f]?=some fu:=by kernel_rfl) (hb:fu.body=some (bt fu 1):=by kernel_rfl) (hn:fu.ntmps=nt:=by kernel_rfl) (ha:Nat.ble args.length nt=true:=by kernel_rfl) :
  Sound P f args σ m res gj:=sor hf hb hn ha Un h
section
variable {P:Program} {E:Env} {fn:FuncId} {nt:Nat} {eC:Value->World->Prop} {k:List Item} {st:St} {m:Nat}
theorem bc (hE:aP E m) (n:Nat) (orcs:List (Nat×rS)) (uX:List (Nat×Wd)) (fI:Ek) (nk:Nat) {ps:List Prop} (hp:bm ps) (hr:ay P E fn nt eC (tlK (nK n k)) (nS P nt m (Xg (nK n k)) orcs [] uX fI nk st)) (h0:Uq n k=true:=by kernel_rfl)
  (h:Ur (Pm P nt m (Xg (nK n k)) orcs [] uX fI nk st)=some ps:=by kernel_rfl) (hF:((Bv orcs || Nat.beq m 0) && noY orcs)=true:=by kernel_rfl):ay P E fn nt eC k st:=rnR hE n orcs [] uX fI nk hp hr h0 h hF
theorem cd (hE:aP E m) (n:Nat) (uX:List (Nat×Wd)) (fI:Ek) (nk:Nat) {ps:List Prop} (hp:bm ps) (hr:ay P E fn nt eC (tlK (nK n k)) (nS P nt m (Xg (nK n k)) [] [] uX fI nk st)) (h0:Uq n k=true:=by kernel_rfl)
  (h:Ur (Pm P nt m (Xg (nK n k)) [] [] uX fI nk st)=some ps:=by kernel_rfl):ay P E fn nt eC k st:=rnR hE n [] [] uX fI nk hp hr h0 h rfl
theorem aj (hE:aP E m) (n:Nat) (uX:List (Nat×Wd)) (fI:Ek) (nk:Nat) (hr:ay P E fn nt eC (tlK (nK n k)) (nS P nt m (Xg (nK n k)) [] [] uX fI nk st)) (h0:Uq n k=true:=by kernel_rfl)
  (h:Ur (Pm P nt m (Xg (nK n k)) [] [] uX fI nk st)=some []:=by kernel_rfl):ay P E fn nt eC k st:=rnR hE n [] [] uX fI nk pn hr h0 h rfl
theorem cy (hE:aP E m) (n:Nat) (uX:List (Nat×Wd)) (fI:Ek) (nk:Nat) {k':List Item} {Jj:St} (hr:ay P E fn nt eC k' Jj)
  (h0:Ab.Oj n k=some k':=by kernel_rfl) (h:Ni m st [] uX fI nk=some ([],Jj):=by kernel_rfl):ay P E fn nt eC k st:=rnW hE n [] uX fI nk pn hr h0 h rfl
theorem fw (hE:aP E m) (n:Nat) (f:Func) (uX:List (Nat×Wd)) (fI:Ek) (nk:Nat) {res:AV} {gj:eE}
  (h0:Uq n k=true:=by kernel_rfl) (hx:Xg (nK n k)=.ret:=by kernel_rfl) (h:Ur (Ni m st [] uX fI nk)=some []:=by kernel_rfl) (hf:P.funcs[fn]?=some f:=by kernel_rfl)
  (h2:DC P f (nV m st [] uX fI nk)=some ([],res):=by kernel_rfl) (Un:Hx (nV m st [] uX fI nk).sq []=gj:=by kernel_rfl):ay P E fn nt (aQ E gj res) k st :=
 jn hE n f [] uX fI nk pn [] pn h0 hx h hf h2 Un rfl
end
end Go.Ab
namespace Go.Ab
open Go.ChangeShapes Go.WideShapes Go.ChangeAt Go.RowKit
def Y7 (w:World) (b:Nat):Prop:=b < w.heap.size
def JI (w:World) (cs:List Value) (c:List AV):Prop :=
 cs.length=c.length/\∀ (j:Nat) (a:AV) (v:Value),c[j]?=some a->cs[j]?=some v->ak w (Y7 w) kF v a
theorem JI.nil {w:World}:JI w [] []:=⟨rfl,fun j a v h=>by simp at h⟩
theorem JI.append {w:World} {a b:List Value} {c d:List AV} (h1:JI w a c) (h2:JI w b d):JI w (a ++ b) (c ++ d):=by
 refine ⟨by simp [h1.1,h2.1],fun j x v hx hv=>?_⟩
 by_cases hj:j < a.length
 ·rw [jj (by rw [<- h1.1];exact hj)] at hx
  rw [jj hj] at hv
  exact h1.2 j x v hx hv
 ·rw [kU (by rw [<- h1.1];omega)] at hx
  rw [kU (by omega)] at hv
  rw [<- h1.1] at hx
  exact h2.2 _ x v hx hv
theorem JI.step {w:World} {cs:List Value} {o n:Nat} {c d:List AV} (h1:JI w ((cs.drop o).take n) c) (h2:JI w (cs.drop (o+n)) d):JI w (cs.drop o) (c ++ d):=by
 have e:cs.drop o=(cs.drop o).take n ++ cs.drop (o+n):=by rw [<- List.drop_drop];exact (List.take_append_drop n _).symm
 rw [e];exact h1.append h2
theorem JI.done {w:World} {cs:List Value} {o:Nat} (h:cs.length=o):JI w (cs.drop o) []:=by
 rw [List.drop_of_length_le (by omega)];exact .nil
theorem JI.one {w:World} {v:Value} {a:AV} (h:ak w (Y7 w) kF v a):JI w [v] [a]:=by
 refine ⟨rfl,fun j x u hx hu=>?_⟩
 cases j with
 | zero=>simp at hx hu;subst hx hu;exact h
 | succ j=>simp at hx
def iz (P:Program) (t:TypeId) {A:Type} (wf:A->Prop) (c:A->List AV):Prop :=
 ∀ (H:Type) (enc:TypeId×Value->H) (w:World) (n:Nat) (cs:List Value) (x:DataW H×List MemPlace),DataW.trod enc P w 0 (fun _=>true) true n t cs=some x->∃ y:A,wf y/\JI w cs (c y)
variable {P:Program} {t e:TypeId}
theorem iz.int (ht:P.underlying t=some (.int .i64)):iz P t wI cI:=by
 intro H enc w n cs x h
 obtain ⟨n,rfl,_,hw⟩:=DataW.trod_int ht h
 refine ⟨n,?_,JI.one (.atom _)⟩
 simp [Lit.wf,IntKind.min,IntKind.max,IntKind.signed,IntKind.bits] at hw
 exact ⟨by omega,by omega⟩
theorem iz.bool (ht:P.underlying t=some .bool):iz P t wB cB:=by
 intro H enc w n cs x h
 obtain ⟨b,rfl,_⟩:=DataW.trod_bool ht h
 exact ⟨b,trivial,JI.one (.atom _)⟩
theorem iz.str (ht:P.underlying t=some .string):iz P t wS cS:=by
 intro H enc w n cs x h
 obtain ⟨s,rfl,_,hs⟩:=DataW.trod_string ht h
 refine ⟨s,?_,JI.one (.atom _)⟩
 unfold maxLen at hs;unfold wS;omega
theorem Xi {a:Addr} (h:a.spot=none) (n:Nat):a.add n=⟨a.block,a.off+n,none⟩:=by
 obtain ⟨b,o,s⟩:=a
 simp only at h;subst h
 unfold Addr.add
 by_cases h:n=0<;>simp [h]
theorem iz.slice {A:Type} {wf:A->Prop} {c:A->List AV} (d:A) (ht:P.underlying t=some (.slice e)) (he:iz P e wf c) {sz:Nat} (hs:P.cellsOf e=sz) (hz:0 < sz) (hc:∀ y,(c y).length=sz) :
  iz P t (wL wf) (fun l=>[b5 c d l]):=by
 intro H enc w n cs x h
 rcases Go.Deep.open_slice ht h with ⟨rfl,_⟩ | ⟨a,len,cap,m,k,D,Pl,rfl,_,hlc,hcm,hm,_,hx⟩
 ·refine ⟨[],⟨by simp,by simp⟩,JI.one ?_⟩
  exact .sl 0 0 0 (fun _ _=>default) (fun h=>absurd h (fj _)) (fun i h=>absurd h (fj _)) (fun i j h=>absurd h (fj _)) (fun i j c h=>absurd h (fj _)) (aN _)
 ·simp only [if_true] at hm
  subst hm
  rw [hs] at hx
  have Dz:∀ i,i < len->∃ z:List Value×A,w.cells? 0 (a.add (i * sz)) sz=some z.1/\wf z.2/\JI w z.1 (c z.2):=fun i hi=>by
   obtain ⟨SI,h1,h2⟩:=hx i (by omega)
   obtain ⟨y,hy,RN⟩:=he H enc w k SI _ h2
   exact ⟨(SI,y),h1,hy,RN⟩
  haveI:Inhabited (List Value×A):=⟨([],d)⟩
  obtain ⟨Z,hZ⟩:=Go.Deep.choose_lt Dz
  have hlen:((List.range len).map fun i=>(Z i).2).length=len:=by simp
  have ui:∀ i,i < len->((List.range len).map fun i=>(Z i).2).getD i d=(Z i).2:=fun i hi=>by
   simp [List.getD,hi]
  have MM:∀ i j,i < len->j < sz->w.cell? ((a.add (i * sz)).add j)=some ((Z i).1.getD j default):=fun i j hi hj=>by
   obtain ⟨_,hl,hg⟩:=World.cells?_some (hZ i hi).1
   rw [hg j hj]
   have:j < (Z i).1.length:=by omega
   simp [List.getD,this]
  have afK:0 < len->a.spot=none/\a.block < w.heap.size:=fun h0=>by
   have:=MM 0 0 h0 hz
   simp only [Nat.zero_mul,Addr.add,if_true] at this
   unfold World.cell? at this
   split at this
   ·rename_i cc tt ff hh
    refine ⟨?_,(Array.getElem?_eq_some_iff.1 hh).1⟩
    cases hs:a.spot with
    | none=>rfl
    | some z=>simp [hs] at this
   ·cases this
  refine ⟨(List.range len).map fun i=>(Z i).2,⟨by rw [hlen];unfold maxLen at hcm;omega,?_⟩,JI.one ?_⟩
  ·intro y hy
   simp only [List.mem_map,zP] at hy
   obtain ⟨i,hi,rfl⟩:=hy
   exact (hZ i hi).2.1
  ·unfold b5
   rw [hlen]
   refine .sl a.block a.off sz (fun i j=>(Z i).1.getD j default) (fun h0=>⟨?_,(afK h0).2⟩) (fun i hi=>hc _) (fun i j hi hj=>?_) (fun i j x hi hx=>?_) hlc
   ·have:=(afK h0).1
    obtain ⟨b,o,s⟩:=a
    simp only at this;subst this;rfl
   ·have h0:=(afK (by omega)).1
    have:=MM i j hi hj
    rwa [Xi h0,Xi rfl] at this
   ·rw [ui i hi] at hx
    have hj:j < (c (Z i).2).length:=(fe.1 hx).1
    have hj2:j < (Z i).1.length:=by rw [(hZ i hi).2.2.1];exact hj
    refine (hZ i hi).2.2.2 j x _ hx ?_
    simp [List.getD,hj2]
theorem ti {H:Type} {enc:TypeId×Value->H} {w:World} {fs:Array Field} {n:Nat} {cs:List Value} {x:DataW H×List MemPlace} (ht:P.underlying t=some (.struct fs)) (h:DataW.trod enc P w 0 (fun _=>true) true n t cs=some x) :
  cs.length=P.cellsOf t/\∃ m,∀ (i:Nat) (f:Field),fs[i]?=some f->∃ y,DataW.trod enc P w 0 (fun _=>true) true m f.type ((cs.drop f.offset).take (P.cellsOf f.type))=some y:=by
 obtain ⟨xs,m,_,_,hl,hx,hf⟩:=DataW.trod_struct ht h
 refine ⟨hl,m,fun i f hi=>?_⟩
 rw [hf i f hi]
 have:i < xs.length:=by rw [hx];exact (Array.getElem?_eq_some_iff.1 hi).1
 exact ⟨xs[i],ud this⟩
theorem j7 {H:Type} {enc:TypeId×Value->H} {w:World} {fs:Array Field} {m:Nat} {cs:List Value} (hf:∀ (i:Nat) (f:Field),fs[i]?=some f->∃ y,DataW.trod enc P w 0 (fun _=>true) true m f.type ((cs.drop f.offset).take (P.cellsOf f.type))=some y)
  (i:Nat) {te:TypeId} (o n:Nat) {A:Type} {wf:A->Prop} {c:A->List AV} (he:iz P te wf c) (hi:(fs[i]?).map (fun (f:Field)=>(f.type,f.offset))=some (te,o)) (hn:P.cellsOf te=n):∃ y:A,wf y/\JI w ((cs.drop o).take n) (c y):=by
 simp only [aW,aG] at hi
 obtain ⟨f,hf1,hf2,hf3⟩:=hi
 obtain ⟨y,hy⟩:=hf i f hf1
 rw [hf2,hf3,hn] at hy
 exact he H enc w m _ y hy
section
variable {H:Type} {enc:TypeId×Value->H} {w:World} {base:Nat} {v:Value} {d:DataW H} {ps:List MemPlace} {A:Type} {wf:A->Prop}
theorem adf {fs:Array Field} {c:A->List AV} (ht:P.underlying t=some (.struct fs)) (ho:iz P t wf c) (hv:Value.okWide P w .any base t v) (h:DataW.Trod enc P w 0 (fun _=>true) true t v d ps):∃ y,wf y/\ak w (Y7 w) kF v (.agg (c y)):=by
 obtain ⟨cs,rfl,_⟩:=okWide_struct ht hv
 obtain ⟨n,hn⟩:=h
 obtain ⟨y,hy,hs⟩:=ho H enc w n _ _ hn
 refine ⟨y,hy,.agg (by simpa [Value.cells] using hs.1) fun j x u hx hu=>hs.2 j x u hx (by simpa [Value.cells] using hu)⟩
theorem RL.nil {S:Nat->Prop} {μ:Mu}:RL w S μ #[] []:=⟨rfl,fun j c v h=>by simp at h⟩
theorem rl1 {S:Nat->Prop} {μ:Mu} {v0:Value} {a0:AV} (h0:ak w S μ v0 a0):RL w S μ #[v0] [a0]:=by
 refine ⟨rfl,fun j c v hc hv=>?_⟩
 match j with
 | 0=>simp at hc hv;subst hc hv;exact h0
 | j+1=>simp at hc
end
theorem abo {H:Type} {enc:TypeId×Value->H} (hl:laidOutB P=true) {W W':World} (hb:Below W.heap.size W W') (sp:Nat->Bool) :
  ∀ (ts:List TypeId) (vs:List Value) (ds:List (DataW H)) (p:List MemPlace),(ts.all fun t=>P.readableRec t && decide (t < P.types.size))=true->(∀ x∈p,x.block < W.heap.size)->(∀ x∈p,sp x.block=true) ->
   DataW.TrodAll enc P W 0 (fun _=>true) true ts vs ds p->DataW.TrodAll enc P W' 0 sp true ts vs ds p
 | [],[],[],_,_,_,_,h=>h
 | t :: ts,v :: vs,d :: ds,p,hr,iQ,hsp,h=>by
  obtain ⟨a,b,h1,h2,rfl⟩:=h
  simp only [List.all_cons,a7,decide_eq_true_eq] at hr
  refine ⟨a,b,?_,abo hl hb sp ts vs ds b (by simpa using hr.2) (fun x hx=>iQ x (by simp [hx])) (fun x hx=>hsp x (by simp [hx])) h2,rfl⟩
  exact WideElems.Trod_stays hl hr.1.1 hr.1.2 h1 (fun x hx=>hb.same (iQ x (by simp [hx]))) (fun x hx=>hsp x (by simp [hx]))
theorem afL {H:Type} {enc:TypeId×Value->H} {f:FuncId} {fn:Func} {s:ChangeSpec} {apart fresh handsOn again:Bool} {W:World} {args:Array Value} {ds gs:List (DataW H)} {before:List MemPlace} {tb:TypeId} {avs:List AV}
  (alw:s.vars=[]) (hl:laidOutB P=true) (apq:(fn.params.toList.all fun t=>P.readableRec t && decide (t < P.types.size))=true) (acU:fn.resultTypes=#[tb]) (hb:P.underlying tb=some .bool)
  (hfn:s.fn H ds={ results:=[.lit (.bool true)],args:=ds })
  (hW:DataW.Whole enc P fn.params.toList s.vars apart W args.toList ds gs before)
  (apr:RL W (Y7 W) kF args avs) (hs:Sound P f avs [] 0 (aB true) []) :
  Calls P f args W fun e W'=>∃ v,e=.returned v/\s.post enc P fn apart fresh handsOn again W args v W':=by
 have aps:Good (Eu W (Y7 W) [] kF 0) [] (Y7 W) kF W:=by
  refine ⟨Fr.refl _ _,fun _ h=>h,fun _ h=>h,fun _ h=>.inl h,?_,fun k o pl h=>(by cases h),fun k hk=>absurd hk (fj _),MX.nil fun k o i h=>by cases h⟩
  constructor<;>intros<;>simp_all [au]
 refine (hs W (Y7 W) kF args aps (fun _ _=>rfl) apr).mono fun e W' ⟨v,S',eB,he,hg,hv⟩=>?_
 have Y8:Below W.heap.size W W':=⟨hg.fr.os,hg.fr.tape,hg.fr.output,hg.fr.size,fun b hb=>hg.fr.dD b hb (fun h=>h.elim (fun ⟨k,o,pl,h,_⟩=>by cases h) (fun ⟨k,i,x,v,⟨o,pl,h,_⟩,_⟩=>by cases h))⟩
 have yB:v=.bool true:=by cases hv;rfl
 subst he yB
 refine ⟨_,rfl,?_⟩
 have hW':=hW
 obtain ⟨p,q,hA,hV,rfl,hfz,hnd⟩:=hW
 rw [alw] at hV
 obtain ⟨rfl,rfl⟩:=trodVars_none hV
 rw [List.append_nil] at hW'
 have iQ:∀ x∈p,x.block < W.heap.size:=fun x hx=>hW'.lt x hx
 have hre:∀ sp:Nat->Bool,(∀ x∈p,sp x.block=true)->DataW.TrodAll enc P W' 0 sp true fn.params.toList args.toList (s.fn H (ds ++ [])).args p:=fun sp hsp=>by
  rw [List.append_nil,hfn]
  exact abo hl Y8 sp _ _ _ _ apq iQ hsp hA
 have hvs:∀ sp:Nat->Bool,DataW.TrodVars enc P W' sp s.vars (s.fn H (ds ++ [])).vars []:=fun sp=>by
  rw [List.append_nil,hfn,alw];rfl
 have hrs:∀ (b:Nat) (sp:Nat->Bool) (hd:Bool),DataW.TrodAll enc P W' b sp hd fn.resultTypes.toList ((Value.bool true).resultList fn.resultTypes.size) (s.fn H (ds ++ [])).results []:=fun b sp hd=>by
  rw [List.append_nil,hfn,acU]
  exact trodAll_mk1 (shut_bool hb true)
 refine ⟨ds,[],p,[],p,[],hW',hrs _ _ _,hre _ (fun x hx=>by simpa using iQ x hx),hvs _,World.keptBut_mono (fun x hx=>⟨hx,Or.inr (Or.inl hx)⟩) (Y8.frame _),fun _=>?_⟩
 refine ⟨ok_one acU rfl (okWide_bool_mk hb _),(s.fn H (ds ++ [])).results ++ (s.fn H (ds ++ [])).args,_,p,⟨p,[],trodAll_append (hre _ (fun _ _=>rfl)) (hrs _ _ _),hvs _,by simp,?_,by simpa using hnd⟩,fun x hx _=>hx⟩
 ·intro b off hp
  exact (Y8.frozen (iQ _ hp)).trans (hfz b off (by simpa using hp))
end Go.Ab
namespace Go.Ab
def JJ:Obj->Bool
 | .loop _=>true
 | .deferred _=>true
 | .mapIter _ _ _ _=>true
 | _=>false
theorem Y9 (sz:Nat) (c:Array Value) (T:TypeId):JJ (HL sz c T)=false:=by
 cases sz<;>rfl
theorem Xj {w:World} {l:Nat} {o o':Obj} (h:w.heap[l]?=some o) (ho:JJ o=true) (Cq:JJ o'=true) (a:Addr):(w.putObj l o').cell? a=w.cell? a:=by
 unfold World.cell?
 by_cases e:a.block=l
 ·rw [e,h,World.putObj_heap_same (Array.getElem?_eq_some_iff.1 h).1]
  cases o<;>cases o'<;>simp_all [JJ]
 ·rw [World.putObj_heap_other e]
theorem ak.vk {w w':World} {S S':Nat->Prop} (hS:∀ b,S b->S' b) (hc:∀ a,w'.cell? a=w.cell? a) {μ:Mu} {v:Value} {x:AV} (h:ak w S μ v x):ak w' S' μ v x:=by
 induction h with
 | atom v=>exact .atom v
 | agg h1 _ ih=>exact .agg h1 ih
 | tup h1 _ ih=>exact .tup h1 ih
 | sl b off sz f h1 h2 h3 _ h5 ih=>exact .sl b off sz f (fun hl=>⟨(h1 hl).1,hS _ (h1 hl).2⟩) h2 (fun i j hi hj=>(hc _).trans (h3 i j hi hj)) ih h5
 | rp b o f h1 h2 _ ih=>simp_all [rp,trans]
 | op pl h=>exact .op pl h
 | os pl h h1 h2 h3=>exact .os pl h h1 h2 h3
 | fn h1 h2 _ _ ih1 ih2=>exact .fn h1 h2 ih1 ih2
 | when _ hu ih=>exact .when ih hu
 | mp pl h=>exact .mp pl h
 | bn b h=>exact .bn b h
 | pt _ h2 ih=>exact .pt ih h2
 | ov pl h h1=>exact .ov pl h h1
 | KG pl h h1 h2=>exact .KG pl h h1 h2
 | nq _ h1 h2 ih=>exact .nq ih h1 h2
 | nil=>exact .nil
 | rk=>exact .rk
 | mr=>exact .mr
theorem jq.vk {w w':World} {S S':Nat->Prop} {μ:Mu} {o:Ob} {pl:Place} {c:Array Value} {T:TypeId} (h:jq w S μ o pl c T) (hS:∀ b,S b->S' b) (hc:∀ a,w'.cell? a=w.cell? a)
  (hb:0 < pl.cap->w'.heap[pl.dD]?=w.heap[pl.dD]?) (ho:0 < pl.cap->¬ S' pl.dD):jq w' S' μ o pl c T :=
 { h with
  dD:=fun hc=>(hb hc).trans (h.dD hc)
  out:=ho
  rep:=fun i j x v hi hx hv=>(h.rep i j x v hi hx hv).vk hS hc
  mp:=fun hz=>let ⟨h0,h1,h2,h3,h4⟩:=h.mp hz;⟨h0,h1,h2,h3,fun j x v hx hv=>(h4 j x v hx hv).vk hS hc⟩ }
theorem Good.amP {E:Env} {σ:eE} {S:Nat->Prop} {μ:Mu} {w:World} (g:Good E σ S μ w) {k:Nat} {o:Ob} {pl:Place} (ho:au σ k=some o) (hm:μ k=some pl) (hc:0 < pl.cap) {l:Nat} {ob:Obj}
  (hl:w.heap[l]?=some ob) (ha:JJ ob=true):pl.dD≠l:=by
 obtain ⟨mf,c,T,jl,h⟩:=g.rep.ob k o ho
 rw [hm] at jl;cases jl
 rintro rfl
 rw [h.dD hc] at hl
 grind [Y9]
theorem Good.amQ {E:Env} {σ:eE} {S:Nat->Prop} {μ:Mu} {w:World} (g:Good E σ S μ w) {k i:Nat} {x:Nat×Nat×(Nat->List AV)} {v:Value} {b:Nat} (hv:kr w μ σ k i x v) (hb:ptrTo v b) {l:Nat} {ob:Obj}
  (hl:w.heap[l]?=some ob) (ha:JJ ob=true):b≠l:=by
 obtain ⟨_,_,_,c,T,h⟩:=g.mx.dD hv hb
 rintro rfl
 rw [h] at hl
 cases hl;cases ha
theorem MX.aux {fp fp':Nat->Prop} {n0 n0':Nat} {w w':World} {S S':Nat->Prop} {μ:Mu} {σ:eE} (h:MX fp n0 w S μ σ) (hS:∀ b,S b->S' b) (hc:∀ a,w'.cell? a=w.cell? a)
  (hp:∀ k i x v b,kr w' μ σ k i x v->kr w μ σ k i x v->ptrTo v b->w'.heap[b]?=w.heap[b]?/\¬ S' b/\((fp b\/n0<=b)->(fp' b\/n0'<=b))):MX fp' n0' w' S' μ σ:=by
 have back:∀ {k i x v},kr w' μ σ k i x v->kr w μ σ k i x v:=fun ⟨o,pl,h1,h2,h3,h4⟩=>⟨o,pl,h1,h2,h3,by rw [<- hc];exact h4⟩
 refine ⟨fun k i x v hv=>?_,fun k i x v b hv=>h.obj k i x v b (back hv),fun k i x v b k' i' x' v' hv yB=>h.two k i x v b k' i' x' v' (back hv) (back yB)⟩
 obtain ⟨a,cap,rfl,h1,h2,h3⟩:=h.row _ _ _ _ (back hv)
 refine ⟨a,cap,rfl,h1,h2,fun Au=>?_⟩
 obtain ⟨b,c,T,rfl,h4,h5⟩:=h3 Au
 obtain ⟨p1,p2,p3⟩:=hp _ _ _ _ b hv (back hv) ⟨_,_,rfl,Au⟩
 exact ⟨b,c,T,rfl,h4.vk hS hc (fun _=>p1) (fun _=>p2),p3 h5⟩
theorem Good.put {E:Env} {σ:eE} {S:Nat->Prop} {μ:Mu} {w:World} (g:Good E σ S μ w) {l:Nat} {o o':Obj} (h:w.heap[l]?=some o) (ho:JJ o=true) (Cq:JJ o'=true) (hl:E.w0.heap.size<=l\/E.fp l) :
  Good E σ S μ (w.putObj l o'):=by
 have hc:=Xj h ho Cq
 refine ⟨⟨g.fr.os,g.fr.tape,g.fr.output,by simpa using g.fr.size,fun b hb hf=>?_⟩,g.S0,fun b hb=>by simpa using g.S1 b hb,g.S2,⟨fun k x hx=>?_,g.rep.ne⟩,g.own,g.Oc,
  g.mx.aux (fun _ h=>h) hc fun k i x v b _ hv hb=>⟨World.putObj_heap_other (g.amQ hv hb h ho),(g.mx.dD hv hb).2.1,fun h=>h⟩⟩
 ·have gH:b≠l:=by rintro rfl;rcases hl with h | h;omega;exact hf h
  rw [World.putObj_heap_other gH];exact g.fr.dD b hb hf
 ·obtain ⟨pl,c,T,hm,hr⟩:=g.rep.ob k x hx
  exact ⟨pl,c,T,hm,hr.vk (fun _ h=>h) hc (fun DX=>World.putObj_heap_other (g.amP hx hm DX h ho)) hr.out⟩
theorem Good.aux {E:Env} {σ:eE} {S:Nat->Prop} {μ:Mu} {w:World} (g:Good E σ S μ w) (o:Obj) (ho:JJ o=true) :
  Ext w S μ (w.alloc o) (fun b=>S b\/b=w.heap.size) μ/\Good E σ (fun b=>S b\/b=w.heap.size) μ (w.alloc o):=by
 have hold:∀ b,b < w.heap.size->(w.alloc o).heap[b]?=w.heap[b]?:=fun b hb=>gJ hb
 have ajr:(w.alloc o).heap[w.heap.size]?=some o:=World.alloc_heap_new w o
 have e:Ext w S μ (w.alloc o) (fun b=>S b\/b=w.heap.size) μ:=⟨by simp,fun _ h=>.inl h,fun b hb=>hold b (g.S1 b hb),fun _ _ h=>h⟩
 refine ⟨e,⟨g.fr.os,g.fr.tape,g.fr.output,by have:=g.fr.size;simp;omega,fun b hb hf=>(hold b (uf hb g.fr.size)).trans (g.fr.dD b hb hf)⟩,fun b hb=>.inl (g.S0 b hb),?_,?_,⟨fun k x hx=>?_,g.rep.ne⟩,g.own,g.Oc,g.YJ hold (fun _ h=>.inl h) (fun b h=>h.elim .inl fun h=>.inr (Nat.le_of_eq h.symm))⟩
 ·rintro b (hb | rfl)
  ·have:=g.S1 b hb;simp;omega
  ·simp
 ·rintro b (hb | rfl)
  ·exact g.S2 b hb
  ·exact .inr g.fr.size
 ·obtain ⟨pl,c,T,hm,hr⟩:=g.rep.ob k x hx
  have iQ:0 < pl.cap->pl.dD < w.heap.size:=fun hc=>iV (hr.dD hc)
  refine ⟨pl,c,T,hm,hr.ext e (fun hc=>hold _ (iQ hc)) (fun hc=>?_)⟩
  rintro (h | h)
  ·exact hr.out hc h
  ·have:=iQ hc;omega
def apu (w:World) (S:Nat->Prop) (σ:eE) (μ:Mu) (m:Nat):Env:=⟨w,S,ajB w σ μ,μ,m⟩
theorem Good.base {E:Env} {σ:eE} {S:Nat->Prop} {μ:Mu} {w:World} (g:Good E σ S μ w) (m:Nat):Good (apu w S σ μ m) σ S μ w :=
 ⟨Fr.refl _ _,fun _ h=>h,g.S1,fun _ h=>.inl h,g.rep,fun k o pl ho hm hc=>.inl (.inl ⟨k,o,pl,ho,hm,hc,rfl⟩),fun _ _=>rfl,
  g.mx.aux (fun _ h=>h) (fun _=>rfl) fun k i x v b hv _ hb=>⟨rfl,(g.mx.dD hv hb).2.1,fun _=>.inl (.inr ⟨k,i,x,v,hv,hb⟩)⟩⟩
def WI (P:Program) (E:Env) (nt:Nat) (c:Code) (st Jj:St):Prop:=∀ (l:Nat) (tm:Array Value) (w:World),tm.size=nt->Rep E st tm w ->
 c.wpIn (FW (some l)) 0 P (fun e a w'=>e=.normal/\a.tmps.size=nt/\a.defers=[]/\Rep E Jj a.tmps w') ⟨tm,[]⟩ w
theorem WI.seq {P:Program} {E:Env} {nt:Nat} {x y:Code} {st st1 st2:St} (h1:WI P E nt x st st1) (h2:WI P E nt y st1 st2):WI P E nt (.seq x y) st st2:=by
 intro l tm w hs hr
 refine wpIn_seq (wpIn_mono (h1 l tm w hs hr) ?_)
 rintro e ⟨t,ds⟩ w' ⟨rfl,q1,q2,q3⟩
 simp only at q1 q2
 subst q2
 exact h2 l t w' q1 q3
theorem WI.block {P:Program} {E:Env} {nt:Nat} {id:Nat} {x:Code} {st st1:St} (h1:WI P E nt x st st1):WI P E nt (.block id x) st st1:=by
 intro l tm w hs hr
 refine wpIn_block (wpIn_mono (h1 l tm w hs hr) ?_)
 rintro e a w' ⟨rfl,q1,q2,q3⟩
 exact ⟨rfl,q1,q2,q3⟩
theorem WI.rw {P:Program} {E:Env} {nt m:Nat} {c:Code} {orcs:List (Nat×rS)} {F:List Nat} {uX:List (Nat×Wd)} {fI:Ek} {nk:Nat} {st Jj:St} (hE:aP E m) {ps:List Prop}
  (h:Pm P nt m c orcs F uX fI nk st=some (ps,Jj)) (hF:(((F.isEmpty && Bv orcs) || Nat.beq m 0) && noY orcs)=true) (hp:bm ps):WI P E nt c st Jj:=by
 intro l tm w hs hr
 unfold Pm at h
 split at h
 ·rename_i p1 s1 h1
  split at h
  ·rename_i q1 s2 h2
   simp only [aL,aG] at h
   obtain ⟨rfl,rfl⟩:=h
   obtain ⟨Ej,DZ⟩:=bm.app hp
   obtain ⟨hF,hY⟩:=Jl.1 hF
   have hz:Bv orcs=true\/∀ b,¬ E.fp b:=by
    rcases Bool.or_eq_true_iff.1 hF with h | h
    ·simp_all
    ·exact .inr (hE.fp (cw h))
   have hF':F.isEmpty=true\/∀ b,¬ E.fp b:=by
    rcases Bool.or_eq_true_iff.1 hF with h | h
    ·simp_all
    ·exact .inr (hE.fp (cw h))
   refine wpIn_mono (EE (rd:=some l) (ds:=[]) hz (Ul hY) h1 Ej hs hr) ?_
   rintro e a w' ⟨rfl,q1,q2,q3⟩
   refine ⟨rfl,q1,q2,Ph (by rw [hE.m0];exact h2) DZ hF' q3⟩
  ·cases h
 ·cases h
abbrev afM (D:Nat):Deferred:={ target:=.collected D,args:=#[] }
def rN (P:Program) (E:Env) (D:Nat) (fn:FuncId) (nt:Nat) (eC:Value->World->Prop) (k:List Item) (st:St):Prop :=
 ∀ (tm:Array Value) (w:World),tm.size=nt->Rep E st tm w->∀ (b:Frame),b.fn=fn->b.kind=.normal->∀ cs,
  ∃ v w' fr,eC v w'/\Steps P (lone (b.at ⟨tm,[afM D]⟩ k) cs w) (lone fr cs w')/\fr.fn=fn/\fr.leaving P w' (.returned v)
section
variable {P:Program} {E E9:Env} {D:Nat} {fn:FuncId} {nt:Nat} {eC:Value->World->Prop} {k k':List Item} {st Jj:St}
theorem rN.step (h:rN P E D fn nt eC k' st) (hs:∀ (b:Frame) (a:Act) (cs:List Frame) (w:World),step P (lone (b.at a k) cs w)=.next (lone (b.at a k') cs w)):rN P E D fn nt eC k st:=by
 intro tm w h1 h2 b h3 h4 cs
 obtain ⟨v,w',fr,q1,q2,q3,q4⟩:=h tm w h1 h2 b h3 h4 cs
 exact ⟨v,w',fr,q1,.head (hs b ⟨tm,[afM D]⟩ cs w) q2,q3,q4⟩
theorem rN.seq {x y:Code} (h:rN P E D fn nt eC (.code x :: .code y :: k) st):rN P E D fn nt eC (.code (.seq x y) :: k) st:=h.step fun _ _ _ _=>step_seq
theorem rN.inBlock {id:Nat} (h:rN P E D fn nt eC k st):rN P E D fn nt eC (.inBlock id :: k) st:=h.step fun _ _ _ _=>step_inBlock
theorem rN.rw {m:Nat} {c:Code} {orcs:List (Nat×rS)} {F:List Nat} {uX:List (Nat×Wd)} {fI:Ek} {nk:Nat} (hE:aP E m) {ps:List Prop}
  (h:Pm P nt m c orcs F uX fI nk st=some (ps,Jj)) (hF:(((F.isEmpty && Bv orcs) || Nat.beq m 0) && noY orcs)=true) (hp:bm ps) (hr:rN P E D fn nt eC k Jj):rN P E D fn nt eC (.code c :: k) st:=by
 unfold Pm at h
 split at h
 ·rename_i p1 s1 h1
  split at h
  ·rename_i q1 s2 h2
   simp only [aL,aG] at h
   obtain ⟨rfl,rfl⟩:=h
   obtain ⟨Ej,DZ⟩:=bm.app hp
   obtain ⟨hF,hY⟩:=Jl.1 hF
   have hz:Bv orcs=true\/∀ b,¬ E.fp b:=by
    rcases Bool.or_eq_true_iff.1 hF with h | h
    ·simp_all
    ·exact .inr (hE.fp (cw h))
   have hF':F.isEmpty=true\/∀ b,¬ E.fp b:=by
    rcases Bool.or_eq_true_iff.1 hF with h | h
    ·simp_all
    ·exact .inr (hE.fp (cw h))
   intro tm w hs HN b wV ss cs
   have hwp:=(wpIn_wide (n:=0)).1 (EE (rd:=none) (ds:=[afM D]) hz (Ul hY) h1 Ej hs HN)
   obtain ⟨e,a',w',⟨rfl,q1,q2,q3⟩,amK⟩:=hwp b k cs
   have ha:a'=⟨a'.tmps,[afM D]⟩:=by cases a';simp at q2;simp [q2]
   obtain ⟨v,w'',fr,r1,r2,r3,r4⟩:=hr a'.tmps w' q1 (Ph (by rw [hE.m0];exact h2) DZ hF' q3) b wV ss cs
   refine ⟨v,w'',fr,r1,Steps.trans amK ?_,r3,r4⟩
   rw [ha];exact r2
  ·cases h
 ·cases h
theorem rN.ret {c:Code} (HB:∀ σ S μ w,Good E9 σ S μ w->Good E σ S μ w) (hmm:E.m0<=E9.m0) (hD:E9.w0.heap[D]?=some (.deferred (some []))) (hfp:¬ E9.fp D) (hDE:E.w0.heap.size<=D) (ks:List Nat) (hx:c=.ret)
  {f:Func} (hf:P.funcs[fn]?=some f) {ps:List Prop} {res:AV} {gj:eE} (h:DC P f st=some (ps,res)) (Un:Hx st.sq ks=gj) (hp:bm ps):rN P E9 D fn nt (aQ E gj res) (.code c :: k) st:=by
 subst hx Un
 intro tm w hs hr b wV ss cs
 obtain ⟨S,μ,g,hk,hm,ht⟩:=hr
 have hDw:w.heap[D]?=some (.deferred (some [])):=(g.fr.dD D (iV hD) hfp).trans hD
 have Jk:Rep E st tm (w.putObj D (.deferred none)):=⟨S,μ,(HB _ _ _ _ g).put hDw rfl rfl (.inl hDE),hk,eF hmm hm,fun t=>(ht t).vk (fun _ h=>h) (Xj hDw rfl rfl)⟩
 obtain ⟨v,h1,h2⟩:=HW hf h hp Jk wV ss (.code .ret :: k)
 refine ⟨v,_,_,h1.aj6 ks,.head step_ret (.one (step_collected (fr:={ b.at ⟨tm,[afM D]⟩ (.code .ret :: k) with mode:=.returning }) (by simp) rfl rfl (run_takeDeferred hDw))),?_,h2⟩
 exact wV
end
section
variable {P:Program} {E E9:Env} {D:Nat} {fn:FuncId} {nt m:Nat} {eC:Value->World->Prop} {k k':List Item} {st Jj:St}
theorem rN.Uo (h:Uo k=some k') (hr:rN P E D fn nt eC k' st):rN P E D fn nt eC k st:=by
 unfold Ab.Uo at h
 split at h
 ·cases h;exact hr.seq
 ·cases h;exact hr.step fun _ _ _ _=>step_block
 ·cases h;exact hr.step fun _ _ _ _=>step_loop
 ·cases h;exact hr.step fun _ _ _ _=>step_inLoop
 ·cases h;exact hr.inBlock
 ·cases h;exact hr.step fun _ _ _ _=>step_lone_go (by rfl)
 ·cases h;exact hr.step fun _ _ _ _=>step_lone_go (by rfl)
 ·cases h;exact hr.step fun _ _ _ _=>step_skip
 ·cases h;exact hr.step fun _ _ _ _=>step_label
 ·exact hr.step fun _ _ _ _=>step_exit h
 ·cases h
theorem rN.Oj:∀ (n:Nat) {k:List Item},Oj n k=some k'->rN P E D fn nt eC k' st->rN P E D fn nt eC k st
 | 0,k,h,hr=>by simp only [Ab.Oj,aL] at h;rw [h];exact hr
 | n+1,k,h,hr=>by
  simp only [Ab.Oj] at h
  split at h
  ·rename_i k1 h1
   exact rN.Uo h1 (rN.Oj n h hr)
  ·cases h
end
end Go.Ab
