/- Abstract values over the heap of the machine, and functions read off its code (part 4). No conditions. -/
import Derived.Test.YtkejjbiabpdhjaaCc
import Derived.ProofKit
import Derived.Deep.Slices
import Derived.OpenShut
import Derived.ChangeOld
import Derived.SizedLaws
set_option linter.unusedVariables false
set_option linter.unusedSimpArgs false
namespace Go.Ab
section
variable {P:Program} {E:Env} {m0 nk:Nat} {F:List Nat} {ods:Ods}
theorem wkObs_get {σ:Sto} {f:Nat→Option Nat}:∀ (l:Ods) (ps:List Prop) (τ:Sto),wkObs σ F f ods l=some (ps,τ)→AllP ps→∀ k o,sget τ k=some o →
  ∃ d p,(k,d)∈l∧wkOb σ F f ods d=some (p,o)∧AllP p
 | [],ps,τ,h,_,k,o,hk=>by simp [wkObs] at h;obtain ⟨_,rfl⟩:=h;simp [sget] at hk
 | (k',d) :: r,ps,τ,h,hp,k,o,hk=>by
  simp only [wkObs] at h
  split at h
  ·rename_i p o' q l e1 e2
   simp only [Option.some.injEq,Prod.mk.injEq] at h
   obtain ⟨rfl,rfl⟩:=h
   obtain ⟨hp1,hp2⟩:=AllP.app hp
   simp only [sget] at hk
   split at hk
   ·simp_all
   ·obtain ⟨d',p',h1,h2,h3⟩:=wkObs_get r q l e2 hp2 k o hk
    grind
  ·cases h
theorem wkTms_get {σ:Sto} {f:Nat→Option Nat} {tm:List (Nat×AV)} {R:Value→AV→Prop} {fr:Array Value} (hunk:∀ v,R v .unk)
  (hv:∀ d t ps y,wkV σ F f ods d (getTm tm t)=some (ps,y)→AllP ps→R (fr.getD t undef) y):∀ (l:List (Nat×Wd)) (ps:List Prop) (tm':List (Nat×AV)),
  wkTms σ F f ods tm l=some (ps,tm')→AllP ps→∀ t,R (fr.getD t undef) (getTm tm' t)
 | [],ps,tm',h,_,t=>by simp [wkTms] at h;obtain ⟨_,rfl⟩:=h;exact hunk _
 | (t',d) :: r,ps,tm',h,hp,t=>by
  simp only [wkTms] at h
  split at h
  ·rename_i p x q l e1 e2
   simp only [Option.some.injEq,Prod.mk.injEq] at h
   obtain ⟨rfl,rfl⟩:=h
   obtain ⟨hp1,hp2⟩:=AllP.app hp
   simp only [getTm]
   split
   ·rename_i hb
    rw [← Nat.eq_of_beq_eq_true hb]
    exact hv d t' p x e1 hp1
   ·exact wkTms_get hunk hv r q l e2 hp2 t
  ·cases h
theorem od_inj {k0:Nat}:∀ (l:Ods) (a b:Nat) (x y:Od),nodupB (l.filterMap (·.2.old))=true→(a,x)∈l→(b,y)∈l→x.old=some k0→y.old=some k0→a=b:=by
 intro l
 induction l with
 | nil=>simp
 | cons z l ih =>
  intro a b x y hn ha hb hx hy
  have none:∀ c u,(c,u)∈l→u.old=some k0→idx (l.filterMap (·.2.old)) k0=none→False:=by
   intro c u hc hu hi
   have hin:k0∈l.filterMap (·.2.old):=List.mem_filterMap.2 ⟨(c,u),hc,hu⟩
   obtain ⟨i,hi'⟩:=List.getElem?_of_mem hin
   exact idx_none _ _ hi i hi'
  rcases List.mem_cons.1 ha with ha1 | ha1
  ·rcases List.mem_cons.1 hb with hb1 | hb1
   ·grind
   ·rw [← ha1] at hn
    simp only [List.filterMap_cons,hx,nodupB,Bool.and_eq_true,Option.isNone_iff_eq_none] at hn
    grind
  ·rcases List.mem_cons.1 hb with hb1 | hb1
   ·rw [← hb1] at hn
    simp only [List.filterMap_cons,hy,nodupB,Bool.and_eq_true,Option.isNone_iff_eq_none] at hn
    grind
   ·refine ih a b x y ?_ ha1 hb1 hx hy
    simp only [List.filterMap_cons] at hn
    split at hn
    ·exact hn
    simp_all [nodupB,Bool.and_eq_true]
theorem upL_mr:∀ {as:List AV} {sz n:Nat} {g:Nat→List AV},UpL as [.mr sz n g]→as=[.mr sz n g]
 | [],_,_,_,h=>h.elim
 | a :: [],_,_,_,h=>by
  rcases h.1 with h1 | ⟨_,f,h1⟩
  ·rw [h1]
  ·cases h1
 | _ :: _ :: _,_,_,_,h=>h.2.elim
theorem wkOb_row {σ:Sto} {f:Nat→Option Nat} {d:Od} {p:List Prop} {o:Ob} (h:wkOb σ F f ods d=some (p,o)) (hp:AllP p) {i:Nat} {x:Nat×Nat×(Nat→List AV)} (hr:rowOf o i=some x) :
  ∃ k0 o0,d.old=some k0∧sget σ k0=some o0∧rowOf o0 i=some x:=by
 obtain ⟨r1,r2,r3⟩:=rowOf_some hr
 cases d with
 | keep k0 =>
  simp only [wkOb,Option.map_eq_some_iff,Prod.mk.injEq] at h
  obtain ⟨o0,ho0,_,rfl⟩:=h
  exact ⟨k0,o0,rfl,ho0,(rowOf_ren _ _ _ _).1 hr⟩
 | arr k0 n gt =>
  simp only [wkOb] at h
  split at h
  ·rename_i o0 ho0
   split at h
   ·simp only [Option.some.injEq,Prod.mk.injEq] at h
    obtain ⟨rfl,rfl⟩:=h
    obtain ⟨p1,p2,_⟩:=hp
    exact ⟨k0,o0,rfl,ho0,rowOf_mk r1 (by rw [p1];exact r2) (by simp_all)⟩
   ·cases h
  ·cases h
 | arz k0 n gt =>
  simp only [wkOb] at h
  split at h
  ·rename_i o0 ho0
   split at h
   ·simp only [Option.some.injEq,Prod.mk.injEq] at h
    obtain ⟨rfl,rfl⟩:=h
    obtain ⟨p1,p2,_⟩:=hp
    have:=p2 i r2
    have r3:gt i=[.mr x.1 x.2.1 x.2.2]:=r3
    rw [r3] at this
    exact ⟨k0,o0,rfl,ho0,rowOf_mk r1 (Nat.lt_of_lt_of_le r2 p1) (upL_mr this)⟩
   ·cases h
  ·cases h
 | mat k0 n l b =>
  simp only [wkOb] at h
  split at h
  ·rename_i o0 l' ho0 hl'
   split at h
   ·rename_i hb
    simp only [Option.some.injEq,Prod.mk.injEq] at h
    obtain ⟨rfl,rfl⟩:=h
    obtain ⟨p1,p2,p3,_⟩:=hp
    simp only [Bool.and_eq_true,Bool.not_eq_true'] at hb
    have r3:matGet l' b i=[.mr x.1 x.2.1 x.2.2]:=r3
    rw [← renO_get (p3 i r2) hl',p2 i r2] at r3
    exact ⟨k0,o0,rfl,ho0,rowOf_mk hb.1 (by rw [p1];exact r2) (ren_mr r3)⟩
   ·cases h
  ·cases h
 | nim gt =>
  simp only [wkOb,Option.some.injEq,Prod.mk.injEq] at h
  grind
 | mp k0 cs =>
  simp only [wkOb] at h
  split at h
  ·rename_i o0 ho0
   split at h
   ·rename_i hb
    simp only [Option.some.injEq,Prod.mk.injEq] at h
    obtain ⟨rfl,rfl⟩:=h
    simp_all
   ·cases h
  ·cases h
 | var k0 ds =>
  simp only [wkOb] at h
  grind
 | nil sz gt =>
  simp only [wkOb] at h
  grind
theorem wk_sound {st st':St} {tms:List (Nat×Wd)} {ps:List Prop} (h:wkSt E.m0 st F tms ods nk=some (ps,st')) (hp:AllP ps) (hF:F.isEmpty=true∨∀ b,¬ E.fp b) {fr:Array Value} {w:World} (hr:Rep E st fr w):Rep E st' fr w:=by
 obtain ⟨S,μ,g,hk,hm,ht⟩:=hr
 unfold wkSt at h
 split at h
 case h_2=>cases h
 rename_i p tm q σ' hn htm hob
 simp only [Option.some.injEq,Prod.mk.injEq] at h
 obtain ⟨rfl,rfl⟩:=h
 obtain ⟨hp1,hp2⟩:=AllP.app hp
 have N:=names_of hn
 have e:Ext w S μ w (SF μ F st.sto S) μ:=⟨Nat.le_refl _,fun _ h=>.inl h,fun _ _=>rfl,fun _ _ h=>h⟩
 have hod:∀ k o,sget σ' k=some o→∃ pl c T,muW E.m0 μ ods k=some pl∧ObRep w (SF μ F st.sto S) (muW E.m0 μ ods) o pl c T ∧
   (0 < pl.cap→∃ k0 o0,sget st.sto k0=some o0∧μ k0=some pl∧∃ d,(k,d)∈ods∧d.old=some k0):=by
  intro k o hko
  obtain ⟨d,pd,hmem,hd,hpd⟩:=wkObs_get ods q σ' hob hp2 k o hko
  have mono:∀ {v:Value} {x:AV} {μ':Mu},RepX w S μ' v x→RepX w (SF μ F st.sto S) μ' v x:=fun h=>h.mono (fun _ h=>.inl h) (fun _ _=>rfl) (fun _ _ h=>h)
  have out:∀ k0 o0 pl,sget st.sto k0=some o0→μ k0=some pl→k0 ∉ F→0 < pl.cap→¬ SF μ F st.sto S pl.blk:=by
   rintro k0 o0 pl ho0 hm0 hnF hc (h1 | ⟨k1,o1,pl1,hkF,ho1,hm1,hc1,hb⟩)
   ·obtain ⟨pl',c,T,hm',hob'⟩:=g.rep.ob k0 o0 ho0
    rw [hm0] at hm';cases hm'
    exact hob'.out hc h1
   ·have hne:k1≠k0:=fun h=>hnF (h ▸ hkF)
    exact g.rep.ne k1 k0 o1 o0 pl1 pl hne ho1 ho0 hm1 hm0 hc1 hc hb
  cases d with
  | keep k0 =>
   simp only [wkOb,Option.map_eq_some_iff,Prod.mk.injEq] at hd
   obtain ⟨o0,ho0,_,rfl⟩:=hd
   obtain ⟨pl,c,T,hm0,hob0⟩:=g.rep.ob k0 o0 ho0
   have h1:=hob0.ext e (fun _=>rfl) (out k0 o0 pl ho0 hm0 (N.fr k _ k0 hmem rfl))
   exact ⟨pl,c,T,by rw [muW_od N hmem rfl];exact hm0,h1.ren fun a b pl ha hb=>muW_new N ha hb,fun _=>⟨k0,o0,ho0,hm0,_,hmem,rfl⟩⟩
  | arr k0 n gt =>
   simp only [wkOb] at hd
   split at hd
   ·rename_i o0 ho0
    split at hd
    ·rename_i hb
     simp only [Option.some.injEq,Prod.mk.injEq] at hd
     obtain ⟨rfl,rfl⟩:=hd
     obtain ⟨p1,p2,_⟩:=hpd
     obtain ⟨pl,c,T,hm0,hob0⟩:=g.rep.ob k0 o0 ho0
     simp only [Bool.and_eq_true] at hb
     have h1:=hob0.ext e (fun _=>rfl) (out k0 o0 pl ho0 hm0 (N.fr k _ k0 hmem rfl))
     refine ⟨pl,c,T,by rw [muW_od N hmem rfl];exact hm0,⟨h1.sz,h1.blk,h1.cap,p1 ▸ h1.len,h1.out,fun i hi=>?_,fun i j x v hi hx hv=>?_,fun hz=>absurd hz (by simp_all)⟩,fun _=>⟨k0,o0,ho0,hm0,_,hmem,rfl⟩⟩
     ·show (gt i).length=_
      rw [p2 i hi];exact h1.els i (by rw [p1];exact hi)
     ·have hx:(gt i)[j]?=some x:=hx
      rw [p2 i hi] at hx
      have:=h1.rep i j x v (by rw [p1];exact hi) hx hv
      simp_all
    ·cases hd
   ·cases hd
  | arz k0 n gt =>
   simp only [wkOb] at hd
   split at hd
   ·rename_i o0 ho0
    split at hd
    ·rename_i hb
     simp only [Option.some.injEq,Prod.mk.injEq] at hd
     obtain ⟨rfl,rfl⟩:=hd
     obtain ⟨p1,p2,_⟩:=hpd
     obtain ⟨pl,c,T,hm0,hob0⟩:=g.rep.ob k0 o0 ho0
     simp only [Bool.and_eq_true] at hb
     have h1:=hob0.ext e (fun _=>rfl) (out k0 o0 pl ho0 hm0 (N.fr k _ k0 hmem rfl))
     refine ⟨pl,c,T,by rw [muW_od N hmem rfl];exact hm0,⟨h1.sz,h1.blk,h1.cap,Nat.le_trans p1 h1.len,h1.out,fun i hi=>?_,fun i j x v hi hx hv=>?_,fun hz=>absurd hz (by have:=Nat.le_of_ble_eq_true hb.2;show o0.sz≠0;omega)⟩,fun _=>⟨k0,o0,ho0,hm0,_,hmem,rfl⟩⟩
     ·show (gt i).length=_
      rw [(p2 i hi).len];exact h1.els i (Nat.lt_of_lt_of_le hi p1)
     ·have hx:(gt i)[j]?=some x:=hx
      obtain ⟨a,ha,hax⟩:=(p2 i hi).get hx
      have:=h1.rep i j a v (Nat.lt_of_lt_of_le hi p1) ha hv
      rw [hb.1.1] at this
      exact nil_sl hax this
    ·cases hd
   ·cases hd
  | mp k0 cs =>
   simp only [wkOb] at hd
   split at hd
   ·rename_i o0 ho0
    split at hd
    ·rename_i hb
     simp only [Option.some.injEq,Prod.mk.injEq] at hd
     obtain ⟨rfl,rfl⟩:=hd
     obtain ⟨rfl,_⟩:=hpd
     obtain ⟨pl,c,T,hm0,hob0⟩:=g.rep.ob k0 o0 ho0
     simp only [Bool.and_eq_true] at hb
     have hl0:=Nat.eq_of_beq_eq_true hb.2
     have h1:=hob0.ext e (fun _=>rfl) (out k0 o0 pl ho0 hm0 (N.fr k _ k0 hmem rfl))
     refine ⟨pl,c,T,by rw [muW_od N hmem rfl];exact hm0,⟨h1.sz,h1.blk,h1.cap,h1.len,h1.out,fun i hi=>absurd hi (by show ¬ i < o0.len;omega),fun i j x v hi=>absurd hi (by show ¬ i < o0.len;omega),fun hz=>?_⟩,fun _=>⟨k0,o0,ho0,hm0,_,hmem,rfl⟩⟩
     obtain ⟨m0,m1,m2,m3,m4⟩:=h1.mp hz
     exact ⟨m0,m1,m2,rfl,m4⟩
    ·cases hd
   ·cases hd
  | nim gt =>
   simp only [wkOb,Option.some.injEq,Prod.mk.injEq] at hd
   obtain ⟨_,rfl⟩:=hd
   exact ⟨⟨0,0,1⟩,#[],0,muW_nim N hmem,⟨rfl,fun h=>absurd h (by simp),by simp,by simp,fun h=>absurd h (by simp),fun i h=>absurd h (by simp),fun i j x v h=>absurd h (by simp),fun h=>absurd (show (1:Nat)=0 from h) (by omega)⟩,fun h=>absurd h (by simp)⟩
  | mat k0 n l b =>
   simp only [wkOb] at hd
   split at hd
   ·rename_i o0 l' ho0 hl'
    split at hd
    ·rename_i hb
     simp only [Option.some.injEq,Prod.mk.injEq] at hd
     obtain ⟨rfl,rfl⟩:=hd
     obtain ⟨p1,p2',p3,_⟩:=hpd
     have p2:∀ i,i < n→matGet l' b i=AV.renL (toNew E.m0 ods) (o0.get i):=fun i hi=>by rw [← p2' i hi];exact (renO_get (p3 i hi) hl').symm
     let gt:Nat→List AV:=matGet l' b
     obtain ⟨pl,c,T,hm0,hob0⟩:=g.rep.ob k0 o0 ho0
     simp only [Bool.and_eq_true] at hb
     have h1:=hob0.ext e (fun _=>rfl) (out k0 o0 pl ho0 hm0 (N.fr k _ k0 hmem rfl))
     refine ⟨pl,c,T,by rw [muW_od N hmem rfl];exact hm0,⟨h1.sz,h1.blk,h1.cap,p1 ▸ h1.len,h1.out,fun i hi=>?_,fun i j x v hi hx hv=>?_,fun hz=>absurd hz (by have:=Nat.le_of_ble_eq_true hb.2;show o0.sz≠0;omega)⟩,fun _=>⟨k0,o0,ho0,hm0,_,hmem,rfl⟩⟩
     ·show (matGet l' b i).length=_
      rw [p2 i hi,renL_eq,List.length_map];exact h1.els i (by rw [p1];exact hi)
     ·have hx:(matGet l' b i)[j]?=some x:=hx
      rw [p2 i hi,renL_eq,List.getElem?_map] at hx
      simp only [Option.map_eq_some_iff] at hx
      obtain ⟨y,hy,rfl⟩:=hx
      have:=noMu_mono (h1.rep i j y v (by rw [p1];exact hi) hy hv)
      exact this.ren fun a b pl ha hb=>muW_new N ha hb
    ·cases hd
   ·cases hd
  | var k0 ds =>
   simp only [wkOb] at hd
   split at hd
   ·rename_i o0 ho0
    split at hd
    ·rename_i pw cs hb hcs
     simp only [Option.some.injEq,Prod.mk.injEq] at hd
     obtain ⟨rfl,rfl⟩:=hd
     obtain ⟨pl,c,T,hm0,hob0⟩:=g.rep.ob k0 o0 ho0
     simp only [Bool.and_eq_true] at hb
     have hl1:=Nat.eq_of_beq_eq_true hb.1.2
     have hz1:=Nat.le_of_ble_eq_true hb.2
     have ha:RepX w S μ (.agg ((List.range o0.sz).map fun j=>(c[j]?).getD undef).toArray) (.agg (o0.get 0)):=by
      refine .agg (by simp [hob0.els 0 (by omega)]) fun j x v hx hv=>?_
      have hj:j < o0.sz:=by
       have:=(List.getElem?_eq_some_iff.1 hx).1
       rwa [hob0.els 0 (by omega)] at this
      obtain ⟨u,q1,_⟩:=cell_of_obrep hob0 (i:=0) (by omega) hj
      have q1':c[j]?=some u:=by simpa using q1
      simp [List.getElem?_range hj,q1'] at hv
      exact noMu_mono (hob0.rep 0 j x v (by omega) hx (by rw [← hv];simpa using q1))
     have hagg:=wkV_rep g N (.agg ds) (.agg (o0.get 0)) _ pw (.agg cs) ha (by simp [wkV,hcs]) hpd
     obtain ⟨vs,hvs,hv1,hv2⟩:=rep_agg hagg
     cases hvs
     have hlen:cs.length=o0.sz:=by simpa using hv1.symm
     refine ⟨pl,c,T,by rw [muW_od N hmem rfl];exact hm0,⟨hob0.sz,hob0.blk,hob0.cap,by have:=hob0.len;show 1≤pl.cap;omega,out k0 o0 pl ho0 hm0 (N.fr k _ k0 hmem rfl),fun i hi=>hlen,fun i j x v hi hx hv=>?_,fun hz=>absurd hz (by show o0.sz≠0;omega)⟩,fun _=>⟨k0,o0,ho0,hm0,_,hmem,rfl⟩⟩
     have hi0:i=0:=by have hi:i < 1:=hi;omega
     subst hi0
     have hx:cs[j]?=some x:=hx
     have hj:j < o0.sz:=by rw [← hlen];exact (List.getElem?_eq_some_iff.1 hx).1
     have hv':c[j]?=some v:=by simpa using hv
     have:=hv2 j x v hx (by simp [List.getElem?_range hj,hv'])
     show RepX w _ (if AV.pureL cs then noMu else _) v x
     split
     ·rename_i hpp
      exact this.pure (pureL_get hpp hx) noMu
     ·exact this
    ·cases hd
   ·cases hd
  | nil sz gt =>
   simp only [wkOb] at hd
   split at hd
   case h_2=>cases hd
   rename_i hsz1
   simp only [Option.some.injEq,Prod.mk.injEq] at hd
   obtain ⟨_,rfl⟩:=hd
   exact ⟨⟨0,0,sz⟩,#[],0,muW_nil N hmem,⟨rfl,fun h=>absurd h (by simp),by simp,by simp,fun h=>absurd h (by simp),fun i h=>absurd h (by simp),fun i j x v h=>absurd h (by simp),fun h=>absurd (show sz=0 from h) (by have:=Nat.le_of_ble_eq_true hsz1;omega)⟩,fun h=>absurd h (by simp)⟩
 have hrw:∀ k i x v,RowV w (muW E.m0 μ ods) σ' k i x v→∃ k0 d,(k,d)∈ods∧d.old=some k0∧RowV w μ st.sto k0 i x v:=by
  rintro k i x v ⟨o,pl,h1,h2,h3,h4⟩
  obtain ⟨d,pd,hmem,hd,hpd⟩:=wkObs_get ods q σ' hob hp2 k o h1
  obtain ⟨k0,o0,q1,q2,q3⟩:=wkOb_row hd hpd h2
  rw [muW_od N hmem q1] at h3
  exact ⟨k0,d,hmem,q1,o0,pl,q2,q3,h3,h4⟩
 have hmx:MX E.fp E.w0.heap.size w (SF μ F st.sto S) (muW E.m0 μ ods) σ':=by
  have hφ:∀ k d k0,(k,d)∈ods→d.old=some k0→((getOd ods k).bind Od.old).getD 0=k0:=fun k d k0 h1 h2=>by rw [getOd_of N.nd h1];simp [h2]
  refine g.mx.tr (fun k=>((getOd ods k).bind Od.old).getD 0) (fun k i x v h=>?_) (fun k i x v k' i' x' v' h h' he=>?_) (fun _ h=>.inl h) (fun _ _=>rfl) (fun k i x v b _ h hb=>⟨rfl,?_,fun h=>h⟩) (fun k o pl h1 h2 h3=>?_)
  ·obtain ⟨k0,d,q1,q2,q3⟩:=hrw k i x v h
   show RowV w μ st.sto (((getOd ods k).bind Od.old).getD 0) i x v
   rw [hφ k d k0 q1 q2];exact q3
  ·obtain ⟨k0,d,q1,q2,_⟩:=hrw k i x v h
   obtain ⟨k0',d',q1',q2',_⟩:=hrw k' i' x' v' h'
   have he:((getOd ods k).bind Od.old).getD 0=((getOd ods k').bind Od.old).getD 0:=he
   rw [hφ k d k0 q1 q2,hφ k' d' k0' q1' q2'] at he
   exact od_inj ods k k' d d' N.od q1 q1' q2 (he ▸ q2')
  ·rintro (h1 | ⟨k1,o1,pl1,_,ho1,hm1,hc1,h1⟩)
   ·exact (g.mx.blk h hb).2.1 h1
   ·exact g.mx.obj _ _ _ _ _ h hb k1 o1 pl1 ho1 hm1 hc1 h1
  ·obtain ⟨pl1,c,T,e1,_,e3⟩:=hod k o h1
   rw [h2] at e1;cases e1
   obtain ⟨k0,o0,ho0,hm0,_⟩:=e3 h3
   exact .inl ⟨k0,o0,pl,ho0,hm0,h3,rfl⟩
 refine ⟨SF μ F st.sto S,muW E.m0 μ ods,⟨g.fr,fun b h=>.inl (g.S0 b h),?_,?_,⟨?_,?_⟩,?_,?_,hmx⟩,?_,N.m0,?_⟩
 ·rintro b (h1 | ⟨k1,o1,pl1,hkF,ho1,hm1,hc1,rfl⟩)
  ·exact g.S1 b h1
  ·obtain ⟨pl',c,T,hm',hob'⟩:=g.rep.ob k1 o1 ho1
   rw [hm1] at hm';cases hm'
   exact lt_of_blk (hob'.blk hc1)
 ·rintro b (h1 | ⟨k1,o1,pl1,hkF,ho1,hm1,hc1,rfl⟩)
  ·exact g.S2 b h1
  ·rcases g.own k1 o1 pl1 ho1 hm1 hc1 with h2 | h2
   ·rcases hF with h3 | h3
    ·rw [List.isEmpty_iff] at h3;rw [h3] at hkF;simp at hkF
    ·exact (h3 _ h2).elim
   ·exact .inr h2
 ·intro k o hko
  obtain ⟨pl,c,T,h1,h2,_⟩:=hod k o hko
  exact ⟨pl,c,T,h1,h2⟩
 ·intro k k' o o' pl pl' hne hko hko' hmk hmk' hc hc'
  obtain ⟨pl1,c,T,h1,_,h3⟩:=hod k o hko
  obtain ⟨pl2,c',T',h1',_,h3'⟩:=hod k' o' hko'
  rw [hmk] at h1;cases h1
  rw [hmk'] at h1';cases h1'
  obtain ⟨k0,o0,ho0,hm0,d,hd,hdo⟩:=h3 hc
  obtain ⟨k0',o0',ho0',hm0',d',hd',hdo'⟩:=h3' hc'
  have hkk:k0≠k0':=by
   rintro rfl
   exact hne (od_inj ods k k' d d' N.od hd hd' hdo hdo')
  exact g.rep.ne k0 k0' o0 o0' pl pl' hkk ho0 ho0' hm0 hm0' hc hc'
 ·intro k o pl hko hmk hc
  obtain ⟨pl1,c,T,h1,_,h3⟩:=hod k o hko
  rw [hmk] at h1;cases h1
  obtain ⟨k0,o0,ho0,hm0,_⟩:=h3 hc
  exact g.own k0 o0 pl ho0 hm0 hc
 ·intro k hk'
  unfold muW
  rw [if_pos hk'];exact g.mu0 k hk'
 ·intro k hk'
  have hk':nk≤k:=hk'
  have:=N.m0
  unfold muW
  rw [if_neg (by omega)]
  cases hg:getOd ods k with
  | none=>rfl
  | some d =>
   have:=N.lt k d (getOd_mem hg)
   omega
 ·exact wkTms_get (R:=fun v x=>RepX w (SF μ F st.sto S) (muW E.m0 μ ods) v x) (fun _=>.unk) (fun d t ps y h1 h2=>wkV_rep g N d _ _ ps y (ht t) h1 h2) tms p tm htm hp1
def Runs (P:Program) (E:Env) (fn:FuncId) (nt:Nat) (Post:Value→World→Prop) (k:List Item) (st:St):Prop :=
 ∀ (tm:Array Value) (w:World),tm.size=nt→Rep E st tm w→∀ (b:Frame),b.fn=fn→b.kind=.normal→∀ cs,
  ∃ v w' fr,Post v w'∧Steps P (lone (b.at ⟨tm,[]⟩ k) cs w) (lone fr cs w')∧fr.fn=fn∧fr.leaving P w' (.returned v)
variable {fn:FuncId} {nt:Nat} {Post:Value→World→Prop} {k k':List Item} {st st':St}
theorem Runs.step (h:Runs P E fn nt Post k' st) (hs:∀ (b:Frame) (a:Act) (cs:List Frame) (w:World),step P (lone (b.at a k) cs w)=.next (lone (b.at a k') cs w)):Runs P E fn nt Post k st:=by
 intro tm w h1 h2 b h3 h4 cs
 obtain ⟨v,w',fr,q1,q2,q3,q4⟩:=h tm w h1 h2 b h3 h4 cs
 exact ⟨v,w',fr,q1,.head (hs b ⟨tm,[]⟩ cs w) q2,q3,q4⟩
theorem Runs.seq {x y:Code} (h:Runs P E fn nt Post (.code x :: .code y :: k) st):Runs P E fn nt Post (.code (.seq x y) :: k) st:=h.step fun _ _ _ _=>step_seq
theorem Runs.block {id:Nat} {c:Code} (h:Runs P E fn nt Post (.code c :: .inBlock id :: k) st):Runs P E fn nt Post (.code (.block id c) :: k) st:=h.step fun _ _ _ _=>step_block
theorem Runs.inBlock {id:Nat} (h:Runs P E fn nt Post k st):Runs P E fn nt Post (.inBlock id :: k) st:=h.step fun _ _ _ _=>step_inBlock
theorem Runs.loop {c:Code} (h:Runs P E fn nt Post (.code c :: .inLoop c :: k) st):Runs P E fn nt Post (.code (.loop c) :: k) st:=h.step fun _ _ _ _=>step_loop
theorem Runs.inLoop {c:Code} (h:Runs P E fn nt Post (.code c :: .inLoop c :: k) st):Runs P E fn nt Post (.inLoop c :: k) st:=h.step fun _ _ _ _=>step_inLoop
theorem Runs.skip (h:Runs P E fn nt Post k st):Runs P E fn nt Post (.code .skip :: k) st:=h.step fun _ _ _ _=>step_skip
theorem Runs.label {l:Nat} (h:Runs P E fn nt Post k st):Runs P E fn nt Post (.code (.label l) :: k) st:=h.step fun _ _ _ _=>step_label
theorem Runs.scope {c:Code} (h:Runs P E fn nt Post (.code c :: .inScope c :: k) st):Runs P E fn nt Post (.code (.scope c) :: k) st:=h.step fun _ _ _ _=>step_lone_go (by rfl)
theorem Runs.inScope {c:Code} (h:Runs P E fn nt Post k st):Runs P E fn nt Post (.inScope c :: k) st:=h.step fun _ _ _ _=>step_lone_go (by rfl)
theorem Runs.exit {id:Nat} (he:exitTo id k=some k') (h:Runs P E fn nt Post k' st):Runs P E fn nt Post (.code (.exit id) :: k) st:=h.step fun _ _ _ _=>step_exit he
theorem Runs.cond {c:Operand} {x y:Code} {q:Bool} (hc:evOpd st.tm c=.atom (.bool q)) (h1:q=true→Runs P E fn nt Post (.code x :: k) st) (h2:q=false→Runs P E fn nt Post (.code y :: k) st) :
  Runs P E fn nt Post (.code (.cond c x y) :: k) st:=by
 intro tm w hs hr b hb1 hb2 cs
 have hr':=hr
 obtain ⟨S,μ,g,_,_,ht⟩:=hr'
 have e:=opd_rep (a:=⟨tm,[]⟩) ht c
 rw [hc] at e
 have e:=rep_int e
 have hst:=step_cond (P:=P) (b:=b) (k:=k) (cs:=cs) (w:=w) (x:=x) (y:=y) e
 cases q with
 | true =>
  obtain ⟨v,w',fr,q1,q2,q3,q4⟩:=h1 rfl tm w hs hr b hb1 hb2 cs
  exact ⟨v,w',fr,q1,.head hst q2,q3,q4⟩
 | false =>
  obtain ⟨v,w',fr,q1,q2,q3,q4⟩:=h2 rfl tm w hs hr b hb1 hb2 cs
  exact ⟨v,w',fr,q1,.head hst q2,q3,q4⟩
structure EnvOk (E:Env) (m:Nat):Prop where
 m0:E.m0=m
 fp:m=0→∀ b,¬ E.fp b
theorem Runs.wk {m:Nat} (hE:EnvOk E m) {tms:List (Nat×Wd)} {ps:List Prop} (h:wkSt m st F tms ods nk=some (ps,st')) (hF:(F.isEmpty || Nat.beq m 0)=true) (hp:AllP ps) (hr:Runs P E fn nt Post k st'):Runs P E fn nt Post k st:=by
 have h':wkSt E.m0 st F tms ods nk=some (ps,st'):=by rw [hE.m0];exact h
 refine fun tm w h1 h2=>hr tm w h1 (wk_sound h' hp ?_ h2)
 rcases Bool.or_eq_true_iff.1 hF with h3 | h3
 ·exact .inl h3
 ·exact .inr (hE.fp (Nat.eq_of_beq_eq_true h3))
def evRegion (P:Program) (nt:Nat) (c:Code) (orcs:List (Nat×Orc)) (st:St):Option (List Prop×St) :=
 match c with
 | .region _ ops draw=>match evTrace P nt ops.toList st.nk orcs ops.toList 0 st.tm st.sto with
  | some recs=>match !draw || (P.follows .mixedOrders && drawOk ops.toList recs) with
   | true=>some (oblAll recs,⟨tmAll recs st.tm,stoAll recs st.sto,st.nk+16 * ops.size⟩)
   | false=>none
  | none=>none
 | _=>none
def noFrz:List (Nat×Orc)→Bool
 | []=>true
 | (_,o) :: r=>!o.frz && noFrz r
def noY:List (Nat×Orc)→Bool
 | []=>true
 | (_,o) :: r=>o.y.isNone && noY r
def YsP (P:Program) (E:Env):List (Nat×Orc)→Prop
 | []=>True
 | (_,o) :: r=>(match o.y with
  | some y=>YOK P E y
  | none=>True)∧YsP P E r
theorem noFrz_get:∀ {orcs:List (Nat×Orc)},noFrz orcs=true→∀ i x,getOrc orcs i=some x→x.frz=true→False
 | [],_,i,x,h,_=>by simp [getOrc] at h
 | (a,o) :: r,hn,i,x,h,hx=>by
  simp only [noFrz,Bool.and_eq_true,Bool.not_eq_true'] at hn
  simp only [getOrc] at h
  split at h
  ·simp_all
  ·exact noFrz_get hn.2 i x h hx
theorem noY_ys {P:Program} {E:Env}:∀ {orcs:List (Nat×Orc)},noY orcs=true→YsP P E orcs
 | [],_=>trivial
 | (a,o) :: r,hn=>by
  simp only [noY,Bool.and_eq_true,Option.isNone_iff_eq_none] at hn
  refine ⟨?_,noY_ys hn.2⟩
  rw [hn.1];trivial
theorem ysP_get {P:Program} {E:Env}:∀ {orcs:List (Nat×Orc)},YsP P E orcs→∀ i x y,getOrc orcs i=some x→x.y=some y→YOK P E y
 | [],_,i,x,y,h,_=>by simp [getOrc] at h
 | (a,o) :: r,hn,i,x,y,h,hx=>by
  simp only [getOrc] at h
  split at h
  ·cases h
   have:=hn.1
   simp_all
  ·exact ysP_get hn.2 i x y h hx
theorem region_wpIn {rd:Option Nat} {ds:List Deferred} {c:Code} {orcs:List (Nat×Orc)} (hz:noFrz orcs=true∨∀ b,¬ E.fp b) (hy:YsP P E orcs) {ps:List Prop} (h:evRegion P nt c orcs st=some (ps,st')) (hp:AllP ps)
  {tm:Array Value} {w:World} (hs:tm.size=nt) (hrep:Rep E st tm w):c.wpIn (FW rd) 0 P (fun e a w=>e=.normal∧a.tmps.size=nt∧a.defers=ds∧Rep E st' a.tmps w) ⟨tm,ds⟩ w:=by
 have hz:∀ i,OrcOk P E (getOrc orcs i):=fun i=>⟨fun x hx hf=>hz.elim (fun hn=>(noFrz_get hn i x hx hf).elim) id,fun x y hx hxy=>ysP_get hy i x y hx hxy⟩
 unfold evRegion at h
 split at h
 case h_2=>cases h
 rename_i id ops draw
 split at h
 case h_2=>cases h
 rename_i recs htr
 split at h
 case h_2=>cases h
 rename_i hd
 simp only [Option.some.injEq,Prod.mk.injEq] at h
 obtain ⟨rfl,rfl⟩:=h
 obtain ⟨S,μ,g,hk,hm,ht⟩:=hrep
 let Q0:Exit→Act→World→Prop:=fun e a w=>e=.normal∧a.tmps.size=nt∧a.defers=ds∧Rep E ⟨tmAll recs st.tm,stoAll recs st.sto,st.nk+16 * ops.size⟩ a.tmps w
 show (Code.region id ops draw).wpIn (FW rd) 0 P Q0 ⟨tm,ds⟩ w
 have hQ:∀ (a':Act) (w':World) (S':Nat→Prop) (μ':Mu),a'.tmps.size=nt→a'.defers=ds→Good E (stoAll recs st.sto) S' μ' w'→(∀ k,st.nk+16 * ops.size≤k→μ' k=none)→(∀ t,RepX w' S' μ' (a'.tmps.getD t undef) (getTm (tmAll recs st.tm) t)) →
   Q0 .normal a' w' :=
  fun a' w' S' μ' q1 q2 q3 q4 q5=>⟨rfl,q1,q2,S',μ',q3,q4,by grind,q5⟩
 cases draw with
 | false =>
  refine wpIn_region ?_
  have:=seq_sound (P:=P) (E:=E) (Q:=Q0) (rd:=rd) (ds:=ds) (nt:=nt) (nk:=st.nk) (ops:=ops) (orcs:=orcs) hz hm ops.toList 0 ⟨tm,ds⟩ w st.tm st.sto S μ recs rfl (by simp) hs rfl g (by simpa using hk) ht htr hp hQ
  rw [List.range_eq_range']
  simpa using this
 | true =>
  simp only [Bool.not_true,Bool.false_or,Bool.and_eq_true] at hd
  refine wpIn_region_any hd.1 ?_
  have hrf:∀ (n j:Nat),(Array.replicate n false).getD j false=false:=by
   intro n j
   simp only [Array.getD_eq_getD_getElem?,Array.getElem?_replicate]
   split<;>rfl
  refine draw_sound hz hm htr hp hd.2 hQ ops.size _ ⟨tm,ds⟩ _ S μ (by simp) hs rfl ?_ ?_ ?_ ?_ ?_
  ·simp_all
  ·omega
  ·rw [stoL_none recs 0 st.sto _ (fun m _=>hrf _ _)];exact g.drew
  ·simp_all
  ·intro t
   rw [tmL_none recs 0 st.tm _ (fun m _=>hrf _ _)]
   exact (ht t).ext (Ext.drew w S μ)
theorem Runs.region {c:Code} {orcs:List (Nat×Orc)} (hz:noFrz orcs=true∨∀ b,¬ E.fp b) (hy:YsP P E orcs) {ps:List Prop} (h:evRegion P nt c orcs st=some (ps,st')) (hp:AllP ps) (hr:Runs P E fn nt Post k st'):Runs P E fn nt Post (.code c :: k) st:=by
 intro tm w hs hrep b hb1 hb2 cs
 have hwp:c.wp P (fun e a w=>e=.normal∧a.tmps.size=nt∧a.defers=[]∧Rep E st' a.tmps w) ⟨tm,[]⟩ w:=(wpIn_wide (n:=0)).1 (region_wpIn (rd:=none) (ds:=[]) hz hy h hp hs hrep)
 obtain ⟨e,a',w',⟨rfl,q1,q2,q3⟩,harr⟩:=hwp b k cs
 have ha:a'=⟨a'.tmps,[]⟩:=by cases a';simp at q2;simp [q2]
 obtain ⟨v,w'',fr,r1,r2,r3,r4⟩:=hr a'.tmps w' q1 q3 b hb1 hb2 cs
 refine ⟨v,w'',fr,r1,Steps.trans harr ?_,r3,r4⟩
 rw [ha];exact r2
end
end Go.Ab
namespace Go.Ab
def SPost (E:Env) (σ':Sto) (res:AV) (v:Value) (w':World):Prop:=∃ S' μ',Good E σ' S' μ' w'∧RepX w' S' μ' v res
def evRes (P:Program) (st:St):List ResultVar→Option (List Prop×List AV)
 | []=>some ([],[])
 | .tmp t :: r=>(evRes P st r).map fun (p,l)=>(p,getTm st.tm t :: l)
 | .cell a t :: r=>match evLoad P st.sto t (getTm st.tm a),evRes P st r with
  | some (p,x,_),some (q,l)=>some (p ++ q,x :: l)
  | _,_=>none
def resOf:List AV→AV
 | [x]=>x
 | l=>.tup l
def evRet (P:Program) (fn:Func) (st:St):Option (List Prop×AV):=(evRes P st fn.results.toList).map fun (p,l)=>(p,resOf l)
section
variable {P:Program} {E:Env} {fn:FuncId} {nt:Nat} {k:List Item} {st:St}
theorem res_rep {S:Nat→Prop} {μ:Mu} {w:World} (g:Good E st.sto S μ w) {tm:Array Value} (ht:∀ t,RepX w S μ (tm.getD t undef) (getTm st.tm t)) :
  ∀ (l:List ResultVar) (ps:List Prop) (xs:List AV),evRes P st l=some (ps,xs)→AllP ps→∃ vs:List Value,
   (l.mapM fun r=>(match r with | .tmp t=>pure (tm.getD t undef) | .cell a t=>(do loadVar t (← asAddr (tm.getD a undef)):Sem Value)):Sem (List Value)).run P w=.ok vs w∧vs.length=xs.length ∧
   ∀ (j:Nat) c v,xs[j]?=some c→vs[j]?=some v→RepX w S μ v c
 | [],ps,xs,h,_=>by
  simp [evRes] at h;simp_all
 | .tmp t :: r,ps,xs,h,hp=>by
  simp only [evRes,Option.map_eq_some_iff,Prod.mk.injEq] at h
  obtain ⟨⟨p,l⟩,h1,rfl,rfl⟩:=h
  obtain ⟨vs,q1,q2,q3⟩:=res_rep g ht r p l h1 hp
  refine ⟨tm.getD t undef :: vs,by simp_all,by simp [q2],?_⟩
  grind
 | .cell a t :: r,ps,xs,h,hp=>by
  simp only [evRes] at h
  split at h
  ·rename_i p x rd q l h1 h2
   simp only [Option.some.injEq,Prod.mk.injEq] at h
   obtain ⟨rfl,rfl⟩:=h
   obtain ⟨hp1,hp2⟩:=AllP.app hp
   obtain ⟨vs,q1,q2,q3⟩:=res_rep g ht r q l h2 hp2
   obtain ⟨v,r1,r2⟩:=ev_load (P:=P) g (ht a) h1 hp1
   have hadd:∃ ad,tm.getD a undef=.pointer (some ad):=by
    cases hv:tm.getD a undef with
    | pointer o =>
     cases o with
     | none=>simp_all [Instr.loadAt,Instr.sureAddr]
     | some ad=>exact ⟨ad,rfl⟩
    | _=>simp_all [Instr.loadAt,Instr.sureAddr]
   obtain ⟨ad,had⟩:=hadd
   rw [had] at r1
   simp only [Instr.loadAt,Instr.sureAddr,Sem.run_bind,Sem.run_pure,Result.andThen_ok] at r1
   have hA:(asAddr (tm.getD a undef)).run P w=.ok ad w:=by rw [had];rfl
   refine ⟨v :: vs,by simp_all,by simp [q2],?_⟩
   grind
  ·cases h
theorem ret_leaves {f:Func} (hf:P.funcs[fn]?=some f) {ps:List Prop} {res:AV} (h:evRet P f st=some (ps,res)) (hp:AllP ps) {tm:Array Value} {w:World} (hr:Rep E st tm w) {b:Frame} (hb1:b.fn=fn) (hb2:b.kind=.normal) (todo:List Item) :
  ∃ v,SPost E st.sto res v w∧Frame.leaving P { b.at ⟨tm,[]⟩ todo with mode:=.returning } w (.returned v):=by
 obtain ⟨S,μ,g,_,_,ht⟩:=hr
 simp only [evRet,Option.map_eq_some_iff,Prod.mk.injEq] at h
 obtain ⟨⟨p,l⟩,h1,rfl,rfl⟩:=h
 obtain ⟨vs,q1,q2,q3⟩:=res_rep g ht f.results.toList p l h1 hp
 have hm:(f.results.mapM fun r=>(match r with | .tmp t=>pure (tm.getD t undef) | .cell a t=>(do loadVar t (← asAddr (tm.getD a undef)):Sem Value)):Sem (Array Value)).run P w=.ok vs.toArray w:=by
  rw [Array.mapM_eq_mapM_toList]
  simp only [Sem.run_map,q1,Result.andThen_ok]
 have hval:∃ v,RepX w S μ v (resOf l)∧(results f tm).run P w=.ok v w:=by
  refine ⟨if h:vs.toArray.size=1 then vs.toArray[0] else .tuple vs.toArray,?_,?_⟩
  ·cases l with
   | nil =>
    have:vs=[]:=List.length_eq_zero_iff.1 q2
    subst this
    simp only [resOf]
    exact .tup rfl fun j c v hc=>by simp at hc
   | cons x r =>
    cases r with
    | nil =>
     simp at q2
     have hs:vs.toArray.size=1:=by simpa using q2
     rw [dif_pos hs]
     exact q3 0 x _ rfl (by simp [q2])
    | cons y r =>
     simp at q2
     have hs:¬ vs.toArray.size=1:=by simp;omega
     rw [dif_neg hs]
     exact .tup (by simp [q2]) fun j c v hc hv=>q3 j c v hc (by simpa using hv)
  ·unfold results
   simp only [Sem.run_bind]
   exact (congrArg (fun r:Result (Array Value)=>r.andThen fun a w'=>Result.ok (if h:a.size=1 then a[0] else Value.tuple a) w') hm)
 obtain ⟨v,hv,hrun⟩:=hval
 exact ⟨v,⟨S,μ,g,hv⟩,rfl,rfl,hb2,f,by rw [← hf,← hb1];rfl,hrun⟩
theorem Runs.ret {f:Func} (hf:P.funcs[fn]?=some f) {ps:List Prop} {res:AV} (h:evRet P f st=some (ps,res)) (hp:AllP ps):Runs P E fn nt (SPost E st.sto res) (.code .ret :: k) st:=by
 intro tm w _ hr b hb1 hb2 cs
 obtain ⟨v,h1,h2⟩:=ret_leaves hf h hp hr hb1 hb2 (.code .ret :: k)
 exact ⟨v,w,_,h1,.one step_ret,hb1,h2⟩
theorem Runs.fin {f:Func} (hf:P.funcs[fn]?=some f) {ps:List Prop} {res:AV} (h:evRet P f st=some (ps,res)) (hp:AllP ps):Runs P E fn nt (SPost E st.sto res) [] st:=by
 intro tm w _ hr b hb1 hb2 cs
 obtain ⟨v,h1,h2⟩:=ret_leaves hf h hp hr hb1 hb2 []
 exact ⟨v,w,_,h1,.one step_end,hb1,h2⟩
def initTm:List AV→Nat→List (Nat×AV)
 | [],_=>[]
 | x :: r,i=>(i,x) :: initTm r (i+1)
theorem initTm_get:∀ (l:List AV) (i t:Nat),getTm (initTm l i) t=if i≤t then (l[t - i]?).getD .unk else .unk
 | [],i,t=>by simp [initTm,getTm]
 | x :: r,i,t=>by
  simp only [initTm,getTm]
  by_cases h:i=t
  ·simp_all
  ·rw [beq_f h,initTm_get r (i+1) t]
   grind
theorem Sound.of_runs {f:FuncId} {fu:Func} {c:Code} {nt m:Nat} {args:List AV} {σ σ':Sto} {res:AV} (hf:P.funcs[f]?=some fu) (hb:fu.body=some c) (hn:fu.ntmps=nt) (ha:Nat.ble args.length nt=true)
  (hσ:m=0→σ=[]) (h:∀ E,EnvOk E m→Runs P E f nt (SPost E σ' res) [.code c] ⟨initTm args 0,σ,m⟩):Sound P f args σ m res σ':=by
 simp only [Nat.ble_eq] at ha
 intro w S μ vs g hk hl cs
 have hE:EnvOk (envOf w S σ μ m) m:=⟨rfl,fun hm b=>by
  rintro (⟨k,o,pl,h1,_⟩ | ⟨k,i,x,v,⟨o,pl,h1,_⟩,_⟩)<;>(rw [hσ hm] at h1;simp [sget] at h1)⟩
 let b:Frame:={ (default:Frame) with fn:=f,kind:=.normal }
 have henter:Frame.enter P f vs .normal=b.at ⟨vs ++ Array.replicate (nt - vs.size) undef,[]⟩ [.code c]:=by
  simp [Frame.enter,Frame.at,hf,hb,hn,b]
 have hsz:=hl.1
 obtain ⟨v,w',fr,h1,h2,h3,h4⟩:=h _ hE (vs ++ Array.replicate (nt - vs.size) undef) w (by simp;omega) ⟨S,μ,g,hk,Nat.le_refl _,fun t=>by
  show RepX w S μ _ (getTm (initTm args 0) t)
  rw [initTm_get,if_pos (Nat.zero_le _),Nat.sub_zero]
  cases hx:args[t]? with
  | none=>exact .unk
  | some x =>
   have hlt:t < vs.size:=by rw [hsz];exact (List.getElem?_eq_some_iff.1 hx).1
   have hv:(vs ++ Array.replicate (nt - vs.size) undef).getD t undef=vs[t]:=by
    simp [Array.getD_eq_getD_getElem?,Array.getElem?_append_left hlt,hlt]
   rw [hv]
   exact hl.2 t x _ hx (Array.getElem?_eq_getElem hlt)⟩ b rfl rfl cs
 rw [← henter] at h2
 obtain ⟨S',μ',g',hv⟩:=h1
 exact ⟨.returned v,w',fr,⟨v,S',μ',rfl,g',hv⟩,h2,h3,h4⟩
end
end Go.Ab
namespace Go.Ab
def bodyOf (f:Func):Code:=f.body.getD .skip
def cat:Code→List Bool→Code
 | c,[]=>c
 | .seq a _,false :: p=>cat a p
 | .seq _ b,true :: p=>cat b p
 | .cond _ a _,false :: p=>cat a p
 | .cond _ _ b,true :: p=>cat b p
 | .block _ b,_ :: p=>cat b p
 | .loop b,_ :: p=>cat b p
 | .scope b,_ :: p=>cat b p
 | c,_ :: _=>c
def adm1:List Item→Option (List Item)
 | .code (.seq a b) :: k=>some (.code a :: .code b :: k)
 | .code (.block id c) :: k=>some (.code c :: .inBlock id :: k)
 | .code (.loop c) :: k=>some (.code c :: .inLoop c :: k)
 | .inLoop c :: k=>some (.code c :: .inLoop c :: k)
 | .inBlock _ :: k=>some k
 | .code (.scope c) :: k=>some (.code c :: .inScope c :: k)
 | .inScope _ :: k=>some k
 | .code .skip :: k=>some k
 | .code (.label _) :: k=>some k
 | .code (.exit id) :: k=>exitTo id k
 | _=>none
def adm:Nat→List Item→Option (List Item)
 | 0,k=>some k
 | n+1,k=>match adm1 k with
  | some k'=>adm n k'
  | none=>none
section
variable {P:Program} {E:Env} {fn:FuncId} {nt:Nat} {Post:Value→World→Prop} {k k':List Item} {st st':St}
theorem Runs.adm1 (h:adm1 k=some k') (hr:Runs P E fn nt Post k' st):Runs P E fn nt Post k st:=by
 unfold Ab.adm1 at h
 split at h
 ·cases h;exact hr.seq
 ·cases h;exact hr.block
 ·cases h;exact hr.loop
 ·cases h;exact hr.inLoop
 ·cases h;exact hr.inBlock
 ·cases h;exact hr.scope
 ·cases h;exact hr.inScope
 ·cases h;exact hr.skip
 ·cases h;exact hr.label
 ·exact hr.exit h
 ·cases h
theorem Runs.adm:∀ (n:Nat) {k:List Item},adm n k=some k'→Runs P E fn nt Post k' st→Runs P E fn nt Post k st
 | 0,k,h,hr=>by simp only [Ab.adm,Option.some.injEq] at h;rw [h];exact hr
 | n+1,k,h,hr=>by
  simp only [Ab.adm] at h
  split at h
  ·rename_i k1 h1
   exact Runs.adm1 h1 (Runs.adm n h hr)
  ·cases h
theorem Runs.condC {c x y:Code} {o:Operand} {q:Bool} (hx:c=.cond o x y) (hc:evOpd st.tm o=.atom (.bool q)) (h1:q=true→Runs P E fn nt Post (.code x :: k) st) (h2:q=false→Runs P E fn nt Post (.code y :: k) st) :
  Runs P E fn nt Post (.code c :: k) st:=by
 grind [Runs.cond]
theorem Runs.condBn {c x y:Code} {o:Operand} {n:Nat} (hx:c=.cond o x y) (hc:evOpd st.tm o=.bn n) (h1:n=0→Runs P E fn nt Post (.code x :: k) st) (h2:Runs P E fn nt Post (.code y :: k) st) :
  Runs P E fn nt Post (.code c :: k) st:=by
 subst hx
 intro tm w hs hr b hb1 hb2 cs
 have hr':=hr
 obtain ⟨S,μ,g,_,_,ht⟩:=hr'
 have e:=opd_rep (a:=⟨tm,[]⟩) ht o
 rw [hc] at e
 obtain ⟨q,e1,e2⟩:∃ q,(⟨tm,[]⟩:Act).eval o=.bool q∧(q=true→n=0):=by
  generalize (⟨tm,[]⟩:Act).eval o=v at e
  cases e with
  | bn q h=>exact ⟨q,rfl,h⟩
 have hst:=step_cond (P:=P) (b:=b) (k:=k) (cs:=cs) (w:=w) (x:=x) (y:=y) e1
 cases q with
 | true =>
  obtain ⟨v,w',fr,q1,q2,q3,q4⟩:=h1 (e2 rfl) tm w hs hr b hb1 hb2 cs
  exact ⟨v,w',fr,q1,.head hst q2,q3,q4⟩
 | false =>
  obtain ⟨v,w',fr,q1,q2,q3,q4⟩:=h2 tm w hs hr b hb1 hb2 cs
  exact ⟨v,w',fr,q1,.head hst q2,q3,q4⟩
end
def sdels:Sto→List Nat→Sto
 | σ,[]=>σ
 | σ,k :: r=>sdels (sdel σ k) r
theorem SPost.dels {E:Env} {res:AV} {v:Value} {w:World}:∀ (ks:List Nat) {σ:Sto},SPost E σ res v w→SPost E (sdels σ ks) res v w
 | [],_,h=>h
 | k :: r,_,⟨S,μ,g,hv⟩=>SPost.dels r ⟨S,μ,g.del k,hv⟩
theorem Runs.retD {P:Program} {E:Env} {fn:FuncId} {nt:Nat} {k:List Item} {st:St} {c:Code} (ks:List Nat) (hx:c=.ret) {f:Func} (hf:P.funcs[fn]?=some f) {ps:List Prop} {res:AV} {σ':Sto} (h:evRet P f st=some (ps,res))
  (hσ:sdels st.sto ks=σ') (hp:AllP ps):Runs P E fn nt (SPost E σ' res) (.code c :: k) st:=by
 subst hx hσ
 intro tm w h1 h2 b h3 h4 cs
 obtain ⟨v,w',fr,q1,q2⟩:=Runs.ret (E:=E) (nt:=nt) (k:=k) hf h hp tm w h1 h2 b h3 h4 cs
 exact ⟨v,w',fr,q1.dels ks,q2⟩
theorem Runs.finD {P:Program} {E:Env} {fn:FuncId} {nt:Nat} {st:St} (ks:List Nat) {f:Func} (hf:P.funcs[fn]?=some f) {ps:List Prop} {res:AV} {σ':Sto} (h:evRet P f st=some (ps,res))
  (hσ:sdels st.sto ks=σ') (hp:AllP ps):Runs P E fn nt (SPost E σ' res) [] st:=by
 subst hσ
 intro tm w h1 h2 b h3 h4 cs
 obtain ⟨v,w',fr,q1,q2⟩:=Runs.fin (E:=E) (nt:=nt) hf h hp tm w h1 h2 b h3 h4 cs
 exact ⟨v,w',fr,q1.dels ks,q2⟩
def evRW (P:Program) (nt m:Nat) (c:Code) (orcs:List (Nat×Orc)) (F:List Nat) (tms:List (Nat×Wd)) (ods:Ods) (nk:Nat) (st:St):Option (List Prop×St) :=
 match evRegion P nt c orcs st with
 | some (ps,s1)=>match wkSt m s1 F tms ods nk with
  | some (qs,s2)=>some (ps ++ qs,s2)
  | none=>none
 | none=>none
theorem Runs.rw {P:Program} {E:Env} {fn:FuncId} {nt:Nat} {Post:Value→World→Prop} {k:List Item} {st st':St} {m:Nat} {c:Code} {orcs:List (Nat×Orc)} {F:List Nat} {tms:List (Nat×Wd)} {ods:Ods} {nk:Nat}
  (hE:EnvOk E m) {ps:List Prop} (h:evRW P nt m c orcs F tms ods nk st=some (ps,st')) (hF:((F.isEmpty && noFrz orcs) || Nat.beq m 0)=true) (hy:YsP P E orcs) (hp:AllP ps) (hr:Runs P E fn nt Post k st'):Runs P E fn nt Post (.code c :: k) st:=by
 unfold evRW at h
 split at h
 ·rename_i p1 s1 h1
  split at h
  ·rename_i q1 s2 h2
   simp only [Option.some.injEq,Prod.mk.injEq] at h
   obtain ⟨rfl,rfl⟩:=h
   obtain ⟨hp1,hp2⟩:=AllP.app hp
   have hF':(F.isEmpty || Nat.beq m 0)=true:=by
    rcases Bool.or_eq_true_iff.1 hF with h | h
    ·simp [(Bool.and_eq_true_iff.1 h).1]
    ·simp [h]
   have hz:noFrz orcs=true∨∀ b,¬ E.fp b:=by
    rcases Bool.or_eq_true_iff.1 hF with h | h
    ·simp_all
    ·exact .inr (hE.fp (Nat.eq_of_beq_eq_true h))
   grind [Runs.region,Runs.wk]
  ·cases h
 ·cases h
abbrev aI (n:Int):AV:=.atom (.int .i64 n)
abbrev aB (b:Bool):AV:=.atom (.bool b)
abbrev aS (s:ByteArray):AV:=.atom (.string s)
def encL {α:Type} (c:α→List AV) (d:α) (l:List α):AV:=.sl l.length fun i=>c (l.getD i d)
def cI (n:Int):List AV:=[aI n]
def cB (b:Bool):List AV:=[aB b]
def cU (k:IntKind) (n:Int):List AV:=[.atom (.int k n)]
abbrev w64 (n:Int):Int:=IntKind.i64.wrap n
theorem ifSome {α:Type} {p:Prop} [Decidable p] {x:Option α} {r:α} (h:(if p then x else none)=some r):p∧x=some r:=by
 simp_all
theorem bindSome {α β:Type} {x:Option α} {f:α→Option β} {r:β} (h:x.bind f=some r):∃ a,x=some a∧f a=some r:=Option.bind_eq_some_iff.1 h
theorem condT {α:Type} {q:Bool} {x y:α} {r:α} (h:cond q x y=r) (hq:q=true):x=r:=by subst hq;exact h
def Alike (x y:AV):Prop:=∀ w S μ v,RepX w S μ v x→RepX w S μ v y
theorem Alike.refl (x:AV):Alike x x:=fun _ _ _ _ h=>h
theorem Alike.sl {n m:Nat} {g g':Nat→List AV} (hn:n=m) (hg:∀ i,i < m→g' i=g i):Alike (.sl n g) (.sl m g'):=by
 subst hn
 intro w S μ v h
 cases h with
 | sl b off sz f h1 h2 h3 h4 h5=>exact .sl b off sz f h1 (fun i hi=>by simp_all) h3 (fun i j c hi hc=>h4 i j c hi (by simp_all)) h5
theorem Alike.nil {g:Nat→List AV}:Alike .nil (.sl 0 g):=by
 intro w S μ v h
 cases h
 exact .sl 0 0 0 (fun _ _=>undef) (fun h=>absurd h (by omega)) (fun i h=>absurd h (by omega)) (fun i j h=>absurd h (by omega)) (fun i j c h=>absurd h (by omega)) (Nat.le_refl _)
theorem Alike.rp {cs:List AV}:Alike (.rp cs 0) (.pt true cs):=fun _ _ _ _ h=>.pt (fun _=>h) (fun h=>by cases h)
inductive AlikeL:List AV→List AV→Prop where
 | nil:AlikeL [] []
 | cons {x y:AV} {xs ys:List AV}:Alike x y→AlikeL xs ys→AlikeL (x :: xs) (y :: ys)
theorem AlikeL.get {xs ys:List AV} (h:AlikeL xs ys):xs.length=ys.length∧∀ (j:Nat) y,ys[j]?=some y→∃ x,xs[j]?=some x∧Alike x y:=by
 induction h with
 | nil=>simp
 | cons h1 _ ih =>
  grind
theorem Alike.agg {xs ys:List AV} (h:AlikeL xs ys):Alike (.agg xs) (.agg ys):=by
 intro w S μ v hv
 obtain ⟨h1,h2⟩:=h.get
 cases hv with
 | agg q1 q2 =>
  refine .agg (q1.trans h1) fun j y v hy hv=>?_
  obtain ⟨x,hx,ha⟩:=h2 j y hy
  exact ha _ _ _ _ (q2 j x v hx hv)
theorem Sound.conv {P:Program} {f:FuncId} {args args':List AV} {σ σ':Sto} {m:Nat} {res:AV} (h:Sound P f args σ m res σ') (ha:AlikeL args' args):Sound P f args' σ m res σ':=by
 obtain ⟨h1,h2⟩:=ha.get
 intro w S μ vs g hk hl
 refine h w S μ vs g hk ⟨hl.1.trans h1,fun j c v hc hv=>?_⟩
 obtain ⟨x,hx,hx'⟩:=h2 j c hc
 exact hx' _ _ _ _ (hl.2 j x v hx hv)
def orI (k:IntKind) (a b:Int):Int:=k.wrap (BitVec.ofInt k.bits a ||| BitVec.ofInt k.bits b).toNat
def andI (k:IntKind) (a b:Int):Int:=k.wrap (BitVec.ofInt k.bits a &&& BitVec.ofInt k.bits b).toNat
def shlI (k:IntKind) (a b:Int):Int:=k.wrap (a * 2 ^ (min b.toNat k.bits))
def shrI (k:IntKind) (a b:Int):Int:=a.fdiv (2 ^ (min b.toNat k.bits))
theorem ltOf {n:Int} {m:Nat} (h:0≤n∧n < (m:Int)):n.toNat < m:=by omega
theorem andI' {a b:Bool} (h:a=true) (k:b=true):(a && b)=true:=by rw [h,k];rfl
theorem get_rep {α:Type} (c:α→List AV) (d x:α) (n i:Nat) (hi:i < (List.replicate n x).length):c ((List.replicate n x).getD i d)=c x:=by
 simp_all
theorem get_ext {α:Type} (c:α→List AV) (d:α) (l:List α) (a b i:Nat) (hi:i < ((l.take b).drop a).length):c (((l.take b).drop a).getD i d)=c (l.getD (addz a i) d):=by
 have h1:a+i < min b l.length:=by simp at hi;omega
 rw [addz_eq]
 grind
theorem get_chunk {α:Type} (c:α→List AV) (d:α) (l:List α) (i:Nat) (hi:i < l.length):c (l.getD i d)=(l.map c).getD i []:=by
 simp_all
theorem len_ext {α:Type} (l:List α) (a b:Nat) (h1:a≤b) (h2:b≤l.length):b - a=((l.take b).drop a).length:=by simp;omega
theorem len_ext' {α:Type} (l:List α) (a b:Nat) (h1:a≤b∧b≤l.length):b - a=((l.take b).drop a).length:=len_ext l a b h1.1 h1.2
end Go.Ab
namespace Go.Ab
theorem condSplit {α:Type} {q:Bool} {x y r:α} (h:cond q x y=r):(q=true∧x=r)∨(q=false∧y=r):=by grind
theorem get_app_raw {α:Type} (c:α→List AV) (d:α) (l m:List α) {n:Nat} {g1 g2:Nat→List AV} (hn:n=l.length) (h1:∀ z,z < l.length→c (l.getD z d)=g1 z)
  (h2:∀ z,z < m.length→c (m.getD z d)=g2 z) (i:Nat) (hi:i < (l ++ m).length):c ((l ++ m).getD i d)=if i < n then g1 i else g2 (i - n):=by
 grind
theorem len_app_raw {α:Type} {l m:List α} {n k:Nat} (hn:n=l.length) (hk:k=m.length):n+k=(l ++ m).length:=by subst hn hk;simp
theorem get_set_raw {α:Type} (c:α→List AV) (d:α) (l:List α) (k:Nat) (x:α) {g:Nat→List AV} (h1:∀ z,z < l.length→c (l.getD z d)=g z) (i:Nat) (hi:i < (l.set k x).length) :
  c ((l.set k x).getD i d)=if i=k then c x else g i:=by
 grind
theorem len_set_raw {α:Type} {l:List α} {n k:Nat} {x:α} (hn:n=l.length):n=(l.set k x).length:=by subst hn;simp
def kp:List Nat→List (Nat×Wd)
 | []=>[]
 | t :: r=>(t,.keep) :: kp r
def kq:List Nat→Ods
 | []=>[]
 | k :: r=>(k,.keep k) :: kq r
def vO (n:Nat) (cs:List AV):Ob:=⟨true,n,1,true,fun _=>cs⟩
def vN (n:Nat) (cs:List AV):Ob:=⟨true,n,1,false,fun _=>cs⟩
def aO {α:Type} (sz:Nat) (c:α→List AV) (d:α) (l:List α):Ob:=⟨false,sz,l.length,true,fun zi=>c (l.getD zi d)⟩
def pathF:Nat→Nat→List Bool→List Bool
 | 0,_,acc=>acc
 | k+1,n,acc=>match Nat.ble n 1 with
  | true=>acc
  | false=>pathF k (n / 2) (Nat.beq (n % 2) 1 :: acc)
def pth (n:Nat):List Bool:=pathF 400 n []
theorem o1:0 < 1:=Nat.one_pos
theorem z0 {n:Nat}:0+n≤n:=Nat.le_of_eq (Nat.zero_add _)
section
variable {P:Program} {E:Env} {fn:FuncId} {nt:Nat} {Post:Value→World→Prop} {k:List Item} {st:St} {m:Nat}
theorem Runs.sA (n:Nat) (k':List Item) (hr:Runs P E fn nt Post k' st) (h:Ab.adm n k=some k':=by kernel_rfl):Runs P E fn nt Post k st:=Runs.adm n h hr
theorem Runs.sK0 {c:Code} (x y:Code) (hr:Runs P E fn nt Post (.code y :: k) st) (hx:c=.cond (.const (.bool false)) x y:=by kernel_rfl):Runs P E fn nt Post (.code c :: k) st :=
 Runs.condC (q:=false) hx rfl (fun h=>by cases h) (fun _=>hr)
theorem Runs.sT {c:Code} (f:Func) (ks:List Nat) (ps:List Prop) {res:AV} {σ':Sto} (hp:AllP ps) (hx:c=.ret:=by kernel_rfl) (hf:P.funcs[fn]?=some f:=by kernel_rfl) (h:evRet P f st=some (ps,res):=by kernel_rfl)
  (hσ:sdels st.sto ks=σ':=by rfl):Runs P E fn nt (SPost E σ' res) (.code c :: k) st:=Runs.retD ks hx hf h hσ hp
theorem Runs.sF (f:Func) (ks:List Nat) (ps:List Prop) {res:AV} {σ':Sto} (hp:AllP ps) (hf:P.funcs[fn]?=some f:=by kernel_rfl) (h:evRet P f st=some (ps,res):=by kernel_rfl)
  (hσ:sdels st.sto ks=σ':=by rfl):Runs P E fn nt (SPost E σ' res) [] st:=Runs.finD ks hf h hσ hp
def nK (n:Nat) (k:List Item):List Item:=match Ab.adm n k with
 | some k'=>k'
 | none=>[]
def hdC:List Item→Code
 | .code c :: _=>c
 | _=>.ret
def tlK:List Item→List Item
 | _ :: k=>k
 | []=>[]
def cdX:Code→Code
 | .cond _ x _=>x
 | c=>c
def cdY:Code→Code
 | .cond _ _ y=>y
 | c=>c
def chkA (n:Nat) (k:List Item):Bool:=match Ab.adm n k with
 | some (.code _ :: _)=>true
 | _=>false
def nS (P:Program) (nt m:Nat) (c:Code) (orcs:List (Nat×Orc)) (F:List Nat) (tms:List (Nat×Wd)) (ods:Ods) (nk:Nat) (st:St):St:=match evRW P nt m c orcs F tms ods nk st with
 | some x=>x.2
 | none=>st
def nV (m:Nat) (st:St) (F:List Nat) (tms:List (Nat×Wd)) (ods:Ods) (nk:Nat):St:=match wkSt m st F tms ods nk with
 | some x=>x.2
 | none=>st
def psOf:Option (List Prop×St)→Option (List Prop)
 | some x=>some x.1
 | none=>none
theorem chk_adm {n:Nat} {k:List Item} (h:chkA n k=true):Ab.adm n k=some (.code (hdC (nK n k)) :: tlK (nK n k)):=by
 unfold chkA at h
 unfold nK
 split at h
 ·rename_i c k' h1;rw [h1];rfl
 ·cases h
theorem psOf_some {x:Option (List Prop×St)} {ps:List Prop} (h:psOf x=some ps):∃ s,x=some (ps,s):=by
 cases x with
 | none=>cases h
 | some y=>cases h;exact ⟨y.2,rfl⟩
theorem Runs.nR (hE:EnvOk E m) (n:Nat) (orcs:List (Nat×Orc)) (F:List Nat) (tms:List (Nat×Wd)) (ods:Ods) (nk:Nat) {ps:List Prop} (hp:AllP ps)
  (hr:Runs P E fn nt Post (tlK (nK n k)) (nS P nt m (hdC (nK n k)) orcs F tms ods nk st)) (h0:chkA n k=true:=by kernel_rfl)
  (h:psOf (evRW P nt m (hdC (nK n k)) orcs F tms ods nk st)=some ps:=by kernel_rfl) (hF:(((F.isEmpty && noFrz orcs) || Nat.beq m 0) && noY orcs)=true:=by kernel_rfl):Runs P E fn nt Post k st:=by
 obtain ⟨s,hs⟩:=psOf_some h
 refine Runs.adm n (chk_adm h0) (Runs.rw hE hs (Bool.and_eq_true_iff.1 hF).1 (noY_ys (Bool.and_eq_true_iff.1 hF).2) hp ?_)
 grind [nS,hdC,nK]
theorem Runs.nW (hE:EnvOk E m) (n:Nat) (F:List Nat) (tms:List (Nat×Wd)) (ods:Ods) (nk:Nat) {ps:List Prop} (hp:AllP ps) {k':List Item} {st':St} (hr:Runs P E fn nt Post k' st')
  (h0:Ab.adm n k=some k':=by kernel_rfl) (h:wkSt m st F tms ods nk=some (ps,st'):=by kernel_rfl) (hF:(F.isEmpty || Nat.beq m 0)=true:=by kernel_rfl):Runs P E fn nt Post k st :=
 Runs.adm n h0 (Runs.wk hE h hF hp hr)
theorem Runs.nC (n t:Nat) {R:Type} {q:Bool} {x y r:R} (h:(bif q then x else y)=r) (h1:q=true→x=r→Runs P E fn nt Post (.code (cdX (hdC (nK n k))) :: tlK (nK n k)) st)
  (h2:q=false→y=r→Runs P E fn nt Post (.code (cdY (hdC (nK n k))) :: tlK (nK n k)) st) (h0:chkA n k=true:=by kernel_rfl)
  (hx:hdC (nK n k)=.cond (.tmp t) (cdX (hdC (nK n k))) (cdY (hdC (nK n k))):=by kernel_rfl) (hc:evOpd st.tm (.tmp t)=.atom (.bool q):=by kernel_rfl):Runs P E fn nt Post k st :=
 Runs.adm n (chk_adm h0) (Runs.condC hx hc (fun hq=>h1 hq (by rw [hq] at h;exact h)) (fun hq=>h2 hq (by rw [hq] at h;exact h)))
theorem Runs.nQ0 (n:Nat) (hr:Runs P E fn nt Post (.code (cdY (hdC (nK n k))) :: tlK (nK n k)) st) (h0:chkA n k=true:=by kernel_rfl)
  (hx:hdC (nK n k)=.cond (.const (.bool false)) (cdX (hdC (nK n k))) (cdY (hdC (nK n k))):=by kernel_rfl):Runs P E fn nt Post k st:=Runs.adm n (chk_adm h0) (Runs.sK0 _ _ hr hx)
theorem Runs.nT (hE:EnvOk E m) (n:Nat) (f:Func) (F:List Nat) (tms:List (Nat×Wd)) (ods:Ods) (nk:Nat) {ps:List Prop} (hp:AllP ps) (ks:List Nat) {ps2:List Prop} (hp2:AllP ps2) {res:AV} {σ':Sto}
  (h0:chkA n k=true:=by kernel_rfl) (hx:hdC (nK n k)=.ret:=by kernel_rfl) (h:psOf (wkSt m st F tms ods nk)=some ps:=by kernel_rfl) (hf:P.funcs[fn]?=some f:=by kernel_rfl)
  (h2:evRet P f (nV m st F tms ods nk)=some (ps2,res):=by kernel_rfl) (hσ:sdels (nV m st F tms ods nk).sto ks=σ':=by kernel_rfl) (hF:(F.isEmpty || Nat.beq m 0)=true:=by kernel_rfl):Runs P E fn nt (SPost E σ' res) k st:=by
 obtain ⟨s,hs⟩:=psOf_some h
 have e:nV m st F tms ods nk=s:=by unfold nV;rw [hs]
 rw [e] at h2 hσ
 exact Runs.adm n (chk_adm h0) (Runs.wk hE hs hF hp (Runs.sT f ks ps2 hp2 hx hf h2 hσ))
theorem Runs.nF (hE:EnvOk E m) (n:Nat) (f:Func) (F:List Nat) (tms:List (Nat×Wd)) (ods:Ods) (nk:Nat) {ps:List Prop} (hp:AllP ps) (ks:List Nat) {ps2:List Prop} (hp2:AllP ps2) {res:AV} {σ':Sto}
  (h0:Ab.adm n k=some []:=by kernel_rfl) (h:psOf (wkSt m st F tms ods nk)=some ps:=by kernel_rfl) (hf:P.funcs[fn]?=some f:=by kernel_rfl)
  (h2:evRet P f (nV m st F tms ods nk)=some (ps2,res):=by kernel_rfl) (hσ:sdels (nV m st F tms ods nk).sto ks=σ':=by kernel_rfl) (hF:(F.isEmpty || Nat.beq m 0)=true:=by kernel_rfl):Runs P E fn nt (SPost E σ' res) k st:=by
 grind [psOf_some,nV,Runs.adm,Runs.wk,Runs.sF]
theorem getD_app {α:Type} (E:List (List α)) (row:List α):(E ++ [row]).getD E.length []=row:=by simp
theorem pc {p:Prop} {ps:List Prop} (h:p) (t:AllP ps):AllP (p :: ps):=⟨h,t⟩
theorem pn:AllP []:=trivial
theorem z1 (n:Nat):0+n≤n:=z0
theorem get_set0 {α:Type} (c:α→List AV) (d:α) (l:List α) (k:Nat) (x:α) (i:Nat) (hi:i < (l.set k x).length):c ((l.set k x).getD i d)=if i=k then c x else (fun zi=>c (l.getD zi d)) i :=
 get_set_raw c d l k x (fun _ _=>rfl) i hi
theorem len_set0 {α:Type} (l:List α) (k:Nat) (x:α):l.length=(l.set k x).length:=len_set_raw rfl
theorem len_app0 {α:Type} (l m:List α):l.length+m.length=(l ++ m).length:=len_app_raw rfl rfl
end
section
variable {P:Program} {kt:TypeId} {A B:Type} (ck:A→AV) (cv:B→AV) {eq:A→A→Bool} (h:∀ a b,keyEq P kt (ck a) (ck b)=some (eq a b))
include h
end
def wI (x:Int):Prop:=-9223372036854775808≤x∧x≤9223372036854775807
def wK (k:IntKind) (x:Int):Prop:=k.min≤x∧x≤k.max
def wB (_:Bool):Prop:=True
def wL {A:Type} (wf:A→Prop) (l:List A):Prop:=l.length≤9223372036854775807∧∀ y,y∈l→wf y
theorem get_tk {α:Type} (c:α→List AV) (d:α) (l:List α) (a z:Nat) (hz:z < (l.take a).length):c ((l.take a).getD z d)=c (l.getD z d):=by
 grind
theorem upE {a b:List AV} (h:a=b):UpL a b:=by
 subst h
 induction a with
 | nil=>trivial
 | cons x l ih=>exact ⟨.inl rfl,ih⟩
theorem len_tk1 {α:Type} {l:List α} {a:Nat} (h:a≤l.length):a=(l.take a).length:=by simp;omega
theorem len_tk2 {α:Type} (l:List α) (a:Nat):(l.take a).length≤l.length:=by simp;omega
def unL:Nat→List AV
 | 0=>[]
 | n+1=>.unk :: unL n
theorem unL_len (n:Nat):(unL n).length=n:=by induction n with
 | zero=>rfl
 | succ n ih=>simp [unL,ih]
theorem unL_get {n j:Nat} {x:AV} (h:(unL n)[j]?=some x):x=.unk:=by
 induction n generalizing j with
 | zero=>simp [unL] at h
 | succ n ih=>grind [unL]
theorem Runs.split {P:Program} {E:Env} {fn:FuncId} {nt:Nat} {Post:Value→World→Prop} {kk:List Item} {s0:St} (t k off m:Nat) (o:Ob) (ht:getTm s0.tm t=.os k off m) (ho:sget s0.sto k=some o) (hv:(!o.var && Nat.ble 1 o.sz)=true) (hm:addz off m=o.len)
  (h1:Runs P E fn nt Post kk ⟨s0.tm,sset s0.sto k ⟨false,o.sz,addz off m+1,o.pr,fun i=>if i < addz off m then o.get i else unL o.sz⟩,s0.nk⟩)
  (h2:Runs P E fn nt Post kk ⟨(t,.osf k off m) :: s0.tm,s0.sto,s0.nk⟩):Runs P E fn nt Post kk s0:=by
 intro tm w hs hr b hb hk cs
 obtain ⟨S,μ,g,hk',hm0,htm⟩:=hr
 simp only [Bool.and_eq_true,Bool.not_eq_true',Nat.ble_eq] at hv
 have hvt:=htm t
 rw [show getTm s0.tm t=_ from ht] at hvt
 generalize hval:tm.getD t undef=v at hvt
 cases hvt with
 | os pl hmk q1 q2 q3 =>
  rename_i cap a
  obtain ⟨pl',c,T,hmk',hob⟩:=g.rep.ob k o ho
  rw [hmk] at hmk';cases hmk'
  have ez:addz off m=off+m:=addz_eq _ _
  by_cases hc:m < cap
  ·have hcp:0 < pl.cap:=by omega
   have gw:=g.write ho hmk hcp hob (by omega) ⟨false,o.sz,addz off m+1,o.pr,fun i=>if i < addz off m then o.get i else unL o.sz⟩ c rfl rfl (show addz off m+1≤pl.cap by omega) (fun i hi=>by
    show (if i < addz off m then o.get i else unL o.sz).length=o.sz
    split
    ·exact hob.els i (by omega)
    ·exact unL_len _) (fun i j x v hi hx hv=>by
    have hx:(if i < addz off m then o.get i else unL o.sz)[j]?=some x:=hx
    split at hx
    ·exact hob.rep i j x v (by omega) hx hv
    ·rw [unL_get hx];exact .unk) (fun i x hx=>⟨(by
    obtain ⟨_,r2,r3⟩:=rowOf_some hx
    have r3:(if i < addz off m then o.get i else unL o.sz)=[.mr x.1 x.2.1 x.2.2]:=r3
    split at r3
    ·grind [rowOf_mk]
    ·have:=unL_get (n:=o.sz) (j:=0) (x:=.mr x.1 x.2.1 x.2.2) (by rw [r3];rfl)
     cases this),rfl⟩)
   have hw:w.setRow pl.blk c=w:=setRow_self w pl.blk c T (0,0) ((hob.blk hcp).trans (by grind [blkObj_row]))
   rw [hw] at gw
   exact h1 tm w hs ⟨S,μ,gw.2,hk',hm0,htm⟩ b hb hk cs
  ·have:cap=m:=by omega
   subst this
   refine h2 tm w hs ⟨S,μ,g,hk',hm0,fun t'=>?_⟩ b hb hk cs
   show RepX w S μ (tm.getD t' undef) (getTm ((t,.osf k off cap) ::  s0.tm) t')
   simp only [getTm]
   split
   ·rename_i hb
    rw [← Nat.eq_of_beq_eq_true hb,hval]
    exact .osf pl hmk q1 q3
   ·exact htm t'
abbrev slW {α:Type} (c:α→List AV) (d:α) (l:List α):Wd:=.sl l.length fun i=>c (l.getD i d)
abbrev arW {α:Type} (k:Nat) (c:α→List AV) (d:α) (l:List α):Od:=.arr k l.length fun i=>c (l.getD i d)
theorem gA1 {α:Type} (c:α→List AV) (d:α) (l m:List α) (i:Nat) (hi:i < (l ++ m).length):c ((l ++ m).getD i d)=if i < l.length then c (l.getD i d) else (m.map c).getD (i - l.length) [] :=
 get_app_raw c d l m rfl (fun _ _=>rfl) (get_chunk c d m) i hi
theorem eZ {α:Type} (c:α→List AV) (d:α) (l:List α) (i:Nat) (_:i < l.length):c (l.getD i d)=c (l.getD (addz 0 i) d):=rfl
theorem lR {α:Type} (n:Nat) (d:α):n=(List.replicate n d).length:=List.length_replicate.symm
theorem oN (l:List (List AV)) (h:l.all AV.oneL=true:=by rfl) (i:Nat) (_:i < l.length):AV.oneL (l.getD (addz 0 i) [])=true:=by
 rw [show addz 0 i=i from rfl]
 have:=List.all_eq_true.1 h
 grind
theorem fL {α:Type} (c:α→List AV) (d:α) (l:List α) (h:∀ x,AV.flatL (c x)=true:=by exact fun _=>rfl) (i:Nat) (_:i < l.length):AV.flatL (c (l.getD i d))=true:=h _
noncomputable def bt (f:Func) (n:Nat):Code:=cat (bodyOf f) (pth n)
theorem sO {P:Program} {f:FuncId} {m:Nat} {args:List AV} {σ σ':Sto} {res:AV} (fu:Func) (nt:Nat) (h:∀ E,EnvOk E m→Runs P E f nt (SPost E σ' res) [.code (bt fu 1)] ⟨initTm args 0,σ,m⟩)
  (hσ:m=0→σ=[]:=by first | exact fun _=>rfl | exact fun h=>absurd h (by decide)) (hf:P.funcs[f]?=some fu:=by kernel_rfl) (hb:fu.body=some (bt fu 1):=by kernel_rfl) (hn:fu.ntmps=nt:=by kernel_rfl) (ha:Nat.ble args.length nt=true:=by kernel_rfl) :
  Sound P f args σ m res σ':=Sound.of_runs hf hb hn ha hσ h
section
variable {P:Program} {E:Env} {fn:FuncId} {nt:Nat} {Post:Value→World→Prop} {k:List Item} {st:St} {m:Nat}
theorem rnH (hE:EnvOk E m) (n:Nat) (orcs:List (Nat×Orc)) (tms:List (Nat×Wd)) (ods:Ods) (nk:Nat) {ps:List Prop} (hp:AllP ps) (hr:Runs P E fn nt Post (tlK (nK n k)) (nS P nt m (hdC (nK n k)) orcs [] tms ods nk st)) (h0:chkA n k=true:=by kernel_rfl)
  (h:psOf (evRW P nt m (hdC (nK n k)) orcs [] tms ods nk st)=some ps:=by kernel_rfl) (hF:((noFrz orcs || Nat.beq m 0) && noY orcs)=true:=by kernel_rfl):Runs P E fn nt Post k st:=Runs.nR hE n orcs [] tms ods nk hp hr h0 h hF
theorem rnP (hE:EnvOk E m) (n:Nat) (tms:List (Nat×Wd)) (ods:Ods) (nk:Nat) {ps:List Prop} (hp:AllP ps) (hr:Runs P E fn nt Post (tlK (nK n k)) (nS P nt m (hdC (nK n k)) [] [] tms ods nk st)) (h0:chkA n k=true:=by kernel_rfl)
  (h:psOf (evRW P nt m (hdC (nK n k)) [] [] tms ods nk st)=some ps:=by kernel_rfl):Runs P E fn nt Post k st:=Runs.nR hE n [] [] tms ods nk hp hr h0 h rfl
theorem rnZ (hE:EnvOk E m) (n:Nat) (tms:List (Nat×Wd)) (ods:Ods) (nk:Nat) (hr:Runs P E fn nt Post (tlK (nK n k)) (nS P nt m (hdC (nK n k)) [] [] tms ods nk st)) (h0:chkA n k=true:=by kernel_rfl)
  (h:psOf (evRW P nt m (hdC (nK n k)) [] [] tms ods nk st)=some []:=by kernel_rfl):Runs P E fn nt Post k st:=Runs.nR hE n [] [] tms ods nk pn hr h0 h rfl
theorem rnV (hE:EnvOk E m) (n:Nat) (tms:List (Nat×Wd)) (ods:Ods) (nk:Nat) {k':List Item} {st':St} (hr:Runs P E fn nt Post k' st')
  (h0:Ab.adm n k=some k':=by kernel_rfl) (h:wkSt m st [] tms ods nk=some ([],st'):=by kernel_rfl):Runs P E fn nt Post k st:=Runs.nW hE n [] tms ods nk pn hr h0 h rfl
theorem rnU (hE:EnvOk E m) (n:Nat) (f:Func) (tms:List (Nat×Wd)) (ods:Ods) (nk:Nat) {res:AV} {σ':Sto}
  (h0:chkA n k=true:=by kernel_rfl) (hx:hdC (nK n k)=.ret:=by kernel_rfl) (h:psOf (wkSt m st [] tms ods nk)=some []:=by kernel_rfl) (hf:P.funcs[fn]?=some f:=by kernel_rfl)
  (h2:evRet P f (nV m st [] tms ods nk)=some ([],res):=by kernel_rfl) (hσ:sdels (nV m st [] tms ods nk).sto []=σ':=by kernel_rfl):Runs P E fn nt (SPost E σ' res) k st :=
 Runs.nT hE n f [] tms ods nk pn [] pn h0 hx h hf h2 hσ rfl
end
end Go.Ab
namespace Go.Ab
open Go.ChangeShapes Go.WideShapes Go.ChangeAt Go.RowKit
def allB (w:World) (b:Nat):Prop:=b < w.heap.size
def Seg (w:World) (cs:List Value) (c:List AV):Prop :=
 cs.length=c.length∧∀ (j:Nat) (a:AV) (v:Value),c[j]?=some a→cs[j]?=some v→RepX w (allB w) noMu v a
theorem Seg.nil {w:World}:Seg w [] []:=⟨rfl,fun j a v h=>by simp at h⟩
theorem Seg.append {w:World} {a b:List Value} {c d:List AV} (h1:Seg w a c) (h2:Seg w b d):Seg w (a ++ b) (c ++ d):=by
 refine ⟨by simp [h1.1,h2.1],fun j x v hx hv=>?_⟩
 by_cases hj:j < a.length
 ·rw [List.getElem?_append_left (by rw [← h1.1];exact hj)] at hx
  rw [List.getElem?_append_left hj] at hv
  exact h1.2 j x v hx hv
 ·rw [List.getElem?_append_right (by rw [← h1.1];omega)] at hx
  rw [List.getElem?_append_right (by omega)] at hv
  rw [← h1.1] at hx
  exact h2.2 _ x v hx hv
theorem Seg.step {w:World} {cs:List Value} {o n:Nat} {c d:List AV} (h1:Seg w ((cs.drop o).take n) c) (h2:Seg w (cs.drop (o+n)) d):Seg w (cs.drop o) (c ++ d):=by
 have e:cs.drop o=(cs.drop o).take n ++ cs.drop (o+n):=by rw [← List.drop_drop];exact (List.take_append_drop n _).symm
 rw [e];exact h1.append h2
theorem Seg.done {w:World} {cs:List Value} {o:Nat} (h:cs.length=o):Seg w (cs.drop o) []:=by
 rw [List.drop_of_length_le (by omega)];exact .nil
theorem Seg.one {w:World} {v:Value} {a:AV} (h:RepX w (allB w) noMu v a):Seg w [v] [a]:=by
 refine ⟨rfl,fun j x u hx hu=>?_⟩
 cases j with
 | zero=>simp at hx hu;subst hx hu;exact h
 | succ j=>simp at hx
def Opens (P:Program) (t:TypeId) {A:Type} (wf:A→Prop) (c:A→List AV):Prop :=
 ∀ (H:Type) (enc:TypeId×Value→H) (w:World) (n:Nat) (cs:List Value) (x:DataW H×List MemPlace),DataW.trod enc P w 0 (fun _=>true) true n t cs=some x→∃ y:A,wf y∧Seg w cs (c y)
variable {P:Program} {t e:TypeId}
theorem Opens.int (ht:P.underlying t=some (.int .i64)):Opens P t wI cI:=by
 intro H enc w n cs x h
 obtain ⟨n,rfl,_,hw⟩:=DataW.trod_int ht h
 refine ⟨n,?_,Seg.one (.atom _)⟩
 simp [Lit.wf,IntKind.min,IntKind.max,IntKind.signed,IntKind.bits] at hw
 exact ⟨by omega,by omega⟩
theorem Opens.intU {k:IntKind} (ht:P.underlying t=some (.int k)):Opens P t (wK k) (cU k):=by
 intro H enc w n cs x h
 obtain ⟨n,rfl,_,hw⟩:=DataW.trod_int ht h
 refine ⟨n,?_,Seg.one (.atom _)⟩
 simp [Lit.wf] at hw
 exact ⟨hw.1,hw.2⟩
theorem Opens.bool (ht:P.underlying t=some .bool):Opens P t wB cB:=by
 intro H enc w n cs x h
 obtain ⟨b,rfl,_⟩:=DataW.trod_bool ht h
 exact ⟨b,trivial,Seg.one (.atom _)⟩
theorem addPlain {a:Addr} (h:a.spot=none) (n:Nat):a.add n=⟨a.block,a.off+n,none⟩:=by
 obtain ⟨b,o,s⟩:=a
 simp only at h;subst h
 unfold Addr.add
 by_cases h:n=0<;>simp [h]
theorem Opens.slice {A:Type} {wf:A→Prop} {c:A→List AV} (d:A) (ht:P.underlying t=some (.slice e)) (he:Opens P e wf c) {sz:Nat} (hs:P.cellsOf e=sz) (hz:0 < sz) (hc:∀ y,(c y).length=sz) :
  Opens P t (wL wf) (fun l=>[encL c d l]):=by
 intro H enc w n cs x h
 rcases Go.Deep.open_slice ht h with ⟨rfl,_⟩ | ⟨a,len,cap,m,k,D,Pl,rfl,_,hlc,hcm,hm,_,hx⟩
 ·refine ⟨[],⟨by simp,by simp⟩,Seg.one ?_⟩
  exact .sl 0 0 0 (fun _ _=>default) (fun h=>absurd h (Nat.not_lt_zero _)) (fun i h=>absurd h (Nat.not_lt_zero _)) (fun i j h=>absurd h (Nat.not_lt_zero _)) (fun i j c h=>absurd h (Nat.not_lt_zero _)) (Nat.le_refl _)
 ·simp only [if_true] at hm
  subst hm
  rw [hs] at hx
  have hx':∀ i,i < len→∃ z:List Value×A,w.cells? 0 (a.add (i * sz)) sz=some z.1∧wf z.2∧Seg w z.1 (c z.2):=fun i hi=>by
   obtain ⟨cs',h1,h2⟩:=hx i (by omega)
   obtain ⟨y,hy,hy2⟩:=he H enc w k cs' _ h2
   exact ⟨(cs',y),h1,hy,hy2⟩
  haveI:Inhabited (List Value×A):=⟨([],d)⟩
  obtain ⟨Z,hZ⟩:=Go.Deep.choose_lt hx'
  have hlen:((List.range len).map fun i=>(Z i).2).length=len:=by simp
  have hget:∀ i,i < len→((List.range len).map fun i=>(Z i).2).getD i d=(Z i).2:=fun i hi=>by
   simp [List.getD,hi]
  have hcell:∀ i j,i < len→j < sz→w.cell? ((a.add (i * sz)).add j)=some ((Z i).1.getD j default):=fun i j hi hj=>by
   obtain ⟨_,hl,hg⟩:=World.cells?_some (hZ i hi).1
   rw [hg j hj]
   have:j < (Z i).1.length:=by omega
   simp [List.getD,this]
  have hspot:0 < len→a.spot=none∧a.block < w.heap.size:=fun h0=>by
   have:=hcell 0 0 h0 hz
   simp only [Nat.zero_mul,Addr.add,if_true] at this
   unfold World.cell? at this
   split at this
   ·rename_i cc tt ff hh
    refine ⟨?_,(Array.getElem?_eq_some_iff.1 hh).1⟩
    cases hs:a.spot with
    | none=>rfl
    | some z=>simp [hs] at this
   ·cases this
  refine ⟨(List.range len).map fun i=>(Z i).2,⟨by rw [hlen];unfold maxLen at hcm;omega,?_⟩,Seg.one ?_⟩
  ·intro y hy
   simp only [List.mem_map,List.mem_range] at hy
   obtain ⟨i,hi,rfl⟩:=hy
   exact (hZ i hi).2.1
  ·unfold encL
   rw [hlen]
   refine .sl a.block a.off sz (fun i j=>(Z i).1.getD j default) (fun h0=>⟨?_,(hspot h0).2⟩) (fun i hi=>hc _) (fun i j hi hj=>?_) (fun i j x hi hx=>?_) hlc
   ·have:=(hspot h0).1
    obtain ⟨b,o,s⟩:=a
    simp only at this;subst this;rfl
   ·have h0:=(hspot (by omega)).1
    have:=hcell i j hi hj
    rwa [addPlain h0,addPlain rfl] at this
   ·rw [hget i hi] at hx
    have hj:j < (c (Z i).2).length:=(List.getElem?_eq_some_iff.1 hx).1
    have hj2:j < (Z i).1.length:=by rw [(hZ i hi).2.2.1];exact hj
    refine (hZ i hi).2.2.2 j x _ hx ?_
    simp [List.getD,hj2]
theorem struct_inv {H:Type} {enc:TypeId×Value→H} {w:World} {fs:Array Field} {n:Nat} {cs:List Value} {x:DataW H×List MemPlace} (ht:P.underlying t=some (.struct fs)) (h:DataW.trod enc P w 0 (fun _=>true) true n t cs=some x) :
  cs.length=P.cellsOf t∧∃ m,∀ (i:Nat) (f:Field),fs[i]?=some f→∃ y,DataW.trod enc P w 0 (fun _=>true) true m f.type ((cs.drop f.offset).take (P.cellsOf f.type))=some y:=by
 obtain ⟨xs,m,_,_,hl,hx,hf⟩:=DataW.trod_struct ht h
 refine ⟨hl,m,fun i f hi=>?_⟩
 rw [hf i f hi]
 have:i < xs.length:=by rw [hx];exact (Array.getElem?_eq_some_iff.1 hi).1
 exact ⟨xs[i],List.getElem?_eq_getElem this⟩
theorem fieldO {H:Type} {enc:TypeId×Value→H} {w:World} {fs:Array Field} {m:Nat} {cs:List Value} (hf:∀ (i:Nat) (f:Field),fs[i]?=some f→∃ y,DataW.trod enc P w 0 (fun _=>true) true m f.type ((cs.drop f.offset).take (P.cellsOf f.type))=some y)
  (i:Nat) {te:TypeId} (o n:Nat) {A:Type} {wf:A→Prop} {c:A→List AV} (he:Opens P te wf c) (hi:(fs[i]?).map (fun (f:Field)=>(f.type,f.offset))=some (te,o)) (hn:P.cellsOf te=n):∃ y:A,wf y∧Seg w ((cs.drop o).take n) (c y):=by
 simp only [Option.map_eq_some_iff,Prod.mk.injEq] at hi
 obtain ⟨f,hf1,hf2,hf3⟩:=hi
 obtain ⟨y,hy⟩:=hf i f hf1
 rw [hf2,hf3,hn] at hy
 exact he H enc w m _ y hy
theorem array_inv {H:Type} {enc:TypeId×Value→H} {w:World} {k:Nat} {n:Nat} {cs:List Value} {x:DataW H×List MemPlace} (ht:P.underlying t=some (.array k e)) (h:DataW.trod enc P w 0 (fun _=>true) true n t cs=some x) :
  cs.length=P.cellsOf t∧∃ m,∀ i,i < k→∃ y,DataW.trod enc P w 0 (fun _=>true) true m e ((cs.drop (i * P.cellsOf e)).take (P.cellsOf e))=some y:=by
 obtain ⟨xs,m,_,_,hl,hx,hf⟩:=DataW.trod_array ht h
 refine ⟨hl,m,fun i hi=>?_⟩
 rw [hf i hi]
 have:i < xs.length:=by omega
 exact ⟨xs[i],List.getElem?_eq_getElem this⟩
theorem elemO {H:Type} {enc:TypeId×Value→H} {w:World} {k m:Nat} {cs:List Value} (hf:∀ i,i < k→∃ y,DataW.trod enc P w 0 (fun _=>true) true m e ((cs.drop (i * P.cellsOf e)).take (P.cellsOf e))=some y)
  (i:Nat) (o n:Nat) {A:Type} {wf:A→Prop} {c:A→List AV} (he:Opens P e wf c) (hi:i < k) (hn:P.cellsOf e=n) (ho:i * n=o):∃ y:A,wf y∧Seg w ((cs.drop o).take n) (c y):=by
 obtain ⟨y,hy⟩:=hf i hi
 rw [hn,ho] at hy
 exact he H enc w m _ y hy
section
variable {H:Type} {enc:TypeId×Value→H} {w:World} {base:Nat} {v:Value} {d:DataW H} {ps:List MemPlace} {A:Type} {wf:A→Prop}
theorem argCell {g:A→AV} (ho:Opens P t wf (fun l=>[g l])) (hv:v.cells=#[v]) (h:DataW.Trod enc P w 0 (fun _=>true) true t v d ps):∃ y,wf y∧RepX w (allB w) noMu v (g y):=by
 obtain ⟨n,hn⟩:=h
 rw [hv] at hn
 obtain ⟨y,hy,hs⟩:=ho H enc w n _ _ hn
 exact ⟨y,hy,hs.2 0 _ _ rfl rfl⟩
theorem argInt {k:IntKind} {g:A→AV} (ht:P.underlying t=some (.int k)) (ho:Opens P t wf (fun l=>[g l])) (hv:Value.okWide P w .any base t v) (h:DataW.Trod enc P w 0 (fun _=>true) true t v d ps):∃ y,wf y∧RepX w (allB w) noMu v (g y):=by
 obtain ⟨n,rfl⟩:=okWide_int ht hv
 exact argCell ho rfl h
theorem argBool {g:A→AV} (ht:P.underlying t=some .bool) (ho:Opens P t wf (fun l=>[g l])) (hv:Value.okWide P w .any base t v) (h:DataW.Trod enc P w 0 (fun _=>true) true t v d ps):∃ y,wf y∧RepX w (allB w) noMu v (g y):=by
 obtain ⟨n,rfl⟩:=okWide_bool ht hv
 exact argCell ho rfl h
theorem argStruct {fs:Array Field} {c:A→List AV} (ht:P.underlying t=some (.struct fs)) (ho:Opens P t wf c) (hv:Value.okWide P w .any base t v) (h:DataW.Trod enc P w 0 (fun _=>true) true t v d ps):∃ y,wf y∧RepX w (allB w) noMu v (.agg (c y)):=by
 obtain ⟨cs,rfl,_⟩:=okWide_struct ht hv
 obtain ⟨n,hn⟩:=h
 obtain ⟨y,hy,hs⟩:=ho H enc w n _ _ hn
 refine ⟨y,hy,.agg (by simpa [Value.cells] using hs.1) fun j x u hx hu=>hs.2 j x u hx (by simpa [Value.cells] using hu)⟩
theorem RL.nil {S:Nat→Prop} {μ:Mu}:RL w S μ #[] []:=⟨rfl,fun j c v h=>by simp at h⟩
theorem rl3 {S:Nat→Prop} {μ:Mu} {v0 v1 v2:Value} {a0 a1 a2:AV} (h0:RepX w S μ v0 a0) (h1:RepX w S μ v1 a1) (h2:RepX w S μ v2 a2):RL w S μ #[v0,v1,v2] [a0,a1,a2]:=by
 refine ⟨rfl,fun j c v hc hv=>?_⟩
 match j with
 | 0=>simp at hc hv;subst hc hv;exact h0
 | 1=>simp at hc hv;subst hc hv;exact h1
 | 2=>simp at hc hv;subst hc hv;exact h2
 | j+3=>simp at hc
end
theorem allTrod {H:Type} {enc:TypeId×Value→H} (hl:laidOutB P=true) {W W':World} (hb:Below W.heap.size W W') (sp:Nat→Bool) :
  ∀ (ts:List TypeId) (vs:List Value) (ds:List (DataW H)) (p:List MemPlace),(ts.all fun t=>P.readableRec t && decide (t < P.types.size))=true→(∀ x∈p,x.block < W.heap.size)→(∀ x∈p,sp x.block=true) →
   DataW.TrodAll enc P W 0 (fun _=>true) true ts vs ds p→DataW.TrodAll enc P W' 0 sp true ts vs ds p
 | [],[],[],_,_,_,_,h=>h
 | t :: ts,v :: vs,d :: ds,p,hr,hlt,hsp,h=>by
  obtain ⟨a,b,h1,h2,rfl⟩:=h
  simp only [List.all_cons,Bool.and_eq_true,decide_eq_true_eq] at hr
  refine ⟨a,b,?_,allTrod hl hb sp ts vs ds b (by simpa using hr.2) (fun x hx=>hlt x (by simp [hx])) (fun x hx=>hsp x (by simp [hx])) h2,rfl⟩
  exact WideElems.Trod_stays hl hr.1.1 hr.1.2 h1 (fun x hx=>hb.same (hlt x (by simp [hx]))) (fun x hx=>hsp x (by simp [hx]))
theorem law_post {H:Type} {enc:TypeId×Value→H} {f:FuncId} {fn:Func} {s:ChangeSpec} {apart fresh handsOn again:Bool} {W:World} {args:Array Value} {ds gs:List (DataW H)} {before:List MemPlace} {tb:TypeId} {avs:List AV}
  (hvars:s.vars=[]) (hl:laidOutB P=true) (hread:(fn.params.toList.all fun t=>P.readableRec t && decide (t < P.types.size))=true) (hres:fn.resultTypes=#[tb]) (hb:P.underlying tb=some .bool)
  (hfn:s.fn H ds={ results:=[.lit (.bool true)],args:=ds })
  (hW:DataW.Whole enc P fn.params.toList s.vars apart W args.toList ds gs before)
  (hargs:RL W (allB W) noMu args avs) (hs:Sound P f avs [] 0 (aB true) []) :
  Calls P f args W fun e W'=>∃ v,e=.returned v∧s.post enc P fn apart fresh handsOn again W args v W':=by
 have hgood:Good (envOf W (allB W) [] noMu 0) [] (allB W) noMu W:=by
  refine ⟨Fr.refl _ _,fun _ h=>h,fun _ h=>h,fun _ h=>.inl h,?_,fun k o pl h=>(by cases h),fun k hk=>absurd hk (Nat.not_lt_zero _),MX.nil fun k o i h=>by cases h⟩
  constructor<;>intros<;>simp_all [sget]
 refine (hs W (allB W) noMu args hgood (fun _ _=>rfl) hargs).mono fun e W' ⟨v,S',μ',he,hg,hv⟩=>?_
 have hbelow:Below W.heap.size W W':=⟨hg.fr.os,hg.fr.tape,hg.fr.output,hg.fr.size,fun b hb=>hg.fr.blk b hb (fun h=>h.elim (fun ⟨k,o,pl,h,_⟩=>by cases h) (fun ⟨k,i,x,v,⟨o,pl,h,_⟩,_⟩=>by cases h))⟩
 have hv':v=.bool true:=by cases hv;rfl
 subst he hv'
 refine ⟨_,rfl,?_⟩
 have hW':=hW
 obtain ⟨p,q,hA,hV,rfl,hfz,hnd⟩:=hW
 rw [hvars] at hV
 obtain ⟨rfl,rfl⟩:=trodVars_none hV
 rw [List.append_nil] at hW'
 have hlt:∀ x∈p,x.block < W.heap.size:=fun x hx=>hW'.lt x hx
 have hre:∀ sp:Nat→Bool,(∀ x∈p,sp x.block=true)→DataW.TrodAll enc P W' 0 sp true fn.params.toList args.toList (s.fn H (ds ++ [])).args p:=fun sp hsp=>by
  rw [List.append_nil,hfn]
  exact allTrod hl hbelow sp _ _ _ _ hread hlt hsp hA
 have hvs:∀ sp:Nat→Bool,DataW.TrodVars enc P W' sp s.vars (s.fn H (ds ++ [])).vars []:=fun sp=>by
  rw [List.append_nil,hfn,hvars];rfl
 have hrs:∀ (b:Nat) (sp:Nat→Bool) (hd:Bool),DataW.TrodAll enc P W' b sp hd fn.resultTypes.toList ((Value.bool true).resultList fn.resultTypes.size) (s.fn H (ds ++ [])).results []:=fun b sp hd=>by
  rw [List.append_nil,hfn,hres]
  exact trodAll_mk1 (shut_bool hb true)
 refine ⟨ds,[],p,[],p,[],hW',hrs _ _ _,hre _ (fun x hx=>by simpa using hlt x hx),hvs _,World.keptBut_mono (fun x hx=>⟨hx,Or.inr (Or.inl hx)⟩) (hbelow.frame _),fun _=>?_⟩
 refine ⟨ok_one hres rfl (okWide_bool_mk hb _),(s.fn H (ds ++ [])).results ++ (s.fn H (ds ++ [])).args,_,p,⟨p,[],trodAll_append (hre _ (fun _ _=>rfl)) (hrs _ _ _),hvs _,by simp,?_,by simpa using hnd⟩,fun x hx _=>hx⟩
 ·intro b off hp
  exact (hbelow.frozen (hlt _ hp)).trans (hfz b off (by simpa using hp))
end Go.Ab
