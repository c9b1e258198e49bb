/- Abstract values over the heap of the machine, and functions read off its code (part 5). No conditions. -/
import Derived.Test.YtdigjibahkjfdaaGreatCd
import Derived.Maps.RangeRun
set_option linter.unusedVariables false
set_option linter.unusedSimpArgs false
namespace Go.Ab
inductive re (w:World) (S:Nat→Prop) {α β:Type} (cK:α→AV) (cV:β→AV):List MapEntry→List (α×β)→Prop where
 | nil:re w S cK cV [] []
 | cons {e:MapEntry} {x:α×β} {es:List MapEntry} {xs:List (α×β)}:ar w S fZ e.key (cK x.1)→ar w S fZ e.val (cV x.2)→re w S cK cV es xs→re w S cK cV (e :: es) (x :: xs)
section
variable {α β:Type} {cK:α→AV} {cV:β→AV}
theorem re.mono {w w':World} {S S':Nat→Prop} (hS:∀ b,S b→S' b) (hb:∀ b,S b→w'.heap[b]?=w.heap[b]?):∀ {es:List MapEntry} {xs:List (α×β)},re w S cK cV es xs→re w' S' cK cV es xs
 | _,_,.nil=>.nil
 | _,_,.cons h1 h2 h3=>.cons (h1.mono hS hb fun _ _ h=>h) (h2.mono hS hb fun _ _ h=>h) (h3.mono hS hb)
theorem re.same {w w':World} {S S':Nat→Prop} (hS:∀ b,S b→S' b) (hc:∀ a,w'.cell? a=w.cell? a):∀ {es:List MapEntry} {xs:List (α×β)},re w S cK cV es xs→re w' S' cK cV es xs
 | _,_,.nil=>.nil
 | _,_,.cons h1 h2 h3=>.cons (h1.eX hS hc) (h2.eX hS hc) (h3.same hS hc)
theorem re.split {w:World} {S:Nat→Prop} {e:MapEntry} {e2:List MapEntry}:∀ {e1:List MapEntry} {xs:List (α×β)},re w S cK cV (e1 ++ e :: e2) xs →
  ∃ l1 x l2,xs=l1 ++ x :: l2∧ar w S fZ e.key (cK x.1)∧ar w S fZ e.val (cV x.2)∧re w S cK cV (e1 ++ e2) (l1 ++ l2):=by
 intro e1
 induction e1 with
 | nil =>
  intro xs h
  cases h with
  | cons h1 h2 h3=>exact ⟨[],_,_,rfl,h1,h2,h3⟩
 | cons a e1 ih =>
  intro xs h
  cases h with
  | cons h1 h2 h3 =>
   obtain ⟨l1,x,l2,rfl,q1,q2,q3⟩:=ih h3
   exact ⟨_ :: l1,x,l2,rfl,q1,q2,.cons h1 h2 q3⟩
theorem re.empty {w:World} {S:Nat→Prop} {xs:List (α×β)} (h:re w S cK cV [] xs):xs=[]:=by cases h;rfl
structure Jh (E0 E:Env) (I:Nat) (cK:α→AV) (cV:β→AV) (cur:Option (α×β)) (rem:List (α×β)):Prop where
 back:∀ σ S μ w,Good E σ S μ w→Good E0 σ S μ w
 m0:E0.m0≤E.m0
 new:E0.w0.heap.size≤I
 st:∀ b,E.S0 b→¬ E.fp b
 stl:∀ b,E.S0 b→b < E.w0.heap.size
 fi:¬ E.fp I
 ex:∃ M since seen last es clock,E.w0.heap[I]?=some (.mapIter (some M) since seen last)∧E.w0.heap[M]?=some (.map es clock)∧¬ E.fp M∧(∀ x∈es.toList,x.born < since)∧since≤last∧since≤clock ∧
  (es.toList.map (·.born)).Nodup∧re E.w0 E.S0 cK cV (leftOf es seen).toList rem ∧
  ∀ x,cur=some x→∃ (e:MapEntry) (N9:Array Nat),e∈es.toList∧seen=N9.push e.born∧last=clock∧ar E.w0 E.S0 fZ e.key (cK x.1)∧ar E.w0 E.S0 fZ e.val (cV x.2)
theorem Jh.forget {E0 E:Env} {I:Nat} {cur:Option (α×β)} {rem:List (α×β)} (h:Jh E0 E I cK cV cur rem):Jh E0 E I cK cV none rem:=by
 obtain ⟨h1,h2,h3,h4,h4',h5,M,since,seen,last,es,clock,q1,q2,q3,q4,q5,q6,q7,q8,_⟩:=h
 exact ⟨h1,h2,h3,h4,h4',h5,M,since,seen,last,es,clock,q1,q2,q3,q4,q5,q6,q7,q8,fun x hx=>by cases hx⟩
theorem az.mono {P:Program} {E:Env} {fn:FuncId} {nt:Nat} {cF Wc:Value→World→Prop} {k:List Item} {st:St} (h:az P E fn nt cF k st) (hp:∀ v w,cF v w→Wc v w):az P E fn nt Wc k st:=by
 intro tm w h1 h2 b h3 h4 cs
 obtain ⟨v,w',fr,q1,q2,q3,q4⟩:=h tm w h1 h2 b h3 h4 cs
 exact ⟨v,w',fr,hp v w' q1,q2,q3,q4⟩
theorem Px {es:Array MapEntry} {seen:Array Nat} {e1 e2:List MapEntry} {e:MapEntry} (hn:(es.toList.map (·.born)).Nodup) (h:(leftOf es seen).toList=e1 ++ e :: e2):(leftOf es (seen.push e.born)).toList=e1 ++ e2:=by
 unfold leftOf at h ⊢
 simp only [Array.toList_filter] at h ⊢
 have h1:es.toList.filter (fun x=>!(seen.push e.born).contains x.born)=(es.toList.filter fun x=>!seen.contains x.born).filter fun x=>!(x.born == e.born):=by
  rw [List.filter_filter]
  congr 1
  funext x
  rw [contains_push]
  cases seen.contains x.born<;>cases x.born == e.born<;>rfl
 rw [h1,h]
 have hs:((e1 ++ e :: e2).map (·.born)).Nodup:=by
  rw [← h]
  exact (List.Sublist.map _ List.filter_sublist).nodup hn
 rw [List.map_append,List.map_cons,List.nodup_append] at hs
 obtain ⟨_,h3,h4⟩:=hs
 have h3:=List.nodup_cons.1 h3
 rw [List.filter_append,List.filter_cons]
 have f1:e1.filter (fun x=>!(x.born == e.born))=e1:=List.filter_eq_self.2 fun x hx=>by
  have:=h4 x.born (List.mem_map.2 ⟨x,hx,rfl⟩) e.born (by simp)
  simpa using this
 have f2:e2.filter (fun x=>!(x.born == e.born))=e2:=List.filter_eq_self.2 fun x hx=>by
  have:x.born≠e.born:=fun q=>h3.1 (q ▸ List.mem_map.2 ⟨x,hx,rfl⟩)
  simpa using this
 rw [f1,f2]
 simp
def wO (P:Program) (nt:Nat) (ops:List Oper) (orcs:List (Nat×lW)) (d:Nat) (x:AV) (st:St):Option (List Prop×St) :=
 (oN P nt ops st.nk orcs (ops.drop 1) 1 (xn st.tm (some d) x) st.jf).map fun bI=>(wM bI,⟨vw bI (xn st.tm (some d) x),qA bI st.jf,st.nk+16 * ops.length⟩)
def opsOf:Code→List Oper
 | .region _ ops _=>ops.toList
 | _=>[]
def UL (P:Program) (nt:Nat) (c:Code) (d:Nat) (x:AV) (st:St):St:=match wO P nt (opsOf c) [] d x st with
 | some x=>x.2
 | none=>st
def EL (nt d ti:Nat) (c:Code):Bool:=match c with
 | .region _ ops false=>match ops.toList with
  | ⟨some d',.next (.tmp t') false,_,_,_,none⟩ :: _=>Nat.beq d d' && Nat.beq ti t' && Nat.blt d nt
  | _=>false
 | _=>false
theorem MH {nt d ti:Nat} {c:Code} (h:EL nt d ti c=true):∃ id ops ty pos after,c=.region id ops false∧ops[0]?=some ⟨some d,.next (.tmp ti) false,ty,pos,after,none⟩∧d < nt:=by
 unfold EL at h
 split at h
 ·rename_i id ops
  split at h
  ·rename_i d' t' ty pos after rest ho
   simp only [a9] at h
   obtain ⟨⟨h1,h2⟩,h3⟩:=h
   rw [bp h1,bp h2]
   refine ⟨id,ops,ty,pos,after,rfl,?_,?_⟩
   ·rw [← Array.getElem?_toList,ho];rfl
   ·rw [← bp h1];exact tq h3
  ·cases h
 ·cases h
section
variable {P:Program}
def Ji (ops:List Oper) (bI:List Rec) (L:Nat):Bool :=
 ((List.range L).all fun j=>uq ops j && (List.range j).all fun i=>CH ops bI i j) && uq ops L && (List.range L).all fun i=>DK ops ops.length i L
theorem Ry {E:Env} {rd:Option Nat} {ds:List Deferred} {nt nk:Nat} {ops:Array Oper} {orcs:List (Nat×lW)} {J6:List (Nat×AV)} {Ih:dp} {bI:List Rec} {L:Nat} {Q:Exit→Act→World→Prop} (hz:∀ i,Fq P E (lX orcs i)) (hm:E.m0≤nk)
  (hL:ops.size=L+1) (Tx:oN P nt ops.toList nk orcs (ops.toList.take L) 0 J6 Ih=some bI) (hp:aX (wM bI)) (DX:Ji ops.toList bI L=true)
  (hQ:∀ a' w' S' cC,a'.tmps.size=nt→a'.defers=ds→Good E (qA bI Ih) S' cC w'→(∀ k,nk+16 * L≤k→cC k=none)→(∀ t,ar w' S' cC (a'.tmps.getD t undef) (cL (vw bI J6) t))→wpOpIn (FW rd) 0 P ops Q L (Q .normal) a' w') :
  ∀ (fuel:Nat) (ao:Array Bool) (a:Act) (w:World) (S:Nat→Prop) (μ:Mu),ao.size=ops.size→a.tmps.size=nt→a.defers=ds→ao.getD L false=false →
   (∀ j,ao.getD j false=true→∀ o,ops.toList[j]?=some o→∀ e∈eO o,ao.getD e false=true)→ops.size≤fuel+(ao.toList.filter (· == true)).length →
   Good E (rV (fun j=>ao.getD j false) bI 0 Ih) S μ w→(∀ k,nk≤k→(∀ j,nk+16 * j≤k→k < nk+16 * j+16→ao.getD j false=false)→μ k=none) →
   (∀ t,ar w S μ (a.tmps.getD t undef) (cL (D1 (fun j=>ao.getD j false) bI 0 J6) t)) →
   wpAnyIn (FW rd) 0 P .any ops Q fuel ao a w:=by
 obtain ⟨hlen,We⟩:=CI (ops.toList.take L) 0 J6 Ih bI Tx
 simp only [Nat.zero_add] at We
 have hlen:bI.length=L:=by rw [hlen];simp;omega
 have oa:∀ (m:Nat) (x:Rec),bI[m]?=some x→∃ o,ops.toList[m]?=some o∧xm P nt ops.toList (nk+16 * m) (D1 (fun q=>Nat.blt q m) bI 0 J6) (rV (fun q=>Nat.blt q m) bI 0 Ih) o (lX orcs m)=some x:=fun m x hx=>by
  obtain ⟨o,h1,h2⟩:=We m x hx
  have hm:m < L:=by rw [← hlen];exact (dd.1 hx).1
  rw [List.getElem?_take_of_lt hm] at h1
  exact ⟨o,h1,h2⟩
 unfold Ji at DX
 simp only [a9] at DX
 obtain ⟨⟨DX,ab6⟩,ab7⟩:=DX
 have qz:∀ j,j < L→uq ops.toList j=true∧∀ i,i < j→CH ops.toList bI i j=true:=by
  intro j hj
  have:=List.all_eq_true.1 DX j (nI.2 hj)
  simp only [a9] at this
  exact ⟨this.1,fun i hi=>List.all_eq_true.1 this.2 i (nI.2 hi)⟩
 have KH:∀ j o,ops.toList[j]?=some o→∀ e∈eO o,e < j:=by
  intro j o ho e he
  have hj:j < ops.size:=by simpa using (dd.1 ho).1
  have h1:uq ops.toList j=true:=by
   rcases Nat.lt_or_ge j L with h | h
   ·exact (qz j h).1
   ·rw [show j=L by omega];exact ab6
  unfold uq at h1
  rw [ho] at h1
  exact tq (List.all_eq_true.1 h1 e he)
 have Fz:∀ i j o p x y,i < j→ops.toList[i]?=some o→ops.toList[j]?=some p→bI[i]?=some x→bI[j]?=some y →
   Bs x.dst y.dst=false∧(Af ops.toList o p x y=true→DK ops.toList ops.toList.length i j=true):=by
  intro i j o p x y Ue ho n5 hx hy
  have hj:j < L:=by rw [← hlen];exact (dd.1 hy).1
  have h1:=(qz j hj).2 i Ue
  unfold CH at h1
  rw [ho,n5,hx,hy] at h1
  simp only [a9,Bool.not_eq_true',Bool.or_eq_true] at h1
  refine ⟨h1.1,fun hc=>?_⟩
  rcases h1.2 with h2 | h2
  ·rw [hc] at h2;cases h2
  ·exact h2
 -- what is ready
 have yd:∀ (ao:Array Bool),ao.size=ops.size→∀ i,i∈Region.ready .any ops ao↔(i < ops.size∧ao.getD i false=false∧∀ o,ops.toList[i]?=some o→∀ e∈eO o,ao.getD e false=true):=by
  intro ao EI i
  unfold Region.ready
  simp only [List.mem_filter,nI,a9,Bool.not_eq_true']
  constructor
  ·rintro ⟨h1,h2,h3⟩
   have hl:i < ao.size:=by omega
   refine ⟨h1,?_,?_⟩
   ·simp only [fj,dM hl,Option.getD_some] at h2 ⊢;exact h2
   ·intro o ho e he
    have mZ:ops[i]?=some o:=by simpa using ho
    simp only [mZ,Option.map_some,Option.getD_some,Array.all_eq_true'] at h3
    simp only [eO,List.mem_map,List.mem_filter] at he
    obtain ⟨ed,⟨Rg,O5⟩,rfl⟩:=he
    have:=h3 ed (by simpa using Rg)
    rw [O5] at this
    simpa only [Bool.not_true,Bool.false_or] using this
  ·rintro ⟨h1,h2,h3⟩
   have hl:i < ao.size:=by omega
   refine ⟨h1,?_,?_⟩
   ·simp only [fj,dM hl,Option.getD_some] at h2 ⊢;exact h2
   ·have ho:ops[i]?=some ops[i]:=dM h1
    simp only [ho,Option.map_some,Option.getD_some,Array.all_eq_true']
    intro ed Rg
    simp only [Bool.or_eq_true,Bool.not_eq_true']
    cases hb:Region.binds .any ed with
    | false=>exact .inl rfl
    | true =>
     right
     exact h3 ops[i] (by simp) ed.on (by simp only [eO,List.mem_map,List.mem_filter];exact ⟨ed,⟨by simpa using Rg,hb⟩,rfl⟩)
 intro fuel
 -- the end
 have fin:∀ (ao:Array Bool) (a:Act) (w:World) (S:Nat→Prop) (μ:Mu),ao.size=ops.size→a.tmps.size=nt→a.defers=ds→ao.getD L false=false→(∀ j,j < L→ao.getD j false=true) →
   Good E (rV (fun j=>ao.getD j false) bI 0 Ih) S μ w→(∀ k,nk≤k→(∀ j,nk+16 * j≤k→k < nk+16 * j+16→ao.getD j false=false)→μ k=none) →
   (∀ t,ar w S μ (a.tmps.getD t undef) (cL (D1 (fun j=>ao.getD j false) bI 0 J6) t))→wpOpIn (FW rd) 0 P ops Q L (Q .normal) a w:=by
  intro ao a w S μ EI hs LW Wf Ty g hk ht
  have hLL:∀ m,m < bI.length→(fun j=>ao.getD j false) (0+m)=true:=fun m fw=>by
   rw [Nat.zero_add];exact Ty m (by rw [hlen] at fw;exact fw)
  rw [Fy bI 0 Ih _ hLL] at g
  refine hQ a w S μ hs LW g (fun k ld=>hk k (by omega) fun j hj Qa=>?_) (fun t=>by rw [← I6 bI 0 J6 (fun j=>ao.getD j false) hLL];exact ht t)
  have hjL:L≤j:=by omega
  rcases Nat.lt_or_ge L j with h | h
  ·have:ao.size≤j:=by omega
   simp [fj,Array.getElem?_eq_none this]
  ·rw [show j=L by omega];exact Wf
 have Rh:∀ (ao:Array Bool),ao.size=ops.size→(∀ j,ao.getD j false=true→∀ o,ops.toList[j]?=some o→∀ e∈eO o,ao.getD e false=true)→Region.ready .any ops ao=[]→∀ j,j < ops.size→ao.getD j false=true:=by
  intro ao EI LX hr j
  induction j using Nat.strongRecOn with
  | _ j ih =>
   intro hj
   cases hb:ao.getD j false with
   | true=>rfl
   | false =>
    have:j∈Region.ready .any ops ao:=(yd ao EI j).2 ⟨hj,hb,fun o ho e he=>ih e (KH j o ho e he) (by have:=KH j o ho e he;omega)⟩
    rw [hr] at this;simp at this
 induction fuel with
 | zero =>
  intro ao a w S μ EI hs LW Wf LX KI g hk ht
  exfalso
  have hle:(ao.toList.filter (· == true)).length=ao.toList.length:=by
   have h1:=List.length_filter_le (· == true) ao.toList
   simp at h1 KI ⊢;omega
  have h2:=List.length_filter_eq_length_iff.1 hle
  have hl:L < ao.size:=by omega
  have:=h2 ao[L] (by simp)
  simp only [fj,dM hl,Option.getD_some] at Wf
  rw [Wf] at this;simp at this
 | succ fuel ih =>
  intro ao a w S μ EI hs LW Wf LX KI g hk ht
  simp only [wpAnyIn]
  refine ⟨fun hr=>absurd (Rh ao EI LX hr L (by omega)) (by rw [Wf];decide),?_⟩
  intro i0 hi0
  have ab8:=(yd ao EI i0).1 hi0
  by_cases hiL:i0=L
  ·subst hiL
   have Ty:∀ j,j < i0→ao.getD j false=true:=fun j hj=>by
    exact qB (L:=fun j=>ao.getD j false) LX _ j i0 (List.all_eq_true.1 ab7 j (nI.2 hj)) (fun o' mZ e he=>ab8.2.2 o' mZ e he)
   refine wpOpIn_mono ?_ (fin ao a w S μ EI hs LW Wf Ty g hk ht)
   intro a' w' hq
   have hrn:Region.ready .any ops (ao.setIfInBounds i0 true)=[]:=by
    cases hr:Region.ready .any ops (ao.setIfInBounds i0 true) with
    | nil=>rfl
    | cons q r =>
     have hq:=(yd (ao.setIfInBounds i0 true) (by simp [EI]) q).1 (by rw [hr];simp)
     exfalso
     have hqt:(ao.setIfInBounds i0 true).getD q false=true:=by
      by_cases e:q=i0
      ·subst e;simp [fj,show q < ao.size by omega]
      ·simp only [fj]
       rw [Array.getElem?_setIfInBounds_ne (fun h=>e h.symm)]
       have:=Ty q (by omega)
       simpa only [fj] using this
     rw [hqt] at hq
     exact absurd hq.2.1 (by decide)
   cases fuel with
   | zero=>exact ⟨hrn,hq⟩
   | succ fuel=>exact ⟨fun _=>hq,fun i hi=>by rw [hrn] at hi;simp at hi⟩
  revert i0
  intro i hi _ hiL
  obtain ⟨afT,ze,Cn⟩:=(yd ao EI i).1 hi
  have nH:i < L:=by omega
  have Ri:i < bI.length:=by rw [hlen];exact nH
  have hx:bI[i]?=some bI[i]:=kb Ri
  obtain ⟨o,ho,Pq⟩:=oa i _ hx
  generalize bI[i]=x at hx Pq
  have hpx:aX x.Hb:=by
   have:∀ (l:List Rec) (i:Nat),aX (wM l)→l[i]?=some x→aX x.Hb:=by
    intro l
    induction l with
    | nil=>intro i _ h;simp at h
    | cons y l ih =>
     intro i h hi
     obtain ⟨h1,h2⟩:=aX.app h
     cases i with
     | zero=>simp at hi;exact hi ▸ h1
     | succ i=>exact ih i h2 (by simpa using hi)
   exact this bI i hp hx
  -- an operation that meets this one is carried out just if it stands before it
  have order:∀ (j:Nat) (p:Oper) (y:Rec),j≠i→ops.toList[j]?=some p→bI[j]?=some y→Mt ops.toList o p x y→Nat.blt j i=ao.getD j false:=by
   intro j p y eE Zc Zd hc
   rcases Nat.lt_or_gt_of_ne eE with fo | TJ
   ·rw [NS fo]
    exact (qB (L:=fun j=>ao.getD j false) LX _ j i ((Fz j i p o y x fo Zc ho Zd hx).2 hc.symm.Af) (fun o' mZ e he=>by rw [ho] at mZ;cases mZ;exact Cn o ho e he)).symm
   ·rw [xp (by omega)]
    cases hb:ao.getD j false with
    | false=>rfl
    | true =>
     have:=qB (L:=fun j=>ao.getD j false) LX _ i j ((Fz i j o p x y TJ ho Zc hx Zd).2 hc.Af) (fun o' mZ e he=>LX j hb o' mZ e he)
     have:ao.getD i false=true:=this
     rw [ze] at this;cases this
  have Bv:∀ (m:Nat) (y:Rec),bI[m]?=some y→∃ p,ops.toList[m]?=some p:=fun m y hy=>let ⟨p,n5,_⟩:=oa m y hy;⟨p,n5⟩
  have Rj:xm P nt ops.toList (nk+16 * i) (D1 (fun j=>ao.getD j false) bI 0 J6) (rV (fun j=>ao.getD j false) bI 0 Ih) o (lX orcs i)=some x:=by
   refine Ig Pq ?_ ?_
   ·intro t htl
    refine Bt bI 0 _ _ rfl ?_
    intro m y hy eE W7
    rw [Nat.zero_add] at eE
    obtain ⟨p,n5⟩:=Bv m y hy
    by_cases xj:m=i
    ·subst xj;exact eE (by rw [ze,xp (by omega)])
    ·exact eE (order m p y xj n5 hy (.inr (.inl ⟨t,W7,htl⟩))).symm
   ·intro k hkr
    refine zt bI 0 _ _ rfl ?_
    intro m y hy eE W8
    rw [Nat.zero_add] at eE
    obtain ⟨p,n5⟩:=Bv m y hy
    by_cases xj:m=i
    ·subst xj;exact eE (by rw [ze,xp (by omega)])
    ·exact eE (order m p y xj n5 hy (.inr (.inr (.inr ⟨k,hkr,W8⟩)))).symm
  have Mw:i < ao.size:=by omega
  have Cw:∀ j,(ao.setIfInBounds i true).getD j false=(ao.getD j false || Nat.beq j i):=by
   intro j
   by_cases Ha:j=i
   ·subst Ha
    rw [ki rfl,Bool.or_true]
    simp [fj,Mw]
   ·rw [lO Ha,Bool.or_false]
    simp only [fj]
    rw [Array.getElem?_setIfInBounds_ne (fun h=>Ha h.symm)]
  have Rk:(fun j=>(ao.setIfInBounds i true).getD j false)=fun q=>ao.getD q false || Nat.beq q i:=funext Cw
  have HY:∀ q,q < 16→μ (nk+16 * i+q)=none:=fun q hq=>hk _ (by omega) fun j hj Qa=>by
   have Ha:j=i:=by omega
   rw [Ha];exact ze
  refine CE (by simpa using ho) ht g HY (by omega) (hz i) Rj hpx ?_
  intro v w' S' cC q1 q2 q3 q4
  obtain ⟨d1,d2⟩:=CF Rj
  refine ih _ _ w' S' cC (by simp [EI]) (by rw [yc];exact hs) (by rw [qV];exact LW) (by rw [Cw,lO (fun h=>hiL h.symm),Bool.or_false];exact Wf) ?_ ?_ ?_ ?_ ?_
  ·intro j hj o' mZ e he
   rw [Cw] at hj ⊢
   rw [Bool.or_eq_true] at hj ⊢
   rcases hj with hj | hj
   ·exact .inl (LX j hj o' mZ e he)
   ·have:=bp hj
    subst this
    exact .inl (Cn o' mZ e he)
  ·have hc:=count_set ao.toList i (by
    rw [Array.getElem?_toList,dM Mw]
    simp only [fj,dM Mw,Option.getD_some] at ze
    rw [ze])
   rw [Array.toList_setIfInBounds,hc]
   omega
  ·rw [Rk]
   refine q2.congr ?_
   intro k
   rw [Fx bI 0 Ih (Nat.zero_le _) (by simpa using hx) ?_,kI x.upd (rV (fun j=>ao.getD j false) bI 0 Ih)]
   intro m y hy fo hL W8 W9
   rw [Nat.zero_add] at fo hL
   obtain ⟨p,n5⟩:=Bv m y hy
   have:=order m p y (by omega) n5 hy (.inr (.inr (.inl ⟨k,W8,.inr W9⟩)))
   rw [xp (by omega)] at this
   rw [← this] at hL;cases hL
  ·intro k ld DF
   have hki:k < nk+16 * i∨nk+16 * i+16≤k:=by
    rcases Nat.lt_or_ge k (nk+16 * i) with h1 | h1
    ·exact .inl h1
    ·rcases Nat.lt_or_ge k (nk+16 * i+16) with h2 | h2
     ·have:=DF i h1 h2
      rw [Cw,ki rfl,Bool.or_true] at this
      cases this
     ·exact .inr h2
   refine q3 k hki (hk k ld fun j hj Qa=>?_)
   have:=DF j hj Qa
   rw [Cw,Bool.or_eq_false_iff] at this
   exact this.1
  ·intro t
   rw [Rk,I5 bI 0 J6 (Nat.zero_le _) (by simpa using hx) ?_,Bq a x.dst v t (fun n hn=>by rw [hs];exact d2 n (d1 ▸ hn))]
   ·split
    ·exact q4
    ·exact (ht t).ext q1
   ·intro m y hy fo hxd hyd
    rw [Nat.zero_add] at fo
    obtain ⟨p,n5⟩:=Bv m y hy
    have:=(Fz i m o p x y fo ho n5 hx hy).1
    rw [hxd,hyd] at this
    simp only [Bs] at this
    rw [ki rfl] at this;cases this
theorem vB {ops:Array Oper} {ao:Array Bool} (EI:ao.size=ops.size) (i:Nat):i∈Region.ready .any ops ao↔(i < ops.size∧ao.getD i false=false∧∀ o,ops.toList[i]?=some o→∀ e∈eO o,ao.getD e false=true):=by
 unfold Region.ready
 simp only [List.mem_filter,nI,a9,Bool.not_eq_true']
 constructor
 ·rintro ⟨h1,h2,h3⟩
  have hl:i < ao.size:=by omega
  refine ⟨h1,?_,?_⟩
  ·simp only [fj,dM hl,Option.getD_some] at h2 ⊢;exact h2
  ·intro o ho e he
   have mZ:ops[i]?=some o:=by simpa using ho
   simp only [mZ,Option.map_some,Option.getD_some,Array.all_eq_true'] at h3
   simp only [eO,List.mem_map,List.mem_filter] at he
   obtain ⟨ed,⟨Rg,O5⟩,rfl⟩:=he
   have:=h3 ed (by simpa using Rg)
   rw [O5] at this
   simpa only [Bool.not_true,Bool.false_or] using this
 ·rintro ⟨h1,h2,h3⟩
  have hl:i < ao.size:=by omega
  refine ⟨h1,?_,?_⟩
  ·simp only [fj,dM hl,Option.getD_some] at h2 ⊢;exact h2
  ·have ho:ops[i]?=some ops[i]:=dM h1
   simp only [ho,Option.map_some,Option.getD_some,Array.all_eq_true']
   intro ed Rg
   simp only [Bool.or_eq_true,Bool.not_eq_true']
   cases hb:Region.binds .any ed with
   | false=>exact .inl rfl
   | true =>
    right
    exact h3 ops[i] (by simp) ed.on (by simp only [eO,List.mem_map,List.mem_filter];exact ⟨ed,⟨by simpa using Rg,hb⟩,rfl⟩)
inductive CQ (ops:Array Oper):Nat→Array Bool→List Nat→Prop where
 | zero {ao:Array Bool}:CQ ops 0 ao []
 | stop {n:Nat} {ao:Array Bool}:Region.ready .any ops ao=[]→CQ ops (n+1) ao []
 | step {n:Nat} {ao:Array Bool} {i:Nat} {l:List Nat}:i∈Region.ready .any ops ao→CQ ops n (ao.setIfInBounds i true) l→CQ ops (n+1) ao (i :: l)
theorem Xp {ops:Array Oper}:∀ (fuel t:Nat) (ao:Array Bool),CQ ops fuel ao (Region.linearise.go .any ops fuel t ao []):=by
 intro fuel
 induction fuel with
 | zero=>intro t ao;simp only [Region.linearise.go,List.reverse_nil];exact .zero
 | succ fuel ih =>
  intro t ao
  simp only [Region.linearise.go]
  change CQ ops (fuel+1) ao (match (Region.ready .any ops ao)[t % (Region.ready .any ops ao).length]? with
   | some i=>Region.linearise.go .any ops fuel (t / (Region.ready .any ops ao).length) (ao.setIfInBounds i true) [i]
   | none=>[].reverse)
  cases hi:(Region.ready .any ops ao)[t % (Region.ready .any ops ao).length]? with
  | none =>
   have Xq:Region.ready .any ops ao=[]:=by
    cases hr:Region.ready .any ops ao with
    | nil=>rfl
    | cons x xs =>
     rw [hr] at hi
     have fo:t % (x :: xs).length < (x :: xs).length:=Nat.mod_lt _ (by simp)
     simp at hi
     simp at fo
     omega
   exact .stop Xq
  | some i =>
   simp only []
   rw [linearise_go_acc,List.reverse_singleton,List.singleton_append]
   exact .step (List.mem_of_getElem? hi) (ih _ _)
theorem Oa {F:Fence} {n:Nat} {ops:Array Oper} {Q:Exit→Act→World→Prop}:∀ {fuel:Nat} {ao:Array Bool} {l:List Nat},CQ ops fuel ao l→∀ {a:Act} {w:World},wpAnyIn F n P .any ops Q fuel ao a w→wpOpsIn F n P ops Q l a w:=by
 intro fuel ao l h
 induction h with
 | zero=>intro a w h;exact h.2
 | stop hr=>intro a w h;exact h.1 hr
 | step hi _ ih=>intro a w h;rw [wpOpsIn_cons];exact wpOpIn_mono (fun a w h=>ih h) (h.2 _ hi)
theorem CQ.lt {ops:Array Oper} {fuel:Nat} {ao:Array Bool} {l:List Nat} (h:CQ ops fuel ao l) (hs:ao.size=ops.size):∀ i∈l,i < ops.size:=by
 induction h with
 | zero=>intro i hi;simp at hi
 | stop _=>intro i hi;simp at hi
 | step hi _ ih =>
  intro j hj
  rcases jq.1 hj with rfl | hj
  ·exact ((vB hs _).1 hi).1
  ·exact ih (by simpa using hs) j hj
def posOf:List Nat→Nat→Nat
 | [],_=>0
 | a :: r,i=>match Nat.beq a i with
  | true=>0
  | false=>posOf r i+1
def Il (perm:List Nat) (x:Nat×Nat) (i:Nat) (o:Oper):Oper :=
 { o with after:=((match Nat.beq i x.2 with
  | true=>x.1 :: eO o
  | false=>eO o).map fun e=>(⟨posOf perm e,.data⟩:Edge)).toArray }
def EM (ops:Array Oper) (perm:List Nat) (x:Nat×Nat):Array Oper:=(perm.map fun i=>Il perm x i ((ops.toList[i]?).getD default)).toArray
def rX (ops:Array Oper) (perm:List Nat) (x:Nat×Nat):Bool :=
 Nat.beq perm.length ops.size && (List.range ops.size).all (fun i=>Nat.blt (posOf perm i) ops.size && Nat.beq (perm.getD (posOf perm i) ops.size) i && Nat.blt (perm.getD i ops.size) ops.size && Nat.beq (posOf perm (perm.getD i ops.size)) i) &&
  (ops.toList.all fun o=>o.guard.isNone && (eO o).all fun e=>Nat.blt e ops.size) && Nat.blt x.1 ops.size
section
variable {ops:Array Oper} {perm:List Nat} {x:Nat×Nat}
theorem zz (h:rX ops perm x=true):perm.length=ops.size∧(∀ i,i < ops.size→posOf perm i < ops.size∧perm[posOf perm i]?=some i∧∃ j,perm[i]?=some j∧j < ops.size∧posOf perm j=i) ∧
  (∀ o∈ops.toList,o.guard=none∧∀ e∈eO o,e < ops.size)∧x.1 < ops.size:=by
 unfold rX at h
 simp only [a9] at h
 obtain ⟨⟨⟨h1,h2⟩,h3⟩,h4⟩:=h
 have h1:=bp h1
 refine ⟨h1,fun i hi=>?_,fun o ho=>?_,tq h4⟩
 ·have:=List.all_eq_true.1 h2 i (nI.2 hi)
  simp only [a9] at this
  obtain ⟨⟨⟨q1,q2⟩,q3⟩,q4⟩:=this
  have q1:=tq q1
  have q2:=bp q2
  have q3:=tq q3
  have q4:=bp q4
  have g1:perm[posOf perm i]?=some perm[posOf perm i]:=kb (by omega)
  have g2:perm[i]?=some perm[i]:=kb (by omega)
  rw [eh,g1,Option.getD_some] at q2
  rw [eh,g2,Option.getD_some] at q3 q4
  exact ⟨q1,by rw [g1,q2],_,g2,q3,q4⟩
 ·have:=List.all_eq_true.1 h3 o ho
  simp only [a9,Option.isNone_iff_eq_none] at this
  exact ⟨this.1,fun e he=>tq (List.all_eq_true.1 this.2 e he)⟩
theorem DL (i:Nat) (o:Oper):eO (Il perm x i o)=(match Nat.beq i x.2 with
  | true=>x.1 :: eO o
  | false=>eO o).map (posOf perm):=by
 unfold Il
 generalize (match Nat.beq i x.2 with
  | true=>x.1 :: eO o
  | false=>eO o)=l
 simp only [eO]
 induction l with
 | nil=>rfl
 | cons a l ih=>simpa [Region.binds] using ih
theorem Jj (h:rX ops perm x=true) {i:Nat} (hi:i < ops.size):(EM ops perm x)[posOf perm i]?=some (Il perm x i ops[i]):=by
 obtain ⟨h1,h2,-⟩:=zz h
 unfold EM
 rw [List.getElem?_toArray,List.getElem?_map,(h2 i hi).2.1]
 simp [hi]
theorem FE (h:rX ops perm x=true):(EM ops perm x).size=ops.size:=by
 unfold EM;simp [(zz h).1]
theorem CQ.move (h:rX ops perm x=true):∀ {fuel:Nat} {ao wP:Array Bool} {l:List Nat},CQ ops fuel ao l→ao.size=ops.size→wP.size=ops.size→(∀ i,i < ops.size→wP.getD (posOf perm i) false=ao.getD i false) →
  (∀ l1 l2,l=l1 ++ x.2 :: l2→x.1∈l1∨ao.getD x.1 false=true)→CQ (EM ops perm x) fuel wP (l.map (posOf perm)):=by
 obtain ⟨h1,h2,h3,h4⟩:=zz h
 have kj:=FE h
 intro fuel ao wP l hl
 induction hl generalizing wP with
 | zero=>intro _ _ _ _;exact .zero
 | @stop n ao hr =>
  intro hs LY hL _
  refine .stop ?_
  cases hc:Region.ready .any (EM ops perm x) wP with
  | nil=>rfl
  | cons j r =>
   exfalso
   obtain ⟨q1,q2,q3⟩:=(vB (LY.trans kj.symm) j).1 (by rw [hc];simp)
   rw [kj] at q1
   obtain ⟨i,g1,g2,g3⟩:=(h2 j q1).2.2
   have qX:i∈Region.ready .any ops ao:=(vB hs i).2 ⟨g2,by rw [← hL i g2,g3];exact q2,fun o ho e he=>by
    have mZ:ops[i]=o:=by
     have:ops.toList[i]?=some ops[i]:=by simp [g2]
     rw [this] at ho;exact Option.some.inj ho
    have qJ:=Jj h g2
    rw [g3] at qJ
    have fo:=(h3 o (List.mem_of_getElem? ho)).2 e he
    rw [← hL e fo]
    refine q3 (Il perm x i ops[i]) (by simpa using qJ) _ ?_
    rw [DL,mZ]
    refine List.mem_map.2 ⟨e,?_,rfl⟩
    cases Nat.beq i x.2
    ·exact he
    ·exact List.mem_cons_of_mem _ he⟩
   rw [hr] at qX;simp at qX
 | @step n ao i l hi hl ih =>
  intro hs LY hL hx
  obtain ⟨q1,q2,q3⟩:=(vB hs i).1 hi
  have ho:ops.toList[i]?=some ops[i]:=by simp [q1]
  rw [List.map_cons]
  refine .step ((vB (LY.trans kj.symm) _).2 ⟨by rw [kj];exact (h2 i q1).1,by rw [hL i q1];exact q2,fun o' mZ e' P9=>?_⟩) (ih (by simpa using hs) (by simpa using LY) ?_ ?_)
  ·have qJ:=Jj h q1
   have:(EM ops perm x)[posOf perm i]?=some o':=by simpa using mZ
   rw [qJ] at this
   cases this
   rw [DL] at P9
   obtain ⟨e,he,rfl⟩:=List.mem_map.1 P9
   cases hb:Nat.beq i x.2 with
   | false =>
    rw [hb] at he
    rw [hL e ((h3 _ (List.mem_of_getElem? ho)).2 e he)]
    exact q3 _ ho e he
   | true =>
    rw [hb] at he
    rcases jq.1 he with rfl | he
    ·rw [hL _ h4]
     rcases hx [] l (by rw [← bp hb];rfl) with h5 | h5
     ·simp at h5
     ·exact h5
    ·rw [hL e ((h3 _ (List.mem_of_getElem? ho)).2 e he)]
     exact q3 _ ho e he
  ·intro j hj
   have tX:=(h2 i q1).1
   by_cases e:j=i
   ·subst e
    simp [fj,show posOf perm j < wP.size by omega,show j < ao.size by omega]
   ·have eE:posOf perm i≠posOf perm j:=fun he=>by
     have a1:=(h2 i q1).2.1
     have a2:=(h2 j hj).2.1
     rw [he,a2] at a1
     exact e (Option.some.inj a1)
    have:=hL j hj
    simp only [fj] at this ⊢
    rw [Array.getElem?_setIfInBounds_ne eE,Array.getElem?_setIfInBounds_ne (fun h=>e h.symm)]
    exact this
  ·intro l1 l2 aca
   rcases hx (i :: l1) l2 (by rw [aca];rfl) with h5 | h5
   ·rcases jq.1 h5 with h6 | h6
    ·right
     subst h6
     simp [fj,show x.1 < ao.size by omega]
    ·exact .inl h6
   ·right
    by_cases e:x.1=i
    ·subst e;simp [fj,show x.1 < ao.size by omega]
    ·simp only [fj] at h5 ⊢
     rw [Array.getElem?_setIfInBounds_ne (fun h=>e h.symm)]
     exact h5
theorem FF (h:rX ops perm x=true) {F:Fence} {n:Nat} {Q:Exit→Act→World→Prop}:∀ {l:List Nat},(∀ i∈l,i < ops.size)→∀ {a:Act} {w:World},wpOpsIn F n P (EM ops perm x) Q (l.map (posOf perm)) a w→wpOpsIn F n P ops Q l a w
 | [],_,a,w,hw=>hw
 | i :: l,hl,a,w,hw=>by
  rw [List.map_cons,wpOpsIn_cons] at hw
  rw [wpOpsIn_cons]
  have hi:=hl i (by simp)
  unfold wpOpIn at hw ⊢
  rw [Jj h hi] at hw
  rw [dM hi]
  have hg:=((zz h).2.2.1 ops[i] (by simp)).1
  generalize ops[i]=o at hw hg
  obtain ⟨d,op,ty,pos,after,guard⟩:=o
  simp only at hg
  subst hg
  simp only [Il,Region.wanted,if_true] at hw ⊢
  exact Oper.wpIn_mono (fun a w hw=>FF h (fun j hj=>hl j (List.mem_cons_of_mem _ hj)) hw) hw
theorem FG (p q:Nat):∀ l:List Nat,(∀ l1 l2,l=l1 ++ q :: l2→p∈l1)∨(∀ l1 l2,l=l1 ++ p :: l2→q∈l1)∨p=q
 | []=>.inl fun l1 l2 h=>by simp at h
 | a :: l=>by
  by_cases e:p=q
  ·exact .inr (.inr e)
  ·by_cases h1:a=p
   ·subst h1
    refine .inl fun l1 l2 h=>?_
    cases l1 with
    | nil=>rw [List.nil_append] at h;exact absurd (List.cons.inj h).1 e
    | cons b l1=>rw [List.cons_append] at h;rw [(List.cons.inj h).1];simp
   ·by_cases h2:a=q
    ·subst h2
     refine .inr (.inl fun l1 l2 h=>?_)
     cases l1 with
     | nil=>rw [List.nil_append] at h;exact absurd (List.cons.inj h).1.symm e
     | cons b l1=>rw [List.cons_append] at h;rw [(List.cons.inj h).1];simp
    ·rcases FG p q l with h | h | h
     ·refine .inl fun l1 l2 hl=>?_
      cases l1 with
      | nil=>rw [List.nil_append] at hl;exact absurd (List.cons.inj hl).1 h2
      | cons b l1=>rw [List.cons_append] at hl;exact List.mem_cons_of_mem _ (h l1 l2 (List.cons.inj hl).2)
     ·refine .inr (.inl fun l1 l2 hl=>?_)
      cases l1 with
      | nil=>rw [List.nil_append] at hl;exact absurd (List.cons.inj hl).1 h1
      | cons b l1=>rw [List.cons_append] at hl;exact List.mem_cons_of_mem _ (h l1 l2 (List.cons.inj hl).2)
     ·exact absurd h e
theorem Rz {F:Fence} {n id p q:Nat} {permA permB:List Nat} (eE:p≠q) (hA:rX ops permA (p,q)=true) (hB:rX ops permB (q,p)=true) (hm:P.follows .mixedOrders=true) {Q:Exit→Act→World→Prop} {a:Act} {w:World}
  (gA:wpAnyIn F n P .any (EM ops permA (p,q)) Q (EM ops permA (p,q)).size (Array.replicate (EM ops permA (p,q)).size false) a { w with drawn:=w.drawn+1 })
  (gB:wpAnyIn F n P .any (EM ops permB (q,p)) Q (EM ops permB (q,p)).size (Array.replicate (EM ops permB (q,p)).size false) a { w with drawn:=w.drawn+1 }):(Code.region id ops true).wpIn F n P Q a w:=by
 refine wpIn_region_draw fun t=>?_
 simp only [Region.schedule,hm,Bool.true_or,if_true]
 have hl:CQ ops ops.size (Array.replicate ops.size false) (Region.linearise .any ops t):=Xp _ _ _
 have fo:=hl.lt (by simp)
 have Ps:∀ (m j:Nat),(Array.replicate m false).getD j false=false:=by
  intro m j
  simp only [fj,Array.getElem?_replicate]
  split<;>rfl
 rw [FE hA] at gA
 rw [FE hB] at gB
 rcases FG p q (Region.linearise .any ops t) with h | h | h
 ·exact FF hA fo (Oa (hl.move hA (by simp) (by simp) (fun i hi=>by rw [Ps,Ps]) fun l1 l2 e=>.inl (h l1 l2 e)) gA)
 ·exact FF hB fo (Oa (hl.move hB (by simp) (by simp) (fun i hi=>by rw [Ps,Ps]) fun l1 l2 e=>.inl (h l1 l2 e)) gB)
 ·exact absurd h eE
end
end
section
variable {P:Program} {E E0:Env} {fn:FuncId} {nt m:Nat} {k:List Item} {st:St} {dr:dp} {res:AV}
theorem Jk {E:Env} {id:Nat} {ops:Array Oper} {d:Nat} {x:AV} {ty:TypeId} {pos:String} {after:Array Edge} {op:Op} (h0:ops[0]?=some ⟨some d,op,ty,pos,after,none⟩) (hd:d < nt)
  {tm:Array Value} {w W:World} {v:Value} (hs:tm.size=nt) (hop:∀ c,op≠.defer c) (iX:(execOp (⟨tm,[]⟩:Act).eval ⟨some d,op,ty,pos,after,none⟩).run P w=.ok (.value v) W)
  (hm:E.m0≤st.nk) {S:Nat→Prop} {μ:Mu} (g:Good E st.jf S μ W) (hk:∀ k,st.nk≤k→μ k=none) (ht:∀ t,ar W S μ (tm.getD t undef) (cL st.tm t)) (hv:ar W S μ v x)
  {ps:List Prop} {s1:St} (he:wO P nt ops.toList [] d x st=some (ps,s1)) (hp:aX ps) :
  (Code.region id ops false).wp P (fun e a w'=>e=.normal∧a.tmps.size=nt∧a.defers=[]∧Hc E s1 a.tmps w') ⟨tm,[]⟩ w:=by
 unfold wO at he
 simp only [aL,aA] at he
 obtain ⟨bI,Tx,rfl,rfl⟩:=he
 refine (wpIn_wide (n:=0)).1 ?_
 refine wpIn_region ?_
 have hlen:0 < ops.size:=by
  have:=(Array.getElem?_eq_some_iff.1 h0).1
  exact this
 rw [List.range_eq_range',show ops.size=(ops.size - 1)+1 by omega,List.range'_succ,wpOpsIn_cons]
 unfold wpOpIn
 rw [h0]
 simp only [Region.wanted,if_true]
 refine ⟨fun _ _=>trivial,?_⟩
 rw [Oper.semAt_eq _ _ _ hop,iX]
 show wpOpsIn _ _ _ _ _ _ (Act.put ⟨tm,[]⟩ (some d) v) W
 have WH:(ops.toList.drop 1).length=ops.size - 1:=by simp
 have:=CG (P:=P) (E:=E) (Q:=fun e a w'=>e=.normal∧a.tmps.size=nt∧a.defers=[]∧Hc E ⟨vw bI (xn st.tm (some d) x),qA bI st.jf,st.nk+16 * ops.toList.length⟩ a.tmps w') (rd:=none) (ds:=[]) (nt:=nt) (nk:=st.nk) (ops:=ops) (orcs:=[])
  (fun i=>⟨fun x hx=>by simp [lX] at hx,fun x y hx=>by simp [lX] at hx⟩) hm (ops.toList.drop 1) 1 (Act.put ⟨tm,[]⟩ (some d) v) W (xn st.tm (some d) x) st.jf S μ bI rfl (by rw [WH];omega) (by rw [yc];exact hs) (by rw [qV]) g
  (fun k ld=>hk k (by omega)) (fun t=>by
   rw [Bq _ _ _ _ (fun n hn=>by cases hn;show d < tm.size;rw [hs];exact hd),ml]
   split
   ·exact hv
   ·exact ht t) Tx hp (fun a' w' S' cC q1 q2 q3 q4 q5=>⟨rfl,q1,q2,S',cC,q3,fun k ld=>q4 k (by simpa using ld),by show E.m0≤st.nk+_;omega,q5⟩)
 rw [WH] at this
 exact this
theorem az.MI {c:Code} {tm:Array Value} {w:World} {s1:St} {cF:Value→World→Prop} (Xe:c.wp P (fun e a w'=>e=.normal∧a.tmps.size=nt∧a.defers=[]∧Hc E s1 a.tmps w') ⟨tm,[]⟩ w)
  (hr:az P E fn nt cF k s1) (b:Frame) (nJ:b.fn=fn) (lN:b.kind=.normal) (cs:List Frame) :
  ∃ v w' fr,cF v w'∧Steps P (lone (b.at ⟨tm,[]⟩ (.code c :: k)) cs w) (lone fr cs w')∧fr.fn=fn∧fr.leaving P w' (.returned v):=by
 obtain ⟨e,a',w',⟨rfl,q1,q2,q3⟩,Mx⟩:=Xe b k cs
 have ha:a'=⟨a'.tmps,[]⟩:=by cases a';simp at q2;simp [q2]
 obtain ⟨v,Nt,fr,r1,r2,r3,r4⟩:=hr a'.tmps w' q1 q3 b nJ lN cs
 refine ⟨v,Nt,fr,r1,Steps.trans Mx ?_,r3,r4⟩
 rw [ha];exact r2
theorem az.next (hE:aQ E m) (oc:m≠0) {I:Nat} {rem:List (α×β)} {cur:Option (α×β)} (hI:Jh E0 E I cK cV cur rem) {c:Code} {d ti:Nat} (hc:EL nt d ti c=true) (UM:cL st.tm ti=.atom (.pointer (some ⟨I,0,none⟩)))
  {p0:List Prop} {s0:St} (he0:wO P nt (opsOf c) [] d (.tup [.atom (.bool false)]) st=some (p0,s0)) (YO:aX p0)
  (Jl:rem=[]→az P E fn nt (aY E dr res) k s0)
  (step:∀ (x:α×β) (l1 l2:List (α×β)),rem=l1 ++ x :: l2→∃ s1,wO P nt (opsOf c) [] d (.tup [.atom (.bool true),cK x.1,cV x.2]) st=some ([],s1)∧∀ E1,aQ E1 m→Jh E0 E1 I cK cV (some x) (l1 ++ l2)→az P E1 fn nt (aY E0 dr res) k s1) :
  az P E fn nt (aY E0 dr res) (.code c :: k) st:=by
 obtain ⟨id,ops,ty,pos,after,rfl,h0,hd⟩:=MH hc
 simp only [opsOf] at he0 step
 intro tm w hs hr b nJ lN cs
 obtain ⟨S,μ,g,hk,hm,ht⟩:=hr
 obtain ⟨M,since,seen,last,es,clock,hb,hM,Zz,hold,Y2,TA,TY,Oc,ZA⟩:=hI.ex
 have hwI:w.heap[I]?=some (.mapIter (some M) since seen last):=(g.fr.b7 I (cm hb) hI.fi).trans hb
 have hwM:w.heap[M]?=some (.map es clock):=(g.fr.b7 M (cm hM) Zz).trans hM
 have UN:=ht ti
 rw [UM] at UN
 have UN:=db UN
 have Pq:∀ o:Oper,o.op=.next (.tmp ti) false→(execOp (⟨tm,[]⟩:Act).eval o).run P w=((Instr.next (.pointer (some ⟨I,0,none⟩)) false o.type).run P w).andThen fun v w'=>.ok (.value v) w':=fun o ho=>by
  obtain ⟨d1,op1,ty1,p1,a1,g1⟩:=o
  subst ho
  simp only [execOp,Act.eval,UN,bJ]
  rfl
 have ZC:∀ b,S b∨True→True:=fun _ _=>trivial
 rcases run_next_at (P:=P) w ty I M since last seen es clock hwI hwM hold Y2 with ⟨hz,iX⟩ | ⟨e,he,w1,RA,iX⟩
 ·have Xq:(leftOf es seen).toList=[]:=by
   have:(leftOf es seen).toList.length=0:=by simpa using hz
   exact List.length_eq_zero_iff.1 this
  rw [Xq] at Oc
  have Xr:=Oc.empty
  refine az.MI (Jk h0 hd hs (fun c=>by simp) (by rw [Pq _ rfl,iX];rfl) hm g hk ht ?_ he0 YO) ((Jl Xr).mono ?_) b nJ lN cs
  ·refine .tup rfl fun j c v hc hv=>?_
   cases j with
   | zero=>simp at hc hv;subst hc hv;exact .atom _
   | succ j=>simp at hc
  ·rintro v w' ⟨S',cC,g',hv⟩
   exact ⟨S',cC,hI.back _ _ _ _ g',hv⟩
 ·have RC:w1.heap[I]?=some (.mapIter (some M) since seen last):=by rcases RA with rfl | rfl<;>exact hwI
  have Xs:w1.heap[M]?=some (.map es clock):=by rcases RA with rfl | rfl<;>exact hwM
  have g1:Good E st.jf S μ w1:=by rcases RA with rfl | rfl;exact g;exact g.drew
  have Xk:∀ t,ar w1 S μ (tm.getD t undef) (cL st.tm t):=by
   rcases RA with rfl | rfl
   ·exact ht
   ·exact fun t=>(ht t).ext (Ext.drew w S μ)
  have hMI:M≠I:=by rintro rfl;rw [RC] at Xs;cases Xs
  obtain ⟨W,hW⟩:∃ W,W=w1.putObj I (.mapIter (some M) since (seen.push e.born) clock):=⟨_,rfl⟩
  have hWs:ChangeMaps.setBlock w1 I (.mapIter (some M) since (seen.push e.born) clock)=W:=by rw [hW];rfl
  rw [hWs] at iX
  have sw:∀ a,W.cell? a=w1.cell? a:=by rw [hW];exact tv RC rfl rfl
  have ZD:W.heap[I]?=some (.mapIter (some M) since (seen.push e.born) clock):=by rw [hW];exact World.putObj_heap_same (cm RC)
  have hWM:W.heap[M]?=some (.map es clock):=by rw [hW,World.putObj_heap_other hMI];exact Xs
  have g2:Good (q9 W S st.jf μ m) st.jf S μ W:=by rw [hW];exact g1.Zr RC rfl rfl m
  have g0:Good E0 st.jf S μ W:=by rw [hW];exact (hI.back _ _ _ _ g1).put RC rfl rfl (.inl hI.new)
  obtain ⟨e1,e2,hl⟩:=List.append_of_mem he
  have RE:re w1 S cK cV (leftOf es seen).toList rem:=Oc.mono g1.S0 fun b hb=>g1.fr.b7 b (hI.stl b hb) (hI.st b hb)
  rw [hl] at RE
  obtain ⟨l1,x,l2,Xr,Yu,Tr,hx3⟩:=RE.split
  obtain ⟨s1,Hi,Yv⟩:=step x l1 l2 Xr
  have hS:∀ b,S b→¬ Md W st.jf μ b:=by
   rintro b hb (⟨k',o',iB,mZ,fw,jk,rfl⟩ | ⟨k',i',x',v',oM,qT⟩)
   ·obtain ⟨qu,c2,T2,As,IZ⟩:=g2.rep.ob k' o' mZ
    rw [fw] at As;cases As
    exact IZ.out jk hb
   ·exact (g2.mx.b7 oM qT).2.1 hb
  have ZE:Jh E0 (q9 W S st.jf μ m) I cK cV (some x) (l1 ++ l2):=by
   refine ⟨fun σ S' cC w' h=>g0.ME (by have:=hI.m0;rw [hE.m0] at this;exact this) h,by have:=hI.m0;rw [hE.m0] at this;exact this,hI.new,hS,fun b hb=>g2.S1 b hb,g2.Ij ZD rfl,M,since,seen.push e.born,clock,es,clock,ZD,hWM,?_,hold,TA,TA,TY,?_,?_⟩
   ·rintro (⟨k',o',iB,mZ,fw,jk,P9⟩ | ⟨k',i',x',v',⟨o',iB,q1,q2,q3,q4⟩,qT⟩)
    ·rcases g1.own k' o' iB mZ fw jk with h1 | h1
     ·exact Zz (P9 ▸ h1)
     ·have:=cm hM;omega
    ·rcases (g1.mx.b7 ⟨o',iB,q1,q2,q3,by rw [← sw];exact q4⟩ qT).2.2.1 with h1 | h1
     ·exact Zz h1
     ·have:=cm hM;omega
   ·rw [Px TY hl]
    exact hx3.same (fun _ h=>h) sw
   ·rintro _ ⟨⟩
    exact ⟨e,seen,(mem_left he).1,rfl,rfl,Yu.eX (fun _ h=>h) sw,Tr.eX (fun _ h=>h) sw⟩
  refine az.MI (E:=q9 W S st.jf μ m) (Jk h0 hd hs (fun c=>by simp) (by rw [Pq _ rfl,iX];rfl) (by show m≤st.nk;rw [← hE.m0];exact hm) g2 hk (fun t=>(Xk t).eX (fun _ h=>h) sw) ?_ Hi trivial) (Yv _ ⟨rfl,fun h=>absurd h oc⟩ ZE) b nJ lN cs
  refine .tup rfl fun j c v hc hv=>?_
  match j,hc,hv with
  | 0,hc,hv=>simp at hc hv;subst hc hv;exact .atom _
  | 1,hc,hv=>simp at hc hv;subst hc hv;exact ((Yu.eX (fun _ h=>h) sw).mono (fun _ h=>h) (fun _ _=>rfl) (fun k pl h=>by cases h))
  | 2,hc,hv=>simp at hc hv;subst hc hv;exact ((Tr.eX (fun _ h=>h) sw).mono (fun _ h=>h) (fun _ _=>rfl) (fun k pl h=>by cases h))
  | j+3,hc,hv=>simp at hc
def BB (nt d ti:Nat) (c:Code):Bool:=match c with
 | .region _ ops false=>match ops.toList with
  | ⟨some d',.entry (.tmp t'),_,_,_,none⟩ :: _=>Nat.beq d d' && Nat.beq ti t' && Nat.blt d nt
  | _=>false
 | _=>false
theorem KQ {nt d ti:Nat} {c:Code} (h:BB nt d ti c=true):∃ id ops ty pos after,c=.region id ops false∧ops[0]?=some ⟨some d,.entry (.tmp ti),ty,pos,after,none⟩∧d < nt:=by
 unfold BB at h
 split at h
 ·rename_i id ops
  split at h
  ·rename_i d' t' ty pos after rest ho
   simp only [a9] at h
   obtain ⟨⟨h1,h2⟩,h3⟩:=h
   rw [bp h1,bp h2]
   refine ⟨id,ops,ty,pos,after,rfl,?_,?_⟩
   ·rw [← Array.getElem?_toList,ho];rfl
   ·rw [← bp h1];exact tq h3
  ·cases h
 ·cases h
theorem az.entry {I:Nat} {rem:List (α×β)} {x:α×β} (hI:Jh E0 E I cK cV (some x) rem) {c:Code} {d ti:Nat} (hc:BB nt d ti c=true) (UM:cL st.tm ti=.atom (.pointer (some ⟨I,0,none⟩))) {cF:Value→World→Prop}
  {p1:List Prop} {s1:St} (he:wO P nt (opsOf c) [] d (.tup [cK x.1,cV x.2]) st=some (p1,s1)) (tX:aX p1) (hr:az P E fn nt cF k s1):az P E fn nt cF (.code c :: k) st:=by
 obtain ⟨id,ops,ty,pos,after,rfl,h0,hd⟩:=KQ hc
 simp only [opsOf] at he
 intro tm w hs Ag b nJ lN cs
 obtain ⟨S,μ,g,hk,hm,ht⟩:=Ag
 obtain ⟨M,since,seen,last,es,clock,hb,hM,Zz,hold,Y2,TA,TY,Oc,ZA⟩:=hI.ex
 obtain ⟨e,N9,he1,rfl,rfl,Yu,Tr⟩:=ZA x rfl
 have hwI:w.heap[I]?=some (.mapIter (some M) since (N9.push e.born) last):=(g.fr.b7 I (cm hb) hI.fi).trans hb
 have hwM:w.heap[M]?=some (.map es last):=(g.fr.b7 M (cm hM) Zz).trans hM
 have UN:=ht ti
 rw [UM] at UN
 have UN:=db UN
 have Pq:∀ o:Oper,o.op=.entry (.tmp ti)→(execOp (⟨tm,[]⟩:Act).eval o).run P w=((Instr.entry (.pointer (some ⟨I,0,none⟩))).run P w).andThen fun v w'=>.ok (.value v) w':=fun o ho=>by
  obtain ⟨d1,op1,ty1,p1,a1,g1⟩:=o
  subst ho
  simp only [execOp,Act.eval,UN,bJ]
  rfl
 have iX:=run_entry_at (P:=P) w I M since N9 es last e hwI hwM he1 TY
 have VM:∀ b,E.S0 b→w.heap[b]?=E.w0.heap[b]?:=fun b hb=>g.fr.b7 b (hI.stl b hb) (hI.st b hb)
 refine az.MI (Jk h0 hd hs (fun c=>by simp) (by rw [Pq _ rfl,iX];rfl) hm g hk ht ?_ he tX) hr b nJ lN cs
 refine .tup rfl fun j c v hc hv=>?_
 match j,hc,hv with
 | 0,hc,hv=>simp at hc hv;subst hc hv;exact Yu.mono g.S0 VM (fun k pl h=>by cases h)
 | 1,hc,hv=>simp at hc hv;subst hc hv;exact Tr.mono g.S0 VM (fun k pl h=>by cases h)
 | j+2,hc,hv=>simp at hc
def rangeAt (T:TypeId) (d tx:Nat):Option Oper→Bool
 | some ⟨some d',.range T' (.tmp t'),_,_,_,none⟩=>Nat.beq d d' && Nat.beq tx t' && Nat.beq T T'
 | _=>false
def FH (P:Program) (nt:Nat) (ops:Array Oper) (orcs:List (Nat×lW)) (T:TypeId) (d tx:Nat) (st:St):Option (List Prop×St) :=
 match oN P nt ops.toList st.nk orcs (ops.toList.take (ops.size - 1)) 0 st.tm st.jf with
 | some bI=>match Ji ops.toList bI (ops.size - 1) && rangeAt T d tx (ops.toList[ops.size - 1]?) && Nat.blt d nt with
  | true=>some (wM bI,⟨vw bI st.tm,qA bI st.jf,st.nk+16 * ops.size⟩)
  | false=>none
 | none=>none
def Oe (s:St) (tx km:Nat) (l:List AV):Prop:=cL s.tm tx=.mp km∧∃ o,av s.jf km=some o∧o.sz=0∧o.get 0=l
theorem KR (ck:α→AV) (cv:β→AV):∀ l:List (α×β),(q0 ck cv l).length=2 * l.length
 | []=>rfl
 | _ :: r=>by simp only [q0,qI,KR ck cv r];omega
theorem KS (ck:α→AV) (cv:β→AV):∀ (l:List (α×β)) (j:Nat) (x:α×β),l[j]?=some x→(q0 ck cv l)[2 * j]?=some (ck x.1)∧(q0 ck cv l)[2 * j+1]?=some (cv x.2)
 | [],j,x,h=>by simp at h
 | p :: r,0,x,h=>by simp at h;subst h;exact ⟨rfl,rfl⟩
 | p :: r,j+1,x,h=>by
  have:=KS ck cv r j x (by simpa using h)
  rw [show 2 * (j+1)=2 * j+1+1 by omega]
  simpa only [q0,Bd] using this
theorem Of {w:World} {S:Nat→Prop} {c:Array Value}:∀ (xs:List (α×β)) (i:Nat),(∀ j x,xs[j]?=some x→ar w S fZ (c[2 * (i+j)]?.getD undef) (cK x.1)∧ar w S fZ (c[2 * (i+j)+1]?.getD undef) (cV x.2)) →
  re w S cK cV ((List.range' i xs.length).map fun i=>(⟨c[2 * i]?.getD undef,c[2 * i+1]?.getD undef,i⟩:MapEntry)) xs
 | [],i,_=>.nil
 | x :: xs,i,h=>by
  rw [qI,List.range'_succ,List.map_cons]
  have h0:=h 0 x rfl
  rw [Nat.add_zero] at h0
  refine .cons h0.1 h0.2 (Of xs (i+1) fun j y hy=>?_)
  have:=h (j+1) y (by simpa using hy)
  rwa [show i+(j+1)=i+1+j by omega] at this
theorem Im (hE:aQ E m) (oc:m≠0) {ops:Array Oper} {orcs:List (Nat×lW)} {T kt vt:TypeId} {d tx km:Nat} {ps:List Prop} {s1:St} (he:FH P nt ops orcs T d tx st=some (ps,s1)) (hp:aX ps) (hn:(ou orcs && NW orcs)=true)
  (hT:P.underlying T=some (.map kt vt)) {rem:List (α×β)} (hmp:Oe s1 tx km (q0 cK cV rem)) {Q:Exit→Act→World→Prop}
  (hQ:∀ a w',(a.tmps.size=nt∧a.defers=[]∧∃ E1 I,aQ E1 m∧Jh E E1 I cK cV none rem∧Hc E1 ⟨(d,.atom (.pointer (some ⟨I,0,none⟩))) :: s1.tm,qt s1.jf km,s1.nk⟩ a.tmps w')→Q .normal a w')
  {tm:Array Value} {w:World} (hs:tm.size=nt) (hrp:Hc E st tm w):wpAnyIn (FW none) 0 P .any ops Q ops.size (Array.replicate ops.size false) ⟨tm,[]⟩ { w with drawn:=w.drawn+1 }:=by
 obtain ⟨G6,NC⟩:=lU.1 hn
 unfold FH at he
 split at he
 case h_2=>cases he
 rename_i bI Tx
 split at he
 case h_2=>cases he
 rename_i WT
 simp only [aD,aA] at he
 obtain ⟨rfl,rfl⟩:=he
 simp only [a9] at WT
 obtain ⟨⟨ZF,ZG⟩,hdn⟩:=WT
 have hdn:=tq hdn
 obtain ⟨ty,pos,after,ZH,Py⟩:∃ ty pos after,ops[ops.size - 1]?=some ⟨some d,.range T (.tmp tx),ty,pos,after,none⟩∧0 < ops.size:=by
  unfold rangeAt at ZG
  split at ZG
  ·rename_i d' T' t' ty pos after ho
   simp only [a9] at ZG
   obtain ⟨⟨h1,h2⟩,h3⟩:=ZG
   rw [bp h1,bp h2,bp h3]
   have ho:ops[ops.size - 1]?=some ⟨some d',.range T' (.tmp t'),ty,pos,after,none⟩:=by rw [← Array.getElem?_toList];exact ho
   refine ⟨ty,pos,after,ho,?_⟩
   have:=(Array.getElem?_eq_some_iff.1 ho).1
   omega
  ·cases ZG
 obtain ⟨hmt,o,Ts,kj,oa⟩:=hmp
 obtain ⟨S,μ,g,hk,hm,ht⟩:=hrp
 have hz:∀ i,Fq P E (lX orcs i):=fun i=>⟨fun x hx hf=>(CM G6 i x hx hf).elim,fun x y hx Pr=>I9 (CN NC) i x y hx Pr⟩
 have Ps:∀ (n j:Nat),(Array.replicate n false).getD j false=false:=by
  intro n j
  simp only [fj,Array.getElem?_replicate]
  split<;>rfl
 refine Ry (L:=ops.size - 1) (rd:=none) (ds:=[]) (nt:=nt) hz hm (by omega) Tx hp ZF ?_ ops.size _ ⟨tm,[]⟩ _ S μ (by simp) hs rfl (Ps _ _) ?_ ?_ ?_ ?_ ?_
 rotate_left
 ·intro j hj;rw [Ps] at hj;cases hj
 ·omega
 ·rw [zu bI 0 st.jf _ (fun m _=>Ps _ _)];exact g.drew
 ·intro k' ld _
  exact hk k' ld
 ·intro t
  rw [Bu bI 0 st.tm _ (fun m _=>Ps _ _)]
  exact (ht t).ext (Ext.drew w S μ)
 intro a' w' S' cC q1 q2 g1 Zt Xk
 obtain ⟨pl,cc,TT,G7,cD⟩:=g1.rep.ob km o Ts
 obtain ⟨rT,Pq,hlen,DD,xE⟩:=cD.mp kj
 have hM:w'.heap[pl.b7]?=some (.map (ej cc) (cc.size / 2)):=by rw [cD.b7 rT,wu kj]
 have rS:=Xk tx
 rw [hmt] at rS
 obtain ⟨FI,af2⟩:a'.tmps.getD tx undef=.map (some pl.b7)∧True:=by
  generalize a'.tmps.getD tx undef=v at rS
  cases rS with
  | mp iB h=>rw [G7] at h;cases h;exact ⟨rfl,trivial⟩
 have iX:=run_range_map (P:=P) w' T kt vt pl.b7 (ej cc) (cc.size / 2) hT hM
 unfold wpOpIn
 rw [ZH]
 simp only [Region.wanted,if_true]
 refine ⟨fun _ _=>trivial,?_⟩
 rw [Oper.semAt_eq _ _ _ (fun c=>by simp)]
 have ZJ:(execOp a'.eval ⟨some d,.range T (.tmp tx),ty,pos,after,none⟩).run P w'=.ok (.value (.pointer (some ⟨w'.heap.size,0,none⟩))) (w'.alloc (.mapIter (some pl.b7) (cc.size / 2) #[] (cc.size / 2))):=by
  have:execOp a'.eval ⟨some d,.range T (.tmp tx),ty,pos,after,none⟩=(do let v ← Instr.range T (a'.tmps.getD tx undef);pure (.value v):Sem Next):=rfl
  rw [this,FI]
  simp only [bJ,iX,cO,Sem.run_pure]
 rw [ZJ]
 refine hQ _ _ ?_
 obtain ⟨ex,g2⟩:=g1.aux (.mapIter (some pl.b7) (cc.size / 2) #[] (cc.size / 2)) rfl
 obtain ⟨W,hW⟩:∃ W,W=w'.alloc (.mapIter (some pl.b7) (cc.size / 2) #[] (cc.size / 2)):=⟨_,rfl⟩
 obtain ⟨S2,hS2⟩:∃ S2:Nat→Prop,S2=fun b=>S' b∨b=w'.heap.size:=⟨_,rfl⟩
 rw [← hW,← hS2] at ex g2
 rw [← hW]
 have ZD:W.heap[w'.heap.size]?=some (.mapIter (some pl.b7) (cc.size / 2) #[] (cc.size / 2)):=by rw [hW];exact World.alloc_heap_new w' _
 have hWM:W.heap[pl.b7]?=some (.map (ej cc) (cc.size / 2)):=by rw [hW];exact (ek (cm hM)).trans hM
 have g3:=(g2.del km).base m
 have acf:∀ k,st.nk+16 * ops.size≤k→cC k=none:=fun k ld=>Zt k (by omega)
 refine ⟨by rw [yc];exact q1,by rw [qV];exact q2,q9 W S2 (qt (qA bI st.jf) km) cC m,w'.heap.size,⟨rfl,fun h=>absurd h oc⟩,?_,S2,cC,g3,acf,?_,?_⟩
 ·have h2:cc.size=2 * rem.length:=by rw [hlen,oa,KR]
  refine ⟨fun σ S μ w h=>(g2.del km).ME (by rw [hE.m0];exact aR _) h,by rw [hE.m0];exact aR _,g1.fr.size,?_,fun b hb=>g3.S1 b hb,g3.Ij ZD rfl,pl.b7,cc.size / 2,#[],cc.size / 2,ej cc,cc.size / 2,ZD,hWM,?_,?_,aR _,aR _,?_,?_,fun x hx=>by cases hx⟩
  ·rintro b hb (⟨k',o',iB,mZ,fw,jk,rfl⟩ | ⟨k',i',x',v',oM,qT⟩)
   ·obtain ⟨qu,c2,T2,As,IZ⟩:=g3.rep.ob k' o' mZ
    rw [fw] at As;cases As
    exact IZ.out jk hb
   ·exact (g3.mx.b7 oM qT).2.1 hb
  ·rintro (⟨k',o',iB,mZ,fw,jk,P9⟩ | ⟨k',i',x',v',⟨o',iB,Rp,Tv,q3',q4'⟩,qT⟩)
   ·rw [eK] at mZ
    split at mZ
    ·cases mZ
    ·rename_i eE
     exact g2.rep.ne km k' o o' pl iB eE Ts mZ G7 fw rT jk P9.symm
   ·rw [eK] at Rp
    split at Rp
    ·cases Rp
    ·exact g2.mx.obj k' i' x' v' pl.b7 ⟨o',iB,Rp,Tv,q3',q4'⟩ qT km o pl Ts G7 rT rfl
  ·intro x hx
   simp only [ej,Array.toList_map,Array.toList_range,List.mem_map,nI] at hx
   obtain ⟨i,hi,rfl⟩:=hx
   exact hi
  ·simp only [ej,Array.toList_map,Array.toList_range,List.map_map,Function.comp_def,List.map_id']
   exact List.nodup_range
  ·have hle:(leftOf (ej cc) #[]).toList=(ej cc).toList:=by
    unfold leftOf
    rw [Array.toList_filter]
    exact List.filter_eq_self.2 fun x _=>by simp
   rw [hle]
   have e1:(ej cc).toList=(List.range' 0 rem.length).map fun i=>(⟨cc[2 * i]?.getD undef,cc[2 * i+1]?.getD undef,i⟩:MapEntry):=by
    simp only [ej,Array.toList_map,Array.toList_range,List.range_eq_range']
    rw [show cc.size / 2=rem.length by omega]
   rw [e1]
   refine Of rem 0 fun j x hx=>?_
   rw [Nat.zero_add]
   obtain ⟨c1,c2⟩:=KS cK cV rem j x hx
   have hj:j < rem.length:=(dd.1 hx).1
   rw [← oa] at c1 c2
   have v1:cc[2 * j]?=some cc[2 * j]:=dM (by omega)
   have v2:cc[2 * j+1]?=some cc[2 * j+1]:=dM (by omega)
   refine ⟨?_,?_⟩
   ·rw [v1];exact (xE _ _ _ c1 v1).mono ex.EV ex.b7 (fun k pl h=>by cases h)
   ·rw [v2];exact (xE _ _ _ c2 v2).mono ex.EV ex.b7 (fun k pl h=>by cases h)
 ·show m≤st.nk+16 * ops.size
  rw [← hE.m0];omega
 ·intro t
  rw [Bq _ _ _ _ (fun n hn=>by cases hn;rw [q1];exact hdn)]
  show ar W S2 cC _ (cL ((d,_) :: vw bI st.tm) t)
  simp only [cL]
  by_cases hdt:d=t
  ·rw [ki hdt,if_pos (by rw [hdt])]
   exact .atom _
  ·rw [lO hdt,if_neg (by simpa using hdt)]
   exact (Xk t).ext ex
theorem az.Xt (hE:aQ E m) (oc:m≠0) {c:Code} {p q:Nat} {permA permB:List Nat} (hc:(match c with
  | .region _ ops true=>!Nat.beq p q && rX ops permA (p,q) && rX ops permB (q,p)
  | _=>false)=true) (hfo:P.follows .mixedOrders=true) {Hp Hq:List (Nat×lW)} {T kt vt:TypeId} {d tx kA kB:Nat} {pA pB:List Prop} {sA sB:St}
  (hA:FH P nt (EM (opsOf c).toArray permA (p,q)) Hp T d tx st=some (pA,sA)) (hB:FH P nt (EM (opsOf c).toArray permB (q,p)) Hq T d tx st=some (pB,sB)) (hpA:aX pA) (hpB:aX pB) (hnA:(ou Hp && NW Hp)=true) (hnB:(ou Hq && NW Hq)=true)
  (hT:P.underlying T=some (.map kt vt)) {Pz PA:List (α×β)} (hmA:Oe sA tx kA (q0 cK cV Pz)) (hmB:Oe sB tx kB (q0 cK cV PA))
  (ZK:∀ E1 I,aQ E1 m→Jh E E1 I cK cV none Pz→az P E1 fn nt (aY E dr res) k ⟨(d,.atom (.pointer (some ⟨I,0,none⟩))) :: sA.tm,qt sA.jf kA,sA.nk⟩)
  (ZL:∀ E1 I,aQ E1 m→Jh E E1 I cK cV none PA→az P E1 fn nt (aY E dr res) k ⟨(d,.atom (.pointer (some ⟨I,0,none⟩))) :: sB.tm,qt sB.jf kB,sB.nk⟩) :
  az P E fn nt (aY E dr res) (.code c :: k) st:=by
 split at hc
 case h_2=>cases hc
 rename_i id ops
 simp only [a9,Bool.not_eq_true'] at hc
 obtain ⟨⟨J3,hA1⟩,hB1⟩:=hc
 have J3:p≠q:=fun h=>by rw [h,ki rfl] at J3;cases J3
 simp only [opsOf,Array.toArray_toList] at hA hB
 intro tm w hs hrp b nJ lN cs
 let Q:Exit→Act→World→Prop:=fun e a w'=>e=.normal∧a.tmps.size=nt∧a.defers=[] ∧
  ((∃ E1 I,aQ E1 m∧Jh E E1 I cK cV none Pz∧Hc E1 ⟨(d,.atom (.pointer (some ⟨I,0,none⟩))) :: sA.tm,qt sA.jf kA,sA.nk⟩ a.tmps w')∨∃ E1 I,aQ E1 m∧Jh E E1 I cK cV none PA∧Hc E1 ⟨(d,.atom (.pointer (some ⟨I,0,none⟩))) :: sB.tm,qt sB.jf kB,sB.nk⟩ a.tmps w')
 have Xe:(Code.region id ops true).wp P Q ⟨tm,[]⟩ w:=(wpIn_wide (n:=0)).1 (Rz J3 hA1 hB1 hfo
  (Im hE oc hA hpA hnA hT hmA (fun a w' ⟨h1,h2,h3⟩=>⟨rfl,h1,h2,.inl h3⟩) hs hrp) (Im hE oc hB hpB hnB hT hmB (fun a w' ⟨h1,h2,h3⟩=>⟨rfl,h1,h2,.inr h3⟩) hs hrp))
 obtain ⟨e,a',w',⟨rfl,q1,q2,h3⟩,Mx⟩:=Xe b k cs
 have ha:a'=⟨a'.tmps,[]⟩:=by cases a';simp at q2;simp [q2]
 have go:∃ v Nt fr,aY E dr res v Nt∧Steps P (lone (b.at ⟨a'.tmps,[]⟩ k) cs w') (lone fr cs Nt)∧fr.fn=fn∧fr.leaving P Nt (.returned v):=by
  rcases h3 with ⟨E1,I,ZM,ZE,q3⟩ | ⟨E1,I,ZM,ZE,q3⟩
  ·exact ZK E1 I ZM ZE a'.tmps w' q1 q3 b nJ lN cs
  ·exact ZL E1 I ZM ZE a'.tmps w' q1 q3 b nJ lN cs
 obtain ⟨v,Nt,fr,r1,r2,r3,r4⟩:=go
 refine ⟨v,Nt,fr,r1,Steps.trans Mx ?_,r3,r4⟩
 rw [ha];exact r2
noncomputable def qD {γ δ:Type} (rem:List γ) (z:Option δ) (f:γ→List γ→Option δ):Option δ:=open Classical in
 if rem=[] then z else if h:∃ r,∀ l1 x l2,rem=l1 ++ x :: l2→f x (l1 ++ l2)=some r then some h.choose else none
theorem MJ {γ δ:Type} {rem:List γ} {z:Option δ} {f:γ→List γ→Option δ} {r:δ} (h:qD rem z f=some r) (hr:rem=[]):z=some r:=by
 unfold qD at h;rwa [if_pos hr] at h
theorem KT {γ δ:Type} {rem:List γ} {z:Option δ} {f:γ→List γ→Option δ} {r:δ} (h:qD rem z f=some r) {l1 l2:List γ} {x:γ} (hr:rem=l1 ++ x :: l2):f x (l1 ++ l2)=some r:=by
 unfold qD at h
 rw [if_neg (by rw [hr];simp)] at h
 split at h
 ·rename_i hx
  have:=hx.choose_spec l1 x l2 hr
  rw [this];exact h
 ·cases h
theorem KU {γ δ:Type} (z:Option δ) (f:γ→List γ→Option δ):qD [] z f=z:=by unfold qD;rw [if_pos rfl]
theorem PB {γ δ:Type} {rem:List γ} {z:Option δ} {f:γ→List γ→Option δ} {r:δ} (eE:rem≠[]) (h:∀ l1 x l2,rem=l1 ++ x :: l2→f x (l1 ++ l2)=some r):qD rem z f=some r:=by
 have hx:∃ r',∀ l1 x l2,rem=l1 ++ x :: l2→f x (l1 ++ l2)=some r':=⟨r,h⟩
 unfold qD
 rw [if_neg eE,dif_pos hx]
 have h1:=hx.choose_spec
 cases rem with
 | nil=>exact absurd rfl eE
 | cons a l =>
  have e1:=h1 [] a l rfl
  rw [h [] a l rfl] at e1
  exact e1.symm
def UO (s:St) (tx km:Nat):Option (List AV):=match cL s.tm tx,av s.jf km with
 | .mp k',some o=>match Nat.beq k' km && Nat.beq o.sz 0 with
  | true=>some (o.get 0)
  | false=>none
 | _,_=>none
theorem Og {s:St} {tx km:Nat} {l:List AV} (h:UO s tx km=some l):Oe s tx km l:=by
 unfold UO at h
 split at h
 ·rename_i k' o h1 h2
  split at h
  ·rename_i h3
   cases h
   obtain ⟨h4,h5⟩:=lU.1 h3
   exact ⟨by rw [h1,bp h4],o,h2,bp h5,rfl⟩
  ·cases h
 ·cases h
def UP (P:Program) (nt:Nat) (ops:Array Oper) (orcs:List (Nat×lW)) (T:TypeId) (d tx:Nat) (st:St):St:=match FH P nt ops orcs T d tx st with
 | some x=>x.2
 | none=>st
def nPI (P:Program) (nt:Nat) (ops:Array Oper) (orcs:List (Nat×lW)) (T:TypeId) (d tx km:Nat) (st:St) (I:Nat):St :=
 ⟨(d,.atom (.pointer (some ⟨I,0,none⟩))) :: (UP P nt ops orcs T d tx st).tm,qt (UP P nt ops orcs T d tx st).jf km,(UP P nt ops orcs T d tx st).nk⟩
def acm (p q:Nat) (permA permB:List Nat) (c:Code):Bool:=match c with
 | .region _ ops true=>!Nat.beq p q && rX ops permA (p,q) && rX ops permB (q,p)
 | _=>false
theorem az.nG (hE:aQ E m) (n p q:Nat) (permA permB:List Nat) (Hp Hq:List (Nat×lW)) (T kt vt:TypeId) (d tx kA kB:Nat) (cK:α→AV) (cV:β→AV) (Pz PA:List (α×β)) {pA pB:List Prop} (hpA:aX pA) (hpB:aX pB)
  (ZK:∀ E1 I,aQ E1 m→Jh E E1 I cK cV none Pz→az P E1 fn nt (aY E dr res) (UB (nK n k)) (nPI P nt (EM (opsOf (Bb (nK n k))).toArray permA (p,q)) Hp T d tx kA st I))
  (ZL:∀ E1 I,aQ E1 m→Jh E E1 I cK cV none PA→az P E1 fn nt (aY E dr res) (UB (nK n k)) (nPI P nt (EM (opsOf (Bb (nK n k))).toArray permB (q,p)) Hq T d tx kB st I))
  (h0:KM n k=true:=by kernel_rfl) (hc:acm p q permA permB (Bb (nK n k))=true:=by kernel_rfl) (hfo:P.follows .mixedOrders=true:=by kernel_rfl)
  (hA:Hn (FH P nt (EM (opsOf (Bb (nK n k))).toArray permA (p,q)) Hp T d tx st)=some pA:=by kernel_rfl) (hB:Hn (FH P nt (EM (opsOf (Bb (nK n k))).toArray permB (q,p)) Hq T d tx st)=some pB:=by kernel_rfl)
  (hn:(ou Hp && NW Hp && (ou Hq && NW Hq))=true:=by kernel_rfl) (hT:P.underlying T=some (.map kt vt):=by kernel_rfl)
  (hmA:UO (UP P nt (EM (opsOf (Bb (nK n k))).toArray permA (p,q)) Hp T d tx st) tx kA=some (q0 cK cV Pz):=by kernel_rfl)
  (hmB:UO (UP P nt (EM (opsOf (Bb (nK n k))).toArray permB (q,p)) Hq T d tx st) tx kB=some (q0 cK cV PA):=by kernel_rfl) (oc:Nat.ble 1 m=true:=by kernel_rfl):az P E fn nt (aY E dr res) k st:=by
 obtain ⟨sA,hsA⟩:=nM hA
 obtain ⟨sB,hsB⟩:=nM hB
 have eA:UP P nt (EM (opsOf (Bb (nK n k))).toArray permA (p,q)) Hp T d tx st=sA:=by unfold UP;rw [hsA]
 have eB:UP P nt (EM (opsOf (Bb (nK n k))).toArray permB (q,p)) Hq T d tx st=sB:=by unfold UP;rw [hsB]
 unfold nPI at ZK ZL
 rw [eA] at ZK hmA
 rw [eB] at ZL hmB
 have oc:=Nat.le_of_ble_eq_true oc
 obtain ⟨G6,NC⟩:=lU.1 hn
 exact az.Cf n (zy h0) (az.Xt hE (by omega) (p:=p) (q:=q) (permA:=permA) (permB:=permB) hc hfo hsA hsB hpA hpB G6 NC hT (Og hmA) (Og hmB) ZK ZL)
theorem az.nN (hE:aQ E m) {I:Nat} {cur:Option (α×β)} {rem:List (α×β)} (hI:Jh E0 E I cK cV cur rem) (n d ti:Nat) {R:Type} {z:Option R} {f:α×β→List (α×β)→Option R} {r:R} (h:qD rem z f=some r)
  (Jl:z=some r→az P E fn nt (aY E dr res) (UB (nK n k)) (UL P nt (Bb (nK n k)) d (.tup [.atom (.bool false)]) st))
  (step:∀ (x:α×β) (ZN:List (α×β)),f x ZN=some r→∀ E1,aQ E1 m→Jh E0 E1 I cK cV (some x) ZN→az P E1 fn nt (aY E0 dr res) (UB (nK n k)) (UL P nt (Bb (nK n k)) d (.tup [.atom (.bool true),cK x.1,cV x.2]) st))
  (h0:KM n k=true:=by kernel_rfl) (hc:EL nt d ti (Bb (nK n k))=true:=by kernel_rfl) (UM:cL st.tm ti=.atom (.pointer (some ⟨I,0,none⟩)):=by kernel_rfl)
  (he0:Hn (wO P nt (opsOf (Bb (nK n k))) [] d (.tup [.atom (.bool false)]) st)=some []:=by kernel_rfl)
  (he1:∀ x:α×β,Hn (wO P nt (opsOf (Bb (nK n k))) [] d (.tup [.atom (.bool true),cK x.1,cV x.2]) st)=some []:=by intro x;kernel_rfl)
  (oc:Nat.ble 1 m=true:=by kernel_rfl):az P E fn nt (aY E0 dr res) k st:=by
 have oc:=Nat.le_of_ble_eq_true oc
 obtain ⟨s0,LZ⟩:=nM he0
 have e0:UL P nt (Bb (nK n k)) d (.tup [.atom (.bool false)]) st=s0:=by unfold UL;rw [LZ]
 rw [e0] at Jl
 refine az.Cf n (zy h0) (az.next hE (by omega) hI hc UM LZ trivial (fun hr=>Jl (MJ h hr)) fun x l1 l2 hr=>?_)
 obtain ⟨s1,Hi⟩:=nM (he1 x)
 have e1:UL P nt (Bb (nK n k)) d (.tup [.atom (.bool true),cK x.1,cV x.2]) st=s1:=by unfold UL;rw [Hi]
 exact ⟨s1,Hi,fun E1 ZM hI1=>by rw [← e1];exact step x (l1 ++ l2) (KT h hr) E1 ZM hI1⟩
theorem az.nY {I:Nat} {rem:List (α×β)} {x:α×β} (hI:Jh E0 E I cK cV (some x) rem) (n d ti:Nat) {cF:Value→World→Prop} {ps:List Prop} (hp:aX ps)
  (hr:az P E fn nt cF (UB (nK n k)) (UL P nt (Bb (nK n k)) d (.tup [cK x.1,cV x.2]) st))
  (h0:KM n k=true:=by kernel_rfl) (hc:BB nt d ti (Bb (nK n k))=true:=by kernel_rfl) (UM:cL st.tm ti=.atom (.pointer (some ⟨I,0,none⟩)):=by kernel_rfl)
  (he:Hn (wO P nt (opsOf (Bb (nK n k))) [] d (.tup [cK x.1,cV x.2]) st)=some ps:=by kernel_rfl):az P E fn nt cF k st:=by
 obtain ⟨s,hs⟩:=nM he
 have e:UL P nt (Bb (nK n k)) d (.tup [cK x.1,cV x.2]) st=s:=by unfold UL;rw [hs]
 rw [e] at hr
 exact az.Cf n (zy h0) (az.entry hI hc UM hs hp hr)
end
end
end Go.Ab
