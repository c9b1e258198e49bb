/- Abstract values over the heap of the machine, and functions read off its code (part 5). No conditions. -/
import Derived.Test.YtdigjibahkjfdaaGreatCd
import Derived.Maps.RangeRun
set_option linter.unusedVariables false
set_option linter.unusedSimpArgs false
namespace Go.Ab
inductive rm (w:World) (S:Nat→Prop) {α β:Type} (cK:α→AV) (cV:β→AV):List MapEntry→List (α×β)→Prop where
 | nil:rm w S cK cV [] []
 | cons {e:MapEntry} {x:α×β} {es:List MapEntry} {xs:List (α×β)}:aq w S fV e.key (cK x.1)→aq w S fV e.val (cV x.2)→rm w S cK cV es xs→rm w S cK cV (e :: es) (x :: xs)
section
variable {α β:Type} {cK:α→AV} {cV:β→AV}
theorem rm.mono {w w':World} {S S':Nat→Prop} (hS:∀ b,S b→S' b) (hb:∀ b,S b→w'.heap[b]?=w.heap[b]?):∀ {es:List MapEntry} {xs:List (α×β)},rm w S cK cV es xs→rm w' S' cK cV es xs
 | _,_,.nil=>.nil
 | _,_,.cons h1 h2 h3=>.cons (h1.mono hS hb fun _ _ h=>h) (h2.mono hS hb fun _ _ h=>h) (h3.mono hS hb)
theorem rm.same {w w':World} {S S':Nat→Prop} (hS:∀ b,S b→S' b) (hc:∀ a,w'.cell? a=w.cell? a):∀ {es:List MapEntry} {xs:List (α×β)},rm w S cK cV es xs→rm w' S' cK cV es xs
 | _,_,.nil=>.nil
 | _,_,.cons h1 h2 h3=>.cons (h1.fb hS hc) (h2.fb hS hc) (h3.same hS hc)
theorem rm.split {w:World} {S:Nat→Prop} {e:MapEntry} {e2:List MapEntry}:∀ {e1:List MapEntry} {xs:List (α×β)},rm w S cK cV (e1 ++ e :: e2) xs →
  ∃ l1 x l2,xs=l1 ++ x :: l2∧aq w S fV e.key (cK x.1)∧aq w S fV e.val (cV x.2)∧rm w S cK cV (e1 ++ e2) (l1 ++ l2):=by
 intro e1
 induction e1 with
 | nil =>
  intro xs h
  cases h with
  | cons h1 h2 h3=>exact ⟨[],_,_,rfl,h1,h2,h3⟩
 | cons a e1 ih =>
  intro xs h
  cases h with
  | cons h1 h2 h3 =>
   obtain ⟨l1,x,l2,rfl,q1,q2,q3⟩:=ih h3
   exact ⟨_ :: l1,x,l2,rfl,q1,q2,.cons h1 h2 q3⟩
theorem rm.empty {w:World} {S:Nat→Prop} {xs:List (α×β)} (h:rm w S cK cV [] xs):xs=[]:=by cases h;rfl
structure JF (E0 E:Env) (I:Nat) (cK:α→AV) (cV:β→AV) (cur:Option (α×β)) (rem:List (α×β)):Prop where
 back:∀ σ S μ w,Good E σ S μ w→Good E0 σ S μ w
 m0:E0.m0≤E.m0
 new:E0.w0.heap.size≤I
 st:∀ b,E.S0 b→¬ E.fp b
 stl:∀ b,E.S0 b→b < E.w0.heap.size
 fi:¬ E.fp I
 ex:∃ M since seen last es clock,E.w0.heap[I]?=some (.mapIter (some M) since seen last)∧E.w0.heap[M]?=some (.map es clock)∧¬ E.fp M∧(∀ x∈es.toList,x.born < since)∧since≤last∧since≤clock ∧
  (es.toList.map (·.born)).Nodup∧rm E.w0 E.S0 cK cV (leftOf es seen).toList rem ∧
  ∀ x,cur=some x→∃ (e:MapEntry) (Ow:Array Nat),e∈es.toList∧seen=Ow.push e.born∧last=clock∧aq E.w0 E.S0 fV e.key (cK x.1)∧aq E.w0 E.S0 fV e.val (cV x.2)
theorem JF.forget {E0 E:Env} {I:Nat} {cur:Option (α×β)} {rem:List (α×β)} (h:JF E0 E I cK cV cur rem):JF E0 E I cK cV none rem:=by
 obtain ⟨h1,h2,h3,h4,h4',h5,M,since,seen,last,es,clock,q1,q2,q3,q4,q5,q6,q7,q8,_⟩:=h
 exact ⟨h1,h2,h3,h4,h4',h5,M,since,seen,last,es,clock,q1,q2,q3,q4,q5,q6,q7,q8,fun x hx=>by cases hx⟩
theorem aw.mono {P:Program} {E:Env} {fn:FuncId} {nt:Nat} {cG WA:Value→World→Prop} {k:List Item} {st:St} (h:aw P E fn nt cG k st) (hp:∀ v w,cG v w→WA v w):aw P E fn nt WA k st:=by
 intro tm w h1 h2 b h3 h4 cs
 obtain ⟨v,w',fr,q1,q2,q3,q4⟩:=h tm w h1 h2 b h3 h4 cs
 exact ⟨v,w',fr,hp v w' q1,q2,q3,q4⟩
theorem PT {es:Array MapEntry} {seen:Array Nat} {e1 e2:List MapEntry} {e:MapEntry} (hn:(es.toList.map (·.born)).Nodup) (h:(leftOf es seen).toList=e1 ++ e :: e2):(leftOf es (seen.push e.born)).toList=e1 ++ e2:=by
 unfold leftOf at h ⊢
 simp only [Array.toList_filter] at h ⊢
 have h1:es.toList.filter (fun x=>!(seen.push e.born).contains x.born)=(es.toList.filter fun x=>!seen.contains x.born).filter fun x=>!(x.born == e.born):=by
  rw [List.filter_filter]
  congr 1
  funext x
  rw [contains_push]
  cases seen.contains x.born<;>cases x.born == e.born<;>rfl
 rw [h1,h]
 have hs:((e1 ++ e :: e2).map (·.born)).Nodup:=by
  rw [← h]
  exact (List.Sublist.map _ List.filter_sublist).nodup hn
 rw [List.map_append,List.map_cons,List.nodup_append] at hs
 obtain ⟨_,h3,h4⟩:=hs
 have h3:=List.nodup_cons.1 h3
 rw [List.filter_append,List.filter_cons]
 have f1:e1.filter (fun x=>!(x.born == e.born))=e1:=List.filter_eq_self.2 fun x hx=>by
  have:=h4 x.born (List.mem_map.2 ⟨x,hx,rfl⟩) e.born (by simp)
  simpa using this
 have f2:e2.filter (fun x=>!(x.born == e.born))=e2:=List.filter_eq_self.2 fun x hx=>by
  have:x.born≠e.born:=fun q=>h3.1 (q ▸ List.mem_map.2 ⟨x,hx,rfl⟩)
  simpa using this
 rw [f1,f2]
 simp
def xd (P:Program) (nt:Nat) (ops:List Oper) (orcs:List (Nat×lZ)) (d:Nat) (x:AV) (st:St):Option (List Prop×St) :=
 (oK P nt ops st.nk orcs (ops.drop 1) 1 (xJ st.tm (some d) x) st.jk).map fun bG=>(w8 bG,⟨vL bG (xJ st.tm (some d) x),qF bG st.jk,st.nk+16 * ops.length⟩)
def opsOf:Code→List Oper
 | .region _ ops _=>ops.toList
 | _=>[]
def Va (P:Program) (nt:Nat) (c:Code) (d:Nat) (x:AV) (st:St):St:=match xd P nt (opsOf c) [] d x st with
 | some x=>x.2
 | none=>st
def E8 (nt d ti:Nat) (c:Code):Bool:=match c with
 | .region _ ops false=>match ops.toList with
  | ⟨some d',.next (.tmp t') false,_,_,_,none⟩ :: _=>Nat.beq d d' && Nat.beq ti t' && Nat.blt d nt
  | _=>false
 | _=>false
theorem M1 {nt d ti:Nat} {c:Code} (h:E8 nt d ti c=true):∃ id ops ty pos after,c=.region id ops false∧ops[0]?=some ⟨some d,.next (.tmp ti) false,ty,pos,after,none⟩∧d < nt:=by
 unfold E8 at h
 split at h
 ·rename_i id ops
  split at h
  ·rename_i d' t' ty pos after rest ho
   simp only [aV] at h
   obtain ⟨⟨h1,h2⟩,h3⟩:=h
   rw [bm h1,bm h2]
   refine ⟨id,ops,ty,pos,after,rfl,?_,?_⟩
   ·rw [← Array.getElem?_toList,ho];rfl
   ·rw [← bm h1];exact tE h3
  ·cases h
 ·cases h
section
variable {P:Program}
def JG (ops:List Oper) (bG:List Rec) (L:Nat):Bool :=
 ((List.range L).all fun j=>uB ops j && (List.range j).all fun i=>Da ops bG i j) && uB ops L && (List.range L).all fun i=>D3 ops ops.length i L
theorem R1 {E:Env} {rd:Option Nat} {ds:List Deferred} {nt nk:Nat} {ops:Array Oper} {orcs:List (Nat×lZ)} {Kr:List (Nat×AV)} {IK:du} {bG:List Rec} {L:Nat} {Q:Exit→Act→World→Prop} (hz:∀ i,FM P E (l3 orcs i)) (hm:E.m0≤nk)
  (hL:ops.size=L+1) (TX:oK P nt ops.toList nk orcs (ops.toList.take L) 0 Kr IK=some bG) (hp:aW (w8 bG)) (Ek:JG ops.toList bG L=true)
  (hQ:∀ a' w' S' cD,a'.tmps.size=nt→a'.defers=ds→Good E (qF bG IK) S' cD w'→(∀ k,nk+16 * L≤k→cD k=none)→(∀ t,aq w' S' cD (a'.tmps.getD t undef) (cJ (vL bG Kr) t))→wpOpIn (FW rd) 0 P ops Q L (Q .normal) a' w') :
  ∀ (fuel:Nat) (ak:Array Bool) (a:Act) (w:World) (S:Nat→Prop) (μ:Mu),ak.size=ops.size→a.tmps.size=nt→a.defers=ds→ak.getD L false=false →
   (∀ j,ak.getD j false=true→∀ o,ops.toList[j]?=some o→∀ e∈eP o,ak.getD e false=true)→ops.size≤fuel+(ak.toList.filter (· == true)).length →
   Good E (r8 (fun j=>ak.getD j false) bG 0 IK) S μ w→(∀ k,nk≤k→(∀ j,nk+16 * j≤k→k < nk+16 * j+16→ak.getD j false=false)→μ k=none) →
   (∀ t,aq w S μ (a.tmps.getD t undef) (cJ (En (fun j=>ak.getD j false) bG 0 Kr) t)) →
   wpAnyIn (FW rd) 0 P .any ops Q fuel ak a w:=by
 obtain ⟨hlen,WB⟩:=Db (ops.toList.take L) 0 Kr IK bG TX
 simp only [Nat.zero_add] at WB
 have hlen:bG.length=L:=by rw [hlen];simp;omega
 have oa:∀ (m:Nat) (x:Rec),bG[m]?=some x→∃ o,ops.toList[m]?=some o∧xI P nt ops.toList (nk+16 * m) (En (fun q=>Nat.blt q m) bG 0 Kr) (r8 (fun q=>Nat.blt q m) bG 0 IK) o (l3 orcs m)=some x:=fun m x hx=>by
  obtain ⟨o,h1,h2⟩:=WB m x hx
  have hm:m < L:=by rw [← hlen];exact (dd.1 hx).1
  rw [List.getElem?_take_of_lt hm] at h1
  exact ⟨o,h1,h2⟩
 unfold JG at Ek
 simp only [aV] at Ek
 obtain ⟨⟨Ek,acO⟩,acP⟩:=Ek
 have qE:∀ j,j < L→uB ops.toList j=true∧∀ i,i < j→Da ops.toList bG i j=true:=by
  intro j hj
  have:=List.all_eq_true.1 Ek j (mO.2 hj)
  simp only [aV] at this
  exact ⟨this.1,fun i hi=>List.all_eq_true.1 this.2 i (mO.2 hi)⟩
 have K6:∀ j o,ops.toList[j]?=some o→∀ e∈eP o,e < j:=by
  intro j o ho e he
  have hj:j < ops.size:=by simpa using (dd.1 ho).1
  have h1:uB ops.toList j=true:=by
   rcases Nat.lt_or_ge j L with h | h
   ·exact (qE j h).1
   ·rw [show j=L by omega];exact acO
  unfold uB at h1
  rw [ho] at h1
  exact tE (List.all_eq_true.1 h1 e he)
 have FV:∀ i j o p x y,i < j→ops.toList[i]?=some o→ops.toList[j]?=some p→bG[i]?=some x→bG[j]?=some y →
   BH x.dst y.dst=false∧(Au ops.toList o p x y=true→D3 ops.toList ops.toList.length i j=true):=by
  intro i j o p x y UD ho n6 hx hy
  have hj:j < L:=by rw [← hlen];exact (dd.1 hy).1
  have h1:=(qE j hj).2 i UD
  unfold Da at h1
  rw [ho,n6,hx,hy] at h1
  simp only [aV,Bool.not_eq_true',Bool.or_eq_true] at h1
  refine ⟨h1.1,fun hc=>?_⟩
  rcases h1.2 with h2 | h2
  ·rw [hc] at h2;cases h2
  ·exact h2
 -- what is ready
 have yF:∀ (ak:Array Bool),ak.size=ops.size→∀ i,i∈Region.ready .any ops ak↔(i < ops.size∧ak.getD i false=false∧∀ o,ops.toList[i]?=some o→∀ e∈eP o,ak.getD e false=true):=by
  intro ak E5 i
  unfold Region.ready
  simp only [List.mem_filter,mO,aV,Bool.not_eq_true']
  constructor
  ·rintro ⟨h1,h2,h3⟩
   have hl:i < ak.size:=by omega
   refine ⟨h1,?_,?_⟩
   ·simp only [fm,dN hl,Option.getD_some] at h2 ⊢;exact h2
   ·intro o ho e he
    have m5:ops[i]?=some o:=by simpa using ho
    simp only [m5,Option.map_some,Option.getD_some,Array.all_eq_true'] at h3
    simp only [eP,List.mem_map,List.mem_filter] at he
    obtain ⟨ed,⟨RE,Pq⟩,rfl⟩:=he
    have:=h3 ed (by simpa using RE)
    rw [Pq] at this
    simpa only [Bool.not_true,Bool.false_or] using this
  ·rintro ⟨h1,h2,h3⟩
   have hl:i < ak.size:=by omega
   refine ⟨h1,?_,?_⟩
   ·simp only [fm,dN hl,Option.getD_some] at h2 ⊢;exact h2
   ·have ho:ops[i]?=some ops[i]:=dN h1
    simp only [ho,Option.map_some,Option.getD_some,Array.all_eq_true']
    intro ed RE
    simp only [Bool.or_eq_true,Bool.not_eq_true']
    cases hb:Region.binds .any ed with
    | false=>exact .inl rfl
    | true =>
     right
     exact h3 ops[i] (by simp) ed.on (by simp only [eP,List.mem_map,List.mem_filter];exact ⟨ed,⟨by simpa using RE,hb⟩,rfl⟩)
 intro fuel
 -- the end
 have fin:∀ (ak:Array Bool) (a:Act) (w:World) (S:Nat→Prop) (μ:Mu),ak.size=ops.size→a.tmps.size=nt→a.defers=ds→ak.getD L false=false→(∀ j,j < L→ak.getD j false=true) →
   Good E (r8 (fun j=>ak.getD j false) bG 0 IK) S μ w→(∀ k,nk≤k→(∀ j,nk+16 * j≤k→k < nk+16 * j+16→ak.getD j false=false)→μ k=none) →
   (∀ t,aq w S μ (a.tmps.getD t undef) (cJ (En (fun j=>ak.getD j false) bG 0 Kr) t))→wpOpIn (FW rd) 0 P ops Q L (Q .normal) a w:=by
  intro ak a w S μ E5 hs Mf WC TY g hk ht
  have hLL:∀ m,m < bG.length→(fun j=>ak.getD j false) (0+m)=true:=fun m fy=>by
   rw [Nat.zero_add];exact TY m (by rw [hlen] at fy;exact fy)
  rw [FU bG 0 IK _ hLL] at g
  refine hQ a w S μ hs Mf g (fun k lj=>hk k (by omega) fun j hj Qv=>?_) (fun t=>by rw [← Jt bG 0 Kr (fun j=>ak.getD j false) hLL];exact ht t)
  have hjL:L≤j:=by omega
  rcases Nat.lt_or_ge L j with h | h
  ·have:ak.size≤j:=by omega
   simp [fm,Array.getElem?_eq_none this]
  ·rw [show j=L by omega];exact WC
 have RF:∀ (ak:Array Bool),ak.size=ops.size→(∀ j,ak.getD j false=true→∀ o,ops.toList[j]?=some o→∀ e∈eP o,ak.getD e false=true)→Region.ready .any ops ak=[]→∀ j,j < ops.size→ak.getD j false=true:=by
  intro ak E5 Mg hr j
  induction j using Nat.strongRecOn with
  | _ j ih =>
   intro hj
   cases hb:ak.getD j false with
   | true=>rfl
   | false =>
    have:j∈Region.ready .any ops ak:=(yF ak E5 j).2 ⟨hj,hb,fun o ho e he=>ih e (K6 j o ho e he) (by have:=K6 j o ho e he;omega)⟩
    rw [hr] at this;simp at this
 induction fuel with
 | zero =>
  intro ak a w S μ E5 hs Mf WC Mg K7 g hk ht
  exfalso
  have hle:(ak.toList.filter (· == true)).length=ak.toList.length:=by
   have h1:=List.length_filter_le (· == true) ak.toList
   simp at h1 K7 ⊢;omega
  have h2:=List.length_filter_eq_length_iff.1 hle
  have hl:L < ak.size:=by omega
  have:=h2 ak[L] (by simp)
  simp only [fm,dN hl,Option.getD_some] at WC
  rw [WC] at this;simp at this
 | succ fuel ih =>
  intro ak a w S μ E5 hs Mf WC Mg K7 g hk ht
  simp only [wpAnyIn]
  refine ⟨fun hr=>absurd (RF ak E5 Mg hr L (by omega)) (by rw [WC];decide),?_⟩
  intro i0 hi0
  have acQ:=(yF ak E5 i0).1 hi0
  by_cases hiL:i0=L
  ·subst hiL
   have TY:∀ j,j < i0→ak.getD j false=true:=fun j hj=>by
    exact qG (L:=fun j=>ak.getD j false) Mg _ j i0 (List.all_eq_true.1 acP j (mO.2 hj)) (fun o' m5 e he=>acQ.2.2 o' m5 e he)
   refine wpOpIn_mono ?_ (fin ak a w S μ E5 hs Mf WC TY g hk ht)
   intro a' w' hq
   have hrn:Region.ready .any ops (ak.setIfInBounds i0 true)=[]:=by
    cases hr:Region.ready .any ops (ak.setIfInBounds i0 true) with
    | nil=>rfl
    | cons q r =>
     have hq:=(yF (ak.setIfInBounds i0 true) (by simp [E5]) q).1 (by rw [hr];simp)
     exfalso
     have hqt:(ak.setIfInBounds i0 true).getD q false=true:=by
      by_cases e:q=i0
      ·subst e;simp [fm,show q < ak.size by omega]
      ·simp only [fm]
       rw [Array.getElem?_setIfInBounds_ne (fun h=>e h.symm)]
       have:=TY q (by omega)
       simpa only [fm] using this
     rw [hqt] at hq
     exact absurd hq.2.1 (by decide)
   cases fuel with
   | zero=>exact ⟨hrn,hq⟩
   | succ fuel=>exact ⟨fun _=>hq,fun i hi=>by rw [hrn] at hi;simp at hi⟩
  revert i0
  intro i hi _ hiL
  obtain ⟨agw,yh,CJ⟩:=(yF ak E5 i).1 hi
  have mn:i < L:=by omega
  have RG:i < bG.length:=by rw [hlen];exact mn
  have hx:bG[i]?=some bG[i]:=ke RG
  obtain ⟨o,ho,PK⟩:=oa i _ hx
  generalize bG[i]=x at hx PK
  have hpx:aW x.HA:=by
   have:∀ (l:List Rec) (i:Nat),aW (w8 l)→l[i]?=some x→aW x.HA:=by
    intro l
    induction l with
    | nil=>intro i _ h;simp at h
    | cons y l ih =>
     intro i h hi
     obtain ⟨h1,h2⟩:=aW.app h
     cases i with
     | zero=>simp at hi;exact hi ▸ h1
     | succ i=>exact ih i h2 (by simpa using hi)
   exact this bG i hp hx
  -- an operation that meets this one is carried out just if it stands before it
  have order:∀ (j:Nat) (p:Oper) (y:Rec),j≠i→ops.toList[j]?=some p→bG[j]?=some y→MN ops.toList o p x y→Nat.blt j i=ak.getD j false:=by
   intro j p y ec ZH ZJ hc
   rcases Nat.lt_or_gt_of_ne ec with ft | Ud
   ·rw [Oj ft]
    exact (qG (L:=fun j=>ak.getD j false) Mg _ j i ((FV j i p o y x ft ZH ho ZJ hx).2 hc.symm.Au) (fun o' m5 e he=>by rw [ho] at m5;cases m5;exact CJ o ho e he)).symm
   ·rw [xK (by omega)]
    cases hb:ak.getD j false with
    | false=>rfl
    | true =>
     have:=qG (L:=fun j=>ak.getD j false) Mg _ i j ((FV i j o p x y Ud ho ZH hx ZJ).2 hc.Au) (fun o' m5 e he=>Mg j hb o' m5 e he)
     have:ak.getD i false=true:=this
     rw [yh] at this;cases this
  have BK:∀ (m:Nat) (y:Rec),bG[m]?=some y→∃ p,ops.toList[m]?=some p:=fun m y hy=>let ⟨p,n6,_⟩:=oa m y hy;⟨p,n6⟩
  have RH:xI P nt ops.toList (nk+16 * i) (En (fun j=>ak.getD j false) bG 0 Kr) (r8 (fun j=>ak.getD j false) bG 0 IK) o (l3 orcs i)=some x:=by
   refine IJ PK ?_ ?_
   ·intro t htl
    refine BI bG 0 _ _ rfl ?_
    intro m y hy ec Xw
    rw [Nat.zero_add] at ec
    obtain ⟨p,n6⟩:=BK m y hy
    by_cases xF:m=i
    ·subst xF;exact ec (by rw [yh,xK (by omega)])
    ·exact ec (order m p y xF n6 hy (.inr (.inl ⟨t,Xw,htl⟩))).symm
   ·intro k hkr
    refine zH bG 0 _ _ rfl ?_
    intro m y hy ec Xx
    rw [Nat.zero_add] at ec
    obtain ⟨p,n6⟩:=BK m y hy
    by_cases xF:m=i
    ·subst xF;exact ec (by rw [yh,xK (by omega)])
    ·exact ec (order m p y xF n6 hy (.inr (.inr (.inr ⟨k,hkr,Xx⟩)))).symm
  have MP:i < ak.size:=by omega
  have CS:∀ j,(ak.setIfInBounds i true).getD j false=(ak.getD j false || Nat.beq j i):=by
   intro j
   by_cases Hz:j=i
   ·subst Hz
    rw [ko rfl,Bool.or_true]
    simp [fm,MP]
   ·rw [lR Hz,Bool.or_false]
    simp only [fm]
    rw [Array.getElem?_setIfInBounds_ne (fun h=>Hz h.symm)]
  have RI:(fun j=>(ak.setIfInBounds i true).getD j false)=fun q=>ak.getD q false || Nat.beq q i:=funext CS
  have Iq:∀ q,q < 16→μ (nk+16 * i+q)=none:=fun q hq=>hk _ (by omega) fun j hj Qv=>by
   have Hz:j=i:=by omega
   rw [Hz];exact yh
  refine CZ (by simpa using ho) ht g Iq (by omega) (hz i) RH hpx ?_
  intro v w' S' cD q1 q2 q3 q4
  obtain ⟨d1,d2⟩:=C8 RH
  refine ih _ _ w' S' cD (by simp [E5]) (by rw [yE];exact hs) (by rw [re];exact Mf) (by rw [CS,lR (fun h=>hiL h.symm),Bool.or_false];exact WC) ?_ ?_ ?_ ?_ ?_
  ·intro j hj o' m5 e he
   rw [CS] at hj ⊢
   rw [Bool.or_eq_true] at hj ⊢
   rcases hj with hj | hj
   ·exact .inl (Mg j hj o' m5 e he)
   ·have:=bm hj
    subst this
    exact .inl (CJ o' m5 e he)
  ·have hc:=count_set ak.toList i (by
    rw [Array.getElem?_toList,dN MP]
    simp only [fm,dN MP,Option.getD_some] at yh
    rw [yh])
   rw [Array.toList_setIfInBounds,hc]
   omega
  ·rw [RI]
   refine q2.congr ?_
   intro k
   rw [FT bG 0 IK (Nat.zero_le _) (by simpa using hx) ?_,kP x.upd (r8 (fun j=>ak.getD j false) bG 0 IK)]
   intro m y hy ft hL Xx Xy
   rw [Nat.zero_add] at ft hL
   obtain ⟨p,n6⟩:=BK m y hy
   have:=order m p y (by omega) n6 hy (.inr (.inr (.inl ⟨k,Xx,.inr Xy⟩)))
   rw [xK (by omega)] at this
   rw [← this] at hL;cases hL
  ·intro k lj DX
   have hki:k < nk+16 * i∨nk+16 * i+16≤k:=by
    rcases Nat.lt_or_ge k (nk+16 * i) with h1 | h1
    ·exact .inl h1
    ·rcases Nat.lt_or_ge k (nk+16 * i+16) with h2 | h2
     ·have:=DX i h1 h2
      rw [CS,ko rfl,Bool.or_true] at this
      cases this
     ·exact .inr h2
   refine q3 k hki (hk k lj fun j hj Qv=>?_)
   have:=DX j hj Qv
   rw [CS,Bool.or_eq_false_iff] at this
   exact this.1
  ·intro t
   rw [RI,Js bG 0 Kr (Nat.zero_le _) (by simpa using hx) ?_,BF a x.dst v t (fun n hn=>by rw [hs];exact d2 n (d1 ▸ hn))]
   ·split
    ·exact q4
    ·exact (ht t).ext q1
   ·intro m y hy ft hxd hyd
    rw [Nat.zero_add] at ft
    obtain ⟨p,n6⟩:=BK m y hy
    have:=(FV i m o p x y ft ho n6 hx hy).1
    rw [hxd,hyd] at this
    simp only [BH] at this
    rw [ko rfl] at this;cases this
theorem vQ {ops:Array Oper} {ak:Array Bool} (E5:ak.size=ops.size) (i:Nat):i∈Region.ready .any ops ak↔(i < ops.size∧ak.getD i false=false∧∀ o,ops.toList[i]?=some o→∀ e∈eP o,ak.getD e false=true):=by
 unfold Region.ready
 simp only [List.mem_filter,mO,aV,Bool.not_eq_true']
 constructor
 ·rintro ⟨h1,h2,h3⟩
  have hl:i < ak.size:=by omega
  refine ⟨h1,?_,?_⟩
  ·simp only [fm,dN hl,Option.getD_some] at h2 ⊢;exact h2
  ·intro o ho e he
   have m5:ops[i]?=some o:=by simpa using ho
   simp only [m5,Option.map_some,Option.getD_some,Array.all_eq_true'] at h3
   simp only [eP,List.mem_map,List.mem_filter] at he
   obtain ⟨ed,⟨RE,Pq⟩,rfl⟩:=he
   have:=h3 ed (by simpa using RE)
   rw [Pq] at this
   simpa only [Bool.not_true,Bool.false_or] using this
 ·rintro ⟨h1,h2,h3⟩
  have hl:i < ak.size:=by omega
  refine ⟨h1,?_,?_⟩
  ·simp only [fm,dN hl,Option.getD_some] at h2 ⊢;exact h2
  ·have ho:ops[i]?=some ops[i]:=dN h1
   simp only [ho,Option.map_some,Option.getD_some,Array.all_eq_true']
   intro ed RE
   simp only [Bool.or_eq_true,Bool.not_eq_true']
   cases hb:Region.binds .any ed with
   | false=>exact .inl rfl
   | true =>
    right
    exact h3 ops[i] (by simp) ed.on (by simp only [eP,List.mem_map,List.mem_filter];exact ⟨ed,⟨by simpa using RE,hb⟩,rfl⟩)
inductive Di (ops:Array Oper):Nat→Array Bool→List Nat→Prop where
 | zero {ak:Array Bool}:Di ops 0 ak []
 | stop {n:Nat} {ak:Array Bool}:Region.ready .any ops ak=[]→Di ops (n+1) ak []
 | step {n:Nat} {ak:Array Bool} {i:Nat} {l:List Nat}:i∈Region.ready .any ops ak→Di ops n (ak.setIfInBounds i true) l→Di ops (n+1) ak (i :: l)
theorem XO {ops:Array Oper}:∀ (fuel t:Nat) (ak:Array Bool),Di ops fuel ak (Region.linearise.go .any ops fuel t ak []):=by
 intro fuel
 induction fuel with
 | zero=>intro t ak;simp only [Region.linearise.go,List.reverse_nil];exact .zero
 | succ fuel ih =>
  intro t ak
  simp only [Region.linearise.go]
  change Di ops (fuel+1) ak (match (Region.ready .any ops ak)[t % (Region.ready .any ops ak).length]? with
   | some i=>Region.linearise.go .any ops fuel (t / (Region.ready .any ops ak).length) (ak.setIfInBounds i true) [i]
   | none=>[].reverse)
  cases hi:(Region.ready .any ops ak)[t % (Region.ready .any ops ak).length]? with
  | none =>
   have XP:Region.ready .any ops ak=[]:=by
    cases hr:Region.ready .any ops ak with
    | nil=>rfl
    | cons x xs =>
     rw [hr] at hi
     have ft:t % (x :: xs).length < (x :: xs).length:=Nat.mod_lt _ (by simp)
     simp at hi
     simp at ft
     omega
   exact .stop XP
  | some i =>
   simp only []
   rw [linearise_go_acc,List.reverse_singleton,List.singleton_append]
   exact .step (List.mem_of_getElem? hi) (ih _ _)
theorem Ox {F:Fence} {n:Nat} {ops:Array Oper} {Q:Exit→Act→World→Prop}:∀ {fuel:Nat} {ak:Array Bool} {l:List Nat},Di ops fuel ak l→∀ {a:Act} {w:World},wpAnyIn F n P .any ops Q fuel ak a w→wpOpsIn F n P ops Q l a w:=by
 intro fuel ak l h
 induction h with
 | zero=>intro a w h;exact h.2
 | stop hr=>intro a w h;exact h.1 hr
 | step hi _ ih=>intro a w h;rw [wpOpsIn_cons];exact wpOpIn_mono (fun a w h=>ih h) (h.2 _ hi)
theorem Di.lt {ops:Array Oper} {fuel:Nat} {ak:Array Bool} {l:List Nat} (h:Di ops fuel ak l) (hs:ak.size=ops.size):∀ i∈l,i < ops.size:=by
 induction h with
 | zero=>intro i hi;simp at hi
 | stop _=>intro i hi;simp at hi
 | step hi _ ih =>
  intro j hj
  rcases jw.1 hj with rfl | hj
  ·exact ((vQ hs _).1 hi).1
  ·exact ih (by simpa using hs) j hj
def posOf:List Nat→Nat→Nat
 | [],_=>0
 | a :: r,i=>match Nat.beq a i with
  | true=>0
  | false=>posOf r i+1
def IQ (perm:List Nat) (x:Nat×Nat) (i:Nat) (o:Oper):Oper :=
 { o with after:=((match Nat.beq i x.2 with
  | true=>x.1 :: eP o
  | false=>eP o).map fun e=>(⟨posOf perm e,.data⟩:Edge)).toArray }
def Fa (ops:Array Oper) (perm:List Nat) (x:Nat×Nat):Array Oper:=(perm.map fun i=>IQ perm x i ((ops.toList[i]?).getD default)).toArray
def sa (ops:Array Oper) (perm:List Nat) (x:Nat×Nat):Bool :=
 Nat.beq perm.length ops.size && (List.range ops.size).all (fun i=>Nat.blt (posOf perm i) ops.size && Nat.beq (perm.getD (posOf perm i) ops.size) i && Nat.blt (perm.getD i ops.size) ops.size && Nat.beq (posOf perm (perm.getD i ops.size)) i) &&
  (ops.toList.all fun o=>o.guard.isNone && (eP o).all fun e=>Nat.blt e ops.size) && Nat.blt x.1 ops.size
section
variable {ops:Array Oper} {perm:List Nat} {x:Nat×Nat}
theorem zM (h:sa ops perm x=true):perm.length=ops.size∧(∀ i,i < ops.size→posOf perm i < ops.size∧perm[posOf perm i]?=some i∧∃ j,perm[i]?=some j∧j < ops.size∧posOf perm j=i) ∧
  (∀ o∈ops.toList,o.guard=none∧∀ e∈eP o,e < ops.size)∧x.1 < ops.size:=by
 unfold sa at h
 simp only [aV] at h
 obtain ⟨⟨⟨h1,h2⟩,h3⟩,h4⟩:=h
 have h1:=bm h1
 refine ⟨h1,fun i hi=>?_,fun o ho=>?_,tE h4⟩
 ·have:=List.all_eq_true.1 h2 i (mO.2 hi)
  simp only [aV] at this
  obtain ⟨⟨⟨q1,q2⟩,q3⟩,q4⟩:=this
  have q1:=tE q1
  have q2:=bm q2
  have q3:=tE q3
  have q4:=bm q4
  have g1:perm[posOf perm i]?=some perm[posOf perm i]:=ke (by omega)
  have g2:perm[i]?=some perm[i]:=ke (by omega)
  rw [ee,g1,Option.getD_some] at q2
  rw [ee,g2,Option.getD_some] at q3 q4
  exact ⟨q1,by rw [g1,q2],_,g2,q3,q4⟩
 ·have:=List.all_eq_true.1 h3 o ho
  simp only [aV,Option.isNone_iff_eq_none] at this
  exact ⟨this.1,fun e he=>tE (List.all_eq_true.1 this.2 e he)⟩
theorem D5 (i:Nat) (o:Oper):eP (IQ perm x i o)=(match Nat.beq i x.2 with
  | true=>x.1 :: eP o
  | false=>eP o).map (posOf perm):=by
 unfold IQ
 generalize (match Nat.beq i x.2 with
  | true=>x.1 :: eP o
  | false=>eP o)=l
 simp only [eP]
 induction l with
 | nil=>rfl
 | cons a l ih=>simpa [Region.binds] using ih
theorem JH (h:sa ops perm x=true) {i:Nat} (hi:i < ops.size):(Fa ops perm x)[posOf perm i]?=some (IQ perm x i ops[i]):=by
 obtain ⟨h1,h2,-⟩:=zM h
 unfold Fa
 rw [List.getElem?_toArray,List.getElem?_map,(h2 i hi).2.1]
 simp [hi]
theorem F1 (h:sa ops perm x=true):(Fa ops perm x).size=ops.size:=by
 unfold Fa;simp [(zM h).1]
theorem Di.move (h:sa ops perm x=true):∀ {fuel:Nat} {ak xe:Array Bool} {l:List Nat},Di ops fuel ak l→ak.size=ops.size→xe.size=ops.size→(∀ i,i < ops.size→xe.getD (posOf perm i) false=ak.getD i false) →
  (∀ l1 l2,l=l1 ++ x.2 :: l2→x.1∈l1∨ak.getD x.1 false=true)→Di (Fa ops perm x) fuel xe (l.map (posOf perm)):=by
 obtain ⟨h1,h2,h3,h4⟩:=zM h
 have kr:=F1 h
 intro fuel ak xe l hl
 induction hl generalizing xe with
 | zero=>intro _ _ _ _;exact .zero
 | @stop n ak hr =>
  intro hs Mh hL _
  refine .stop ?_
  cases hc:Region.ready .any (Fa ops perm x) xe with
  | nil=>rfl
  | cons j r =>
   exfalso
   obtain ⟨q1,q2,q3⟩:=(vQ (Mh.trans kr.symm) j).1 (by rw [hc];simp)
   rw [kr] at q1
   obtain ⟨i,g1,g2,g3⟩:=(h2 j q1).2.2
   have rh:i∈Region.ready .any ops ak:=(vQ hs i).2 ⟨g2,by rw [← hL i g2,g3];exact q2,fun o ho e he=>by
    have m5:ops[i]=o:=by
     have:ops.toList[i]?=some ops[i]:=by simp [g2]
     rw [this] at ho;exact Option.some.inj ho
    have qP:=JH h g2
    rw [g3] at qP
    have ft:=(h3 o (List.mem_of_getElem? ho)).2 e he
    rw [← hL e ft]
    refine q3 (IQ perm x i ops[i]) (by simpa using qP) _ ?_
    rw [D5,m5]
    refine List.mem_map.2 ⟨e,?_,rfl⟩
    cases Nat.beq i x.2
    ·exact he
    ·exact List.mem_cons_of_mem _ he⟩
   rw [hr] at rh;simp at rh
 | @step n ak i l hi hl ih =>
  intro hs Mh hL hx
  obtain ⟨q1,q2,q3⟩:=(vQ hs i).1 hi
  have ho:ops.toList[i]?=some ops[i]:=by simp [q1]
  rw [List.map_cons]
  refine .step ((vQ (Mh.trans kr.symm) _).2 ⟨by rw [kr];exact (h2 i q1).1,by rw [hL i q1];exact q2,fun o' m5 e' Qu=>?_⟩) (ih (by simpa using hs) (by simpa using Mh) ?_ ?_)
  ·have qP:=JH h q1
   have:(Fa ops perm x)[posOf perm i]?=some o':=by simpa using m5
   rw [qP] at this
   cases this
   rw [D5] at Qu
   obtain ⟨e,he,rfl⟩:=List.mem_map.1 Qu
   cases hb:Nat.beq i x.2 with
   | false =>
    rw [hb] at he
    rw [hL e ((h3 _ (List.mem_of_getElem? ho)).2 e he)]
    exact q3 _ ho e he
   | true =>
    rw [hb] at he
    rcases jw.1 he with rfl | he
    ·rw [hL _ h4]
     rcases hx [] l (by rw [← bm hb];rfl) with h5 | h5
     ·simp at h5
     ·exact h5
    ·rw [hL e ((h3 _ (List.mem_of_getElem? ho)).2 e he)]
     exact q3 _ ho e he
  ·intro j hj
   have ug:=(h2 i q1).1
   by_cases e:j=i
   ·subst e
    simp [fm,show posOf perm j < xe.size by omega,show j < ak.size by omega]
   ·have ec:posOf perm i≠posOf perm j:=fun he=>by
     have a1:=(h2 i q1).2.1
     have a2:=(h2 j hj).2.1
     rw [he,a2] at a1
     exact e (Option.some.inj a1)
    have:=hL j hj
    simp only [fm] at this ⊢
    rw [Array.getElem?_setIfInBounds_ne ec,Array.getElem?_setIfInBounds_ne (fun h=>e h.symm)]
    exact this
  ·intro l1 l2 acS
   rcases hx (i :: l1) l2 (by rw [acS];rfl) with h5 | h5
   ·rcases jw.1 h5 with h6 | h6
    ·right
     subst h6
     simp [fm,show x.1 < ak.size by omega]
    ·exact .inl h6
   ·right
    by_cases e:x.1=i
    ·subst e;simp [fm,show x.1 < ak.size by omega]
    ·simp only [fm] at h5 ⊢
     rw [Array.getElem?_setIfInBounds_ne (fun h=>e h.symm)]
     exact h5
theorem F2 (h:sa ops perm x=true) {F:Fence} {n:Nat} {Q:Exit→Act→World→Prop}:∀ {l:List Nat},(∀ i∈l,i < ops.size)→∀ {a:Act} {w:World},wpOpsIn F n P (Fa ops perm x) Q (l.map (posOf perm)) a w→wpOpsIn F n P ops Q l a w
 | [],_,a,w,hw=>hw
 | i :: l,hl,a,w,hw=>by
  rw [List.map_cons,wpOpsIn_cons] at hw
  rw [wpOpsIn_cons]
  have hi:=hl i (by simp)
  unfold wpOpIn at hw ⊢
  rw [JH h hi] at hw
  rw [dN hi]
  have hg:=((zM h).2.2.1 ops[i] (by simp)).1
  generalize ops[i]=o at hw hg
  obtain ⟨d,op,ty,pos,after,guard⟩:=o
  simp only at hg
  subst hg
  simp only [IQ,Region.wanted,if_true] at hw ⊢
  exact Oper.wpIn_mono (fun a w hw=>F2 h (fun j hj=>hl j (List.mem_cons_of_mem _ hj)) hw) hw
theorem F3 (p q:Nat):∀ l:List Nat,(∀ l1 l2,l=l1 ++ q :: l2→p∈l1)∨(∀ l1 l2,l=l1 ++ p :: l2→q∈l1)∨p=q
 | []=>.inl fun l1 l2 h=>by simp at h
 | a :: l=>by
  by_cases e:p=q
  ·exact .inr (.inr e)
  ·by_cases h1:a=p
   ·subst h1
    refine .inl fun l1 l2 h=>?_
    cases l1 with
    | nil=>rw [List.nil_append] at h;exact absurd (List.cons.inj h).1 e
    | cons b l1=>rw [List.cons_append] at h;rw [(List.cons.inj h).1];simp
   ·by_cases h2:a=q
    ·subst h2
     refine .inr (.inl fun l1 l2 h=>?_)
     cases l1 with
     | nil=>rw [List.nil_append] at h;exact absurd (List.cons.inj h).1.symm e
     | cons b l1=>rw [List.cons_append] at h;rw [(List.cons.inj h).1];simp
    ·rcases F3 p q l with h | h | h
     ·refine .inl fun l1 l2 hl=>?_
      cases l1 with
      | nil=>rw [List.nil_append] at hl;exact absurd (List.cons.inj hl).1 h2
      | cons b l1=>rw [List.cons_append] at hl;exact List.mem_cons_of_mem _ (h l1 l2 (List.cons.inj hl).2)
     ·refine .inr (.inl fun l1 l2 hl=>?_)
      cases l1 with
      | nil=>rw [List.nil_append] at hl;exact absurd (List.cons.inj hl).1 h1
      | cons b l1=>rw [List.cons_append] at hl;exact List.mem_cons_of_mem _ (h l1 l2 (List.cons.inj hl).2)
     ·exact absurd h e
theorem R2 {F:Fence} {n id p q:Nat} {permA permB:List Nat} (ec:p≠q) (hA:sa ops permA (p,q)=true) (hB:sa ops permB (q,p)=true) (hm:P.follows .mixedOrders=true) {Q:Exit→Act→World→Prop} {a:Act} {w:World}
  (gA:wpAnyIn F n P .any (Fa ops permA (p,q)) Q (Fa ops permA (p,q)).size (Array.replicate (Fa ops permA (p,q)).size false) a { w with drawn:=w.drawn+1 })
  (gB:wpAnyIn F n P .any (Fa ops permB (q,p)) Q (Fa ops permB (q,p)).size (Array.replicate (Fa ops permB (q,p)).size false) a { w with drawn:=w.drawn+1 }):(Code.region id ops true).wpIn F n P Q a w:=by
 refine wpIn_region_draw fun t=>?_
 simp only [Region.schedule,hm,Bool.true_or,if_true]
 have hl:Di ops ops.size (Array.replicate ops.size false) (Region.linearise .any ops t):=XO _ _ _
 have ft:=hl.lt (by simp)
 have PM:∀ (m j:Nat),(Array.replicate m false).getD j false=false:=by
  intro m j
  simp only [fm,Array.getElem?_replicate]
  split<;>rfl
 rw [F1 hA] at gA
 rw [F1 hB] at gB
 rcases F3 p q (Region.linearise .any ops t) with h | h | h
 ·exact F2 hA ft (Ox (hl.move hA (by simp) (by simp) (fun i hi=>by rw [PM,PM]) fun l1 l2 e=>.inl (h l1 l2 e)) gA)
 ·exact F2 hB ft (Ox (hl.move hB (by simp) (by simp) (fun i hi=>by rw [PM,PM]) fun l1 l2 e=>.inl (h l1 l2 e)) gB)
 ·exact absurd h ec
end
end
section
variable {P:Program} {E E0:Env} {fn:FuncId} {nt m:Nat} {k:List Item} {st:St} {dx:du} {res:AV}
theorem JI {E:Env} {id:Nat} {ops:Array Oper} {d:Nat} {x:AV} {ty:TypeId} {pos:String} {after:Array Edge} {op:Op} (h0:ops[0]?=some ⟨some d,op,ty,pos,after,none⟩) (hd:d < nt)
  {tm:Array Value} {w W:World} {v:Value} (hs:tm.size=nt) (hop:∀ c,op≠.defer c) (jc:(execOp (⟨tm,[]⟩:Act).eval ⟨some d,op,ty,pos,after,none⟩).run P w=.ok (.value v) W)
  (hm:E.m0≤st.nk) {S:Nat→Prop} {μ:Mu} (g:Good E st.jk S μ W) (hk:∀ k,st.nk≤k→μ k=none) (ht:∀ t,aq W S μ (tm.getD t undef) (cJ st.tm t)) (hv:aq W S μ v x)
  {ps:List Prop} {s1:St} (he:xd P nt ops.toList [] d x st=some (ps,s1)) (hp:aW ps) :
  (Code.region id ops false).wp P (fun e a w'=>e=.normal∧a.tmps.size=nt∧a.defers=[]∧HC E s1 a.tmps w') ⟨tm,[]⟩ w:=by
 unfold xd at he
 simp only [aJ,ay] at he
 obtain ⟨bG,TX,rfl,rfl⟩:=he
 refine (wpIn_wide (n:=0)).1 ?_
 refine wpIn_region ?_
 have hlen:0 < ops.size:=by
  have:=(Array.getElem?_eq_some_iff.1 h0).1
  exact this
 rw [List.range_eq_range',show ops.size=(ops.size - 1)+1 by omega,List.range'_succ,wpOpsIn_cons]
 unfold wpOpIn
 rw [h0]
 simp only [Region.wanted,if_true]
 refine ⟨fun _ _=>trivial,?_⟩
 rw [Oper.semAt_eq _ _ _ hop,jc]
 show wpOpsIn _ _ _ _ _ _ (Act.put ⟨tm,[]⟩ (some d) v) W
 have Wk:(ops.toList.drop 1).length=ops.size - 1:=by simp
 have:=C9 (P:=P) (E:=E) (Q:=fun e a w'=>e=.normal∧a.tmps.size=nt∧a.defers=[]∧HC E ⟨vL bG (xJ st.tm (some d) x),qF bG st.jk,st.nk+16 * ops.toList.length⟩ a.tmps w') (rd:=none) (ds:=[]) (nt:=nt) (nk:=st.nk) (ops:=ops) (orcs:=[])
  (fun i=>⟨fun x hx=>by simp [l3] at hx,fun x y hx=>by simp [l3] at hx⟩) hm (ops.toList.drop 1) 1 (Act.put ⟨tm,[]⟩ (some d) v) W (xJ st.tm (some d) x) st.jk S μ bG rfl (by rw [Wk];omega) (by rw [yE];exact hs) (by rw [re]) g
  (fun k lj=>hk k (by omega)) (fun t=>by
   rw [BF _ _ _ _ (fun n hn=>by cases hn;show d < tm.size;rw [hs];exact hd),mo]
   split
   ·exact hv
   ·exact ht t) TX hp (fun a' w' S' cD q1 q2 q3 q4 q5=>⟨rfl,q1,q2,S',cD,q3,fun k lj=>q4 k (by simpa using lj),by show E.m0≤st.nk+_;omega,q5⟩)
 rw [Wk] at this
 exact this
theorem aw.M3 {c:Code} {tm:Array Value} {w:World} {s1:St} {cG:Value→World→Prop} (XD:c.wp P (fun e a w'=>e=.normal∧a.tmps.size=nt∧a.defers=[]∧HC E s1 a.tmps w') ⟨tm,[]⟩ w)
  (hr:aw P E fn nt cG k s1) (b:Frame) (nM:b.fn=fn) (lP:b.kind=.normal) (cs:List Frame) :
  ∃ v w' fr,cG v w'∧Steps P (lone (b.at ⟨tm,[]⟩ (.code c :: k)) cs w) (lone fr cs w')∧fr.fn=fn∧fr.leaving P w' (.returned v):=by
 obtain ⟨e,a',w',⟨rfl,q1,q2,q3⟩,MQ⟩:=XD b k cs
 have ha:a'=⟨a'.tmps,[]⟩:=by cases a';simp at q2;simp [q2]
 obtain ⟨v,NM,fr,r1,r2,r3,r4⟩:=hr a'.tmps w' q1 q3 b nM lP cs
 refine ⟨v,NM,fr,r1,Steps.trans MQ ?_,r3,r4⟩
 rw [ha];exact r2
theorem aw.next (hE:aQ E m) (oc:m≠0) {I:Nat} {rem:List (α×β)} {cur:Option (α×β)} (hI:JF E0 E I cK cV cur rem) {c:Code} {d ti:Nat} (hc:E8 nt d ti c=true) (Vb:cJ st.tm ti=.atom (.pointer (some ⟨I,0,none⟩)))
  {p0:List Prop} {s0:St} (he0:xd P nt (opsOf c) [] d (.tup [.atom (.bool false)]) st=some (p0,s0)) (Zi:aW p0)
  (JJ:rem=[]→aw P E fn nt (aY E dx res) k s0)
  (step:∀ (x:α×β) (l1 l2:List (α×β)),rem=l1 ++ x :: l2→∃ s1,xd P nt (opsOf c) [] d (.tup [.atom (.bool true),cK x.1,cV x.2]) st=some ([],s1)∧∀ E1,aQ E1 m→JF E0 E1 I cK cV (some x) (l1 ++ l2)→aw P E1 fn nt (aY E0 dx res) k s1) :
  aw P E fn nt (aY E0 dx res) (.code c :: k) st:=by
 obtain ⟨id,ops,ty,pos,after,rfl,h0,hd⟩:=M1 hc
 simp only [opsOf] at he0 step
 intro tm w hs hr b nM lP cs
 obtain ⟨S,μ,g,hk,hm,ht⟩:=hr
 obtain ⟨M,since,seen,last,es,clock,hb,hM,Z4,hold,Zw,TZ,Us,Oy,Z5⟩:=hI.ex
 have hwI:w.heap[I]?=some (.mapIter (some M) since seen last):=(g.fr.b6 I (cr hb) hI.fi).trans hb
 have hwM:w.heap[M]?=some (.map es clock):=(g.fr.b6 M (cr hM) Z4).trans hM
 have Vc:=ht ti
 rw [Vb] at Vc
 have Vc:=db Vc
 have PK:∀ o:Oper,o.op=.next (.tmp ti) false→(execOp (⟨tm,[]⟩:Act).eval o).run P w=((Instr.next (.pointer (some ⟨I,0,none⟩)) false o.type).run P w).andThen fun v w'=>.ok (.value v) w':=fun o ho=>by
  obtain ⟨d1,op1,ty1,p1,a1,g1⟩:=o
  subst ho
  simp only [execOp,Act.eval,Vc,bH]
  rfl
 have Z6:∀ b,S b∨True→True:=fun _ _=>trivial
 rcases run_next_at (P:=P) w ty I M since last seen es clock hwI hwM hold Zw with ⟨hz,jc⟩ | ⟨e,he,w1,R3,jc⟩
 ·have XP:(leftOf es seen).toList=[]:=by
   have:(leftOf es seen).toList.length=0:=by simpa using hz
   exact List.length_eq_zero_iff.1 this
  rw [XP] at Oy
  have XQ:=Oy.empty
  refine aw.M3 (JI h0 hd hs (fun c=>by simp) (by rw [PK _ rfl,jc];rfl) hm g hk ht ?_ he0 Zi) ((JJ XQ).mono ?_) b nM lP cs
  ·refine .tup rfl fun j c v hc hv=>?_
   cases j with
   | zero=>simp at hc hv;subst hc hv;exact .atom _
   | succ j=>simp at hc
  ·rintro v w' ⟨S',cD,g',hv⟩
   exact ⟨S',cD,hI.back _ _ _ _ g',hv⟩
 ·have R4:w1.heap[I]?=some (.mapIter (some M) since seen last):=by rcases R3 with rfl | rfl<;>exact hwI
  have XR:w1.heap[M]?=some (.map es clock):=by rcases R3 with rfl | rfl<;>exact hwM
  have g1:Good E st.jk S μ w1:=by rcases R3 with rfl | rfl;exact g;exact g.drew
  have XJ:∀ t,aq w1 S μ (tm.getD t undef) (cJ st.tm t):=by
   rcases R3 with rfl | rfl
   ·exact ht
   ·exact fun t=>(ht t).ext (Ext.drew w S μ)
  have hMI:M≠I:=by rintro rfl;rw [R4] at XR;cases XR
  obtain ⟨W,hW⟩:∃ W,W=w1.putObj I (.mapIter (some M) since (seen.push e.born) clock):=⟨_,rfl⟩
  have hWs:ChangeMaps.setBlock w1 I (.mapIter (some M) since (seen.push e.born) clock)=W:=by rw [hW];rfl
  rw [hWs] at jc
  have sI:∀ a,W.cell? a=w1.cell? a:=by rw [hW];exact tH R4 rfl rfl
  have Z7:W.heap[I]?=some (.mapIter (some M) since (seen.push e.born) clock):=by rw [hW];exact World.putObj_heap_same (cr R4)
  have hWM:W.heap[M]?=some (.map es clock):=by rw [hW,World.putObj_heap_other hMI];exact XR
  have g2:Good (rl W S st.jk μ m) st.jk S μ W:=by rw [hW];exact g1.ZW R4 rfl rfl m
  have g0:Good E0 st.jk S μ W:=by rw [hW];exact (hI.back _ _ _ _ g1).put R4 rfl rfl (.inl hI.new)
  obtain ⟨e1,e2,hl⟩:=List.append_of_mem he
  have R5:rm w1 S cK cV (leftOf es seen).toList rem:=Oy.mono g1.S0 fun b hb=>g1.fr.b6 b (hI.stl b hb) (hI.st b hb)
  rw [hl] at R5
  obtain ⟨l1,x,l2,XQ,YY,TQ,hx3⟩:=R5.split
  obtain ⟨s1,HG,YZ⟩:=step x l1 l2 XQ
  have hS:∀ b,S b→¬ Mx W st.jk μ b:=by
   rintro b hb (⟨k',o',iJ,m5,fy,jr,rfl⟩ | ⟨k',i',x',v',oJ,q0⟩)
   ·obtain ⟨qA,c2,T2,AF,Jm⟩:=g2.rep.ob k' o' m5
    rw [fy] at AF;cases AF
    exact Jm.out jr hb
   ·exact (g2.mx.b6 oJ q0).2.1 hb
  have Z8:JF E0 (rl W S st.jk μ m) I cK cV (some x) (l1 ++ l2):=by
   refine ⟨fun σ S' cD w' h=>g0.MY (by have:=hI.m0;rw [hE.m0] at this;exact this) h,by have:=hI.m0;rw [hE.m0] at this;exact this,hI.new,hS,fun b hb=>g2.S1 b hb,g2.IM Z7 rfl,M,since,seen.push e.born,clock,es,clock,Z7,hWM,?_,hold,TZ,TZ,Us,?_,?_⟩
   ·rintro (⟨k',o',iJ,m5,fy,jr,Qu⟩ | ⟨k',i',x',v',⟨o',iJ,q1,q2,q3,q4⟩,q0⟩)
    ·rcases g1.own k' o' iJ m5 fy jr with h1 | h1
     ·exact Z4 (Qu ▸ h1)
     ·have:=cr hM;omega
    ·rcases (g1.mx.b6 ⟨o',iJ,q1,q2,q3,by rw [← sI];exact q4⟩ q0).2.2.1 with h1 | h1
     ·exact Z4 h1
     ·have:=cr hM;omega
   ·rw [PT Us hl]
    exact hx3.same (fun _ h=>h) sI
   ·rintro _ ⟨⟩
    exact ⟨e,seen,(mem_left he).1,rfl,rfl,YY.fb (fun _ h=>h) sI,TQ.fb (fun _ h=>h) sI⟩
  refine aw.M3 (E:=rl W S st.jk μ m) (JI h0 hd hs (fun c=>by simp) (by rw [PK _ rfl,jc];rfl) (by show m≤st.nk;rw [← hE.m0];exact hm) g2 hk (fun t=>(XJ t).fb (fun _ h=>h) sI) ?_ HG trivial) (YZ _ ⟨rfl,fun h=>absurd h oc⟩ Z8) b nM lP cs
  refine .tup rfl fun j c v hc hv=>?_
  match j,hc,hv with
  | 0,hc,hv=>simp at hc hv;subst hc hv;exact .atom _
  | 1,hc,hv=>simp at hc hv;subst hc hv;exact ((YY.fb (fun _ h=>h) sI).mono (fun _ h=>h) (fun _ _=>rfl) (fun k pl h=>by cases h))
  | 2,hc,hv=>simp at hc hv;subst hc hv;exact ((TQ.fb (fun _ h=>h) sI).mono (fun _ h=>h) (fun _ _=>rfl) (fun k pl h=>by cases h))
  | j+3,hc,hv=>simp at hc
def BP (nt d ti:Nat) (c:Code):Bool:=match c with
 | .region _ ops false=>match ops.toList with
  | ⟨some d',.entry (.tmp t'),_,_,_,none⟩ :: _=>Nat.beq d d' && Nat.beq ti t' && Nat.blt d nt
  | _=>false
 | _=>false
theorem Lf {nt d ti:Nat} {c:Code} (h:BP nt d ti c=true):∃ id ops ty pos after,c=.region id ops false∧ops[0]?=some ⟨some d,.entry (.tmp ti),ty,pos,after,none⟩∧d < nt:=by
 unfold BP at h
 split at h
 ·rename_i id ops
  split at h
  ·rename_i d' t' ty pos after rest ho
   simp only [aV] at h
   obtain ⟨⟨h1,h2⟩,h3⟩:=h
   rw [bm h1,bm h2]
   refine ⟨id,ops,ty,pos,after,rfl,?_,?_⟩
   ·rw [← Array.getElem?_toList,ho];rfl
   ·rw [← bm h1];exact tE h3
  ·cases h
 ·cases h
theorem aw.entry {I:Nat} {rem:List (α×β)} {x:α×β} (hI:JF E0 E I cK cV (some x) rem) {c:Code} {d ti:Nat} (hc:BP nt d ti c=true) (Vb:cJ st.tm ti=.atom (.pointer (some ⟨I,0,none⟩))) {cG:Value→World→Prop}
  {p1:List Prop} {s1:St} (he:xd P nt (opsOf c) [] d (.tup [cK x.1,cV x.2]) st=some (p1,s1)) (ug:aW p1) (hr:aw P E fn nt cG k s1):aw P E fn nt cG (.code c :: k) st:=by
 obtain ⟨id,ops,ty,pos,after,rfl,h0,hd⟩:=Lf hc
 simp only [opsOf] at he
 intro tm w hs Av b nM lP cs
 obtain ⟨S,μ,g,hk,hm,ht⟩:=Av
 obtain ⟨M,since,seen,last,es,clock,hb,hM,Z4,hold,Zw,TZ,Us,Oy,Z5⟩:=hI.ex
 obtain ⟨e,Ow,he1,rfl,rfl,YY,TQ⟩:=Z5 x rfl
 have hwI:w.heap[I]?=some (.mapIter (some M) since (Ow.push e.born) last):=(g.fr.b6 I (cr hb) hI.fi).trans hb
 have hwM:w.heap[M]?=some (.map es last):=(g.fr.b6 M (cr hM) Z4).trans hM
 have Vc:=ht ti
 rw [Vb] at Vc
 have Vc:=db Vc
 have PK:∀ o:Oper,o.op=.entry (.tmp ti)→(execOp (⟨tm,[]⟩:Act).eval o).run P w=((Instr.entry (.pointer (some ⟨I,0,none⟩))).run P w).andThen fun v w'=>.ok (.value v) w':=fun o ho=>by
  obtain ⟨d1,op1,ty1,p1,a1,g1⟩:=o
  subst ho
  simp only [execOp,Act.eval,Vc,bH]
  rfl
 have jc:=run_entry_at (P:=P) w I M since Ow es last e hwI hwM he1 Us
 have Wb:∀ b,E.S0 b→w.heap[b]?=E.w0.heap[b]?:=fun b hb=>g.fr.b6 b (hI.stl b hb) (hI.st b hb)
 refine aw.M3 (JI h0 hd hs (fun c=>by simp) (by rw [PK _ rfl,jc];rfl) hm g hk ht ?_ he ug) hr b nM lP cs
 refine .tup rfl fun j c v hc hv=>?_
 match j,hc,hv with
 | 0,hc,hv=>simp at hc hv;subst hc hv;exact YY.mono g.S0 Wb (fun k pl h=>by cases h)
 | 1,hc,hv=>simp at hc hv;subst hc hv;exact TQ.mono g.S0 Wb (fun k pl h=>by cases h)
 | j+2,hc,hv=>simp at hc
def rangeAt (T:TypeId) (d tx:Nat):Option Oper→Bool
 | some ⟨some d',.range T' (.tmp t'),_,_,_,none⟩=>Nat.beq d d' && Nat.beq tx t' && Nat.beq T T'
 | _=>false
def F4 (P:Program) (nt:Nat) (ops:Array Oper) (orcs:List (Nat×lZ)) (T:TypeId) (d tx:Nat) (st:St):Option (List Prop×St) :=
 match oK P nt ops.toList st.nk orcs (ops.toList.take (ops.size - 1)) 0 st.tm st.jk with
 | some bG=>match JG ops.toList bG (ops.size - 1) && rangeAt T d tx (ops.toList[ops.size - 1]?) && Nat.blt d nt with
  | true=>some (w8 bG,⟨vL bG st.tm,qF bG st.jk,st.nk+16 * ops.size⟩)
  | false=>none
 | none=>none
def Oz (s:St) (tx km:Nat) (l:List AV):Prop:=cJ s.tm tx=.mp km∧∃ o,au s.jk km=some o∧o.sz=0∧o.get 0=l
theorem Lg (ck:α→AV) (cv:β→AV):∀ l:List (α×β),(rk ck cv l).length=2 * l.length
 | []=>rfl
 | _ :: r=>by simp only [rk,qO,Lg ck cv r];omega
theorem Lh (ck:α→AV) (cv:β→AV):∀ (l:List (α×β)) (j:Nat) (x:α×β),l[j]?=some x→(rk ck cv l)[2 * j]?=some (ck x.1)∧(rk ck cv l)[2 * j+1]?=some (cv x.2)
 | [],j,x,h=>by simp at h
 | p :: r,0,x,h=>by simp at h;subst h;exact ⟨rfl,rfl⟩
 | p :: r,j+1,x,h=>by
  have:=Lh ck cv r j x (by simpa using h)
  rw [show 2 * (j+1)=2 * j+1+1 by omega]
  simpa only [rk,Br] using this
theorem OA {w:World} {S:Nat→Prop} {c:Array Value}:∀ (xs:List (α×β)) (i:Nat),(∀ j x,xs[j]?=some x→aq w S fV (c[2 * (i+j)]?.getD undef) (cK x.1)∧aq w S fV (c[2 * (i+j)+1]?.getD undef) (cV x.2)) →
  rm w S cK cV ((List.range' i xs.length).map fun i=>(⟨c[2 * i]?.getD undef,c[2 * i+1]?.getD undef,i⟩:MapEntry)) xs
 | [],i,_=>.nil
 | x :: xs,i,h=>by
  rw [qO,List.range'_succ,List.map_cons]
  have h0:=h 0 x rfl
  rw [Nat.add_zero] at h0
  refine .cons h0.1 h0.2 (OA xs (i+1) fun j y hy=>?_)
  have:=h (j+1) y (by simpa using hy)
  rwa [show i+(j+1)=i+1+j by omega] at this
theorem IS (hE:aQ E m) (oc:m≠0) {ops:Array Oper} {orcs:List (Nat×lZ)} {T kt vt:TypeId} {d tx km:Nat} {ps:List Prop} {s1:St} (he:F4 P nt ops orcs T d tx st=some (ps,s1)) (hp:aW ps) (hn:(om orcs && On orcs)=true)
  (hT:P.underlying T=some (.map kt vt)) {rem:List (α×β)} (hmp:Oz s1 tx km (rk cK cV rem)) {Q:Exit→Act→World→Prop}
  (hQ:∀ a w',(a.tmps.size=nt∧a.defers=[]∧∃ E1 I,aQ E1 m∧JF E E1 I cK cV none rem∧HC E1 ⟨(d,.atom (.pointer (some ⟨I,0,none⟩))) :: s1.tm,qz s1.jk km,s1.nk⟩ a.tmps w')→Q .normal a w')
  {tm:Array Value} {w:World} (hs:tm.size=nt) (hrp:HC E st tm w):wpAnyIn (FW none) 0 P .any ops Q ops.size (Array.replicate ops.size false) ⟨tm,[]⟩ { w with drawn:=w.drawn+1 }:=by
 obtain ⟨Hv,NV⟩:=lW.1 hn
 unfold F4 at he
 split at he
 case h_2=>cases he
 rename_i bG TX
 split at he
 case h_2=>cases he
 rename_i Xo
 simp only [az,ay] at he
 obtain ⟨rfl,rfl⟩:=he
 simp only [aV] at Xo
 obtain ⟨⟨WD,Z9⟩,hdn⟩:=Xo
 have hdn:=tE hdn
 obtain ⟨ty,pos,after,aaa,PU⟩:∃ ty pos after,ops[ops.size - 1]?=some ⟨some d,.range T (.tmp tx),ty,pos,after,none⟩∧0 < ops.size:=by
  unfold rangeAt at Z9
  split at Z9
  ·rename_i d' T' t' ty pos after ho
   simp only [aV] at Z9
   obtain ⟨⟨h1,h2⟩,h3⟩:=Z9
   rw [bm h1,bm h2,bm h3]
   have ho:ops[ops.size - 1]?=some ⟨some d',.range T' (.tmp t'),ty,pos,after,none⟩:=by rw [← Array.getElem?_toList];exact ho
   refine ⟨ty,pos,after,ho,?_⟩
   have:=(Array.getElem?_eq_some_iff.1 ho).1
   omega
  ·cases Z9
 obtain ⟨hmt,o,TR,kr,oa⟩:=hmp
 obtain ⟨S,μ,g,hk,hm,ht⟩:=hrp
 have hz:∀ i,FM P E (l3 orcs i):=fun i=>⟨fun x hx hf=>(Df Hv i x hx hf).elim,fun x y hx PL=>Jw (Dg NV) i x y hx PL⟩
 have PM:∀ (n j:Nat),(Array.replicate n false).getD j false=false:=by
  intro n j
  simp only [fm,Array.getElem?_replicate]
  split<;>rfl
 refine R1 (L:=ops.size - 1) (rd:=none) (ds:=[]) (nt:=nt) hz hm (by omega) TX hp WD ?_ ops.size _ ⟨tm,[]⟩ _ S μ (by simp) hs rfl (PM _ _) ?_ ?_ ?_ ?_ ?_
 rotate_left
 ·intro j hj;rw [PM] at hj;cases hj
 ·omega
 ·rw [zI bG 0 st.jk _ (fun m _=>PM _ _)];exact g.drew
 ·intro k' lj _
  exact hk k' lj
 ·intro t
  rw [BJ bG 0 st.tm _ (fun m _=>PM _ _)]
  exact (ht t).ext (Ext.drew w S μ)
 intro a' w' S' cD q1 q2 g1 ZY XJ
 obtain ⟨pl,cc,TT,Hw,cE⟩:=g1.rep.ob km o TR
 obtain ⟨rY,PK,hlen,DV,xX⟩:=cE.mp kr
 have hM:w'.heap[pl.b6]?=some (.map (ef cc) (cc.size / 2)):=by rw [cE.b6 rY,wQ kr]
 have rX:=XJ tx
 rw [hmt] at rX
 obtain ⟨F5,agF⟩:a'.tmps.getD tx undef=.map (some pl.b6)∧True:=by
  generalize a'.tmps.getD tx undef=v at rX
  cases rX with
  | mp iJ h=>rw [Hw] at h;cases h;exact ⟨rfl,trivial⟩
 have jc:=run_range_map (P:=P) w' T kt vt pl.b6 (ef cc) (cc.size / 2) hT hM
 unfold wpOpIn
 rw [aaa]
 simp only [Region.wanted,if_true]
 refine ⟨fun _ _=>trivial,?_⟩
 rw [Oper.semAt_eq _ _ _ (fun c=>by simp)]
 have aab:(execOp a'.eval ⟨some d,.range T (.tmp tx),ty,pos,after,none⟩).run P w'=.ok (.value (.pointer (some ⟨w'.heap.size,0,none⟩))) (w'.alloc (.mapIter (some pl.b6) (cc.size / 2) #[] (cc.size / 2))):=by
  have:execOp a'.eval ⟨some d,.range T (.tmp tx),ty,pos,after,none⟩=(do let v ← Instr.range T (a'.tmps.getD tx undef);pure (.value v):Sem Next):=rfl
  rw [this,F5]
  simp only [bH,jc,cN,Sem.run_pure]
 rw [aab]
 refine hQ _ _ ?_
 obtain ⟨ex,g2⟩:=g1.aux (.mapIter (some pl.b6) (cc.size / 2) #[] (cc.size / 2)) rfl
 obtain ⟨W,hW⟩:∃ W,W=w'.alloc (.mapIter (some pl.b6) (cc.size / 2) #[] (cc.size / 2)):=⟨_,rfl⟩
 obtain ⟨S2,hS2⟩:∃ S2:Nat→Prop,S2=fun b=>S' b∨b=w'.heap.size:=⟨_,rfl⟩
 rw [← hW,← hS2] at ex g2
 rw [← hW]
 have Z7:W.heap[w'.heap.size]?=some (.mapIter (some pl.b6) (cc.size / 2) #[] (cc.size / 2)):=by rw [hW];exact World.alloc_heap_new w' _
 have hWM:W.heap[pl.b6]?=some (.map (ef cc) (cc.size / 2)):=by rw [hW];exact (eh (cr hM)).trans hM
 have g3:=(g2.del km).base m
 have acW:∀ k,st.nk+16 * ops.size≤k→cD k=none:=fun k lj=>ZY k (by omega)
 refine ⟨by rw [yE];exact q1,by rw [re];exact q2,rl W S2 (qz (qF bG st.jk) km) cD m,w'.heap.size,⟨rfl,fun h=>absurd h oc⟩,?_,S2,cD,g3,acW,?_,?_⟩
 ·have h2:cc.size=2 * rem.length:=by rw [hlen,oa,Lg]
  refine ⟨fun σ S μ w h=>(g2.del km).MY (by rw [hE.m0];exact aP _) h,by rw [hE.m0];exact aP _,g1.fr.size,?_,fun b hb=>g3.S1 b hb,g3.IM Z7 rfl,pl.b6,cc.size / 2,#[],cc.size / 2,ef cc,cc.size / 2,Z7,hWM,?_,?_,aP _,aP _,?_,?_,fun x hx=>by cases hx⟩
  ·rintro b hb (⟨k',o',iJ,m5,fy,jr,rfl⟩ | ⟨k',i',x',v',oJ,q0⟩)
   ·obtain ⟨qA,c2,T2,AF,Jm⟩:=g3.rep.ob k' o' m5
    rw [fy] at AF;cases AF
    exact Jm.out jr hb
   ·exact (g3.mx.b6 oJ q0).2.1 hb
  ·rintro (⟨k',o',iJ,m5,fy,jr,Qu⟩ | ⟨k',i',x',v',⟨o',iJ,RP,TV,q3',q4'⟩,q0⟩)
   ·rw [eH] at m5
    split at m5
    ·cases m5
    ·rename_i ec
     exact g2.rep.ne km k' o o' pl iJ ec TR m5 Hw fy rY jr Qu.symm
   ·rw [eH] at RP
    split at RP
    ·cases RP
    ·exact g2.mx.obj k' i' x' v' pl.b6 ⟨o',iJ,RP,TV,q3',q4'⟩ q0 km o pl TR Hw rY rfl
  ·intro x hx
   simp only [ef,Array.toList_map,Array.toList_range,List.mem_map,mO] at hx
   obtain ⟨i,hi,rfl⟩:=hx
   exact hi
  ·simp only [ef,Array.toList_map,Array.toList_range,List.map_map,Function.comp_def,List.map_id']
   exact List.nodup_range
  ·have hle:(leftOf (ef cc) #[]).toList=(ef cc).toList:=by
    unfold leftOf
    rw [Array.toList_filter]
    exact List.filter_eq_self.2 fun x _=>by simp
   rw [hle]
   have e1:(ef cc).toList=(List.range' 0 rem.length).map fun i=>(⟨cc[2 * i]?.getD undef,cc[2 * i+1]?.getD undef,i⟩:MapEntry):=by
    simp only [ef,Array.toList_map,Array.toList_range,List.range_eq_range']
    rw [show cc.size / 2=rem.length by omega]
   rw [e1]
   refine OA rem 0 fun j x hx=>?_
   rw [Nat.zero_add]
   obtain ⟨c1,c2⟩:=Lh cK cV rem j x hx
   have hj:j < rem.length:=(dd.1 hx).1
   rw [← oa] at c1 c2
   have v1:cc[2 * j]?=some cc[2 * j]:=dN (by omega)
   have v2:cc[2 * j+1]?=some cc[2 * j+1]:=dN (by omega)
   refine ⟨?_,?_⟩
   ·rw [v1];exact (xX _ _ _ c1 v1).mono ex.Fk ex.b6 (fun k pl h=>by cases h)
   ·rw [v2];exact (xX _ _ _ c2 v2).mono ex.Fk ex.b6 (fun k pl h=>by cases h)
 ·show m≤st.nk+16 * ops.size
  rw [← hE.m0];omega
 ·intro t
  rw [BF _ _ _ _ (fun n hn=>by cases hn;rw [q1];exact hdn)]
  show aq W S2 cD _ (cJ ((d,_) :: vL bG st.tm) t)
  simp only [cJ]
  by_cases hdt:d=t
  ·rw [ko hdt,if_pos (by rw [hdt])]
   exact .atom _
  ·rw [lR hdt,if_neg (by simpa using hdt)]
   exact (XJ t).ext ex
theorem aw.XS (hE:aQ E m) (oc:m≠0) {c:Code} {p q:Nat} {permA permB:List Nat} (hc:(match c with
  | .region _ ops true=>!Nat.beq p q && sa ops permA (p,q) && sa ops permB (q,p)
  | _=>false)=true) (hfo:P.follows .mixedOrders=true) {HN HO:List (Nat×lZ)} {T kt vt:TypeId} {d tx kA kB:Nat} {pA pB:List Prop} {sA sB:St}
  (hA:F4 P nt (Fa (opsOf c).toArray permA (p,q)) HN T d tx st=some (pA,sA)) (hB:F4 P nt (Fa (opsOf c).toArray permB (q,p)) HO T d tx st=some (pB,sB)) (hpA:aW pA) (hpB:aW pB) (hnA:(om HN && On HN)=true) (hnB:(om HO && On HO)=true)
  (hT:P.underlying T=some (.map kt vt)) {PV PW:List (α×β)} (hmA:Oz sA tx kA (rk cK cV PV)) (hmB:Oz sB tx kB (rk cK cV PW))
  (hrA:∀ E1 I,aQ E1 m→JF E E1 I cK cV none PV→aw P E1 fn nt (aY E dx res) k ⟨(d,.atom (.pointer (some ⟨I,0,none⟩))) :: sA.tm,qz sA.jk kA,sA.nk⟩)
  (hrB:∀ E1 I,aQ E1 m→JF E E1 I cK cV none PW→aw P E1 fn nt (aY E dx res) k ⟨(d,.atom (.pointer (some ⟨I,0,none⟩))) :: sB.tm,qz sB.jk kB,sB.nk⟩) :
  aw P E fn nt (aY E dx res) (.code c :: k) st:=by
 split at hc
 case h_2=>cases hc
 rename_i id ops
 simp only [aV,Bool.not_eq_true'] at hc
 obtain ⟨⟨Ko,hA1⟩,hB1⟩:=hc
 have Ko:p≠q:=fun h=>by rw [h,ko rfl] at Ko;cases Ko
 simp only [opsOf,Array.toArray_toList] at hA hB
 intro tm w hs hrp b nM lP cs
 let Q:Exit→Act→World→Prop:=fun e a w'=>e=.normal∧a.tmps.size=nt∧a.defers=[] ∧
  ((∃ E1 I,aQ E1 m∧JF E E1 I cK cV none PV∧HC E1 ⟨(d,.atom (.pointer (some ⟨I,0,none⟩))) :: sA.tm,qz sA.jk kA,sA.nk⟩ a.tmps w')∨∃ E1 I,aQ E1 m∧JF E E1 I cK cV none PW∧HC E1 ⟨(d,.atom (.pointer (some ⟨I,0,none⟩))) :: sB.tm,qz sB.jk kB,sB.nk⟩ a.tmps w')
 have XD:(Code.region id ops true).wp P Q ⟨tm,[]⟩ w:=(wpIn_wide (n:=0)).1 (R2 Ko hA1 hB1 hfo
  (IS hE oc hA hpA hnA hT hmA (fun a w' ⟨h1,h2,h3⟩=>⟨rfl,h1,h2,.inl h3⟩) hs hrp) (IS hE oc hB hpB hnB hT hmB (fun a w' ⟨h1,h2,h3⟩=>⟨rfl,h1,h2,.inr h3⟩) hs hrp))
 obtain ⟨e,a',w',⟨rfl,q1,q2,h3⟩,MQ⟩:=XD b k cs
 have ha:a'=⟨a'.tmps,[]⟩:=by cases a';simp at q2;simp [q2]
 have go:∃ v NM fr,aY E dx res v NM∧Steps P (lone (b.at ⟨a'.tmps,[]⟩ k) cs w') (lone fr cs NM)∧fr.fn=fn∧fr.leaving P NM (.returned v):=by
  rcases h3 with ⟨E1,I,hE1,Z8,q3⟩ | ⟨E1,I,hE1,Z8,q3⟩
  ·exact hrA E1 I hE1 Z8 a'.tmps w' q1 q3 b nM lP cs
  ·exact hrB E1 I hE1 Z8 a'.tmps w' q1 q3 b nM lP cs
 obtain ⟨v,NM,fr,r1,r2,r3,r4⟩:=go
 refine ⟨v,NM,fr,r1,Steps.trans MQ ?_,r3,r4⟩
 rw [ha];exact r2
noncomputable def qH {γ δ:Type} (rem:List γ) (z:Option δ) (f:γ→List γ→Option δ):Option δ:=open Classical in
 if rem=[] then z else if h:∃ r,∀ l1 x l2,rem=l1 ++ x :: l2→f x (l1 ++ l2)=some r then some h.choose else none
theorem M4 {γ δ:Type} {rem:List γ} {z:Option δ} {f:γ→List γ→Option δ} {r:δ} (h:qH rem z f=some r) (hr:rem=[]):z=some r:=by
 unfold qH at h;rwa [if_pos hr] at h
theorem Li {γ δ:Type} {rem:List γ} {z:Option δ} {f:γ→List γ→Option δ} {r:δ} (h:qH rem z f=some r) {l1 l2:List γ} {x:γ} (hr:rem=l1 ++ x :: l2):f x (l1 ++ l2)=some r:=by
 unfold qH at h
 rw [if_neg (by rw [hr];simp)] at h
 split at h
 ·rename_i hx
  have:=hx.choose_spec l1 x l2 hr
  rw [this];exact h
 ·cases h
theorem Lj {γ δ:Type} (z:Option δ) (f:γ→List γ→Option δ):qH [] z f=z:=by unfold qH;rw [if_pos rfl]
theorem PX {γ δ:Type} {rem:List γ} {z:Option δ} {f:γ→List γ→Option δ} {r:δ} (ec:rem≠[]) (h:∀ l1 x l2,rem=l1 ++ x :: l2→f x (l1 ++ l2)=some r):qH rem z f=some r:=by
 have hx:∃ r',∀ l1 x l2,rem=l1 ++ x :: l2→f x (l1 ++ l2)=some r':=⟨r,h⟩
 unfold qH
 rw [if_neg ec,dif_pos hx]
 have h1:=hx.choose_spec
 cases rem with
 | nil=>exact absurd rfl ec
 | cons a l =>
  have e1:=h1 [] a l rfl
  rw [h [] a l rfl] at e1
  exact e1.symm
def Vd (s:St) (tx km:Nat):Option (List AV):=match cJ s.tm tx,au s.jk km with
 | .mp k',some o=>match Nat.beq k' km && Nat.beq o.sz 0 with
  | true=>some (o.get 0)
  | false=>none
 | _,_=>none
theorem OB {s:St} {tx km:Nat} {l:List AV} (h:Vd s tx km=some l):Oz s tx km l:=by
 unfold Vd at h
 split at h
 ·rename_i k' o h1 h2
  split at h
  ·rename_i h3
   cases h
   obtain ⟨h4,h5⟩:=lW.1 h3
   exact ⟨by rw [h1,bm h4],o,h2,bm h5,rfl⟩
  ·cases h
 ·cases h
def Ve (P:Program) (nt:Nat) (ops:Array Oper) (orcs:List (Nat×lZ)) (T:TypeId) (d tx:Nat) (st:St):St:=match F4 P nt ops orcs T d tx st with
 | some x=>x.2
 | none=>st
def nPI (P:Program) (nt:Nat) (ops:Array Oper) (orcs:List (Nat×lZ)) (T:TypeId) (d tx km:Nat) (st:St) (I:Nat):St :=
 ⟨(d,.atom (.pointer (some ⟨I,0,none⟩))) :: (Ve P nt ops orcs T d tx st).tm,qz (Ve P nt ops orcs T d tx st).jk km,(Ve P nt ops orcs T d tx st).nk⟩
def ac2 (p q:Nat) (permA permB:List Nat) (c:Code):Bool:=match c with
 | .region _ ops true=>!Nat.beq p q && sa ops permA (p,q) && sa ops permB (q,p)
 | _=>false
theorem aw.nG (hE:aQ E m) (n p q:Nat) (permA permB:List Nat) (HN HO:List (Nat×lZ)) (T kt vt:TypeId) (d tx kA kB:Nat) (cK:α→AV) (cV:β→AV) (PV PW:List (α×β)) {pA pB:List Prop} (hpA:aW pA) (hpB:aW pB)
  (hrA:∀ E1 I,aQ E1 m→JF E E1 I cK cV none PV→aw P E1 fn nt (aY E dx res) (U0 (nK n k)) (nPI P nt (Fa (opsOf (Bp (nK n k))).toArray permA (p,q)) HN T d tx kA st I))
  (hrB:∀ E1 I,aQ E1 m→JF E E1 I cK cV none PW→aw P E1 fn nt (aY E dx res) (U0 (nK n k)) (nPI P nt (Fa (opsOf (Bp (nK n k))).toArray permB (q,p)) HO T d tx kB st I))
  (h0:Lb n k=true:=by kernel_rfl) (hc:ac2 p q permA permB (Bp (nK n k))=true:=by kernel_rfl) (hfo:P.follows .mixedOrders=true:=by kernel_rfl)
  (hA:HL (F4 P nt (Fa (opsOf (Bp (nK n k))).toArray permA (p,q)) HN T d tx st)=some pA:=by kernel_rfl) (hB:HL (F4 P nt (Fa (opsOf (Bp (nK n k))).toArray permB (q,p)) HO T d tx st)=some pB:=by kernel_rfl)
  (hn:(om HN && On HN && (om HO && On HO))=true:=by kernel_rfl) (hT:P.underlying T=some (.map kt vt):=by kernel_rfl)
  (hmA:Vd (Ve P nt (Fa (opsOf (Bp (nK n k))).toArray permA (p,q)) HN T d tx st) tx kA=some (rk cK cV PV):=by kernel_rfl)
  (hmB:Vd (Ve P nt (Fa (opsOf (Bp (nK n k))).toArray permB (q,p)) HO T d tx st) tx kB=some (rk cK cV PW):=by kernel_rfl) (oc:Nat.ble 1 m=true:=by kernel_rfl):aw P E fn nt (aY E dx res) k st:=by
 obtain ⟨sA,hsA⟩:=nP hA
 obtain ⟨sB,hsB⟩:=nP hB
 have eA:Ve P nt (Fa (opsOf (Bp (nK n k))).toArray permA (p,q)) HN T d tx st=sA:=by unfold Ve;rw [hsA]
 have eB:Ve P nt (Fa (opsOf (Bp (nK n k))).toArray permB (q,p)) HO T d tx st=sB:=by unfold Ve;rw [hsB]
 unfold nPI at hrA hrB
 rw [eA] at hrA hmA
 rw [eB] at hrB hmB
 have oc:=Nat.le_of_ble_eq_true oc
 obtain ⟨Hv,NV⟩:=lW.1 hn
 exact aw.CA n (zL h0) (aw.XS hE (by omega) (p:=p) (q:=q) (permA:=permA) (permB:=permB) hc hfo hsA hsB hpA hpB Hv NV hT (OB hmA) (OB hmB) hrA hrB)
theorem aw.nN (hE:aQ E m) {I:Nat} {cur:Option (α×β)} {rem:List (α×β)} (hI:JF E0 E I cK cV cur rem) (n d ti:Nat) {R:Type} {z:Option R} {f:α×β→List (α×β)→Option R} {r:R} (h:qH rem z f=some r)
  (JJ:z=some r→aw P E fn nt (aY E dx res) (U0 (nK n k)) (Va P nt (Bp (nK n k)) d (.tup [.atom (.bool false)]) st))
  (step:∀ (x:α×β) (aaf:List (α×β)),f x aaf=some r→∀ E1,aQ E1 m→JF E0 E1 I cK cV (some x) aaf→aw P E1 fn nt (aY E0 dx res) (U0 (nK n k)) (Va P nt (Bp (nK n k)) d (.tup [.atom (.bool true),cK x.1,cV x.2]) st))
  (h0:Lb n k=true:=by kernel_rfl) (hc:E8 nt d ti (Bp (nK n k))=true:=by kernel_rfl) (Vb:cJ st.tm ti=.atom (.pointer (some ⟨I,0,none⟩)):=by kernel_rfl)
  (he0:HL (xd P nt (opsOf (Bp (nK n k))) [] d (.tup [.atom (.bool false)]) st)=some []:=by kernel_rfl)
  (he1:∀ x:α×β,HL (xd P nt (opsOf (Bp (nK n k))) [] d (.tup [.atom (.bool true),cK x.1,cV x.2]) st)=some []:=by intro x;kernel_rfl)
  (oc:Nat.ble 1 m=true:=by kernel_rfl):aw P E fn nt (aY E0 dx res) k st:=by
 have oc:=Nat.le_of_ble_eq_true oc
 obtain ⟨s0,Mi⟩:=nP he0
 have e0:Va P nt (Bp (nK n k)) d (.tup [.atom (.bool false)]) st=s0:=by unfold Va;rw [Mi]
 rw [e0] at JJ
 refine aw.CA n (zL h0) (aw.next hE (by omega) hI hc Vb Mi trivial (fun hr=>JJ (M4 h hr)) fun x l1 l2 hr=>?_)
 obtain ⟨s1,HG⟩:=nP (he1 x)
 have e1:Va P nt (Bp (nK n k)) d (.tup [.atom (.bool true),cK x.1,cV x.2]) st=s1:=by unfold Va;rw [HG]
 exact ⟨s1,HG,fun E1 hE1 hI1=>by rw [← e1];exact step x (l1 ++ l2) (Li h hr) E1 hE1 hI1⟩
theorem aw.nY {I:Nat} {rem:List (α×β)} {x:α×β} (hI:JF E0 E I cK cV (some x) rem) (n d ti:Nat) {cG:Value→World→Prop} {ps:List Prop} (hp:aW ps)
  (hr:aw P E fn nt cG (U0 (nK n k)) (Va P nt (Bp (nK n k)) d (.tup [cK x.1,cV x.2]) st))
  (h0:Lb n k=true:=by kernel_rfl) (hc:BP nt d ti (Bp (nK n k))=true:=by kernel_rfl) (Vb:cJ st.tm ti=.atom (.pointer (some ⟨I,0,none⟩)):=by kernel_rfl)
  (he:HL (xd P nt (opsOf (Bp (nK n k))) [] d (.tup [cK x.1,cV x.2]) st)=some ps:=by kernel_rfl):aw P E fn nt cG k st:=by
 obtain ⟨s,hs⟩:=nP he
 have e:Va P nt (Bp (nK n k)) d (.tup [cK x.1,cV x.2]) st=s:=by unfold Va;rw [hs]
 rw [e] at hr
 exact aw.CA n (zL h0) (aw.entry hI hc Vb hs hp hr)
end
end
end Go.Ab
