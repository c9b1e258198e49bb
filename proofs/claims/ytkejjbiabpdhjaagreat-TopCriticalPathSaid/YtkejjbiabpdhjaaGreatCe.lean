/- Abstract values over the heap of the machine, and functions read off its code (part 5). No conditions. -/
import Derived.Test.YtkejjbiabpdhjaaGreatCd
import Derived.Maps.RangeRun
set_option linter.unusedVariables false
set_option linter.unusedSimpArgs false
namespace Go.Ab
inductive xK (w:World) (S:Nat->Prop) {α β:Type} (cK:α->AV) (cV:β->AV):List MapEntry->List (α×β)->Prop where
 | nil:xK w S cK cV [] []
 | cons {e:MapEntry} {x:α×β} {es:List MapEntry} {xs:List (α×β)}:av w S kf e.key (cK x.1)->av w S kf e.val (cV x.2)->xK w S cK cV es xs->xK w S cK cV (e :: es) (x :: xs)
section
variable {α β:Type} {cK:α->AV} {cV:β->AV}
theorem xK.mono {w w':World} {S S':Nat->Prop} (a:∀ b,S b->S' b) (c:∀ b,S b->w'.heap[b]?=w.heap[b]?):∀ {es:List MapEntry} {xs:List (α×β)},xK w S cK cV es xs->xK w' S' cK cV es xs
 | _,_,.nil=>.nil
 | _,_,.cons h1 h2 h3=>.cons (h1.mono a c fun _ _ h=>h) (h2.mono a c fun _ _ h=>h) (h3.mono a c)
theorem xK.same {w w':World} {S S':Nat->Prop} (c:∀ b,S b->S' b) (d:∀ a,w'.cell? a=w.cell? a):∀ {es:List MapEntry} {xs:List (α×β)},xK w S cK cV es xs->xK w' S' cK cV es xs
 | _,_,.nil=>.nil
 | _,_,.cons h1 h2 h3=>.cons (h1.jR c d) (h2.jR c d) (h3.same c d)
theorem xK.split {w:World} {S:Nat->Prop} {e:MapEntry} {f:List MapEntry}:∀ {b:List MapEntry} {xs:List (α×β)},xK w S cK cV (b ++ e :: f) xs ->
  ∃ c x d,xs=c ++ x :: d/\av w S kf e.key (cK x.1)/\av w S kf e.val (cV x.2)/\xK w S cK cV (b ++ f) (c ++ d):=by
 intro b
 induction b with
 | nil =>
  intro xs h;cases h with
  | cons h1 h2 h3=>exact ⟨[],_,_,rfl,h1,h2,h3⟩
 | cons a b g =>
  intro xs h;cases h with
  | cons h1 h2 h3 =>
   obtain ⟨c,x,d,rfl,i,j,k⟩:=g h3;exact ⟨_ :: c,x,d,rfl,i,j,.cons h1 h2 k⟩
theorem xK.empty {w:World} {S:Nat->Prop} {xs:List (α×β)} (h:xK w S cK cV [] xs):xs=[]:=by cases h;rfl
structure Pb (E0 E:Env) (I:Nat) (cK:α->AV) (cV:β->AV) (cur:Option (α×β)) (rem:List (α×β)):Prop where
 back:∀ σ S μ w,Good E σ S μ w->Good E0 σ S μ w
 m0:E0.m0<=E.m0
 new:E0.w0.heap.size<=I
 st:∀ b,E.S0 b->¬ E.fp b
 stl:∀ b,E.S0 b->b < E.w0.heap.size
 fi:¬ E.fp I
 ex:∃ M since seen last es clock,E.w0.heap[I]?=some (.mapIter (some M) since seen last)/\E.w0.heap[M]?=some (.map es clock)/\¬ E.fp M/\(∀ x∈es.toList,x.born < since)/\since<=last/\since<=clock /\
  (es.toList.map (·.born)).Nodup/\xK E.w0 E.S0 cK cV (leftOf es seen).toList rem /\
  ∀ x,cur=some x->∃ (e:MapEntry) (acu:Array Nat),e∈es.toList/\seen=acu.push e.born/\last=clock/\av E.w0 E.S0 kf e.key (cK x.1)/\av E.w0 E.S0 kf e.val (cV x.2)
theorem Pb.forget {E0 E:Env} {I:Nat} {cur:Option (α×β)} {rem:List (α×β)} (h:Pb E0 E I cK cV cur rem):Pb E0 E I cK cV none rem:=by
 obtain ⟨h1,h2,h3,h4,a,b,M,since,seen,last,es,clock,c,d,e,f,g,i,j,k,_⟩:=h;exact ⟨h1,h2,h3,h4,a,b,M,since,seen,last,es,clock,c,d,e,f,g,i,j,k,fun x l=>by cases l⟩
theorem ar.mono {P:Program} {E:Env} {fn:FuncId} {nt:Nat} {c a:Value->World->Prop} {k:List Item} {st:St} (h:ar P E fn nt c k st) (d:∀ v w,c v w->a v w):ar P E fn nt a k st:=by
 intro tm w h1 h2 b h3 h4 cs;obtain ⟨v,w',fr,e,f,g,i⟩:=h tm w h1 h2 b h3 h4 cs;grind
theorem aee {es:Array MapEntry} {seen:Array Nat} {a b:List MapEntry} {e:MapEntry} (f:(es.toList.map (·.born)).Nodup) (h:(leftOf es seen).toList=a ++ e :: b):(leftOf es (seen.push e.born)).toList=a ++ b:=by
 unfold leftOf at h ⊢;simp only [Array.toList_filter] at h ⊢;have h1:es.toList.filter (fun x=>!(seen.push e.born).contains x.born)=(es.toList.filter fun x=>!seen.contains x.born).filter fun x=>!(x.born == e.born):=by
  rw [List.filter_filter];congr 1;funext x;rw [contains_push];cases seen.contains x.born<;>cases x.born == e.born<;>rfl
 rw [h1,h];have d:((a ++ e :: b).map (·.born)).Nodup:=by
  rw [<- h];exact (List.Sublist.map _ List.filter_sublist).nodup f
 rw [HC,List.map_cons,List.nodup_append] at d;obtain ⟨_,h3,h4⟩:=d;have h3:=List.nodup_cons.1 h3;rw [List.filter_append,List.filter_cons];have g:a.filter (fun x=>!(x.born == e.born))=a:=List.filter_eq_self.2 fun x c=>by
  have:=h4 x.born (List.mem_map.2 ⟨x,c,rfl⟩) e.born ao;simpa using this
 have i:b.filter (fun x=>!(x.born == e.born))=b:=List.filter_eq_self.2 fun x c=>by
  have:x.born≠e.born:=fun q=>h3.1 (q ▸ List.mem_map.2 ⟨x,c,rfl⟩);simpa using this
 rw [g,i];simp
def yc (P:Program) (nt:Nat) (ops:List Oper) (orcs:List (Nat×qE)) (d:Nat) (x:AV) (st:St):Option (List Prop×St) :=
 (ug P nt ops st.nk orcs (ops.drop 1) 1 (Ff st.tm (some d) x) st.mg).map fun a=>(D5 a,⟨CI a (Ff st.tm (some d) x),wT a st.mg,st.nk+16 * ops.length⟩)
def opsOf:Code->List Oper
 | .region _ ops _=>ops.toList
 | _=>[]
def nTl (P:Program) (nt:Nat) (c:Code) (d:Nat) (x:AV) (st:St):St:=match yc P nt (opsOf c) [] d x st with
 | some x=>x.2
 | none=>st
def HY (nt d a:Nat) (c:Code):Bool:=match c with
 | .region _ ops false=>match ops.toList with
  | ⟨some b,.next (.tmp t') false,_,_,_,none⟩ :: _=>Nat.beq d b && Nat.beq a t' && Nat.blt d nt
  | _=>false
 | _=>false
theorem aac {nt d b:Nat} {c:Code} (h:HY nt d b c=true):∃ id ops ty pos a,c=.region id ops false/\ops[0]?=some ⟨some d,.next (.tmp b) false,ty,pos,a,none⟩/\d < nt:=by
 unfold HY at h;split at h
 ·rename_i id ops;split at h
  ·rename_i f t' ty pos a rest e;simp only [bd] at h;obtain ⟨⟨h1,h2⟩,h3⟩:=h;rw [bZ h1,bZ h2];refine ⟨id,ops,ty,pos,a,rfl,?_,?_⟩
   ·rw [<- Array.getElem?_toList,e];rfl
   simp_all
  ·cases h
 ·cases h
section
variable {P:Program}
def U6 (ops:List Oper) (a:List Rec) (L:Nat):Bool :=
 ((List.range L).all fun j=>xn ops j && (List.range j).all fun i=>LX ops a i j) && xn ops L && (List.range L).all fun i=>NJ ops ops.length i L
theorem agz {E:Env} {rd:Option Nat} {ds:List Deferred} {nt nk:Nat} {ops:Array Oper} {orcs:List (Nat×qE)} {G:List (Nat×AV)} {D:fe} {b:List Rec} {L:Nat} {Q:Exit->Act->World->Prop} (hz:∀ i,PX P E (qi orcs i)) (hm:E.m0<=nk)
  (hL:ops.size=L+1) (htr:ug P nt ops.toList nk orcs (ops.toList.take L) 0 G D=some b) (hp:bg (D5 b)) (Z:U6 ops.toList b L=true)
  (hQ:∀ a' w' S' ey,a'.tmps.size=nt->a'.defers=ds->Good E (wT b D) S' ey w'->(∀ k,nk+16 * L<=k->ey k=none)->(∀ t,av w' S' ey (a'.tmps.getD t undef) (dT (CI b G) t))->wpOpIn (FW rd) 0 P ops Q L (Q .normal) a' w') :
  ∀ (fuel:Nat) (an:Array Bool) (a:Act) (w:World) (S:Nat->Prop) (μ:Mu),an.size=ops.size->a.tmps.size=nt->a.defers=ds->an.getD L false=false ->
   (∀ j,an.getD j false=true->∀ o,ops.toList[j]?=some o->∀ e∈gJ o,an.getD e false=true)->ops.size<=fuel+(an.toList.filter (· == true)).length ->
   Good E (ya (fun j=>an.getD j false) b 0 D) S μ w->(∀ k,nk<=k->(∀ j,nk+16 * j<=k->k < nk+16 * j+16->an.getD j false=false)->μ k=none) ->
   (∀ t,av w S μ (a.tmps.getD t undef) (dT (Oj (fun j=>an.getD j false) b 0 G) t)) ->
   wpAnyIn (FW rd) 0 P .any ops Q fuel an a w:=by
 obtain ⟨c,amu⟩:=LY (ops.toList.take L) 0 G D b htr;simp only [Nat.zero_add] at amu;have c:b.length=L:=by rw [c];simp;omega
 have tk:∀ (m:Nat) (x:Rec),b[m]?=some x->∃ o,ops.toList[m]?=some o/\Fe P nt ops.toList (nk+16 * m) (Oj (fun q=>Nat.blt q m) b 0 G) (ya (fun q=>Nat.blt q m) b 0 D) o (qi orcs m)=some x:=fun m x z=>by
  obtain ⟨o,h1,h2⟩:=amu m x z;have hm:m < L:=by rw [<- c];exact (eK.1 z).1
  rw [List.getElem?_take_of_lt hm] at h1;exact ⟨o,h1,h2⟩
 unfold U6 at Z;simp only [bd] at Z;obtain ⟨⟨Z,asX⟩,asY⟩:=Z;have rH:∀ j,j < L->xn ops.toList j=true/\∀ i,i < j->LX ops.toList b i j=true:=by
  intro j d;have:=List.all_eq_true.1 Z j (qh.2 d);simp only [bd] at this;exact ⟨this.1,fun i hi=>List.all_eq_true.1 this.2 i (qh.2 hi)⟩
 have XP:∀ j o,ops.toList[j]?=some o->∀ e∈gJ o,e < j:=by
  intro j o f e he;have d:j < ops.size:=by simpa using (eK.1 f).1
  have h1:xn ops.toList j=true:=by
   rcases Nat.lt_or_ge j L with h | h
   ·exact (rH j h).1
   ·rw [show j=L by omega];exact asX
  unfold xn at h1;rw [f] at h1;exact LW (List.all_eq_true.1 h1 e he)
 have P5:∀ i j o p x y,i < j->ops.toList[i]?=some o->ops.toList[j]?=some p->b[i]?=some x->b[j]?=some y ->
   Km x.dst y.dst=false/\(IA ops.toList o p x y=true->NJ ops.toList ops.toList.length i j=true):=by
  intro i j o p x y hij f A z u;have d:j < L:=by rw [<- c];exact (eK.1 u).1
  have h1:=(rH j d).2 i hij;unfold LX at h1;rw [f,A,z,u] at h1;simp only [bd,Bool.not_eq_true',Bool.or_eq_true] at h1;refine ⟨h1.1,fun T=>?_⟩;rcases h1.2 with h2 | h2
  ·rw [T] at h2;cases h2
  ·exact h2
 -- what is ready
 have Gf:∀ (an:Array Bool),an.size=ops.size->∀ i,i∈Region.ready .any ops an↔(i < ops.size/\an.getD i false=false/\∀ o,ops.toList[i]?=some o->∀ e∈gJ o,an.getD e false=true):=by
  intro an B i;unfold Region.ready;simp only [List.mem_filter,qh,bd,Bool.not_eq_true'];constructor
  ·rintro ⟨h1,h2,h3⟩;have hl:i < an.size:=ad;refine ⟨h1,?_,?_⟩
   ·simp only [ke,hH hl,Option.getD_some] at h2 ⊢;exact h2
   ·intro o f e he;have C:ops[i]?=some o:=by simpa using f
    simp only [C,Option.map_some,Option.getD_some,Array.all_eq_true'] at h3;simp only [gJ,List.mem_map,List.mem_filter] at he;obtain ⟨ed,⟨K,hbd⟩,rfl⟩:=he;have:=h3 ed (by simpa using K);rw [hbd] at this;simpa only [Bool.not_true,Bool.false_or] using this
  ·rintro ⟨h1,h2,h3⟩;have hl:i < an.size:=ad;refine ⟨h1,?_,?_⟩
   ·simp only [ke,hH hl,Option.getD_some] at h2 ⊢;exact h2
   ·have f:ops[i]?=some ops[i]:=hH h1;simp only [f,Option.map_some,Option.getD_some,Array.all_eq_true'];intro ed K;simp only [Bool.or_eq_true,Bool.not_eq_true'];cases hb:Region.binds .any ed with
    | false=>exact .inl rfl
    | true =>
     right;exact h3 ops[i] ao ed.on (by simp only [gJ,List.mem_map,List.mem_filter];exact ⟨ed,⟨by simpa using K,hb⟩,rfl⟩)
 intro fuel
 -- the end
 have fin:∀ (an:Array Bool) (a:Act) (w:World) (S:Nat->Prop) (μ:Mu),an.size=ops.size->a.tmps.size=nt->a.defers=ds->an.getD L false=false->(∀ j,j < L->an.getD j false=true) ->
   Good E (ya (fun j=>an.getD j false) b 0 D) S μ w->(∀ k,nk<=k->(∀ j,nk+16 * j<=k->k < nk+16 * j+16->an.getD j false=false)->μ k=none) ->
   (∀ t,av w S μ (a.tmps.getD t undef) (dT (Oj (fun j=>an.getD j false) b 0 G) t))->wpOpIn (FW rd) 0 P ops Q L (Q .normal) a w:=by
  intro an a w S μ B U Zt s H g V W;have hLL:∀ m,m < b.length->(fun j=>an.getD j false) (0+m)=true:=fun m iq=>by
   rw [Nat.zero_add];exact H m (by rw [c] at iq;exact iq)
  rw [P4 b 0 D _ hLL] at g;refine hQ a w S μ U Zt g (fun k kn=>V k ad fun j d M=>?_) (fun t=>by rw [<- UX b 0 G (fun j=>an.getD j false) hLL];exact W t);have hjL:L<=j:=ad;rcases Nat.lt_or_ge L j with h | h
  ·have:an.size<=j:=ad;simp [ke,Array.getElem?_eq_none this]
  ·rw [show j=L by omega];exact s
 have agi:∀ (an:Array Bool),an.size=ops.size->(∀ j,an.getD j false=true->∀ o,ops.toList[j]?=some o->∀ e∈gJ o,an.getD e false=true)->Region.ready .any ops an=[]->∀ j,j < ops.size->an.getD j false=true:=by
  intro an B J hr j
  induction j using Nat.strongRecOn with
  | _ j ih =>
   intro d;cases hb:an.getD j false with
   | true=>rfl
   | false =>
    have:j∈Region.ready .any ops an:=(Gf an B j).2 ⟨d,hb,fun o f e he=>ih e (XP j o f e he) (by have:=XP j o f e he;omega)⟩;rw [hr] at this;simp at this
 induction fuel with
 | zero =>
  intro an a w S μ B U Zt s J XQ g V W;exfalso;have hle:(an.toList.filter (· == true)).length=an.toList.length:=by
   have h1:=List.length_filter_le (· == true) an.toList;simp at h1 XQ ⊢;omega
  have h2:=List.length_filter_eq_length_iff.1 hle;have hl:L < an.size:=ad;have:=h2 an[L] ao;simp only [ke,hH hl,Option.getD_some] at s;rw [s] at this;simp at this
 | succ fuel ih =>
  intro an a w S μ B U Zt s J XQ g V W;simp only [wpAnyIn];refine ⟨fun hr=>absurd (agi an B J hr L ad) (by rw [s];decide),?_⟩;intro F hi0;have asZ:=(Gf an B F).1 hi0
  by_cases N:F=L
  ·subst N;have H:∀ j,j < F->an.getD j false=true:=fun j d=>by
    exact wU (L:=fun j=>an.getD j false) J _ j F (List.all_eq_true.1 asY j (qh.2 d)) (fun o' C e he=>asZ.2.2 o' C e he)
   refine wpOpIn_mono ?_ (fin an a w S μ B U Zt s H g V W);intro a' w' X;have hrn:Region.ready .any ops (an.setIfInBounds F true)=[]:=by
    cases hr:Region.ready .any ops (an.setIfInBounds F true) with
    | nil=>rfl
    | cons q r =>
     have X:=(Gf (an.setIfInBounds F true) (by simp [B]) q).1 (by rw [hr];simp);exfalso;have hqt:(an.setIfInBounds F true).getD q false=true:=by
      by_cases e:q=F
      ·subst e;simp [ke,show q < an.size by omega]
      ·simp only [ke];rw [Array.getElem?_setIfInBounds_ne (fun h=>e h.symm)];have:=H q ad;simpa only [ke] using this
     rw [hqt] at X;exact absurd X.2.1 ak
   cases fuel with
   | zero=>exact ⟨hrn,X⟩
   | succ fuel=>exact ⟨fun _=>X,fun i hi=>by rw [hrn] at hi;simp at hi⟩
  revert F;intro i hi _ N;obtain ⟨awP,Y,Lz⟩:=(Gf an B i).1 hi;have mf:i < L:=ad;have agj:i < b.length:=by rw [c];exact mf
  have z:b[i]?=some b[i]:=ub agj;obtain ⟨o,f,hev⟩:=tk i _ z;generalize b[i]=x at z hev;have hpx:bg x.SY:=by
   have:∀ (l:List Rec) (i:Nat),bg (D5 l)->l[i]?=some x->bg x.SY:=by
    intro l
    induction l with
    | nil=>intro i _ h;simp at h
    | cons y l ih =>
     intro i h hi;obtain ⟨h1,h2⟩:=bg.app h;cases i with
     | zero=>simp at hi;exact hi ▸ h1
     | succ i=>exact ih i h2 (by simpa using hi)
   exact this b i hp z
  -- an operation that meets this one is carried out just if it stands before it
  have order:∀ (j:Nat) (p:Oper) (y:Rec),j≠i->ops.toList[j]?=some p->b[j]?=some y->ZY ops.toList o p x y->Nat.blt j i=an.getD j false:=by
   intro j p y I hpj hyj T;rcases Nat.lt_or_gt_of_ne I with O | hgt
   ·rw [aci O];exact (wU (L:=fun j=>an.getD j false) J _ j i ((P5 j i p o y x O hpj f hyj z).2 T.symm.IA) (fun o' C e he=>by rw [f] at C;cases C;exact Lz o f e he)).symm
   ·rw [Fg ad];cases hb:an.getD j false with
    | false=>rfl
    | true =>
     have:=wU (L:=fun j=>an.getD j false) J _ i j ((P5 i j o p x y hgt f hpj z hyj).2 T.IA) (fun o' C e he=>J j hb o' C e he);have:an.getD i false=true:=this;rw [Y] at this;cases this
  have Kp:∀ (m:Nat) (y:Rec),b[m]?=some y->∃ p,ops.toList[m]?=some p:=fun m y u=>let ⟨p,A,_⟩:=tk m y u;⟨p,A⟩;have agk:Fe P nt ops.toList (nk+16 * i) (Oj (fun j=>an.getD j false) b 0 G) (ya (fun j=>an.getD j false) b 0 D) o (qi orcs i)=some x:=by
   refine T5 hev ?_ ?_
   ·intro t htl;refine Kn b 0 _ _ rfl ?_;intro m y u I anv;rw [Nat.zero_add] at I;obtain ⟨p,A⟩:=Kp m y u
    by_cases F2:m=i
    ·subst F2;exact I (by rw [Y,Fg ad])
    ·exact I (order m p y F2 A u (.inr (.inl ⟨t,anv,htl⟩))).symm
   ·intro k hkr;refine HT b 0 _ _ rfl ?_;intro m y u I R;rw [Nat.zero_add] at I;obtain ⟨p,A⟩:=Kp m y u
    by_cases F2:m=i
    ·subst F2;exact I (by rw [Y,Fg ad])
    ·exact I (order m p y F2 A u (.inr (.inr (.inr ⟨k,hkr,R⟩)))).symm
  have Z0:i < an.size:=ad;have xC:∀ j,(an.setIfInBounds i true).getD j false=(an.getD j false || Nat.beq j i):=by
   intro j
   by_cases Ix:j=i
   ·subst Ix;rw [uQ rfl,Bool.or_true];simp [ke,Z0]
   ·rw [rL Ix,Bool.or_false];simp only [ke];rw [Array.getElem?_setIfInBounds_ne (fun h=>Ix h.symm)]
  have agl:(fun j=>(an.setIfInBounds i true).getD j false)=fun q=>an.getD q false || Nat.beq q i:=funext xC;have TL:∀ q,q < 16->μ (nk+16 * i+q)=none:=fun q X=>V _ ad fun j d M=>by
   have Ix:j=i:=ad;rw [Ix];exact Y
  refine LS (by simpa using f) W g TL ad (hz i) agk hpx ?_;intro v w' S' ey q1 q2 q3 q4;obtain ⟨d1,d2⟩:=LU agk;refine ih _ _ w' S' ey (by simp [B]) (by rw [Gd];exact U) (by rw [xD];exact Zt) (by rw [xC,rL (fun h=>N h.symm),Bool.or_false];exact s) ?_ ?_ ?_ ?_ ?_
  ·intro j d o' C e he;rw [xC] at d ⊢;rw [Bool.or_eq_true] at d ⊢;rcases d with d | d
   ·exact .inl (J j d o' C e he)
   ·have:=bZ d;subst this;exact .inl (Lz o' C e he)
  ·have T:=count_set an.toList i (by
    rw [Array.getElem?_toList,hH Z0];simp only [ke,hH Z0,Option.getD_some] at Y;rw [Y])
   rw [Array.toList_setIfInBounds,T];omega
  ·rw [agl];refine q2.congr ?_;intro k;rw [P3 b 0 D (Nat.zero_le _) (by simpa using z) ?_,pO x.pD (ya (fun j=>an.getD j false) b 0 D)];intro m y u O hL R anz;rw [Nat.zero_add] at O hL;obtain ⟨p,A⟩:=Kp m y u;have:=order m p y ad A u (.inr (.inr (.inl ⟨k,R,.inr anz⟩)));rw [Fg ad] at this;rw [<- this] at hL;cases hL
  ·intro k kn Oh;have hki:k < nk+16 * i\/nk+16 * i+16<=k:=by
    rcases Nat.lt_or_ge k (nk+16 * i) with h1 | h1
    ·exact .inl h1
    ·rcases Nat.lt_or_ge k (nk+16 * i+16) with h2 | h2
     ·have:=Oh i h1 h2;rw [xC,uQ rfl,Bool.or_true] at this;cases this
     ·exact .inr h2
   refine q3 k hki (V k kn fun j d M=>?_);have:=Oh j d M;rw [xC,Bool.or_eq_false_iff] at this;exact this.1
  ·intro t;rw [agl,UW b 0 G (Nat.zero_le _) (by simpa using z) ?_,Kk a x.dst v t (fun n hn=>by rw [U];exact d2 n (d1 ▸ hn))]
   ·split
    ·exact q4
    ·exact (W t).ext q1
   ·intro m y u O hxd hyd;rw [Nat.zero_add] at O;obtain ⟨p,A⟩:=Kp m y u;have:=(P5 i m o p x y O f A z u).1;rw [hxd,hyd] at this;simp only [Km] at this;rw [uQ rfl] at this;cases this
theorem zM {ops:Array Oper} {an:Array Bool} (g:an.size=ops.size) (i:Nat):i∈Region.ready .any ops an↔(i < ops.size/\an.getD i false=false/\∀ o,ops.toList[i]?=some o->∀ e∈gJ o,an.getD e false=true):=by
 unfold Region.ready;simp only [List.mem_filter,qh,bd,Bool.not_eq_true'];constructor
 ·rintro ⟨h1,h2,h3⟩;have c:i < an.size:=ad;refine ⟨h1,?_,?_⟩
  ·simp_all
  ·intro o a e he;have d:ops[i]?=some o:=by simpa using a
   simp only [d,Option.map_some,Option.getD_some,Array.all_eq_true'] at h3;simp only [gJ,List.mem_map,List.mem_filter] at he;grind
 ·rintro ⟨h1,h2,h3⟩;have c:i < an.size:=ad;refine ⟨h1,?_,?_⟩
  ·simp_all
  ·have a:ops[i]?=some ops[i]:=hH h1;simp only [a,Option.map_some,Option.getD_some,Array.all_eq_true'];intro b f;simp only [Bool.or_eq_true,Bool.not_eq_true'];cases h:Region.binds .any b with
   | false=>exact .inl rfl
   | true =>
    right;exact h3 ops[i] ao b.on (by simp only [gJ,List.mem_map,List.mem_filter];grind)
inductive Ku (ops:Array Oper):Nat->Array Bool->List Nat->Prop where
 | zero {an:Array Bool}:Ku ops 0 an []
 | stop {n:Nat} {an:Array Bool}:Region.ready .any ops an=[]->Ku ops (n+1) an []
 | step {n:Nat} {an:Array Bool} {i:Nat} {l:List Nat}:i∈Region.ready .any ops an->Ku ops n (an.setIfInBounds i true) l->Ku ops (n+1) an (i :: l)
theorem anM {ops:Array Oper}:∀ (fuel t:Nat) (an:Array Bool),Ku ops fuel an (Region.linearise.go .any ops fuel t an []):=by
 intro fuel
 induction fuel with
 | zero=>intro t an;simp only [Region.linearise.go,List.reverse_nil];exact .zero
 | succ fuel b =>
  intro t an;simp only [Region.linearise.go];change Ku ops (fuel+1) an (match (Region.ready .any ops an)[t % (Region.ready .any ops an).length]? with
   | some i=>Region.linearise.go .any ops fuel (t / (Region.ready .any ops an).length) (an.setIfInBounds i true) [i]
   | none=>[].reverse)
  cases hi:(Region.ready .any ops an)[t % (Region.ready .any ops an).length]? with
  | none =>
   have a:Region.ready .any ops an=[]:=by
    cases c:Region.ready .any ops an with
    | nil=>rfl
    | cons x xs =>
     rw [c] at hi;have d:t % (x :: xs).length < (x :: xs).length:=Nat.mod_lt _ ao;simp at hi;simp at d;omega
   exact .stop a
  | some i =>
   simp only [];rw [linearise_go_acc,List.reverse_singleton,List.singleton_append];exact .step (List.mem_of_getElem? hi) (b _ _)
theorem U7 {F:Fence} {n:Nat} {ops:Array Oper} {Q:Exit->Act->World->Prop}:∀ {fuel:Nat} {an:Array Bool} {l:List Nat},Ku ops fuel an l->∀ {a:Act} {w:World},wpAnyIn F n P .any ops Q fuel an a w->wpOpsIn F n P ops Q l a w:=by
 intro fuel an l h
 induction h with
 | zero=>intro a w h;exact h.2
 | stop b=>intro a w h;exact h.1 b
 | step hi _ c=>intro a w h;rw [wpOpsIn_cons];exact wpOpIn_mono (fun a w h=>c h) (h.2 _ hi)
theorem Ku.lt {ops:Array Oper} {fuel:Nat} {an:Array Bool} {l:List Nat} (h:Ku ops fuel an l) (b:an.size=ops.size):∀ i∈l,i < ops.size:=by
 induction h with
 | zero=>intro i hi;simp at hi
 | stop _=>intro i hi;simp at hi
 | step hi _ c =>
  intro j a;rcases kY.1 a with rfl | a
  ·grind [zM]
  simp_all
def posOf:List Nat->Nat->Nat
 | [],_=>0
 | a :: r,i=>match Nat.beq a i with
  | true=>0
  | false=>posOf r i+1
def T8 (perm:List Nat) (x:Nat×Nat) (i:Nat) (o:Oper):Oper :=
 { o with after:=((match Nat.beq i x.2 with
  | true=>x.1 :: gJ o
  | false=>gJ o).map fun e=>(⟨posOf perm e,.data⟩:Edge)).toArray }
def Pc (ops:Array Oper) (perm:List Nat) (x:Nat×Nat):Array Oper:=(perm.map fun i=>T8 perm x i ((ops.toList[i]?).getD default)).toArray
def yd (ops:Array Oper) (perm:List Nat) (x:Nat×Nat):Bool :=
 Nat.beq perm.length ops.size && (List.range ops.size).all (fun i=>Nat.blt (posOf perm i) ops.size && Nat.beq (perm.getD (posOf perm i) ops.size) i && Nat.blt (perm.getD i ops.size) ops.size && Nat.beq (posOf perm (perm.getD i ops.size)) i) &&
  (ops.toList.all fun o=>o.guard.isNone && (gJ o).all fun e=>Nat.blt e ops.size) && Nat.blt x.1 ops.size
section
variable {ops:Array Oper} {perm:List Nat} {x:Nat×Nat}
theorem HZ (h:yd ops perm x=true):perm.length=ops.size/\(∀ i,i < ops.size->posOf perm i < ops.size/\perm[posOf perm i]?=some i/\∃ j,perm[i]?=some j/\j < ops.size/\posOf perm j=i) /\
  (∀ o∈ops.toList,o.guard=none/\∀ e∈gJ o,e < ops.size)/\x.1 < ops.size:=by
 unfold yd at h;simp only [bd] at h;obtain ⟨⟨⟨h1,h2⟩,h3⟩,h4⟩:=h;have h1:=bZ h1;refine ⟨h1,fun i hi=>?_,fun o a=>?_,LW h4⟩
 ·have:=List.all_eq_true.1 h2 i (qh.2 hi);simp_all
 ·have:=List.all_eq_true.1 h3 o a;simp_all
theorem NK (i:Nat) (o:Oper):gJ (T8 perm x i o)=(match Nat.beq i x.2 with
  | true=>x.1 :: gJ o
  | false=>gJ o).map (posOf perm):=by
 unfold T8;generalize (match Nat.beq i x.2 with
  | true=>x.1 :: gJ o
  | false=>gJ o)=l
 simp only [gJ]
 induction l with
 | nil=>rfl
 | cons a l b=>grind [Region.binds]
theorem U8 (h:yd ops perm x=true) {i:Nat} (hi:i < ops.size):(Pc ops perm x)[posOf perm i]?=some (T8 perm x i ops[i]):=by
 obtain ⟨h1,h2,-⟩:=HZ h;unfold Pc;rw [List.getElem?_toArray,List.getElem?_map,(h2 i hi).2.1];simp [hi]
theorem Qe (h:yd ops perm x=true):(Pc ops perm x).size=ops.size:=by
 unfold Pc;simp [(HZ h).1]
theorem Ku.move (h:yd ops perm x=true):∀ {fuel:Nat} {an f:Array Bool} {l:List Nat},Ku ops fuel an l->an.size=ops.size->f.size=ops.size->(∀ i,i < ops.size->f.getD (posOf perm i) false=an.getD i false) ->
  (∀ m u,l=m ++ x.2 :: u->x.1∈m\/an.getD x.1 false=true)->Ku (Pc ops perm x) fuel f (l.map (posOf perm)):=by
 obtain ⟨h1,h2,h3,h4⟩:=HZ h;have p:=Qe h;intro fuel an f l B
 induction B generalizing f with
 | zero=>grind [zero]
 | @stop n an H =>
  intro q a g _;refine .stop ?_;cases I:Region.ready .any (Pc ops perm x) f with
  | nil=>rfl
  | cons j r =>
   exfalso;obtain ⟨b,C,s⟩:=(zM (a.trans p.symm) j).1 (by rw [I];simp);rw [p] at b;obtain ⟨i,O,v,J⟩:=(h2 j b).2.2;have D:i∈Region.ready .any ops an:=(zM q i).2 ⟨v,by grind,fun o c e he=>by
    have w:ops[i]=o:=by
     have:ops.toList[i]?=some ops[i]:=by simp [v]
     rw [this] at c;exact Option.some.inj c
    have t:=U8 h v;rw [J] at t;have K:=(h3 o (List.mem_of_getElem? c)).2 e he;rw [<- g e K];refine s (T8 perm x i ops[i]) (by simpa using t) _ ?_;rw [NK,w];refine List.mem_map.2 ⟨e,?_,rfl⟩;cases Nat.beq i x.2
    ·exact he
    ·exact List.mem_cons_of_mem _ he⟩
   rw [H] at D;simp at D
 | @step n an i l hi B L =>
  intro q a g E;obtain ⟨b,C,s⟩:=(zM q i).1 hi;have c:ops.toList[i]?=some ops[i]:=by simp [b]
  rw [List.map_cons];refine .step ((zM (a.trans p.symm) _).2 ⟨by rw [p];exact (h2 i b).1,by rw [g i b];exact C,fun o' w P k=>?_⟩) (L (by simpa using q) (by simpa using a) ?_ ?_)
  ·have t:=U8 h b;have:(Pc ops perm x)[posOf perm i]?=some o':=by simpa using w
   rw [t] at this;cases this;rw [NK] at k;obtain ⟨e,he,rfl⟩:=List.mem_map.1 k;cases y:Nat.beq i x.2 with
   | false =>
    rw [y] at he;rw [g e ((h3 _ (List.mem_of_getElem? c)).2 e he)];exact s _ c e he
   | true =>
    rw [y] at he;rcases kY.1 he with rfl | he
    ·rw [g _ h4];rcases E [] l (by rw [<- bZ y];rfl) with d | d
     ·simp at d
     ·exact d
    ·rw [g e ((h3 _ (List.mem_of_getElem? c)).2 e he)];exact s _ c e he
  ·intro j F;have Q:=(h2 i b).1
   by_cases e:j=i
   ·subst e;simp [ke,show posOf perm j < f.size by omega,show j < an.size by omega]
   ·have M:posOf perm i≠posOf perm j:=fun he=>by
     have G:=(h2 i b).2.1;have N:=(h2 j F).2.1;rw [he,N] at G;exact e (Option.some.inj G)
    have:=g j F;simp only [ke] at this ⊢;rw [Array.getElem?_setIfInBounds_ne M,Array.getElem?_setIfInBounds_ne (fun h=>e h.symm)];exact this
  ·intro m u z;rcases E (i :: m) u (by rw [z];rfl) with d | d
   ·rcases kY.1 d with A | A
    ·right;subst A;simp [ke,show x.1 < an.size by omega]
    ·exact .inl A
   ·right
    by_cases e:x.1=i
    ·subst e;simp [ke,show x.1 < an.size by omega]
    ·simp only [ke] at d ⊢;rw [Array.getElem?_setIfInBounds_ne (fun h=>e h.symm)];exact d
theorem Qf (h:yd ops perm x=true) {F:Fence} {n:Nat} {Q:Exit->Act->World->Prop}:∀ {l:List Nat},(∀ i∈l,i < ops.size)->∀ {a:Act} {w:World},wpOpsIn F n P (Pc ops perm x) Q (l.map (posOf perm)) a w->wpOpsIn F n P ops Q l a w
 | [],_,a,w,hw=>hw
 | i :: l,e,a,w,hw=>by
  rw [List.map_cons,wpOpsIn_cons] at hw;rw [wpOpsIn_cons];have hi:=e i ao;unfold wpOpIn at hw ⊢;rw [U8 h hi] at hw;rw [hH hi];have b:=((HZ h).2.2.1 ops[i] ao).1;generalize ops[i]=o at hw b;obtain ⟨d,op,ty,pos,c,guard⟩:=o;simp only at b;subst b;simp only [T8,Region.wanted,if_true] at hw ⊢;exact Oper.wpIn_mono (fun a w hw=>Qf h (fun j f=>e j (List.mem_cons_of_mem _ f)) hw) hw
theorem Qg (p q:Nat):∀ l:List Nat,(∀ c d,l=c ++ q :: d->p∈c)\/(∀ c d,l=c ++ p :: d->q∈c)\/p=q
 | []=>.inl fun c d h=>by simp at h
 | a :: l=>by
  by_cases e:p=q
  ·exact .inr (.inr e)
  ·by_cases h1:a=p
   ·subst h1;refine .inl fun c d h=>?_;cases c with
    | nil=>simp_all
    | cons b c=>simp_all
   ·by_cases h2:a=q
    ·subst h2;refine .inr (.inl fun c d h=>?_);cases c with
     | nil=>simp_all
     | cons b c=>simp_all
    ·rcases Qg p q l with h | h | h
     ·refine .inl fun c d f=>?_;cases c with
      | nil=>simp_all
      | cons b c=>simp_all
     ·refine .inr (.inl fun c d f=>?_);cases c with
      | nil=>rw [List.nil_append] at f;exact absurd (List.cons.inj f).1 h1
      | cons b c=>rw [List.cons_append] at f;exact List.mem_cons_of_mem _ (h c d (List.cons.inj f).2)
     ·exact absurd h e
theorem agA {F:Fence} {n id p q:Nat} {permA permB:List Nat} (s:p≠q) (c:yd ops permA (p,q)=true) (d:yd ops permB (q,p)=true) (hm:P.follows .mixedOrders=true) {Q:Exit->Act->World->Prop} {a:Act} {w:World}
  (l:wpAnyIn F n P .any (Pc ops permA (p,q)) Q (Pc ops permA (p,q)).size (Array.replicate (Pc ops permA (p,q)).size false) a { w with drawn:=w.drawn+1 })
  (o:wpAnyIn F n P .any (Pc ops permB (q,p)) Q (Pc ops permB (q,p)).size (Array.replicate (Pc ops permB (q,p)).size false) a { w with drawn:=w.drawn+1 }):(Code.region id ops true).wpIn F n P Q a w:=by
 refine wpIn_region_draw fun t=>?_;simp only [Region.schedule,hm,Bool.true_or,if_true];have f:Ku ops ops.size (Array.replicate ops.size false) (Region.linearise .any ops t):=anM _ _ _;have r:=f.lt ao;have b:∀ (m j:Nat),(Array.replicate m false).getD j false=false:=by
  intro m j;simp only [ke,Array.getElem?_replicate];split<;>rfl
 rw [Qe c] at l;rw [Qe d] at o;rcases Qg p q (Region.linearise .any ops t) with h | h | h
 ·exact Qf c r (U7 (f.move c ao ao (fun i hi=>by rw [b,b]) fun g k e=>.inl (h g k e)) l)
 ·exact Qf d r (U7 (f.move d ao ao (fun i hi=>by rw [b,b]) fun g k e=>.inl (h g k e)) o)
 ·exact absurd h s
end
end
section
variable {P:Program} {E E0:Env} {fn:FuncId} {nt m:Nat} {k:List Item} {st:St} {fo:fe} {res:AV}
theorem U9 {E:Env} {id:Nat} {ops:Array Oper} {d:Nat} {x:AV} {ty:TypeId} {pos:String} {b:Array Edge} {op:Op} (o:ops[0]?=some ⟨some d,op,ty,pos,b,none⟩) (H:d < nt)
  {tm:Array Value} {w W:World} {v:Value} (s:tm.size=nt) (h:∀ c,op≠.defer c) (u:(execOp (⟨tm,[]⟩:Act).eval ⟨some d,op,ty,pos,b,none⟩).run P w=.ok (.value v) W)
  (hm:E.m0<=st.nk) {S:Nat->Prop} {μ:Mu} (g:Good E st.mg S μ W) (z:∀ k,st.nk<=k->μ k=none) (I:∀ t,av W S μ (tm.getD t undef) (dT st.tm t)) (J:av W S μ v x)
  {ps:List Prop} {p:St} (he:yc P nt ops.toList [] d x st=some (ps,p)) (A:bg ps) :
  (Code.region id ops false).wp P (fun e a w'=>e=.normal/\a.tmps.size=nt/\a.defers=[]/\SZ E p a.tmps w') ⟨tm,[]⟩ w:=by
 unfold yc at he;simp only [a4,aQ] at he;obtain ⟨j,l,rfl,rfl⟩:=he;refine (wpIn_wide (n:=0)).1 ?_;refine wpIn_region ?_;have q:0 < ops.size:=by
  have:=(Array.getElem?_eq_some_iff.1 o).1;exact this
 rw [List.range_eq_range',show ops.size=(ops.size - 1)+1 by omega,List.range'_succ,wpOpsIn_cons];unfold wpOpIn;rw [o];simp only [Region.wanted,if_true];refine ⟨fun _ _=>trivial,?_⟩;rw [Oper.semAt_eq _ _ _ h,u];show wpOpsIn _ _ _ _ _ _ (Act.put ⟨tm,[]⟩ (some d) v) W;have f:(ops.toList.drop 1).length=ops.size - 1:=ao;have:=LV (P:=P) (E:=E) (Q:=fun e a w'=>e=.normal/\a.tmps.size=nt/\a.defers=[]/\SZ E ⟨CI j (Ff st.tm (some d) x),wT j st.mg,st.nk+16 * ops.toList.length⟩ a.tmps w') (rd:=none) (ds:=[]) (nt:=nt) (nk:=st.nk) (ops:=ops) (orcs:=[])
  (fun i=>⟨fun x m=>by simp [qi] at m,fun x y m=>by simp [qi] at m⟩) hm (ops.toList.drop 1) 1 (Act.put ⟨tm,[]⟩ (some d) v) W (Ff st.tm (some d) x) st.mg S μ j rfl (by rw [f];omega) (by rw [Gd];exact s) (by rw [xD]) g
  (fun k r=>z k ad) (fun t=>by
   grind [Kk,sP]) l A (fun K w' S' ey B C D F G=>⟨rfl,B,C,S',ey,D,fun k r=>F k (by simpa using r),by grind,G⟩)
 rw [f] at this;exact this
theorem ar.aad {c:Code} {tm:Array Value} {w:World} {g:St} {h:Value->World->Prop} (f:c.wp P (fun e a w'=>e=.normal/\a.tmps.size=nt/\a.defers=[]/\SZ E g a.tmps w') ⟨tm,[]⟩ w)
  (j:ar P E fn nt h k g) (b:Frame) (l:b.fn=fn) (m:b.kind=.normal) (cs:List Frame) :
  ∃ v w' fr,h v w'/\Steps P (lone (b.at ⟨tm,[]⟩ (.code c :: k)) cs w) (lone fr cs w')/\fr.fn=fn/\fr.leaving P w' (.returned v):=by
 obtain ⟨e,d,w',⟨rfl,n,i,o⟩,p⟩:=f b k cs;have q:d=⟨d.tmps,[]⟩:=by cases d;simp at i;simp [i]
 obtain ⟨v,r,fr,s,t,u,x⟩:=j d.tmps w' n o b l m cs;refine ⟨v,r,fr,s,Steps.trans p ?_,u,x⟩;rw [q];exact t
theorem ar.next (hE:aG E m) (td:m≠0) {I:Nat} {rem:List (α×β)} {cur:Option (α×β)} (n:Pb E0 E I cK cV cur rem) {c:Code} {d X:Nat} (f:HY nt d X c=true) (hti:dT st.tm X=.atom (.pointer (some ⟨I,0,none⟩)))
  {p0:List Prop} {s0:St} (F:yc P nt (opsOf c) [] d (.tup [.atom (.bool false)]) st=some (p0,s0)) (hp0:bg p0)
  (Om:rem=[]->ar P E fn nt (aH E fo res) k s0)
  (step:∀ (x:α×β) (G H:List (α×β)),rem=G ++ x :: H->∃ s1,yc P nt (opsOf c) [] d (.tup [.atom (.bool true),cK x.1,cV x.2]) st=some ([],s1)/\∀ E1,aG E1 m->Pb E0 E1 I cK cV (some x) (G ++ H)->ar P E1 fn nt (aH E0 fo res) k s1) :
  ar P E fn nt (aH E0 fo res) (.code c :: k) st:=by
 obtain ⟨id,ops,ty,pos,after,rfl,h0,hd⟩:=aac f;simp only [opsOf] at F step;intro tm w hs hr b tB pY cs;obtain ⟨S,μ,g,hk,hm,Y⟩:=hr;obtain ⟨M,since,seen,last,es,clock,p,Z,u,s,hsl,J,K,y,aqf⟩:=n.ex;have L:w.heap[I]?=some (.mapIter (some M) since seen last):=(g.fr.df I (ft p) n.fi).trans p;have N:w.heap[M]?=some (.map es clock):=(g.fr.df M (ft Z) u).trans Z;have q:=Y X;rw [hti] at q;have q:=eH q;have O:∀ o:Oper,o.op=.next (.tmp X) false->(execOp (⟨tm,[]⟩:Act).eval o).run P w=((Instr.next (.pointer (some ⟨I,0,none⟩)) false o.type).run P w).andThen fun v w'=>.ok (.value v) w':=fun o ho=>by
  obtain ⟨d1,op1,ty1,p1,a1,z⟩:=o;subst ho;simp only [execOp,Act.eval,q,cb];rfl
 have awR:∀ b,S b\/True->True:=fun _ _=>trivial;rcases run_next_at (P:=P) w ty I M since last seen es clock L N s hsl with ⟨hz,me⟩ | ⟨e,he,w1,r,me⟩
 ·have anN:(leftOf es seen).toList=[]:=by
   have:(leftOf es seen).toList.length=0:=by simpa using hz
   exact List.length_eq_zero_iff.1 this
  rw [anN] at y;have A:=y.empty;refine ar.aad (U9 h0 hd hs (fun c=>ao) (by rw [O _ rfl,me];rfl) hm g hk Y ?_ F hp0) ((Om A).mono ?_) b tB pY cs
  ·refine .tup rfl fun j c v f i=>?_;cases j with
   | zero=>simp at f i;subst f i;exact .atom _
   | succ j=>simp at f
  ·rintro v w' ⟨S',ey,g',i⟩;exact ⟨S',ey,n.back _ _ _ _ g',i⟩
 ·have l:w1.heap[I]?=some (.mapIter (some M) since seen last):=by rcases r with rfl | rfl<;>exact L
  have B:w1.heap[M]?=some (.map es clock):=by rcases r with rfl | rfl<;>exact N
  have z:Good E st.mg S μ w1:=by rcases r with rfl | rfl;exact g;exact g.drew
  have ht1:∀ t,av w1 S μ (tm.getD t undef) (dT st.tm t):=by
   rcases r with rfl | rfl
   ·exact Y
   ·exact fun t=>(Y t).ext (Ext.drew w S μ)
  have hMI:M≠I:=by rintro rfl;rw [l] at B;cases B
  obtain ⟨W,D⟩:∃ W,W=w1.putObj I (.mapIter (some M) since (seen.push e.born) clock):=⟨_,rfl⟩;have hWs:ChangeMaps.setBlock w1 I (.mapIter (some M) since (seen.push e.born) clock)=W:=by rw [D];rfl
  rw [hWs] at me;have C:∀ a,W.cell? a=w1.cell? a:=by rw [D];exact Gj l rfl rfl
  have Q:W.heap[I]?=some (.mapIter (some M) since (seen.push e.born) clock):=by rw [D];exact World.putObj_heap_same (ft l)
  have hWM:W.heap[M]?=some (.map es clock):=by rw [D,World.putObj_heap_other hMI];exact B
  have R:Good (Kt W S st.mg μ m) st.mg S μ W:=by rw [D];exact z.asO l rfl rfl m
  have g0:Good E0 st.mg S μ W:=by rw [D];exact (n.back _ _ _ _ z).put l rfl rfl (.inl n.new)
  obtain ⟨e1,e2,hl⟩:=List.append_of_mem he;have T:xK w1 S cK cV (leftOf es seen).toList rem:=y.mono z.S0 fun b p=>z.fr.df b (n.stl b p) (n.st b p);rw [hl] at T;obtain ⟨G,x,H,A,U,V,hx3⟩:=T.split;obtain ⟨s1,O6,hgo⟩:=step x G H A;have hS:∀ b,S b->¬ ZG W st.mg μ b:=by
   rintro b p (⟨k',o',lL,rN,iq,oH,rfl⟩ | ⟨k',i',x',v',xz,zG⟩)
   ·obtain ⟨x7,c2,T2,HD,Of⟩:=R.rep.ob k' o' rN;rw [iq] at HD;cases HD;exact Of.out oH p
   ·exact (R.mx.df xz zG).2.1 p
  have hIt:Pb E0 (Kt W S st.mg μ m) I cK cV (some x) (G ++ H):=by
   refine ⟨fun σ S' ey w' h=>g0.Z9 (by have:=n.m0;rw [hE.m0] at this;exact this) h,by have:=n.m0;rw [hE.m0] at this;exact this,n.new,hS,fun b p=>R.S1 b p,R.acs Q rfl,M,since,seen.push e.born,clock,es,clock,Q,hWM,?_,s,J,J,K,?_,?_⟩
   ·rintro (⟨k',o',lL,rN,iq,oH,he'⟩ | ⟨k',i',x',v',⟨o',lL,q1,q2,q3,q4⟩,zG⟩)
    ·rcases z.own k' o' lL rN iq oH with h1 | h1
     ·exact u (he' ▸ h1)
     ·have:=ft Z;omega
    ·rcases (z.mx.df ⟨o',lL,q1,q2,q3,by rw [<- C];exact q4⟩ zG).2.2.1 with h1 | h1
     ·exact u h1
     ·have:=ft Z;omega
   ·rw [aee K hl];exact hx3.same (fun _ h=>h) C
   ·rintro _ ⟨⟩;exact ⟨e,seen,(mem_left he).1,rfl,rfl,U.jR (fun _ h=>h) C,V.jR (fun _ h=>h) C⟩
  refine ar.aad (E:=Kt W S st.mg μ m) (U9 h0 hd hs (fun c=>ao) (by rw [O _ rfl,me];rfl) (by show m<=st.nk;rw [<- hE.m0];exact hm) R hk (fun t=>(ht1 t).jR (fun _ h=>h) C) ?_ O6 trivial) (hgo _ ⟨rfl,fun h=>absurd h td⟩ hIt) b tB pY cs;refine .tup rfl fun j c v f i=>?_
  match j,f,i with
  | 0,f,i=>simp at f i;subst f i;exact .atom _
  | 1,f,i=>simp at f i;subst f i;exact ((U.jR (fun _ h=>h) C).mono (fun _ h=>h) (fun _ _=>rfl) (fun k pl h=>by cases h))
  | 2,f,i=>simp at f i;subst f i;exact ((V.jR (fun _ h=>h) C).mono (fun _ h=>h) (fun _ _=>rfl) (fun k pl h=>by cases h))
  | j+3,f,i=>simp at f
def Kv (nt d a:Nat) (c:Code):Bool:=match c with
 | .region _ ops false=>match ops.toList with
  | ⟨some b,.entry (.tmp t'),_,_,_,none⟩ :: _=>Nat.beq d b && Nat.beq a t' && Nat.blt d nt
  | _=>false
 | _=>false
theorem XW {nt d b:Nat} {c:Code} (h:Kv nt d b c=true):∃ id ops ty pos a,c=.region id ops false/\ops[0]?=some ⟨some d,.entry (.tmp b),ty,pos,a,none⟩/\d < nt:=by
 unfold Kv at h;split at h
 ·rename_i id ops;split at h
  ·rename_i f t' ty pos a rest e;simp only [bd] at h;obtain ⟨⟨h1,h2⟩,h3⟩:=h;rw [bZ h1,bZ h2];refine ⟨id,ops,ty,pos,a,rfl,?_,?_⟩
   ·rw [<- Array.getElem?_toList,e];rfl
   simp_all
  ·cases h
 ·cases h
theorem ar.entry {I:Nat} {rem:List (α×β)} {x:α×β} (n:Pb E0 E I cK cV (some x) rem) {c:Code} {d p:Nat} (a:Kv nt d p c=true) (q:dT st.tm p=.atom (.pointer (some ⟨I,0,none⟩))) {F:Value->World->Prop}
  {G:List Prop} {H:St} (he:yc P nt (opsOf c) [] d (.tup [cK x.1,cV x.2]) st=some (G,H)) (N:bg G) (O:ar P E fn nt F k H):ar P E fn nt F (.code c :: k) st:=by
 obtain ⟨id,ops,ty,pos,r,rfl,Q,R⟩:=XW a;simp only [opsOf] at he;intro tm w T U b V W cs;obtain ⟨S,μ,g,X,hm,J⟩:=U;obtain ⟨M,since,seen,last,es,clock,l,K,s,L,Y,Z,t,acw,u⟩:=n.ex;obtain ⟨e,acu,y,rfl,rfl,z,A⟩:=u x rfl;have B:w.heap[I]?=some (.mapIter (some M) since (acu.push e.born) last):=(g.fr.df I (ft l) n.fi).trans l;have C:w.heap[M]?=some (.map es last):=(g.fr.df M (ft K) s).trans K;have i:=J p;rw [q] at i;have i:=eH i;have D:∀ o:Oper,o.op=.entry (.tmp p)->(execOp (⟨tm,[]⟩:Act).eval o).run P w=((Instr.entry (.pointer (some ⟨I,0,none⟩))).run P w).andThen fun v w'=>.ok (.value v) w':=fun o ho=>by
  simp_all [execOp,Act.eval,cb]
 have me:=run_entry_at (P:=P) w I M since acu es last e B C y t;have m:∀ b,E.S0 b->w.heap[b]?=E.w0.heap[b]?:=fun b l=>g.fr.df b (n.stl b l) (n.st b l);refine ar.aad (U9 Q R T (fun c=>ao) (by rw [D _ rfl,me];rfl) hm g X J ?_ he N) O b V W cs;refine .tup rfl fun j c v a f=>?_
 match j,a,f with
 | 0,a,f=>simp at a f;subst a f;exact z.mono g.S0 m (fun k pl h=>by cases h)
 | 1,a,f=>simp at a f;subst a f;exact A.mono g.S0 m (fun k pl h=>by cases h)
 | j+2,a,f=>simp at a
def rangeAt (T:TypeId) (d a:Nat):Option Oper->Bool
 | some ⟨some b,.range c (.tmp t'),_,_,_,none⟩=>Nat.beq d b && Nat.beq a t' && Nat.beq T c
 | _=>false
def Gk (P:Program) (nt:Nat) (ops:Array Oper) (orcs:List (Nat×qE)) (T:TypeId) (d b:Nat) (st:St):Option (List Prop×St) :=
 match ug P nt ops.toList st.nk orcs (ops.toList.take (ops.size - 1)) 0 st.tm st.mg with
 | some a=>match U6 ops.toList a (ops.size - 1) && rangeAt T d b (ops.toList[ops.size - 1]?) && Nat.blt d nt with
  | true=>some (D5 a,⟨CI a st.tm,wT a st.mg,st.nk+16 * ops.size⟩)
  | false=>none
 | none=>none
def acx (s:St) (b a:Nat) (l:List AV):Prop:=dT s.tm b=.mp a/\∃ o,ay s.mg a=some o/\o.sz=0/\o.get 0=l
theorem XX (a:α->AV) (b:β->AV):∀ l:List (α×β),(CJ a b l).length=2 * l.length
 | []=>rfl
 | _ :: r=>by simp only [CJ,xm,XX a b r];omega
theorem XY (a:α->AV) (b:β->AV):∀ (l:List (α×β)) (j:Nat) (x:α×β),l[j]?=some x->(CJ a b l)[2 * j]?=some (a x.1)/\(CJ a b l)[2 * j+1]?=some (b x.2)
 | [],j,x,h=>by simp at h
 | p :: r,0,x,h=>by simp at h;subst h;exact ⟨rfl,rfl⟩
 | p :: r,j+1,x,h=>by
  have:=XY a b r j x (by simpa using h);rw [show 2 * (j+1)=2 * j+1+1 by omega];simpa only [CJ,J9] using this
theorem acy {w:World} {S:Nat->Prop} {c:Array Value}:∀ (xs:List (α×β)) (i:Nat),(∀ j x,xs[j]?=some x->av w S kf (c[2 * (i+j)]?.getD undef) (cK x.1)/\av w S kf (c[2 * (i+j)+1]?.getD undef) (cV x.2)) ->
  xK w S cK cV ((List.range' i xs.length).map fun i=>(⟨c[2 * i]?.getD undef,c[2 * i+1]?.getD undef,i⟩:MapEntry)) xs
 | [],i,_=>.nil
 | x :: xs,i,h=>by
  rw [xm,List.range'_succ,List.map_cons];have a:=h 0 x rfl;rw [Nat.add_zero] at a;refine .cons a.1 a.2 (acy xs (i+1) fun j y b=>?_);have:=h (j+1) y (by simpa using b);grind
theorem anR {ops:Array Oper} {orcs:List (Nat×qE)} {T:TypeId} {d a:Nat} {ps:List Prop} {s:St} (h:Gk P nt ops orcs T d a st=some (ps,s)):st.nk<=s.nk:=by
 unfold Gk at h;split at h
 ·split at h
  ·cases h;exact Nat.le_add_right _ _
  ·cases h
 ·cases h
theorem L3 (hE:aG E m) {m1:Nat} (td:m1≠0) (F:m<=m1) {ops:Array Oper} {orcs:List (Nat×qE)} {T kt vt:TypeId} {d q z:Nat} {ps:List Prop} {C:St} (he:Gk P nt ops orcs T d q st=some (ps,C)) (hp:bg ps) (Y:(vJ orcs && noY orcs)=true)
  (hT:P.underlying T=some (.map kt vt)) {rem:List (α×β)} (Z:acx C q z (CJ cK cV rem)) (hnk:m1<=C.nk) {Q:Exit->Act->World->Prop}
  (hQ:∀ a w',(a.tmps.size=nt/\a.defers=[]/\∃ E1 I,aG E1 m1/\Pb E E1 I cK cV none rem/\SZ E1 ⟨(d,.atom (.pointer (some ⟨I,0,none⟩))) :: C.tm,wE C.mg z,C.nk⟩ a.tmps w')->Q .normal a w')
  {tm:Array Value} {w:World} (hs:tm.size=nt) (hrp:SZ E st tm w):wpAnyIn (FW none) 0 P .any ops Q ops.size (Array.replicate ops.size false) ⟨tm,[]⟩ w:=by
 obtain ⟨ZC,hn2⟩:=Be.1 Y;unfold Gk at he;split at he
 case h_2=>cases he
 rename_i R htr;split at he
 case h_2=>cases he
 rename_i G;simp only [aX,aQ] at he;obtain ⟨rfl,rfl⟩:=he;simp only [bd] at G;obtain ⟨⟨hdr,l⟩,A⟩:=G;have A:=LW A;obtain ⟨ty,pos,e,aqk,aef⟩:∃ ty pos e,ops[ops.size - 1]?=some ⟨some d,.range T (.tmp q),ty,pos,e,none⟩/\0 < ops.size:=by
  unfold rangeAt at l;split at l
  ·rename_i d' T' t' ty pos e U;simp only [bd] at l;obtain ⟨⟨h1,h2⟩,h3⟩:=l;rw [bZ h1,bZ h2,bZ h3];have U:ops[ops.size - 1]?=some ⟨some d',.range T' (.tmp t'),ty,pos,e,none⟩:=by rw [<- Array.getElem?_toList];exact U
   refine ⟨ty,pos,e,U,?_⟩;have:=(Array.getElem?_eq_some_iff.1 U).1;omega
  ·cases l
 obtain ⟨hmt,o,B,rK,tk⟩:=Z;obtain ⟨S,μ,g,hk,hm,ht⟩:=hrp;have hz:∀ i,PX P E (qi orcs i):=fun i=>⟨fun x p hf=>(L1 ZC i x p hf).elim,fun x y p hxy=>U0 (Qa hn2) i x y p hxy⟩;have r:∀ (n j:Nat),(Array.replicate n false).getD j false=false:=by
  intro n j;simp only [ke,Array.getElem?_replicate];split<;>rfl
 refine agz (L:=ops.size - 1) (rd:=none) (ds:=[]) (nt:=nt) hz hm ad htr hp hdr ?_ ops.size _ ⟨tm,[]⟩ _ S μ ao hs rfl (r _ _) ?_ ?_ ?_ ?_ ?_
 rotate_left
 ·intro j hj;rw [r] at hj;cases hj
 ·omega
 ·rw [HU R 0 st.mg _ (fun m _=>r _ _)];exact g
 ·intro k' kn _;exact hk k' kn
 ·intro t;rw [Ko R 0 st.tm _ (fun m _=>r _ _)];exact ht t
 intro H w' S' ey q1 q2 g1 hk1 J;obtain ⟨pl,f,TT,Zq,dr⟩:=g1.rep.ob z o B;obtain ⟨yT,hev,K,Xt,Fz⟩:=dr.mp rK;have hM:w'.heap[pl.df]?=some (.map (gH f) (f.size / 2)):=by rw [dr.df yT,DS rK]
 have x5:=J q;rw [hmt] at x5;obtain ⟨Qh,awY⟩:H.tmps.getD q undef=.map (some pl.df)/\True:=by
  generalize H.tmps.getD q undef=v at x5;cases x5 with
  | mp lL h=>rw [Zq] at h;cases h;exact ⟨rfl,trivial⟩
 have me:=run_range_map (P:=P) w' T kt vt pl.df (gH f) (f.size / 2) hT hM;unfold wpOpIn;rw [aqk];simp only [Region.wanted,if_true];refine ⟨fun _ _=>trivial,?_⟩;rw [Oper.semAt_eq _ _ _ (fun c=>ao)];have aql:(execOp H.eval ⟨some d,.range T (.tmp q),ty,pos,e,none⟩).run P w'=.ok (.value (.pointer (some ⟨w'.heap.size,0,none⟩))) (w'.alloc (.mapIter (some pl.df) (f.size / 2) #[] (f.size / 2))):=by
  have:execOp H.eval ⟨some d,.range T (.tmp q),ty,pos,e,none⟩=(do let v <- Instr.range T (H.tmps.getD q undef);pure (.value v):Sem Next):=rfl;rw [this,Qh];simp only [cb,me,eM,Sem.run_pure]
 rw [aql];refine hQ _ _ ?_;obtain ⟨ex,M⟩:=g1.aux (.mapIter (some pl.df) (f.size / 2) #[] (f.size / 2)) rfl;obtain ⟨W,V⟩:∃ W,W=w'.alloc (.mapIter (some pl.df) (f.size / 2) #[] (f.size / 2)):=⟨_,rfl⟩;obtain ⟨S2,hS2⟩:∃ S2:Nat->Prop,S2=fun b=>S' b\/b=w'.heap.size:=⟨_,rfl⟩;rw [<- V,<- hS2] at ex M;rw [<- V];have N:W.heap[w'.heap.size]?=some (.mapIter (some pl.df) (f.size / 2) #[] (f.size / 2)):=by rw [V];exact World.alloc_heap_new w' _
 have hWM:W.heap[pl.df]?=some (.map (gH f) (f.size / 2)):=by rw [V];exact (gI (ft hM)).trans hM
 have O:=(M.del z).base m1;have as4:∀ k,st.nk+16 * ops.size<=k->ey k=none:=fun k kn=>hk1 k ad;refine ⟨by rw [Gd];exact q1,by rw [xD];exact q2,Kt W S2 (wE (wT R st.mg) z) ey m1,w'.heap.size,⟨rfl,fun h=>absurd h td⟩,?_,S2,ey,O,as4,hnk,?_⟩
 ·have h2:f.size=2 * rem.length:=by rw [K,tk,XX]
  refine ⟨fun σ S μ w h=>(M.del z).Z9 (by rw [hE.m0];exact F) h,by rw [hE.m0];exact F,g1.fr.size,?_,fun b X=>O.S1 b X,O.acs N rfl,pl.df,f.size / 2,#[],f.size / 2,gH f,f.size / 2,N,hWM,?_,?_,aV _,aV _,?_,?_,fun x p=>by cases p⟩
  ·rintro b X (⟨k',o',lL,D,iq,oH,rfl⟩ | ⟨k',i',x',v',xz,zG⟩)
   ·obtain ⟨x7,c2,T2,HD,Of⟩:=O.rep.ob k' o' D;rw [iq] at HD;cases HD;exact Of.out oH X
   ·exact (O.mx.df xz zG).2.1 X
  ·rintro (⟨k',o',lL,D,iq,oH,he'⟩ | ⟨k',i',x',v',⟨o',lL,s,q2',q3',q4'⟩,zG⟩)
   ·rw [iE] at D;split at D
    ·cases D
    ·rename_i gU;exact M.rep.ne z k' o o' pl lL gU B D Zq iq yT oH he'.symm
   ·rw [iE] at s;split at s
    ·cases s
    ·exact M.mx.obj k' i' x' v' pl.df ⟨o',lL,s,q2',q3',q4'⟩ zG z o pl B Zq yT rfl
  ·intro x p;simp only [gH,Array.toList_map,Array.toList_range,List.mem_map,qh] at p;obtain ⟨i,hi,rfl⟩:=p;exact hi
  ·simp only [gH,Array.toList_map,Array.toList_range,List.map_map,Function.comp_def,List.map_id'];exact List.nodup_range
  ·have hle:(leftOf (gH f) #[]).toList=(gH f).toList:=by
    unfold leftOf;rw [Array.toList_filter];exact List.filter_eq_self.2 fun x _=>ao
   rw [hle];have e1:(gH f).toList=(List.range' 0 rem.length).map fun i=>(⟨f[2 * i]?.getD undef,f[2 * i+1]?.getD undef,i⟩:MapEntry):=by
    simp only [gH,Array.toList_map,Array.toList_range,List.range_eq_range'];rw [show f.size / 2=rem.length by omega]
   rw [e1];refine acy rem 0 fun j x p=>?_;rw [Nat.zero_add];obtain ⟨c1,c2⟩:=XY cK cV rem j x p;have hj:j < rem.length:=(eK.1 p).1;rw [<- tk] at c1 c2;have v1:f[2 * j]?=some f[2 * j]:=hH ad;have v2:f[2 * j+1]?=some f[2 * j+1]:=hH ad;refine ⟨?_,?_⟩
   ·rw [v1];exact (Fz _ _ _ c1 v1).mono ex.Py ex.df (fun k pl h=>by cases h)
   ·rw [v2];exact (Fz _ _ _ c2 v2).mono ex.Py ex.df (fun k pl h=>by cases h)
 ·intro t;rw [Kk _ _ _ _ (fun n Y=>by cases Y;rw [q1];exact A)];show av W S2 ey _ (dT ((d,_) :: CI R st.tm) t);simp only [dT]
  by_cases u:d=t
  ·rw [uQ u,if_pos (by rw [u])];exact .atom _
  ·rw [rL u,if_neg (by simpa using u)];exact (J t).ext ex
theorem ar.anS (B:aG E m) (td:m≠0) {c:Code} {p q:Nat} {permA permB:List Nat} (A:(match c with
  | .region _ ops true=>!Nat.beq p q && yd ops permA (p,q) && yd ops permB (q,p)
  | _=>false)=true) (C:P.follows .mixedOrders=true) {D F:List (Nat×qE)} {T kt vt:TypeId} {d x G H:Nat} {pA pB:List Prop} {sA sB:St}
  (J:Gk P nt (Pc (opsOf c).toArray permA (p,q)) D T d x st=some (pA,sA)) (K:Gk P nt (Pc (opsOf c).toArray permB (q,p)) F T d x st=some (pB,sB)) (L:bg pA) (M:bg pB) (N:(vJ D && noY D)=true) (O:(vJ F && noY F)=true)
  (hT:P.underlying T=some (.map kt vt)) {j l:List (α×β)} (R:acx sA x G (CJ cK cV j)) (U:acx sB x H (CJ cK cV l))
  (V:∀ f I,aG f m->Pb E f I cK cV none j->ar P f fn nt (aH E fo res) k ⟨(d,.atom (.pointer (some ⟨I,0,none⟩))) :: sA.tm,wE sA.mg G,sA.nk⟩)
  (W:∀ f I,aG f m->Pb E f I cK cV none l->ar P f fn nt (aH E fo res) k ⟨(d,.atom (.pointer (some ⟨I,0,none⟩))) :: sB.tm,wE sB.mg H,sB.nk⟩) :
  ar P E fn nt (aH E fo res) (.code c :: k) st:=by
 split at A
 case h_2=>cases A
 rename_i id ops;simp only [bd,Bool.not_eq_true'] at A;obtain ⟨⟨ZK,X⟩,Y⟩:=A;have ZK:p≠q:=fun h=>by simp_all
 simp only [opsOf,Array.toArray_toList] at J K;intro tm w hs i b tB pY cs
 let Q:Exit->Act->World->Prop:=fun e a w'=>e=.normal/\a.tmps.size=nt/\a.defers=[] /\
  ((∃ f I,aG f m/\Pb E f I cK cV none j/\SZ f ⟨(d,.atom (.pointer (some ⟨I,0,none⟩))) :: sA.tm,wE sA.mg G,sA.nk⟩ a.tmps w')\/∃ f I,aG f m/\Pb E f I cK cV none l/\SZ f ⟨(d,.atom (.pointer (some ⟨I,0,none⟩))) :: sB.tm,wE sB.mg H,sB.nk⟩ a.tmps w')
 have y:∀ {ops bC p s},Gk P nt ops bC T d x st=some (p,s)->m<=s.nk:=fun {ops bC p s} h=>by
  obtain ⟨S,μ,g,hk,hm,ht⟩:=i;have:=anR h;rw [<- B.m0];omega
 have i:SZ E st tm { w with drawn:=w.drawn+1 }:=by
  obtain ⟨S,μ,g,hk,hm,ht⟩:=i;exact ⟨S,μ,g.drew,hk,hm,fun t=>(ht t).ext (Ext.drew w S μ)⟩
 have Z:(Code.region id ops true).wp P Q ⟨tm,[]⟩ w:=(wpIn_wide (n:=0)).1 (agA ZK X Y C
  (L3 B td (aV _) J L N hT R (y J) (fun a w' ⟨h1,h2,h3⟩=>⟨rfl,h1,h2,.inl h3⟩) hs i) (L3 B td (aV _) K M O hT U (y K) (fun a w' ⟨h1,h2,h3⟩=>⟨rfl,h1,h2,.inr h3⟩) hs i))
 obtain ⟨e,u,w',⟨rfl,q1,q2,h3⟩,U1⟩:=Z b k cs;have ha:u=⟨u.tmps,[]⟩:=by cases u;simp at q2;simp [q2]
 have go:∃ v z fr,aH E fo res v z/\Steps P (lone (b.at ⟨u.tmps,[]⟩ k) cs w') (lone fr cs z)/\fr.fn=fn/\fr.leaving P z (.returned v):=by
  rcases h3 with ⟨f,I,o,r,q3⟩ | ⟨f,I,o,r,q3⟩
  ·exact V f I o r u.tmps w' q1 q3 b tB pY cs
  ·exact W f I o r u.tmps w' q1 q3 b tB pY cs
 obtain ⟨v,z,fr,r1,r2,r3,r4⟩:=go;refine ⟨v,z,fr,r1,Steps.trans U1 ?_,r3,r4⟩;rw [ha];exact r2
noncomputable def ye {a b:Type} (rem:List a) (z:Option b) (f:a->List a->Option b):Option b:=open Classical in
 if rem=[] then z else if h:∃ r,∀ c x d,rem=c ++ x :: d->f x (c ++ d)=some r then some h.choose else none
theorem aaf {a b:Type} {rem:List a} {z:Option b} {f:a->List a->Option b} {r:b} (h:ye rem z f=some r) (c:rem=[]):z=some r:=by
 simp_all [ye,if_pos]
theorem XZ {a b:Type} {rem:List a} {z:Option b} {f:a->List a->Option b} {r:b} (h:ye rem z f=some r) {c d:List a} {x:a} (e:rem=c ++ x :: d):f x (c ++ d)=some r:=by
 unfold ye at h;rw [if_neg (by rw [e];simp)] at h;split at h
 ·grind
 ·cases h
theorem X0 {a b:Type} (z:Option b) (f:a->List a->Option b):ye [] z f=z:=by rfl
theorem aei {d e:Type} {rem:List d} {z:Option e} {f:d->List d->Option e} {r:e} (g:rem≠[]) (h:∀ b x c,rem=b ++ x :: c->f x (b ++ c)=some r):ye rem z f=some r:=by
 have i:∃ j,∀ b x c,rem=b ++ x :: c->f x (b ++ c)=some j:=⟨r,h⟩;unfold ye;rw [if_neg g,dif_pos i];have h1:=i.choose_spec;cases rem with
 | nil=>exact absurd rfl g
 | cons a l =>
  have k:=h1 [] a l rfl;grind
def agF (s:St) (b a:Nat):Option (List AV):=match dT s.tm b,ay s.mg a with
 | .mp k',some o=>match Nat.beq k' a && Nat.beq o.sz 0 with
  | true=>some (o.get 0)
  | false=>none
 | _,_=>none
theorem Va {s:St} {a b:Nat} {l:List AV} (h:agF s a b=some l):acx s a b l:=by
 unfold agF at h;split at h
 ·rename_i k' o h1 h2;split at h
  ·rename_i h3;cases h;obtain ⟨h4,c⟩:=Be.1 h3;exact ⟨by simp_all,o,h2,bZ c,rfl⟩
  ·cases h
 ·cases h
def nPr (P:Program) (nt:Nat) (ops:Array Oper) (orcs:List (Nat×qE)) (T:TypeId) (d a:Nat) (st:St):St:=match Gk P nt ops orcs T d a st with
 | some x=>x.2
 | none=>st
def nPI (P:Program) (nt:Nat) (ops:Array Oper) (orcs:List (Nat×qE)) (T:TypeId) (d a b:Nat) (st:St) (I:Nat):St :=
 ⟨(d,.atom (.pointer (some ⟨I,0,none⟩))) :: (nPr P nt ops orcs T d a st).tm,wE (nPr P nt ops orcs T d a st).mg b,(nPr P nt ops orcs T d a st).nk⟩
def as9 (p q:Nat) (permA permB:List Nat) (c:Code):Bool:=match c with
 | .region _ ops true=>!Nat.beq p q && yd ops permA (p,q) && yd ops permB (q,p)
 | _=>false
theorem ar.nG (B:aG E m) (n p q:Nat) (permA permB:List Nat) (f g:List (Nat×qE)) (T C D:TypeId) (d a w x:Nat) (cK:α->AV) (cV:β->AV) (h i:List (α×β)) {y z:List Prop} (s:bg y) (t:bg z)
  (b:∀ c I,aG c m->Pb E c I cK cV none h->ar P c fn nt (aH E fo res) (XU (nK n k)) (nPI P nt (Pc (opsOf (vu (nK n k))).toArray permA (p,q)) f T d a w st I))
  (e:∀ c I,aG c m->Pb E c I cK cV none i->ar P c fn nt (aH E fo res) (XU (nK n k)) (nPI P nt (Pc (opsOf (vu (nK n k))).toArray permB (q,p)) g T d a x st I))
  (F:Gh n k=true:=by kernel_rfl) (G:as9 p q permA permB (vu (nK n k))=true:=by kernel_rfl) (u:P.follows .mixedOrders=true:=by kernel_rfl)
  (H:FD (Gk P nt (Pc (opsOf (vu (nK n k))).toArray permA (p,q)) f T d a st)=some y:=by kernel_rfl) (J:FD (Gk P nt (Pc (opsOf (vu (nK n k))).toArray permB (q,p)) g T d a st)=some z:=by kernel_rfl)
  (K:(vJ f && noY f && (vJ g && noY g))=true:=by kernel_rfl) (L:P.underlying T=some (.map C D):=by kernel_rfl)
  (j:agF (nPr P nt (Pc (opsOf (vu (nK n k))).toArray permA (p,q)) f T d a st) a w=some (CJ cK cV h):=by kernel_rfl)
  (l:agF (nPr P nt (Pc (opsOf (vu (nK n k))).toArray permB (q,p)) g T d a st) a x=some (CJ cK cV i):=by kernel_rfl) (A:Nat.ble 1 m=true:=by kernel_rfl):ar P E fn nt (aH E fo res) k st:=by
 obtain ⟨sA,o⟩:=nJ H;obtain ⟨sB,r⟩:=nJ J;have M:nPr P nt (Pc (opsOf (vu (nK n k))).toArray permA (p,q)) f T d a st=sA:=by unfold nPr;rw [o]
 have N:nPr P nt (Pc (opsOf (vu (nK n k))).toArray permB (q,p)) g T d a st=sB:=by unfold nPr;rw [r]
 unfold nPI at b e;rw [M] at b j;rw [N] at e l;have A:=Nat.le_of_ble_eq_true A;obtain ⟨O,v⟩:=Be.1 K;exact ar.IC n (yV F) (ar.anS B ad (p:=p) (q:=q) (permA:=permA) (permB:=permB) G u o r s t O v L (Va j) (Va l) b e)
theorem ar.nN (u:aG E m) {I:Nat} {cur:Option (α×β)} {rem:List (α×β)} (v:Pb E0 E I cK cV cur rem) (n d o:Nat) {R:Type} {z:Option R} {f:α×β->List (α×β)->Option R} {r:R} (h:ye rem z f=some r)
  (Om:z=some r->ar P E fn nt (aH E fo res) (XU (nK n k)) (nTl P nt (vu (nK n k)) d (.tup [.atom (.bool false)]) st))
  (step:∀ (x:α×β) (a:List (α×β)),f x a=some r->∀ b,aG b m->Pb E0 b I cK cV (some x) a->ar P b fn nt (aH E0 fo res) (XU (nK n k)) (nTl P nt (vu (nK n k)) d (.tup [.atom (.bool true),cK x.1,cV x.2]) st))
  (w:Gh n k=true:=by kernel_rfl) (y:HY nt d o (vu (nK n k))=true:=by kernel_rfl) (c:dT st.tm o=.atom (.pointer (some ⟨I,0,none⟩)):=by kernel_rfl)
  (e:FD (yc P nt (opsOf (vu (nK n k))) [] d (.tup [.atom (.bool false)]) st)=some []:=by kernel_rfl)
  (g:∀ x:α×β,FD (yc P nt (opsOf (vu (nK n k))) [] d (.tup [.atom (.bool true),cK x.1,cV x.2]) st)=some []:=by intro x;kernel_rfl)
  (p:Nat.ble 1 m=true:=by kernel_rfl):ar P E fn nt (aH E0 fo res) k st:=by
 have p:=Nat.le_of_ble_eq_true p;obtain ⟨A,q⟩:=nJ e;have B:nTl P nt (vu (nK n k)) d (.tup [.atom (.bool false)]) st=A:=by unfold nTl;rw [q]
 rw [B] at Om;refine ar.IC n (yV w) (ar.next u ad v y c q trivial (fun i=>Om (aaf h i)) fun x C D i=>?_);obtain ⟨s,t⟩:=nJ (g x);have F:nTl P nt (vu (nK n k)) d (.tup [.atom (.bool true),cK x.1,cV x.2]) st=s:=by unfold nTl;rw [t]
 exact ⟨s,t,fun b j l=>by rw [<- F];exact step x (C ++ D) (XZ h i) b j l⟩
theorem ar.nY {I:Nat} {rem:List (α×β)} {x:α×β} (h:Pb E0 E I cK cV (some x) rem) (n d b:Nat) {c:Value->World->Prop} {ps:List Prop} (i:bg ps)
  (f:ar P E fn nt c (XU (nK n k)) (nTl P nt (vu (nK n k)) d (.tup [cK x.1,cV x.2]) st))
  (j:Gh n k=true:=by kernel_rfl) (l:Kv nt d b (vu (nK n k))=true:=by kernel_rfl) (a:dT st.tm b=.atom (.pointer (some ⟨I,0,none⟩)):=by kernel_rfl)
  (he:FD (yc P nt (opsOf (vu (nK n k))) [] d (.tup [cK x.1,cV x.2]) st)=some ps:=by kernel_rfl):ar P E fn nt c k st:=by
 obtain ⟨s,g⟩:=nJ he;have e:nTl P nt (vu (nK n k)) d (.tup [cK x.1,cV x.2]) st=s:=by unfold nTl;rw [g]
 rw [e] at f;exact ar.IC n (yV j) (ar.entry h l a g i f)
end
end
end Go.Ab
namespace Go.Ab
section
variable {P:Program} {E E0:Env} {fn:FuncId} {nt m:Nat} {k:List Item} {st:St} {fo:fe} {res:AV} {α β:Type} {cK:α->AV} {cV:β->AV}
theorem T9 {ops:Array Oper} (h:∀ i o,ops.toList[i]?=some o->∀ e∈gJ o,e < i):∀ (q i:Nat) (an:Array Bool),i+q=ops.size->an.size=ops.size->(∀ j,j < ops.size->an.getD j false=decide (j < i))->Ku ops q an (List.range' i q)
 | 0,_,_,_,_,_=>.zero
 | q+1,i,an,g,b,a=>by
  rw [List.range'_succ];refine .step ((zM b i).2 ⟨ad,by rw [a i ad];simp,fun o c e he=>?_⟩) (T9 h q (i+1) _ ad (by simpa using b) fun j d=>?_)
  ·have:=h i o c e he;rw [a e ad];simpa using this
  ·have:=a j d;have f:j < an.size:=ad;simp only [ke,Array.getElem?_setIfInBounds] at this ⊢
   by_cases e:i=j
   ·subst e;simp [f]
   ·rw [if_neg e,this];simp only [decide_eq_decide];omega
def amx (c:Code):Bool:=match c with
 | .region _ ops false=>(List.range ops.size).all fun j=>xn ops.toList j
 | _=>false
theorem ar.nH (G:aG E m) (n m1:Nat) (g:List (Nat×qE)) (T H J:TypeId) (d l t:Nat) (cK:α->AV) (cV:β->AV) (rem:List (α×β)) {ps:List Prop} (K:bg ps)
  (u:∀ f I,aG f m1->Pb E f I cK cV none rem->ar P f fn nt (aH E fo res) (XU (nK n k)) (nPI P nt (opsOf (vu (nK n k))).toArray g T d l t st I))
  (L:Gh n k=true:=by kernel_rfl) (q:amx (vu (nK n k))=true:=by kernel_rfl)
  (M:FD (Gk P nt (opsOf (vu (nK n k))).toArray g T d l st)=some ps:=by kernel_rfl) (N:(vJ g && noY g)=true:=by kernel_rfl) (O:P.underlying T=some (.map H J):=by kernel_rfl)
  (p:agF (nPr P nt (opsOf (vu (nK n k))).toArray g T d l st) l t=some (CJ cK cV rem):=by kernel_rfl) (hm:(Nat.ble 1 m1 && Nat.ble m m1 && Nat.ble m1 (nPr P nt (opsOf (vu (nK n k))).toArray g T d l st).nk)=true:=by kernel_rfl):ar P E fn nt (aH E fo res) k st:=by
 obtain ⟨s,x⟩:=nJ M;have Q:nPr P nt (opsOf (vu (nK n k))).toArray g T d l st=s:=by unfold nPr;rw [x]
 unfold nPI at u;rw [Q] at u p hm;simp only [bd,Nat.ble_eq] at hm;obtain ⟨⟨Xg,R⟩,S⟩:=hm;refine ar.IC n (yV L) ?_;generalize vu (nK n k)=c at *
 unfold amx at q;split at q
 case h_2=>cases q
 rename_i id ops;simp only [opsOf,Array.toArray_toList] at x;intro tm w U y b V W cs;have z:∀ i o,ops.toList[i]?=some o->∀ e∈gJ o,e < i:=fun i o D e he=>by
  have hi:i < ops.size:=by simpa using (eK.1 D).1
  have:=List.all_eq_true.1 q i (qh.2 hi);unfold xn at this;rw [D] at this;exact LW (List.all_eq_true.1 this e he)
 have A:(Code.region id ops false).wp P (fun e a w'=>e=.normal/\a.tmps.size=nt/\a.defers=[]/\∃ f I,aG f m1/\Pb E f I cK cV none rem/\SZ f ⟨(d,.atom (.pointer (some ⟨I,0,none⟩))) :: s.tm,wE s.mg t,s.nk⟩ a.tmps w') ⟨tm,[]⟩ w:=by
  refine (wpIn_wide (n:=0)).1 (wpIn_region ?_);rw [List.range_eq_range'];exact U7 (T9 z ops.size 0 (Array.replicate ops.size false) ad ao fun j X=>by simp [ke,X])
   (L3 G ad R x K N O (Va p) S (fun a w' h=>⟨rfl,h⟩) U y)
 obtain ⟨e,r,w',⟨rfl,Y,F,f,I,B,C,Z⟩,U1⟩:=A b _ cs;have ha:r=⟨r.tmps,[]⟩:=by cases r;simp at F;simp [F]
 obtain ⟨v,Zn,fr,r1,r2,r3,r4⟩:=u f I B C r.tmps w' Y Z b V W cs;refine ⟨v,Zn,fr,r1,Steps.trans U1 ?_,r3,r4⟩;rw [ha];exact r2
theorem ar.nM (s:aG E m) {I:Nat} {cur:Option (α×β)} {rem:List (α×β)} (t:Pb E0 E I cK cV cur rem) (v:β) {q:Nat} (e:(∀ y∈rem,y.2=v)/\rem.length=q+1) (n d l:Nat)
  (step:∀ (x:α) (a:List (α×β)),((∀ y∈a,y.2=v)/\a.length=q)->∀ b,aG b m->Pb E0 b I cK cV (some (x,v)) a->ar P b fn nt (aH E0 fo res) (XU (nK n k)) (nTl P nt (vu (nK n k)) d (.tup [.atom (.bool true),cK x,cV v]) st))
  (u:Gh n k=true:=by kernel_rfl) (w:HY nt d l (vu (nK n k))=true:=by kernel_rfl) (f:dT st.tm l=.atom (.pointer (some ⟨I,0,none⟩)):=by kernel_rfl)
  (g:FD (yc P nt (opsOf (vu (nK n k))) [] d (.tup [.atom (.bool false)]) st)=some []:=by kernel_rfl)
  (h:∀ x:α×β,FD (yc P nt (opsOf (vu (nK n k))) [] d (.tup [.atom (.bool true),cK x.1,cV x.2]) st)=some []:=by intro x;kernel_rfl)
  (o:Nat.ble 1 m=true:=by kernel_rfl):ar P E fn nt (aH E0 fo res) k st:=by
 have o:=Nat.le_of_ble_eq_true o;obtain ⟨H,z⟩:=nJ g;refine ar.IC n (yV u) (ar.next s ad t w f z trivial (fun c=>by have:=e.2;rw [c] at this;cases this) fun x A B c=>?_);obtain ⟨p,r⟩:=nJ (h x);have C:nTl P nt (vu (nK n k)) d (.tup [.atom (.bool true),cK x.1,cV x.2]) st=p:=by unfold nTl;rw [r]
 have D:x.2=v:=e.1 x (by rw [c];simp);refine ⟨p,r,fun b i j=>?_⟩;rw [<- C];obtain ⟨F,J⟩:=x;cases D;refine step F (A ++ B) ⟨fun y G=>e.1 y ?_,?_⟩ b i j
 ·rw [c];simp only [List.mem_append,kY] at G ⊢;grind
 ·have:=e.2;rw [c] at this;simp only [oi,xm] at this ⊢;omega
theorem ar.nM0 (g:aG E m) {I:Nat} {cur:Option (α×β)} {rem:List (α×β)} (h:Pb E0 E I cK cV cur rem) {v:β} (i:(∀ y∈rem,y.2=v)/\rem.length=0) (n d c:Nat)
  (Om:ar P E fn nt (aH E fo res) (XU (nK n k)) (nTl P nt (vu (nK n k)) d (.tup [.atom (.bool false)]) st))
  (j:Gh n k=true:=by kernel_rfl) (l:HY nt d c (vu (nK n k))=true:=by kernel_rfl) (a:dT st.tm c=.atom (.pointer (some ⟨I,0,none⟩)):=by kernel_rfl)
  (b:FD (yc P nt (opsOf (vu (nK n k))) [] d (.tup [.atom (.bool false)]) st)=some []:=by kernel_rfl)
  (e:Nat.ble 1 m=true:=by kernel_rfl):ar P E fn nt (aH E0 fo res) k st:=by
 have e:=Nat.le_of_ble_eq_true e;obtain ⟨o,f⟩:=nJ b;have p:nTl P nt (vu (nK n k)) d (.tup [.atom (.bool false)]) st=o:=by unfold nTl;rw [f]
 rw [p] at Om;refine ar.IC n (yV j) (ar.next g ad h l a f trivial (fun _=>Om) fun x r s q=>?_);have:=i.2;rw [q] at this;simp at this
end
end Go.Ab
