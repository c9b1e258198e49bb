/- The plain law: the Lean function of the law returns true for every input, and what it needs. No conditions. -/
import Derived.Test.YtdigjibahkjfdaaGreatExactMaximizePk
set_option linter.unusedVariables false
set_option linter.unusedSimpArgs false
namespace Go.Den
open Go.Ab
def bR:Nat→(Nat→Rat)→Rat
 | 0,_=>0
 | n+1,f=>bR n f+f n
theorem aE {n:Nat} {f g:Nat→Rat} (h:∀ i,i < n→f i=g i):bR n f=bR n g:=by
 induction n with
 | zero=>rfl
 | succ n ih=>rw [bR,bR,ih fun i hi=>h i (by omega),h n (by omega)]
theorem rM (n:Nat) (f g:Nat→Rat):bR n (fun i=>f i+g i)=bR n f+bR n g:=by
 induction n with
 | zero=>show (0:Rat)=0+0;grind
 | succ n ih=>rw [bR,bR,bR,ih];grind
theorem iW (n:Nat) (c:Rat) (f:Nat→Rat):bR n (fun i=>c * f i)=c * bR n f:=by
 induction n with
 | zero=>show (0:Rat)=c * 0;grind
 | succ n ih=>rw [bR,bR,ih];grind
theorem ik (n:Nat):bR n (fun _=>0)=0:=by
 induction n with
 | zero=>rfl
 | succ n ih=>rw [bR,ih];grind
theorem jo {n j:Nat} (hj:j < n) (f:Nat→Rat) (h:∀ i,i < n→i≠j→f i=0):bR n f=f j:=by
 induction n with
 | zero=>omega
 | succ n ih =>
  rw [bR]
  by_cases e:j=n
  ·subst e
   rw [aE (g:=fun _=>0) fun i hi=>h i (by omega) (by omega),ik];grind
  ·rw [ih (by omega) fun i hi eE=>h i (by omega) eE,h n (by omega) (by omega)];grind
theorem tU {n j:Nat} (hj:j < n) (f:Nat→Rat):bR n f=f j+bR n (fun i=>if i=j then 0 else f i):=by
 have e:bR n f=bR n (fun i=>(if i=j then f j else 0)+(if i=j then 0 else f i)):=aE fun i _=>by
  split
  ·rename_i h;subst h;grind
  ·grind
 rw [e,rM,jo hj (fun i=>if i=j then f j else 0) fun i _ h=>if_neg h,if_pos rfl]
structure bq where
 eT:Nat→Nat
 fr:Nat→Nat
 a:Nat→Nat→Rat
 b:Nat→Rat
 g:Nat→Rat
 v:Rat
namespace bq
def row (D:bq) (k:Nat) (x:Nat→Rat) (i:Nat):Rat:=D.b i+bR k fun j=>D.a i j * x (D.fr j)
def B1 (D:bq) (m k:Nat) (x:Nat→Rat):Prop:=∀ i,i < m→x (D.eT i)=D.row k x i
def gv (D:bq) (k:Nat) (x:Nat→Rat):Rat:=D.v+bR k fun j=>D.g j * x (D.fr j)
structure WF (D:bq) (m k:Nat):Prop where
 bi:∀ i i',i < m→i' < m→D.eT i=D.eT i'→i=i'
 fi:∀ j j',j < k→j' < k→D.fr j=D.fr j'→j=j'
 bf:∀ i j,i < m→j < k→D.eT i≠D.fr j
 bl:∀ i,i < m→D.eT i < m+k
 fl:∀ j,j < k→D.fr j < m+k
 al:∀ u,u < m+k→(∃ i,i < m∧D.eT i=u)∨∃ j,j < k∧D.fr j=u
def nD (D:bq) (i j k:Nat):Rat:=if k=j then 1 / D.a i j else -(D.a i k / D.a i j)
def pb (D:bq) (i j:Nat):Rat:=-(D.b i / D.a i j)
def il (D:bq) (i j:Nat):bq where
 eT:=fun r=>if r=i then D.fr j else D.eT r
 fr:=fun c=>if c=j then D.eT i else D.fr c
 a:=fun r c=>if r=i then D.nD i j c else if c=j then D.a r j * D.nD i j c else D.a r c+D.a r j * D.nD i j c
 b:=fun r=>if r=i then D.pb i j else D.b r+D.a r j * D.pb i j
 g:=fun c=>if c=j then D.g j * D.nD i j c else D.g c+D.g j * D.nD i j c
 v:=D.v+D.g j * D.pb i j
theorem WF.il {D:bq} {m k i j:Nat} (h:D.WF m k) (hi:i < m) (hj:j < k):(D.il i j).WF m k:=by
 refine ⟨fun r r' hr Ag e=>?_,fun c c' hc jk e=>?_,fun r c hr hc e=>?_,fun r hr=>?_,fun c hc=>?_,fun u hu=>?_⟩
 ·simp only [bq.il] at e
  split at e<;>split at e
  ·omega
  ·exact absurd e.symm (h.bf _ _ Ag hj)
  ·exact absurd e (h.bf _ _ hr hj)
  ·exact h.bi _ _ hr Ag e
 ·simp only [bq.il] at e
  split at e<;>split at e
  ·omega
  ·exact absurd e (h.bf _ _ hi jk)
  ·exact absurd e.symm (h.bf _ _ hi hc)
  ·exact h.fi _ _ hc jk e
 ·simp only [bq.il] at e
  split at e<;>split at e
  ·exact h.bf _ _ hi hj e.symm
  ·rename_i h1 h2;exact h2 (h.fi _ _ hc hj e.symm)
  ·rename_i h1 h2;exact h1 (h.bi _ _ hr hi e)
  ·exact h.bf _ _ hr hc e
 ·simp only [bq.il];split
  ·exact h.fl j hj
  ·exact h.bl r hr
 ·simp only [bq.il];split
  ·exact h.bl i hi
  ·exact h.fl c hc
 ·rcases h.al u hu with ⟨r,hr,e⟩ | ⟨c,hc,e⟩
  ·by_cases q:r=i
   ·subst q;exact .inr ⟨j,hj,by simp only [bq.il,if_pos];exact e⟩
   ·exact .inl ⟨r,hr,by simp only [bq.il,if_neg q];exact e⟩
  ·by_cases q:c=j
   ·subst q;exact .inl ⟨i,hi,by simp only [bq.il,if_pos];exact e⟩
   ·exact .inr ⟨c,hc,by simp only [bq.il,if_neg q];exact e⟩
theorem JO {D:bq} {k i j:Nat} (hj:j < k) (h0:D.a i j≠0) {x:Nat→Rat} (hs:x (D.eT i)=D.row k x i∨x (D.fr j)=(D.il i j).row k x i) :
  x (D.fr j)=D.pb i j+bR k fun c=>D.nD i j c * x ((D.il i j).fr c):=by
 rcases hs with hs | hs
 ·rw [tU hj]
  have e1:(fun c=>if c=j then (0:Rat) else D.nD i j c * x ((D.il i j).fr c))=fun c=>(-(1 / D.a i j)) * (if c=j then 0 else D.a i c * x (D.fr c)):=by
   funext c
   by_cases q:c=j
   ·simp only [q,if_true];grind
   ·simp only [bq.nD,bq.il,q,if_false];grind
  rw [e1,iW]
  unfold bq.row at hs
  rw [tU hj] at hs
  simp only [bq.nD,bq.il,if_true,bq.pb]
  rw [hs]
  grind
 ·rw [hs]
  simp only [bq.row,bq.il,if_true]
theorem Lv {D:bq} {k i j:Nat} (hj:j < k) (f:Nat→Rat) {x:Nat→Rat} {p:Rat} (hx:x (D.fr j)=p+bR k fun c=>D.nD i j c * x ((D.il i j).fr c)) :
  (f j * p+bR k fun c=>(if c=j then f j * D.nD i j c else f c+f j * D.nD i j c) * x ((D.il i j).fr c))=bR k fun c=>f c * x (D.fr c):=by
 have e1:bR k (fun c=>(if c=j then f j * D.nD i j c else f c+f j * D.nD i j c) * x ((D.il i j).fr c))=bR k (fun c=>(if c=j then 0 else f c * x (D.fr c))+f j * (D.nD i j c * x ((D.il i j).fr c))):=aE fun c _=>by
  by_cases q:c=j
  ·simp only [q,if_true];grind
  ·simp only [q,if_false,bq.il];grind
 rw [e1,rM,iW,tU hj (fun c=>f c * x (D.fr c)),hx]
 grind
theorem B1.il {D:bq} {m k i j:Nat} (hi:i < m) (hj:j < k) (h0:D.a i j≠0) {x:Nat→Rat}:(D.il i j).B1 m k x↔D.B1 m k x:=by
 have key:∀ r,r≠i→x (D.fr j)=D.pb i j+bR k (fun c=>D.nD i j c * x ((D.il i j).fr c))→(D.il i j).row k x r=D.row k x r:=fun r hr hx=>by
  have e:=Lv hj (fun c=>D.a r c) hx
  simp only [bq.row]
  rw [← e]
  simp only [bq.il,hr,if_false]
  grind
 constructor
 ·intro h r hr
  have h1:=h i hi
  have h2:x (D.fr j)=(D.il i j).row k x i:=by rw [← h1];simp [bq.il]
  have hx:=JO hj h0 (.inr h2)
  by_cases q:r=i
  ·subst q
   -- solve for the basic variable
   have e:=hx
   rw [tU hj] at e
   have e1:(fun c=>if c=j then (0:Rat) else D.nD r j c * x ((D.il r j).fr c))=fun c=>(-(1 / D.a r j)) * (if c=j then 0 else D.a r c * x (D.fr c)):=by
    funext c
    by_cases q:c=j
    ·simp only [q,if_true];grind
    ·simp only [bq.nD,bq.il,q,if_false];grind
   rw [e1,iW] at e
   simp only [bq.nD,bq.il,if_true,bq.pb] at e
   unfold bq.row
   rw [tU hj]
   grind
  ·have h3:=h r hr
   rw [key r q hx] at h3
   rw [← h3]
   simp [bq.il,q]
 ·intro h r hr
  have hx:=JO hj h0 (.inl (h i hi))
  by_cases q:r=i
  ·subst q
   simp only [bq.row,bq.il,if_true]
   exact hx
  ·rw [key r q hx,← h r hr]
   simp [bq.il,q]
theorem XZ {D:bq} {m k i j:Nat} (hi:i < m) (hj:j < k) (h0:D.a i j≠0) {x:Nat→Rat} (hs:D.B1 m k x):(D.il i j).gv k x=D.gv k x:=by
 have hx:=JO hj h0 (.inl (hs i hi))
 have e:=Lv hj D.g hx
 simp only [bq.gv]
 rw [← e]
 simp only [bq.il]
 grind
def OH (D:bq):Nat→Nat→Option Nat
 | 0,_=>none
 | m+1,u=>if D.eT m=u then some m else OH D m u
theorem qj {D:bq}:∀ {m i:Nat},(∀ i i',i < m→i' < m→D.eT i=D.eT i'→i=i')→i < m→D.OH m (D.eT i)=some i
 | 0,i,_,hi=>by omega
 | m+1,i,h,hi=>by
  rw [OH]
  by_cases e:D.eT m=D.eT i
  ·rw [if_pos e,h m i (by omega) hi e]
  ·rw [if_neg e]
   exact qj (fun i i' h1 h2=>h i i' (by omega) (by omega)) (Nat.lt_of_le_of_ne (by omega) fun q=>e (by rw [q]))
theorem mi {D:bq} {u:Nat}:∀ {m:Nat},(∀ i,i < m→D.eT i≠u)→D.OH m u=none
 | 0,_=>rfl
 | m+1,h=>by rw [OH,if_neg (h m (by omega))];exact mi fun i hi=>h i (by omega)
def ext (D:bq) (m k:Nat) (y:Nat→Rat) (u:Nat):Rat:=match D.OH m u with
 | some i=>D.row k y i
 | none=>y u
theorem uH {D:bq} {m k i:Nat} (h:D.WF m k) (hi:i < m) (y:Nat→Rat):D.ext m k y (D.eT i)=D.row k y i:=by unfold ext;rw [qj h.bi hi]
theorem vb {D:bq} {m k j:Nat} (h:D.WF m k) (hj:j < k) (y:Nat→Rat):D.ext m k y (D.fr j)=y (D.fr j):=by
 unfold ext;rw [mi fun i hi=>h.bf i j hi hj]
theorem o6 {D:bq} {m k:Nat} (h:D.WF m k) (y:Nat→Rat):D.B1 m k (D.ext m k y):=fun i hi=>by
 rw [uH h hi]
 unfold bq.row
 congr 1
 exact aE fun j hj=>by rw [vb h hj]
theorem yT {D:bq} {m k:Nat} (h:D.WF m k) (y:Nat→Rat):D.gv k (D.ext m k y)=D.gv k y:=by
 unfold bq.gv
 congr 1
 exact aE fun j hj=>by rw [vb h hj]
def one (u:Nat):Nat→Rat:=fun w=>if w=u then 1 else 0
def qQ:Nat→Rat:=fun _=>0
theorem sV (D:bq) (k i:Nat):D.row k qQ i=D.b i:=by
 unfold row qQ
 rw [aE (g:=fun _=>0) fun j _=>by grind,ik];grind
theorem row_one {D:bq} {m k j:Nat} (h:D.WF m k) (hj:j < k) (i:Nat):D.row k (one (D.fr j)) i=D.b i+D.a i j:=by
 unfold row one
 rw [jo hj _ fun c hc eE=>by rw [if_neg fun e=>eE (h.fi _ _ hc hj e)];grind]
 rw [if_pos rfl];grind
theorem Dt (D:bq) (k:Nat):D.gv k qQ=D.v:=by
 unfold gv qQ
 rw [aE (g:=fun _=>0) fun j _=>by grind,ik];grind
theorem JP {D:bq} {m k j:Nat} (h:D.WF m k) (hj:j < k):D.gv k (one (D.fr j))=D.v+D.g j:=by
 unfold gv one
 rw [jo hj _ fun c hc eE=>by rw [if_neg fun e=>eE (h.fi _ _ hc hj e)];grind]
 rw [if_pos rfl];grind
structure z7 (m k:Nat) (D D':bq):Prop where
 Kb:∀ x,D.B1 m k x↔D'.B1 m k x
 gv:∀ x,D.B1 m k x→D.gv k x=D'.gv k x
theorem z7.refl (m k:Nat) (D:bq):z7 m k D D:=⟨fun _=>Iff.rfl,fun _ _=>rfl⟩
theorem z7.symm {m k:Nat} {D D':bq} (h:z7 m k D D'):z7 m k D' D:=⟨fun x=>(h.Kb x).symm,fun x hx=>(h.gv x ((h.Kb x).2 hx)).symm⟩
theorem z7.trans {m k:Nat} {D D' D'':bq} (h:z7 m k D D') (h':z7 m k D' D''):z7 m k D D'' :=
 ⟨fun x=>(h.Kb x).trans (h'.Kb x),fun x hx=>(h.gv x hx).trans (h'.gv x ((h.Kb x).1 hx))⟩
theorem z7.il {m k i j:Nat} {D:bq} (hi:i < m) (hj:j < k) (h0:D.a i j≠0):z7 m k D (D.il i j) :=
 ⟨fun _=>(B1.il hi hj h0).symm,fun _ hx=>(XZ hi hj h0 hx).symm⟩
def ve (D:bq) (m u:Nat):Prop:=∃ i,i < m∧D.eT i=u
theorem zP {D:bq} {m k:Nat} (h:D.WF m k) {u:Nat} (hu:u < m+k) (hn:¬ D.ve m u):∃ j,j < k∧D.fr j=u:=(h.al u hu).resolve_left hn
theorem yU {D:bq} {m k:Nat} {x y:Nat→Rat} (hx:D.B1 m k x) (hf:∀ j,j < k→x (D.fr j)=y (D.fr j)) {i:Nat} (hi:i < m):x (D.eT i)=D.row k y i:=by
 rw [hx i hi];unfold row;congr 1
 exact aE fun j hj=>by rw [hf j hj]
theorem uniq {D D':bq} {m k:Nat} (h:D.WF m k) (h':D'.WF m k) (e:z7 m k D D') (hb:∀ u,D.ve m u→D'.ve m u) :
  (∀ i i',i < m→i' < m→D.eT i=D'.eT i'→D.b i=D'.b i')∧(∀ i j i' j',i < m→i' < m→j < k→j' < k→D.eT i=D'.eT i'→D.fr j=D'.fr j'→D.a i j=D'.a i' j') ∧
   (∀ j j',j < k→j' < k→D.fr j=D'.fr j'→D.g j=D'.g j')∧D.v=D'.v:=by
 have hf:∀ j',j' < k→∃ j,j < k∧D.fr j=D'.fr j':=fun j' sx=>zP h (h'.fl j' sx) fun q=>by
  obtain ⟨i,hi,e⟩:=hb _ q
  exact h'.bf i j' hi sx e
 have key:∀ y,(∀ i i',i < m→i' < m→D.eT i=D'.eT i'→D.row k y i=D'.row k y i')∧D.gv k y=D'.gv k y:=fun y=>by
  have hs:=o6 h y
  have HI:=(e.Kb _).1 hs
  have LV:∀ j',j' < k→D.ext m k y (D'.fr j')=y (D'.fr j'):=fun j' sx=>by
   obtain ⟨j,hj,q⟩:=hf j' sx
   rw [← q,vb h hj]
  refine ⟨fun i i' hi o8 q=>?_,?_⟩
  ·rw [← uH h hi y,q]
   exact yU HI LV o8
  ·rw [← yT h y,e.gv _ hs]
   unfold gv;congr 1
   exact aE fun j hj=>by rw [LV j hj]
 have UK:∀ i i',i < m→i' < m→D.eT i=D'.eT i'→D.b i=D'.b i':=fun i i' hi o8 q=>by
  have:=(key qQ).1 i i' hi o8 q
  rwa [sV,sV] at this
 have hv:D.v=D'.v:=by have:=(key qQ).2;rwa [Dt,Dt] at this
 refine ⟨UK,fun i j i' j' hi o8 hj sx q1 q2=>?_,fun j j' hj sx q=>?_,hv⟩
 ·have:=(key (one (D.fr j))).1 i i' hi o8 q1
  rw [row_one h hj,q2,row_one h' sx,UK i i' hi o8 q1] at this
  grind
 ·have:=(key (one (D.fr j))).2
  rw [JP h hj,q,JP h' sx,hv] at this
  grind
end bq
end Go.Den
namespace Go.Den
open Go.Ab
namespace bq
structure EP (D:bq) (k j:Nat):Prop where
 lt:j < k
 pos:0 < D.g j
 min:∀ j',j' < k→0 < D.g j'→D.fr j≤D.fr j'
def ratio (D:bq) (j i:Nat):Rat:=D.b i / -(D.a i j)
structure B2 (D:bq) (m j i:Nat):Prop where
 lt:i < m
 neg:D.a i j < 0
 min:∀ i',i' < m→D.a i' j < 0→D.ratio j i < D.ratio j i'∨D.ratio j i=D.ratio j i'∧D.eT i≤D.eT i'
def Kc (D:bq) (m:Nat):Prop:=∀ i,i < m→0≤D.b i
def Step (m k:Nat) (D D':bq):Prop:=∃ j i,D.EP k j∧D.B2 m j i∧D'=D.il i j
theorem Nd {x y a:Rat} (ha:0 < a) (h:x≤y / a):x * a≤y:=by
 have e:y / a * a=y:=by grind
 have:=Rat.mul_le_mul_of_nonneg_right h (Rat.le_of_lt ha)
 rwa [e] at this
theorem GL {x a:Rat} (ha:0 < a) (h:0≤x):0≤x / a:=by
 rw [Rat.div_def]
 exact Rat.mul_nonneg h (Rat.le_of_lt (Rat.inv_pos.2 ha))
theorem Lw (D:bq) (i j:Nat):D.pb i j=D.ratio j i:=by
 unfold pb ratio
 by_cases h:D.a i j=0
 ·rw [h];simp [Rat.div_def]
 ·have:-(D.a i j)≠0:=by grind
  grind
theorem Kc.ratio {D:bq} {m i j:Nat} (h:D.Kc m) (hi:i < m) (hn:D.a i j < 0):0≤D.ratio j i:=GL (by grind) (h i hi)
theorem B2.le {D:bq} {m j i r:Nat} (h:D.B2 m j i) (hr:r < m) (hn:D.a r j < 0):D.ratio j i≤D.ratio j r:=by
 rcases h.min r hr hn with h1 | ⟨h1,_⟩
 ·exact Rat.le_of_lt h1
 ·rw [h1];exact Rat.le_refl
theorem Kc.il {D:bq} {m i j:Nat} (h:D.Kc m) (hl:D.B2 m j i):(D.il i j).Kc m:=fun r hr=>by
 have h0:=h.ratio hl.lt hl.neg
 simp only [bq.il,Lw]
 split
 ·exact h0
 ·by_cases hn:D.a r j < 0
  ·have h1:=Nd (a:=-(D.a r j)) (by grind) (hl.le hr hn)
   have:=h r hr
   grind
  ·have h1:=Rat.mul_nonneg (Rat.not_lt.1 hn) h0
   have:=h r hr
   grind
theorem B3 {D:bq} {m k i j u:Nat} (h:D.WF m k) (hi:i < m):(D.il i j).ve m u↔(D.ve m u∧u≠D.eT i)∨u=D.fr j:=by
 constructor
 ·rintro ⟨r,hr,e⟩
  simp only [bq.il] at e
  split at e
  ·exact .inr e.symm
  ·rename_i hn
   exact .inl ⟨⟨r,hr,e⟩,fun q=>hn (h.bi _ _ hr hi (e.trans q))⟩
 ·rintro (⟨⟨r,hr,e⟩,hn⟩ | e)
  ·exact ⟨r,hr,by simp only [bq.il];rw [if_neg fun q=>hn (by rw [← e,q])];exact e⟩
  ·exact ⟨i,hi,by simp only [bq.il,if_pos];exact e.symm⟩
theorem Ss:∀ (M:Nat) (f:Nat→Nat),(∀ i,f i < M)→∃ i j,i < j∧f i=f j
 | 0,f,h=>absurd (h 0) (dN _)
 | M+1,f,h=>by
  by_cases hM:∃ N,∀ i,N≤i→f i≠M
  ·obtain ⟨N,hN⟩:=hM
   obtain ⟨i,j,h1,h2⟩:=Ss M (fun i=>f (i+N)) fun i=>by
    have:=h (i+N);have:=hN (i+N) (by omega);omega
   exact ⟨i+N,j+N,by omega,h2⟩
  ·have hM:∀ N,∃ i,N≤i∧f i=M:=fun N=>mJ fun q=>hM ⟨N,fun i hi e=>q ⟨i,hi,e⟩⟩
   obtain ⟨i,_,h1⟩:=hM 0
   obtain ⟨j,h2,h3⟩:=hM (i+1)
   exact ⟨i,j,by omega,h1.trans h3.symm⟩
open Classical in
noncomputable def enc (p:Nat→Prop):Nat→Nat
 | 0=>0
 | n+1=>2 * enc p n+if p n then 1 else 0
theorem Su (p:Nat→Prop):∀ n,enc p n < 2 ^ n
 | 0=>by simp [enc]
 | n+1=>by
  have:=Su p n
  rw [enc,Nat.pow_succ]
  split<;>omega
theorem JQ {p q:Nat→Prop}:∀ {n:Nat},enc p n=enc q n→∀ u,u < n→(p u↔q u)
 | 0,_,u,hu=>by omega
 | n+1,h,u,hu=>by
  rw [enc,enc] at h
  by_cases e:u=n
  ·subst e
   by_cases h1:p u<;>by_cases h2:q u<;>simp only [h1,h2,if_true,if_false] at h ⊢<;>omega
  ·refine JQ (n:=n) ?_ u (by omega)
   split at h<;>split at h<;>omega
theorem Sv {f:Nat→Nat} {a:Nat}:∀ n,∃ x,a≤x∧x≤a+n∧∀ y,a≤y→y≤a+n→f y≤f x
 | 0=>⟨a,aR _,aR _,fun y h1 h2=>by rw [show y=a by omega];exact aR _⟩
 | n+1=>by
  obtain ⟨x,h1,h2,h3⟩:=Sv (f:=f) (a:=a) n
  by_cases h:f x≤f (a+(n+1))
  ·refine ⟨a+(n+1),by omega,aR _,fun y q1 q2=>?_⟩
   by_cases e:y=a+(n+1)
   ·rw [e];exact aR _
   ·exact dj (h3 y q1 (by omega)) h
  ·refine ⟨x,h1,by omega,fun y q1 q2=>?_⟩
   by_cases e:y=a+(n+1)
   ·rw [e];omega
   ·exact h3 y q1 (by omega)
theorem Lx:∀ {n:Nat} {f:Nat→Rat},0 < bR n f→∃ j,j < n∧0 < f j
 | 0,f,h=>by simp only [bR] at h;exact absurd h (by decide)
 | n+1,f,h=>by
  by_cases h1:0 < f n
  ·exact ⟨n,by omega,h1⟩
  ·rw [bR] at h
   obtain ⟨j,hj,h2⟩:=Lx (n:=n) (f:=f) (by grind)
   exact ⟨j,by omega,h2⟩
theorem Nf {m k:Nat} {s:Nat→bq} (hw:(s 0).WF m k) (hf:(s 0).Kc m) (hs:∀ n,Step m k (s n) (s (n+1))):False:=by
 obtain ⟨J,hJ⟩:=Classical.axiomOfChoice hs
 obtain ⟨I,st⟩:=Classical.axiomOfChoice hJ
 clear hJ hs
 have h0:∀ n,(s n).a (I n) (J n)≠0:=fun n=>by have:=(st n).2.1.neg;grind
 have GM:∀ n,(s n).WF m k:=fun n=>by
  induction n with
  | zero=>exact hw
  | succ n ih=>rw [(st n).2.2];exact ih.il (st n).2.1.lt (st n).1.lt
 have hfe:∀ n,(s n).Kc m:=fun n=>by
  induction n with
  | zero=>exact hf
  | succ n ih=>rw [(st n).2.2];exact ih.il (st n).2.1
 have he:∀ n,z7 m k (s 0) (s n):=fun n=>by
  induction n with
  | zero=>exact .refl _ _ _
  | succ n ih=>rw [(st n).2.2];exact ih.trans (.il (st n).2.1.lt (st n).1.lt (h0 n))
 have hee:∀ a b,z7 m k (s a) (s b):=fun a b=>(he a).symm.trans (he b)
 have hB:∀ n u,(s (n+1)).ve m u↔((s n).ve m u∧u≠(s n).eT (I n))∨u=(s n).fr (J n):=fun n u=>by
  rw [(st n).2.2];exact B3 (GM n) (st n).2.1.lt
 have Z6:∀ n j,j < k→¬ (s n).ve m ((s n).fr j):=fun n j hj ⟨i,hi,e⟩=>(GM n).bf i j hi hj e
 -- a basis comes again
 obtain ⟨A,B,hAB,X0⟩:=Ss (2 ^ (m+k)) (fun n=>enc (fun u=>(s n).ve m u) (m+k)) fun n=>Su _ _
 have hbs:∀ u,(s A).ve m u→(s B).ve m u:=fun u hu=>by
  obtain ⟨i,hi,e⟩:=id hu
  exact (JQ X0 u (e ▸ (GM A).bl i hi)).1 hu
 have adF:∀ u,(s B).ve m u→(s A).ve m u:=fun u hu=>by
  obtain ⟨i,hi,e⟩:=id hu
  exact (JQ X0 u (e ▸ (GM B).bl i hi)).2 hu
 have hv:(s A).v=(s B).v:=(uniq (GM A) (GM B) (hee A B) hbs).2.2.2
 have hpb:∀ n,0≤(s n).ratio (J n) (I n):=fun n=>(hfe n).ratio (st n).2.1.lt (st n).2.1.neg
 have Xc:∀ n,(s (n+1)).v=(s n).v+(s n).g (J n) * (s n).ratio (J n) (I n):=fun n=>by rw [(st n).2.2,← Lw];rfl
 have Z7:∀ n,(s n).v≤(s (n+1)).v:=fun n=>by
  have:=Rat.mul_nonneg (Rat.le_of_lt (st n).1.pos) (hpb n)
  have:=Xc n
  grind
 have Z8:∀ a d,(s a).v≤(s (a+d)).v:=fun a d=>by
  induction d with
  | zero=>exact Rat.le_refl
  | succ d ih=>exact Rat.le_trans ih (Z7 _)
 have UK:∀ n,A≤n→n < B→(s n).ratio (J n) (I n)=0:=fun n h1 h2=>by
  have e1:=Z8 A (n - A)
  have e2:=Z8 (n+1) (B - (n+1))
  rw [show A+(n - A)=n by omega] at e1
  rw [show n+1+(B - (n+1))=B by omega] at e2
  have e3:=Xc n
  have e4:=hpb n
  have e5:=(st n).1.pos
  have e6:(s n).g (J n) * (s n).ratio (J n) (I n)=0:=by
   have:=Rat.mul_nonneg (Rat.le_of_lt e5) e4
   grind
  rcases Rat.mul_eq_zero.1 e6 with h | h
  ·rw [h] at e5;exact absurd e5 (by decide)
  ·exact h
 have hbi:∀ n,A≤n→n < B→(s n).b (I n)=0:=fun n h1 h2=>by
  have e:=UK n h1 h2
  have hn:=(st n).2.1.neg
  unfold ratio at e
  have:(s n).b (I n) / -((s n).a (I n) (J n)) * -((s n).a (I n) (J n))=(s n).b (I n):=by grind
  rw [e] at this
  grind
 -- one point for all
 let x0:=(s A).ext m k qQ
 have Rf:∀ n,(s n).B1 m k x0:=fun n=>((hee A n).Kb _).1 (o6 (GM A) qQ)
 have hxf:∀ d,A+d≤B→∀ j,j < k→x0 ((s (A+d)).fr j)=0:=fun d=>by
  induction d with
  | zero=>intro _ j hj;exact vb (GM A) hj qQ
  | succ d ih =>
   intro hd j hj
   have ih:=ih (by omega)
   show x0 ((s (A+d+1)).fr j)=0
   rw [(st (A+d)).2.2]
   simp only [bq.il]
   split
   ·rw [yU (y:=qQ) (Rf (A+d)) ih (st (A+d)).2.1.lt,sV]
    exact hbi _ (by omega) (by omega)
   ·exact ih j hj
 have hxf:∀ n,A≤n→n≤B→∀ j,j < k→x0 ((s n).fr j)=0:=fun n h1 h2=>by
  have:=hxf (n - A) (by omega)
  rwa [show A+(n - A)=n by omega] at this
 have hxb:∀ n,A≤n→n≤B→∀ i,i < m→(s n).b i=x0 ((s n).eT i):=fun n h1 h2 i hi=>by
  rw [yU (y:=qQ) (Rf n) (hxf n h1 h2) hi,sV]
 -- what stays out, what stays in
 have out:∀ a d u,¬ (s a).ve m u→(∀ n,a≤n→n < a+d→(s n).fr (J n)≠u)→¬ (s (a+d)).ve m u:=fun a d u h1=>by
  induction d with
  | zero=>intro _;exact h1
  | succ d ih =>
   intro h2 h3
   rcases (hB (a+d) u).1 h3 with ⟨h4,_⟩ | h4
   ·exact ih (fun n q1 q2=>h2 n q1 (by omega)) h4
   ·exact h2 (a+d) (by omega) (by omega) h4.symm
 have inn:∀ a d u,(s a).ve m u→(∀ n,a≤n→n < a+d→(s n).eT (I n)≠u)→(s (a+d)).ve m u:=fun a d u h1=>by
  induction d with
  | zero=>intro _;exact h1
  | succ d ih =>
   intro h2
   exact (hB (a+d) u).2 (.inl ⟨ih (fun n q1 q2=>h2 n q1 (by omega)),fun q=>h2 (a+d) (by omega) (by omega) q.symm⟩)
 -- the greatest one that comes in
 obtain ⟨q,Fo,dR,iU⟩:=Sv (f:=fun n=>(s n).fr (J n)) (a:=A) (B - A - 1)
 have dR:q < B:=by omega
 have iU:∀ n,A≤n→n < B→(s n).fr (J n)≤(s q).fr (J q):=fun n h1 h2=>iU n h1 (by omega)
 generalize ht:(s q).fr (J q)=t at iU
 have htq:¬ (s q).ve m t:=ht ▸ Z6 q _ (st q).1.lt
 have enters:∀ u p,A≤p→p < B→(s p).ve m u→¬ (s q).ve m u→∃ n,A≤n∧n < B∧(s n).fr (J n)=u:=fun u p h1 h2 h3 h4=>mJ fun eE=>by
  have eE:∀ n,A≤n→n < B→(s n).fr (J n)≠u:=fun n q1 q2 e=>eE ⟨n,q1,q2,e⟩
  have e1:=out q (B - q) u h4 fun n q1 q2=>eE n (by omega) (by omega)
  rw [show q+(B - q)=B by omega] at e1
  have e2:=out A (p - A) u (fun h=>e1 (hbs u h)) fun n q1 q2=>eE n (by omega) (by omega)
  rw [show A+(p - A)=p by omega] at e2
  exact e2 h3
 obtain ⟨p,tX,vk,hp3⟩:∃ p,A≤p∧p < B∧(s p).eT (I p)=t:=mJ fun eE=>by
  have eE:∀ n,A≤n→n < B→(s n).eT (I n)≠t:=fun n q1 q2 e=>eE ⟨n,q1,q2,e⟩
  have e0:(s (q+1)).ve m t:=(hB q t).2 (.inr ht.symm)
  have e1:=inn (q+1) (B - (q+1)) t e0 fun n q1 q2=>eE n (by omega) (by omega)
  rw [show q+1+(B - (q+1))=B by omega] at e1
  have e2:=inn A (q - A) t (adF t e1) fun n q1 q2=>eE n (by omega) (by omega)
  rw [show A+(q - A)=q by omega] at e2
  exact htq e2
 -- the direction of the step in which it goes out
 have hjp:=(st p).1.lt
 have y1:=o6 (GM p) (one ((s p).fr (J p)))
 have y0:=o6 (GM p) qQ
 have g1:(s p).v+(s p).g (J p)=(s q).gv k ((s p).ext m k (one ((s p).fr (J p)))):=by
  rw [← (hee p q).gv _ y1,yT (GM p),JP (GM p) hjp]
 have g0:(s p).v=(s q).gv k ((s p).ext m k qQ):=by rw [← (hee p q).gv _ y0,yT (GM p),Dt]
 let d:Nat→Rat:=fun u=>(s p).ext m k (one ((s p).fr (J p))) u - (s p).ext m k qQ u
 have hd:(s p).g (J p)=bR k fun j=>(s q).g j * d ((s q).fr j):=by
  have e:bR k (fun j=>(s q).g j * (s p).ext m k (one ((s p).fr (J p))) ((s q).fr j))=bR k (fun j=>(s q).g j * d ((s q).fr j)+(s q).g j * (s p).ext m k qQ ((s q).fr j)):=aE fun j _=>by
   show _=_ * (_ - _)+_
   grind
  rw [rM] at e
  unfold gv at g1 g0
  rw [e] at g1
  rw [g0] at g1
  grind
 obtain ⟨j,hj,Py⟩:=Lx (by rw [← hd];exact (st p).1.pos)
 generalize hr:(s q).fr j=r at Py
 have hrq:¬ (s q).ve m r:=hr ▸ Z6 q j hj
 have hru:r < m+k:=hr ▸ (GM q).fl j hj
 -- Bland's choice at q
 have blq:t≤r∨(s q).g j≤0:=by
  by_cases h:0 < (s q).g j
  ·exact .inl (by rw [← ht,← hr];exact (st q).1.min j hj h)
  ·exact .inr (Rat.not_lt.1 h)
 have adI:∀ i,i < m→(s p).eT i=t→(s p).a i (J p) < 0:=fun i hi e=>by
  rw [(GM p).bi i (I p) hi (st p).2.1.lt (e.trans hp3.symm)];exact (st p).2.1.neg
 rcases (GM p).al r hru with ⟨i,hi,e⟩ | ⟨c,hc,e⟩
 ·have ZF:d r=(s p).a i (J p):=by
   show (s p).ext m k _ r - (s p).ext m k qQ r=_
   rw [← e,uH (GM p) hi,uH (GM p) hi,row_one (GM p) hjp,sV];grind
  rw [ZF] at Py
  obtain ⟨n,n1,n2,n3⟩:=enters r p tX vk ⟨i,hi,e⟩ hrq
  have hrt:r≤t:=n3 ▸ iU n n1 n2
  by_cases Z9:r=t
  ·have h1:=adI i hi (e.trans Z9)
   have h2:0 < (s q).g j:=by
    rw [(GM q).fi j (J q) hj (st q).1.lt (hr.trans (Z9.trans ht.symm))];exact (st q).1.pos
   have:=Rat.mul_pos h2 (show 0 < -((s p).a i (J p)) by grind)
   grind
  ·have hg:(s q).g j≤0:=blq.resolve_left (by omega)
   have ha:(s p).a i (J p) < 0:=Rat.not_le.1 fun h=>by
    have:=Rat.mul_nonneg (show 0≤-((s q).g j) by grind) h
    grind
   have hbr:(s p).b i=0:=by
    rw [hxb p tX (by omega) i hi,e,← hr];exact hxf q Fo (by omega) j hj
   have hz:(s p).ratio (J p) i=0:=by unfold ratio;rw [hbr];grind
   rcases (st p).2.1.min i hi ha with h | ⟨_,h⟩
   ·rw [UK p tX vk,hz] at h;exact absurd h (by decide)
   ·rw [hp3,e] at h;omega
 ·have ZF:d r=one ((s p).fr (J p)) r:=by
   show (s p).ext m k _ r - (s p).ext m k qQ r=_
   rw [← e,vb (GM p) hc,vb (GM p) hc];unfold qQ;grind
  rw [ZF] at Py
  unfold one at Py
  split at Py
  ·rename_i Zq
   have hle:r≤t:=Zq ▸ iU p tX vk
   have eE:r≠t:=fun h=>(GM p).bf (I p) (J p) (st p).2.1.lt hjp (by rw [hp3,← Zq,h])
   have hg:(s q).g j≤0:=blq.resolve_left (by omega)
   grind
  ·grind
theorem Sw {m k:Nat} {D:bq} (hw:D.WF m k) (hf:D.Kc m):Acc (fun a b=>Step m k b a) D:=mJ fun hn=>by
 have nx:∀ x:{ x:bq // ¬ Acc (fun a b=>Step m k b a) x },∃ y:{ x:bq // ¬ Acc (fun a b=>Step m k b a) x },Step m k x.1 y.1:=fun x=>mJ fun q=>x.2 (.intro _ fun y hy=>mJ fun G9=>q ⟨⟨y,G9⟩,hy⟩)
 let s:Nat→{ x:bq // ¬ Acc (fun a b=>Step m k b a) x }:=fun n=>Nat.rec ⟨D,hn⟩ (fun _ x=>Classical.choose (nx x)) n
 exact Nf (s:=fun n=>(s n).1) hw hf fun n=>Classical.choose_spec (nx (s n))
end bq
end Go.Den
namespace Go.Den
open Go.Ab
namespace bq
structure GN (D:bq) (m k s:Nat):Prop where
 a:∀ i j,i < m→j < k→RB (D.a i j) s
 b:∀ i,i < m→RB (D.b i) s
 g:∀ j,j < k→RB (D.g j) s
 v:RB D.v s
theorem X1:RB 1 1:=RB.int (z:=1) (ZB.small (by decide)) (by decide)
theorem GN.nD {D:bq} {m k s i j:Nat} (h:D.GN m k s) (h1:1≤s) (hi:i < m) (hj:j < k) (h0:D.a i j≠0) {c:Nat} (hc:c < k):RB (D.nD i j c) (2 * s):=by
 unfold bq.nD
 split
 ·exact (X1.div (h.a i j hi hj) h0).le (by omega)
 ·exact ((h.a i c hi hc).div (h.a i j hi hj) h0).neg.le (by omega)
theorem GN.il {D:bq} {m k s i j:Nat} (h:D.GN m k s) (h1:1≤s) (hi:i < m) (hj:j < k) (h0:D.a i j≠0):(D.il i j).GN m k (5 * s):=by
 have hp:RB (D.pb i j) (2 * s):=((h.b i hi).div (h.a i j hi hj) h0).neg.le (by omega)
 refine ⟨fun r c hr hc=>?_,fun r hr=>?_,fun c hc=>?_,((h.v).add ((h.g j hj).mul hp)).le (by omega)⟩
 ·have hw:=h.nD h1 hi hj h0 hc
  simp only [bq.il]
  split
  ·exact hw.le (by omega)
  ·split
   ·exact ((h.a r j hr hj).mul hw).le (by omega)
   ·exact ((h.a r c hr hc).add ((h.a r j hr hj).mul hw)).le (by omega)
 ·simp only [bq.il]
  split
  ·exact hp.le (by omega)
  ·exact ((h.b r hr).add ((h.a r j hr hj).mul hp)).le (by omega)
 ·have hw:=h.nD h1 hi hj h0 hc
  simp only [bq.il]
  split
  ·exact ((h.g j hj).mul hw).le (by omega)
  ·exact ((h.g c hc).add ((h.g j hj).mul hw)).le (by omega)
open Classical in
noncomputable def B4 (p:Nat→Prop):Nat→Nat
 | 0=>0
 | n+1=>B4 p n+if p n then 1 else 0
theorem Ng {p:Nat→Prop}:∀ n,B4 p n≤n
 | 0=>aR _
 | n+1=>by have:=Ng (p:=p) n;rw [B4];split<;>omega
theorem B5 {p q:Nat→Prop}:∀ {n:Nat},(∀ i,i < n→q i→p i)→B4 q n≤B4 p n
 | 0,_=>aR _
 | n+1,h=>by
  have:=B5 (p:=p) (q:=q) (n:=n) fun i hi=>h i (by omega)
  have hn:=h n (by omega)
  rw [B4,B4]
  by_cases h1:q n
  ·simp only [h1,hn h1,if_true];omega
  ·simp only [h1,if_false];omega
theorem Nh {p q:Nat→Prop}:∀ {n i:Nat},(∀ i,i < n→q i→p i)→i < n→p i→¬ q i→B4 q n < B4 p n
 | 0,i,_,hi,_,_=>by omega
 | n+1,i,h,hi,h1,h2=>by
  have hn:=h n (by omega)
  rw [B4,B4]
  by_cases e:i=n
  ·subst e
   have:=B5 (p:=p) (q:=q) (n:=i) fun i hi=>h i (by omega)
   simp only [h1,h2,if_true,if_false];omega
  ·have:=Nh (p:=p) (q:=q) (n:=n) (i:=i) (fun i hi=>h i (by omega)) (by omega) h1 h2
   by_cases h3:q n
   ·simp only [h3,hn h3,if_true];omega
   ·simp only [h3,if_false];omega
theorem GO {p:Nat→Prop}:∀ {n:Nat},B4 p n=0→∀ i,i < n→¬ p i
 | 0,_,i,hi=>by omega
 | n+1,h,i,hi=>by
  rw [B4] at h
  by_cases e:i=n
  ·subst e;intro hp;simp only [hp,if_true] at h;omega
  ·exact GO (n:=n) (by omega) i (by omega)
def dir (D:bq) (m k j:Nat) (u:Nat):Rat:=D.ext m k (one (D.fr j)) u - D.ext m k qQ u
theorem JR {D:bq} {m k i j:Nat} (h:D.WF m k) (hi:i < m) (hj:j < k):D.dir m k j (D.eT i)=D.a i j:=by
 unfold dir;rw [uH h hi,uH h hi,row_one h hj,sV];grind
theorem A4 {D:bq} {m k c j:Nat} (h:D.WF m k) (hc:c < k) (hj:j < k):D.dir m k j (D.fr c)=if c=j then 1 else 0:=by
 unfold dir;rw [vb h hc,vb h hc]
 unfold one qQ
 by_cases e:c=j
 ·subst e;rw [if_pos rfl,if_pos rfl];grind
 ·rw [if_neg e,if_neg fun q=>e (h.fi _ _ hc hj q)];grind
theorem GP {D D':bq} {m k j:Nat} (h':D'.WF m k) (e:z7 m k D' D) (hz:∀ c,c < k→D'.dir m k j (D.fr c)=0) {i:Nat} (hi:i < m):D'.dir m k j (D.eT i)=0:=by
 have s1:=(e.Kb _).1 (o6 h' (one (D'.fr j)))
 have s0:=(e.Kb _).1 (o6 h' qQ)
 unfold dir
 rw [yU s1 (y:=D'.ext m k qQ) (fun c hc=>by have:=hz c hc;unfold dir at this;grind) hi,yU s0 (y:=D'.ext m k qQ) (fun _ _=>rfl) hi]
 grind
theorem zQ {D D':bq} {m k:Nat} (h:D.WF m k) (h':D'.WF m k) (e:z7 m k D D') (hb:∀ u,D.ve m u→D'.ve m u) {j:Nat} (hj:j < k):∃ j',j' < k∧D'.fr j'=D.fr j:=by
 refine zP h' (h.fl j hj) fun ⟨i',o8,q⟩=>?_
 have:=GP (D:=D') (D':=D) (j:=j) h e (fun c hc=>?_) o8
 ·rw [q,A4 h hj hj,if_pos rfl] at this;exact absurd this (by decide)
 ·obtain ⟨c',jk,q2⟩:=zP h (h'.fl c hc) fun ⟨i,hi,q3⟩=>by
   obtain ⟨i2,Tt,q4⟩:=hb _ ⟨i,hi,q3⟩
   exact h'.bf i2 c Tt hc q4
  rw [← q2,A4 h jk hj,if_neg fun q5=>h'.bf i' c o8 hc (by rw [q,← q2,q5])]
theorem Ly {m k:Nat} {D:bq} (h:D.WF m k):∀ (n:Nat) {D':bq} {s:Nat},D'.WF m k→z7 m k D' D→D'.GN m k s→1≤s→B4 (fun i=>¬ D'.ve m (D.eT i)) m≤n→D.GN m k (5 ^ n * s)
 | n,D',s,h',e,hs,h1,hc=>by
  by_cases hz:B4 (fun i=>¬ D'.ve m (D.eT i)) m=0
  ·have hb:∀ u,D.ve m u→D'.ve m u:=fun u ⟨i,hi,q⟩=>q ▸ Classical.not_not.1 (GO hz i hi)
   obtain ⟨u1,u2,u3,u4⟩:=uniq h h' e.symm hb
   have hn:s≤5 ^ n * s:=Nat.le_mul_of_pos_left _ (Nat.pow_pos (by decide))
   refine ⟨fun i j hi hj=>?_,fun i hi=>?_,fun j hj=>?_,by rw [u4];exact hs.v.le hn⟩
   ·obtain ⟨i',o8,q⟩:=hb _ ⟨i,hi,rfl⟩
    obtain ⟨j',sx,q2⟩:=zQ h h' e.symm hb hj
    rw [u2 i j i' j' hi o8 hj sx q.symm q2.symm];exact (hs.a _ _ o8 sx).le hn
   ·obtain ⟨i',o8,q⟩:=hb _ ⟨i,hi,rfl⟩
    rw [u1 i i' hi o8 q.symm];exact (hs.b _ o8).le hn
   ·obtain ⟨j',sx,q2⟩:=zQ h h' e.symm hb hj
    rw [u3 j j' hj sx q2.symm];exact (hs.g _ sx).le hn
  ·obtain ⟨i,hi,YA⟩:∃ i,i < m∧¬ D'.ve m (D.eT i):=mJ fun q=>hz (by
    have:B4 (fun i=>¬ D'.ve m (D.eT i)) m≤B4 (fun _=>False) m:=B5 fun i hi hp=>q ⟨i,hi,hp⟩
    have h0:∀ n,B4 (fun _=>False) n=0:=fun n=>by
     induction n with
     | zero=>rfl
     | succ n ih=>rw [B4,ih];simp
    rw [h0] at this;omega)
   obtain ⟨j',sx,hv⟩:=zP h' (h.bl i hi) YA
   obtain ⟨r,hr,h0,O0⟩:∃ r,r < m∧D'.a r j'≠0∧¬ D.ve m (D'.eT r):=mJ fun q=>by
    have:=GP (D:=D) (D':=D') (j:=j') h' e (fun c hc=>?_) hi
    ·rw [← hv,A4 h' sx sx,if_pos rfl] at this;exact absurd this (by decide)
    ·rcases h'.al _ (h.fl c hc) with ⟨r,hr,q2⟩ | ⟨c',jk,q2⟩
     ·rw [← q2,JR h' hr sx]
      refine mJ fun q3=>q ⟨r,hr,q3,fun ⟨i2,Tt,q4⟩=>h.bf i2 c Tt hc (q4.trans q2)⟩
     ·rw [← q2,A4 h' jk sx,if_neg fun q3=>h.bf i c hi hc (by rw [← hv,← q2,q3])]
   have fo:B4 (fun i=>¬ (D'.il r j').ve m (D.eT i)) m < B4 (fun i=>¬ D'.ve m (D.eT i)) m:=by
    refine Nh (i:=i) (fun i' o8 hp hq=>hp ((B3 h' hr).2 (.inl ⟨hq,fun q=>O0 ⟨i',o8,q⟩⟩))) hi YA fun hp=>hp ((B3 h' hr).2 (.inr hv.symm))
   obtain ⟨n,rfl⟩:∃ n',n=n'+1:=⟨n - 1,by omega⟩
   have:=Ly h n (h'.il hr sx) ((z7.il hr sx h0).symm.trans e) (hs.il h1 hr sx h0) (by omega) (by omega)
   rwa [← Nat.mul_assoc,← Nat.pow_succ] at this
theorem size {m k s:Nat} {D D':bq} (h:D.WF m k) (h':D'.WF m k) (e:z7 m k D' D) (hs:D'.GN m k s) (h1:1≤s):D.GN m k (5 ^ m * s):=Ly h m h' e hs h1 (Ng m)
end bq
end Go.Den
namespace Go.Den
open Go.Ab
theorem Iy (m n:Nat) (f:Nat→Nat→Rat):bR m (fun i=>bR n fun j=>f i j)=bR n fun j=>bR m fun i=>f i j:=by
 induction m with
 | zero=>show (0:Rat)=_;rw [show (fun j=>bR 0 fun i=>f i j)=fun _=>(0:Rat) from rfl,ik]
 | succ m ih=>simp only [bR];rw [ih,← rM]
theorem nF (m n:Nat) (f:Nat→Rat):bR (m+n) f=bR m f+bR n fun i=>f (m+i):=by
 induction n with
 | zero=>show bR m f=bR m f+0;grind
 | succ n ih=>rw [show m+(n+1)=m+n+1 by omega,bR,bR,ih];grind
theorem yV (n:Nat) (f g:Nat→Rat):bR n (fun i=>f i - g i)=bR n f - bR n g:=by
 have e:(fun i=>f i - g i)=fun i=>f i+(-1) * g i:=by funext i;grind
 rw [e,rM,iW];grind
namespace bq
def sc (t:Rat) (u:Nat):Nat→Rat:=fun w=>if w=u then t else 0
theorem X2 {D:bq} {m k j:Nat} (h:D.WF m k) (hj:j < k) (t:Rat) (i:Nat):D.row k (sc t (D.fr j)) i=D.b i+D.a i j * t:=by
 unfold row sc
 rw [jo hj _ fun c hc eE=>by rw [if_neg fun e=>eE (h.fi _ _ hc hj e)];grind]
 rw [if_pos rfl]
theorem aaa {D:bq} {m k j:Nat} (h:D.WF m k) (hj:j < k) (t:Rat):D.gv k (sc t (D.fr j))=D.v+D.g j * t:=by
 unfold gv sc
 rw [jo hj _ fun c hc eE=>by rw [if_neg fun e=>eE (h.fi _ _ hc hj e)];grind]
 rw [if_pos rfl]
def gc (D:bq) (k u:Nat):Rat:=bR k fun j=>if D.fr j=u then D.g j else 0
theorem Lz {D:bq} {m k j:Nat} (h:D.WF m k) (hj:j < k):D.gc k (D.fr j)=D.g j:=by
 unfold gc
 rw [jo hj _ fun c hc eE=>if_neg fun e=>eE (h.fi _ _ hc hj e),if_pos rfl]
theorem B6 {D:bq} {k u:Nat} (h:∀ j,j < k→D.fr j≠u):D.gc k u=0:=by
 unfold gc
 rw [aE (g:=fun _=>0) fun j hj=>if_neg (h j hj),ik]
theorem Sx {D:bq} {m k:Nat} (h:D.WF m k) (x:Nat→Rat):D.gv k x=D.v+bR (m+k) fun u=>D.gc k u * x u:=by
 unfold gv;congr 1
 have e:(fun u=>D.gc k u * x u)=fun u=>bR k fun j=>x u * (if D.fr j=u then D.g j else 0):=by
  funext u;rw [iW];unfold gc;grind
 rw [e,Iy]
 refine aE fun j hj=>?_
 rw [jo (h.fl j hj) _ fun u _ hu=>by rw [if_neg fun q=>hu q.symm];grind]
 rw [if_pos rfl];grind
section
variable (n m:Nat) (C:Nat→Nat→Rat) (B:Nat→Rat)
def fst (z:Rat):bq where
 eT:=fun i=>2 * n+i
 fr:=fun j=>if j < 2 * n then j else 2 * n+m
 a:=fun i j=>if j < n then -(C i j) else if j < 2 * n then C i (j - n) else 1
 b:=B
 g:=fun j=>if j < 2 * n then 0 else z
 v:=0
theorem Du (z:Rat):(fst n m C B z).WF m (2 * n+1):=by
 refine ⟨fun i i' _ _ e=>?_,fun j j' hj sx e=>?_,fun i j hi hj e=>?_,fun i hi=>?_,fun j hj=>?_,fun u hu=>?_⟩
 ·simp only [fst] at e;omega
 ·simp only [fst] at e;split at e<;>split at e<;>omega
 ·simp only [fst] at e;split at e<;>omega
 ·simp only [fst];omega
 ·simp only [fst];split<;>omega
 ·by_cases h:u < 2 * n
  ·exact .inr ⟨u,by omega,by simp only [fst];rw [if_pos h]⟩
  ·by_cases h2:u=2 * n+m
   ·exact .inr ⟨2 * n,by omega,by simp only [fst];rw [if_neg (by omega)];exact h2.symm⟩
   ·exact .inl ⟨u - 2 * n,by omega,by simp only [fst];omega⟩
def ji (p:Nat→Rat) (i:Nat):Rat:=bR n fun j=>C i j * p j
theorem OI (z:Rat) (x:Nat→Rat) (i:Nat):(fst n m C B z).row (2 * n+1) x i=B i - ji n C (fun j=>x j - x (n+j)) i+x (2 * n+m):=by
 unfold row ji
 have e2:bR (2 * n) (fun j=>(fst n m C B z).a i j * x ((fst n m C B z).fr j)) = - bR n fun j=>C i j * (x j - x (n+j)):=by
  rw [show 2 * n=n+n by omega,nF]
  have e3:bR n (fun j=>(fst n m C B z).a i j * x ((fst n m C B z).fr j))=bR n fun j=>(-1) * (C i j * x j):=aE fun j hj=>by
   simp only [fst];rw [if_pos hj,if_pos (by omega)];grind
  have e4:bR n (fun j=>(fst n m C B z).a i (n+j) * x ((fst n m C B z).fr (n+j)))=bR n fun j=>C i j * x (n+j):=aE fun j hj=>by
   simp only [fst];rw [if_neg (by omega),if_pos (by omega),if_pos (by omega),show n+j - n=j by omega]
  rw [e3,e4,iW,show (fun j=>C i j * (x j - x (n+j)))=fun j=>C i j * x j - C i j * x (n+j) by funext j;grind,yV]
  grind
 rw [bR,e2]
 have e5:(fst n m C B z).a i (2 * n)=1:=by simp only [fst];rw [if_neg (by omega),if_neg (by omega)]
 have e6:(fst n m C B z).fr (2 * n)=2 * n+m:=by simp only [fst];rw [if_neg (by omega)]
 have e7:(fst n m C B z).b i=B i:=rfl
 rw [e5,e6,e7];grind
theorem Ni (z:Rat) (x:Nat→Rat):(fst n m C B z).gv (2 * n+1) x=z * x (2 * n+m):=by
 unfold gv
 rw [jo (j:=2 * n) (by omega) _ fun j hj eE=>by simp only [fst];rw [if_pos (by omega)];grind]
 have e5:(fst n m C B z).g (2 * n)=z:=by simp only [fst];rw [if_neg (by omega)]
 have e6:(fst n m C B z).fr (2 * n)=2 * n+m:=by simp only [fst];rw [if_neg (by omega)]
 have e7:(fst n m C B z).v=0:=rfl
 rw [e5,e6,e7];grind
theorem B7 (z:Rat) (x:Nat→Rat):(fst n m C B z).B1 m (2 * n+1) x↔∀ i,i < m→x (2 * n+i)=B i - ji n C (fun j=>x j - x (n+j)) i+x (2 * n+m):=by
 unfold B1
 constructor
 ·intro h i hi;rw [← OI n m C B z];exact h i hi
 ·intro h i hi;rw [OI];exact h i hi
theorem GQ (z:Rat) (D:bq) (x:Nat→Rat) (h:z7 m (2 * n+1) (fst n m C B z) D):D.B1 m (2 * n+1) x↔(fst n m C B 0).B1 m (2 * n+1) x:=by
 rw [← h.Kb,B7,B7]
def yW (y:Nat→Rat) (u:Nat):Rat:=if 2 * n≤u∧u < 2 * n+m then B (u - 2 * n) - ji n C (fun j=>y j - y (n+j)) (u - 2 * n)+y (2 * n+m) else y u
theorem GR (z:Rat) (y:Nat→Rat):(fst n m C B z).B1 m (2 * n+1) (yW n m C B y):=(B7 n m C B z _).2 fun i hi=>by
 have e1:yW n m C B y (2 * n+i)=B i - ji n C (fun j=>y j - y (n+j)) i+y (2 * n+m):=by
  unfold yW;rw [if_pos ⟨by omega,by omega⟩,show 2 * n+i - 2 * n=i by omega]
 have e2:yW n m C B y (2 * n+m)=y (2 * n+m):=by unfold yW;rw [if_neg (by omega)]
 have e3:ji n C (fun j=>yW n m C B y j - yW n m C B y (n+j)) i=ji n C (fun j=>y j - y (n+j)) i:=by
  unfold ji
  refine aE fun j hj=>?_
  show C i j * (yW n m C B y j - yW n m C B y (n+j))=C i j * (y j - y (n+j))
  unfold yW;rw [if_neg (by omega),if_neg (by omega)]
 rw [e1,e2,e3]
theorem PX {low:Nat} (hl:low < m) (rL:B low < 0) (uc:∀ r,r < m→B low≤B r):((fst n m C B (-1)).il low (2 * n)).Kc m:=fun r hr=>by
 have e5:∀ r,(fst n m C B (-1)).a r (2 * n)=1:=fun r=>by simp only [fst];rw [if_neg (by omega),if_neg (by omega)]
 have e7:∀ r,(fst n m C B (-1)).b r=B r:=fun _=>rfl
 simp only [bq.il,pb,e5,e7]
 have:=uc r hr
 split<;>grind
variable {n m C B} {D:bq} (hw:D.WF m (2 * n+1)) (he:z7 m (2 * n+1) (fst n m C B (-1)) D)
include hw he in
theorem Nj {x:Nat→Rat} (hx:D.B1 m (2 * n+1) x):D.gv (2 * n+1) x = -(x (2 * n+m)):=by
 have:=hw
 rw [← he.gv x ((he.Kb x).2 hx),Ni];grind
theorem GS {m k:Nat} (hw:D.WF m k) {y:Nat→Rat} (hr:∀ i,i < m→0≤D.row k y i) (hy:∀ u,0≤y u) (u:Nat) (hu:u < m+k):0≤D.ext m k y u:=by
 rcases hw.al u hu with ⟨i,hi,e⟩ | ⟨j,hj,e⟩
 ·rw [← e,uH hw hi];exact hr i hi
 ·rw [← e,vb hw hj];exact hy _
theorem zR {m k:Nat} (hw:D.WF m k) (hf:D.Kc m) (u:Nat) (hu:u < m+k):0≤D.ext m k qQ u :=
 GS hw (y:=qQ) (fun i hi=>by rw [sV];exact hf i hi) (fun _=>Rat.le_refl) u hu
include hw he in
theorem GU:D.v = -(D.ext m (2 * n+1) qQ (2 * n+m)):=by
 rw [← Nj hw he (o6 hw qQ),yT hw,Dt]
include hw he in
theorem Vx (hf:D.Kc m) (aab:(∀ j,j < 2 * n+1→D.g j≤0)∨∃ j,D.EP (2 * n+1) j∧∀ i,i < m→0≤D.a i j):∀ j,j < 2 * n+1→D.g j≤0:=by
 rcases aab with h | ⟨j,hj,ha⟩
 ·exact h
 ·exfalso
  have hv:D.v≤0:=by rw [GU hw he];have:=zR hw hf (2 * n+m) (by omega);grind
  have hp:=hj.pos
  have ht:0≤(1 - D.v) / D.g j:=GL hp (by grind)
  have hs:=o6 hw (sc ((1 - D.v) / D.g j) (D.fr j))
  have h1:=Nj hw he hs
  rw [yT hw,aaa hw hj.lt] at h1
  have h2:=GS hw (y:=sc ((1 - D.v) / D.g j) (D.fr j)) (fun i hi=>by
   rw [X2 hw hj.lt]
   have:=Rat.mul_nonneg (ha i hi) ht
   have:=hf i hi
   grind) (fun u=>by unfold sc;split<;>grind) (2 * n+m) (by omega)
  have h3:D.g j * ((1 - D.v) / D.g j)=1 - D.v:=by grind
  rw [h3] at h1
  grind
include hw he in
theorem aac (hg:∀ j,j < 2 * n+1→D.g j≤0):(∀ u,D.gc (2 * n+1) u≤0)∧(∀ j,j < n→bR m (fun i=>-(D.gc (2 * n+1) (2 * n+i)) * C i j)=0)∧bR m (fun i=>-(D.gc (2 * n+1) (2 * n+i)) * B i)=D.v:=by
 have TF:∀ u,D.gc (2 * n+1) u≤0:=fun u=>by
  by_cases h:∃ j,j < 2 * n+1∧D.fr j=u
  ·obtain ⟨j,hj,rfl⟩:=h
   rw [Lz hw hj];exact hg j hj
  ·rw [B6 fun j hj e=>h ⟨j,hj,e⟩];exact Rat.le_refl
 generalize hG:D.gc (2 * n+1)=G at TF ⊢
 have key:∀ y:Nat→Rat,-(y (2 * n+m))=D.v+(bR (2 * n) (fun u=>G u * y u)+bR m (fun i=>G (2 * n+i) * (B i - ji n C (fun j=>y j - y (n+j)) i+y (2 * n+m)))+G (2 * n+m) * y (2 * n+m)):=fun y=>by
  have h1:=Nj hw he ((he.Kb _).1 (GR n m C B (-1) y))
  rw [Sx hw,hG,show m+(2 * n+1)=(2 * n+m)+1 by omega,bR,nF] at h1
  have e1:∀ u,u < 2 * n→yW n m C B y u=y u:=fun u hu=>by unfold yW;rw [if_neg (by omega)]
  have e2:yW n m C B y (2 * n+m)=y (2 * n+m):=by unfold yW;rw [if_neg (by omega)]
  have e3:∀ i,i < m→yW n m C B y (2 * n+i)=B i - ji n C (fun j=>y j - y (n+j)) i+y (2 * n+m):=fun i hi=>by
   unfold yW;rw [if_pos ⟨by omega,by omega⟩,show 2 * n+i - 2 * n=i by omega]
  rw [aE (n:=2 * n) (g:=fun u=>G u * y u) fun u hu=>by rw [e1 u hu],aE (n:=m) (g:=fun i=>G (2 * n+i) * (B i - ji n C (fun j=>y j - y (n+j)) i+y (2 * n+m))) fun i hi=>by rw [e3 i hi],e2] at h1
  exact h1.symm
 have k0:=key qQ
 have d0:∀ i,ji n C (fun j=>qQ j - qQ (n+j)) i=0:=fun i=>by
  unfold ji qQ
  rw [aE (g:=fun _=>0) fun j _=>by grind,ik]
 have z0:bR m (fun i=>G (2 * n+i) * (B i - ji n C (fun j=>qQ j - qQ (n+j)) i+qQ (2 * n+m)))=bR m fun i=>G (2 * n+i) * B i:=aE fun i _=>by
  rw [d0];unfold qQ;grind
 rw [z0,aE (n:=2 * n) (g:=fun _=>0) fun u _=>by unfold qQ;grind,ik] at k0
 have k0:bR m (fun i=>G (2 * n+i) * B i) = -D.v:=by unfold qQ at k0;grind
 have un:∀ (u:Nat) (s:Rat),u < 2 * n→(∀ i,i < m→ji n C (fun j=>one u j - one u (n+j)) i=s * C i (if u < n then u else u - n))→G u=s * bR m fun i=>G (2 * n+i) * C i (if u < n then u else u - n):=fun u s hu hd=>by
  have k1:=key (one u)
  have z1:one u (2 * n+m)=0:=if_neg (by omega)
  rw [z1,jo hu (fun w=>G w * one u w) fun w _ eE=>by unfold one;rw [if_neg eE];grind] at k1
  rw [aE (n:=m) (g:=fun i=>G (2 * n+i) * B i+(-s) * (G (2 * n+i) * C i (if u < n then u else u - n))) fun i hi=>by rw [hd i hi];grind,rM,iW,k0] at k1
  have:one u u=1:=if_pos rfl
  rw [this] at k1
  grind
 have rL:∀ f:Nat→Rat,bR m (fun i=>-(G (2 * n+i)) * f i) = -(bR m fun i=>G (2 * n+i) * f i):=fun f=>by
  rw [show (fun i=>-(G (2 * n+i)) * f i)=fun i=>(-1) * (G (2 * n+i) * f i) by funext i;grind,iW];grind
 refine ⟨TF,fun j hj=>?_,by rw [rL,k0];grind⟩
 have a1:=un j 1 (by omega) fun i hi=>by
  unfold ji
  rw [jo hj _ fun c hc eE=>by show C i c * (one j c - one j (n+c))=0;unfold one;rw [if_neg eE,if_neg (by omega)];grind]
  show C i j * (one j j - one j (n+j))=_
  unfold one;rw [if_pos rfl,if_neg (by omega),if_pos hj];grind
 have a2:=un (n+j) (-1) (by omega) fun i hi=>by
  unfold ji
  rw [jo hj _ fun c hc eE=>by show C i c * (one (n+j) c - one (n+j) (n+c))=0;unfold one;rw [if_neg (by omega),if_neg (by omega)];grind]
  show C i j * (one (n+j) j - one (n+j) (n+j))=_
  unfold one;rw [if_pos rfl,if_neg (by omega),if_neg (by omega),show n+j - n=j by omega];grind
 rw [if_pos hj] at a1
 rw [if_neg (by omega),show n+j - n=j by omega] at a2
 have b1:=TF j
 have b2:=TF (n+j)
 rw [rL]
 grind
include hw he in
include hw he in
theorem Nk {i:Nat} (hi:i < m) (hb:D.eT i=2 * n+m):∃ j,j < 2 * n+1∧D.a i j≠0:=mJ fun hn=>by
 have hz:∀ j,j < 2 * n+1→D.a i j=0:=fun j hj=>mJ fun q=>hn ⟨j,hj,q⟩
 have hc:∀ x,D.B1 m (2 * n+1) x→x (2 * n+m)=D.b i:=fun x hx=>by
  rw [← hb,hx i hi];unfold row
  rw [aE (g:=fun _=>0) fun j hj=>by rw [hz j hj];grind,ik];grind
 have c0:=hc _ ((he.Kb _).1 (GR n m C B (-1) qQ))
 have c1:=hc _ ((he.Kb _).1 (GR n m C B (-1) (one (2 * n+m))))
 have:=hw
 unfold yW at c0 c1
 rw [if_neg (by omega)] at c0 c1
 unfold qQ at c0
 unfold one at c1
 rw [if_pos rfl] at c1
 rw [← c0] at c1
 exact absurd c1 (by decide)
theorem Sy {m i j:Nat} (hf:D.Kc m) (h0:D.b i=0):(D.il i j).Kc m:=fun r hr=>by
 have hp:D.pb i j=0:=by unfold pb;rw [h0,Rat.div_def,Rat.zero_mul];rfl
 simp only [bq.il,hp]
 have:=hf r hr
 split
 ·exact Rat.le_refl
 ·grind
end
end bq
end Go.Den
namespace Go.Den
open Go.Ab
section
variable {α:Type}
def Bc (f:Nat→α) (n:Nat):List α:=(List.range n).map f
theorem qk (f:Nat→α) (n:Nat):(Bc f n).length=n:=by simp [Bc]
theorem ER (f:Nat→α) {n i:Nat} (d:α) (h:i < n):(Bc f n).getD i d=f i:=by simp [Bc,h]
theorem qG {f g:Nat→α} {n:Nat} (h:∀ i,i < n→f i=g i):Bc f n=Bc g n:=by
 unfold Bc;exact List.map_congr_left fun i hi=>h i (nI.1 hi)
theorem Dv {l:List α} {f:Nat→α} {n:Nat} (d:α) (hl:l.length=n) (h:∀ i,i < n→l.getD i d=f i):l=Bc f n:=by
 refine List.ext_getElem (by rw [hl,qk]) fun i h1 h2=>?_
 have:=h i (by omega)
 rw [eh,kb h1,Option.getD_some] at this
 rw [this];simp [Bc]
theorem ES (f:Nat→α) (n i:Nat) (v:α):(Bc f n).set i v=Bc (fun a=>if a=i then v else f a) n:=by
 refine List.ext_getElem (by simp [Bc]) fun a h1 h2=>?_
 rw [List.getElem_set]
 by_cases e:i=a
 ·subst e;simp [Bc]
 ·rw [if_neg e];simp [Bc];intro q;exact absurd q.symm e
end
def LQ (f:Nat→Rat) (n:Nat):List aa:=Bc (fun i=>bj (f i)) n
def LN (f:Nat→Nat) (n:Nat):List Int:=Bc (fun i=>(f i:Int)) n
def LA (a:Nat→Nat→Rat) (m k:Nat):List (List aa):=Bc (fun i=>LQ (a i) k) m
theorem bG (f:Nat→Rat) (n:Nat):(LQ f n).length=n:=qk _ _
theorem eD (f:Nat→Nat) (n:Nat):(LN f n).length=n:=qk _ _
theorem gW (a:Nat→Nat→Rat) (m k:Nat):(LA a m k).length=m:=qk _ _
theorem gN (f:Nat→Rat) {n i:Nat} (d:aa) (h:i < n):(LQ f n).getD i d=bj (f i):=ER _ _ h
theorem qH (f:Nat→Nat) {n i:Nat} (d:Int) (h:i < n):(LN f n).getD i d=(f i:Int):=ER _ _ h
theorem tV (a:Nat→Nat→Rat) {m k i:Nat} (d:List aa) (h:i < m):(LA a m k).getD i d=LQ (a i) k:=ER _ _ h
theorem lM {f g:Nat→Rat} {n:Nat} (h:∀ i,i < n→f i=g i):LQ f n=LQ g n:=qG fun i hi=>by rw [h i hi]
theorem Sz {a b:Nat→Nat→Rat} {m k:Nat} (h:∀ i j,i < m→j < k→a i j=b i j):LA a m k=LA b m k:=qG fun i hi=>lM fun j hj=>h i j hi hj
theorem xg (f:Nat→Rat) (n i:Nat) (q:Rat):(LQ f n).set i (bj q)=LQ (fun a=>if a=i then q else f a) n:=by
 unfold LQ;rw [ES];exact qG fun a _=>by by_cases e:a=i<;>simp [e]
theorem X3 (f:Nat→Nat) (n i q:Nat):(LN f n).set i (q:Int)=LN (fun a=>if a=i then q else f a) n:=by
 unfold LN;rw [ES];exact qG fun a _=>by by_cases e:a=i<;>simp [e]
theorem SA (a:Nat→Nat→Rat) (m k i:Nat) (r:Nat→Rat):(LA a m k).set i (LQ r k)=LA (fun x=>if x=i then r else a x) m k:=by
 unfold LA;rw [ES];exact qG fun a _=>by by_cases e:a=i<;>simp [e]
theorem RB.q {p:Rat} {s:Nat} (h:RB p s) (hs:s≤MS):RQ (bj p) p MS:=(h.le hs).rq (by decide)
section
variable {k j s:Nat} {f:Rat} {F R:Nat→Rat}
theorem JS (hk:k≤1000) (hs:5 * s≤MS) (h1:1≤s) (hf:RB f s) (hF:∀ c,c < k→RB (F c) s) (hR:∀ c,c < k→RB (R c) (2 * s)) {c0:List aa} (h0:c0.length=k):∀ (d x:Nat) (G:Nat→Rat),x+d=k →
  (∀ c,c < k→G c=if c < x then if c=j then f * R j else F c+f * R c else F c) →
  aK (fun N g=>cY N (j:Int) (bj f) c0 (LQ R k) g (LQ G k) (x:Int)) (LQ (fun c=>if c=j then f * R j else F c+f * R c) k)
 | 0,x,G,hx,hG=>aK.succ (fun N g=>cY.eq_2 ..) (aK.bg (Ls (m:=x) (n:=k) (by omega) h0) ((aK.one (Gv.pure _)).eq (lM fun c hc=>by rw [hG c hc,if_pos (by omega)])))
 | d+1,x,G,hx,hG=>by
  have ql:x < k:=by omega
  have hm:RB (f * R x) (3 * s):=(hf.mul (hR x ql)).le (by omega)
  have hfm:=(hf.q (by omega)).mul ((hR x ql).q (by omega)) (EF (by decide))
  have eG:G x=F x:=by rw [hG x ql,if_neg (sH x)]
  refine aK.succ (fun N g=>cY.eq_2 ..) (aK.aG (Ka (n:=k) ql h0) ?_)
  simp only [an,gN _ _ ql,eG,bh (show x < 9223372036854775807 by omega),fC,xg]
  by_cases e:x=j
  ·refine aK.aG (by simp [e]) (aK.if (inl ql (bG _ _)) (aK.bind hfm (aK.if (inl ql (bG _ _)) ?_)))
   simp only [xg]
   refine JS hk hs h1 hf hF hR h0 d (x+1) _ (by omega) fun c hc=>?_
   by_cases q:c=x
   ·rw [if_pos q,if_pos (by omega),if_pos (q.trans e),e]
   ·rw [if_neg q,hG c hc]
    by_cases q2:c < x
    ·simp only [q2,show c < x+1 by omega,if_true]
    ·rw [if_neg q2,if_neg (by omega)]
  ·refine aK.bg (by simp;omega) (aK.if (inl ql (bG _ _)) (aK.bind (((hR x ql).q (by omega)).zero (by decide)) ?_))
   by_cases z:R x=0
   ·refine aK.bg (by simp [z]) (JS hk hs h1 hf hF hR h0 d (x+1) _ (by omega) fun c hc=>?_)
    rw [hG c hc]
    by_cases q2:c < x
    ·simp only [q2,show c < x+1 by omega,if_true]
    ·rw [if_neg q2]
     by_cases q:c=x
     ·rw [if_pos (by omega),if_neg (by omega),q,z];grind
     ·rw [if_neg (by omega)]
   ·refine aK.aG (by simp [z]) (aK.if (inl ql (bG _ _)) (aK.bind hfm (aK.bind (((hF x ql).q (by omega)).add (hm.q (by omega)) (EF (by decide))) ?_)))
    simp only [xg]
    refine JS hk hs h1 hf hF hR h0 d (x+1) _ (by omega) fun c hc=>?_
    by_cases q:c=x
    ·rw [if_pos q,if_pos (by omega),if_neg (by omega),q]
    ·rw [if_neg q,hG c hc]
     by_cases q2:c < x
     ·simp only [q2,show c < x+1 by omega,if_true]
     ·rw [if_neg q2,if_neg (by omega)]
theorem SB (hk:k≤1000) (hs:5 * s≤MS) (h1:1≤s) (hf:RB f s) (hF:∀ c,c < k→RB (F c) s) (hR:∀ c,c < k→RB (R c) (2 * s)) :
  Gv (fun N=>hO N (j:Int) (bj f) (LQ F k) (LQ R k)) (LQ (fun c=>if c=j then f * R j else F c+f * R c) k) :=
 (JS hk hs h1 hf hF hR (bG F k) k 0 F (by omega) fun c _=>(if_neg (dN c)).symm).diag
end
def RT (n m k h:Nat) (D:bq):jj×List Int×List Int×List (List aa)×List aa×List aa :=
 (⟨n,m,LN D.eT m,LN D.fr k,LA D.a m k,LQ D.b m,LQ D.g k,bj D.v,h⟩,LN D.eT m,LN D.fr k,LA D.a m k,LQ D.b m,LQ D.g k)
section
variable {n m k h i j s:Nat} {D:bq}
theorem LC (hi:i < m) (hj:j < k) {A:Nat→Nat→Rat} {b:Nat→Rat} (hA:∀ r c,r < m→c < k→r≠i→A r c=(D.il i j).a r c) (hb:∀ r,r < m→b r=(D.il i j).b r) {G:Nat→Rat} (hG:∀ c,c < k→G c=(D.il i j).g c) {v:Rat} (hv:v=(D.il i j).v) (N:Nat) :
  gi N (i:Int) (j:Int) (n:Int) (m:Int) (h:Int) (LN D.eT m) (LN D.fr k) (LA A m k) (LQ (D.nD i j) k) (LQ b m) (LQ G k) (bj v).fN.fG (bj v).fN.fL (bj v).fD.fG (bj v).fD.fL=some (RT n m k h (D.il i j)):=by
 unfold gi
 rw [if_pos (inl hj (eD _ _)),if_pos (inl hi (eD _ _))]
 simp only [an,qH _ _ hi,qH _ _ hj,X3,SA]
 have e1:=Sz (a:=fun x=>if x=i then D.nD i j else A x) (b:=(D.il i j).a) (m:=m) (k:=k) fun r c Ag hc=>by
  by_cases q:r=i
  ·simp only [q,if_true,bq.il]
  ·simp only [q,if_false];exact hA r c Ag hc q
 rw [e1,lM hb,lM hG,hv]
 rfl
theorem B8 (hm:m≤1000) (hk:k≤1000) (hi:i < m) (hj:j < k) (hs:5 * s≤MS) (h1:1≤s) (hr:D.GN m k s) (h0:D.a i j≠0):∀ (d x:Nat) (A:Nat→Nat→Rat) (b:Nat→Rat),x+d=m →
  (∀ r c,r < m→c < k→A r c=if r < x∧r≠i then (D.il i j).a r c else D.a r c)→(∀ r,r < m→b r=if r=i∨r < x then (D.il i j).b r else D.b r) →
  aK (fun N g=>cu N (i:Int) (j:Int) (n:Int) (m:Int) (bj D.v).fN.fG (bj D.v).fN.fL (bj D.v).fD.fG (bj D.v).fD.fL (h:Int) (LN D.eT m) (LN D.fr k) (LA D.a m k) (LQ D.g k)
   g (LA A m k) (LQ (D.nD i j) k) (LQ b m) (x:Int)) (RT n m k h (D.il i j))
 | 0,x,A,b,hx,hA,hb=>by
  have hp:RB (D.pb i j) (2 * s):=((hr.b i hi).div (hr.a i j hi hj) h0).neg.le (by omega)
  have ebi:b i=D.pb i j:=by rw [hb i hi,if_pos (.inl rfl)];simp [bq.il]
  have XC:∀ r c,r < m→c < k→r≠i→A r c=(D.il i j).a r c:=fun r c Ag hc q=>by rw [hA r c Ag hc,if_pos ⟨by omega,q⟩]
  have lN:∀ r,r < m→b r=(D.il i j).b r:=fun r Ag=>by rw [hb r Ag,if_pos (.inr (by omega))]
  refine aK.succ (fun N g=>cu.eq_2 ..) (aK.bg (Ls (m:=x) (n:=m) (by omega) (gW _ _ _)) ?_)
  simp only [an,gN _ _ hj,gN _ _ hi,ebi]
  refine aK.if (inl hj (bG _ _)) (aK.bind (((hr.g j hj).q (by omega)).zero (by decide)) ?_)
  by_cases z:D.g j=0
  ·refine aK.bg (by simp [z]) (aK.if (by rw [gW];exact hi) (aK.one ⟨0,fun N _=>LC hi hj XC lN (fun c _=>?_) ?_ N⟩))
   ·simp only [bq.il,z]
    by_cases q:c=j
    ·rw [if_pos q,q,z];grind
    ·rw [if_neg q];grind
   ·simp only [bq.il,z];grind
  ·refine aK.aG (by simp [z]) (aK.if (inl hi (bG _ _)) (aK.bind (((hr.g j hj).q (by omega)).mul (hp.q (by omega)) (EF (by decide))) (aK.bind ((hr.v.q (by omega)).add ((((hr.g j hj).mul hp).le (aR _)).q (by omega)) (EF (by decide)))
    (aK.bind (SB hk hs h1 (hr.g j hj) (fun c hc=>hr.g c hc) (fun c hc=>hr.nD h1 hi hj h0 hc)) (aK.if (by rw [bG,bG]) (aK.if (by rw [gW];exact hi) (aK.one ⟨0,fun N _=>LC hi hj XC lN (fun c _=>?_) rfl N⟩)))))))
   simp only [bq.il]
   by_cases q:c=j
   ·rw [if_pos q,if_pos q,q]
   ·rw [if_neg q,if_neg q]
 | d+1,x,A,b,hx,hA,hb=>by
  have rS:x < m:=by omega
  have hp:RB (D.pb i j) (2 * s):=((hr.b i hi).div (hr.a i j hi hj) h0).neg.le (by omega)
  have ebi:b i=D.pb i j:=by rw [hb i hi,if_pos (.inl rfl)];simp [bq.il]
  refine aK.succ (fun N g=>cu.eq_2 ..) (aK.aG (Ka (n:=m) rS (gW _ _ _)) ?_)
  by_cases e:x=i
  ·simp only [an,bh (show x < 9223372036854775807 by omega),dC]
   refine aK.aG (by simp [e]) (aK.if (inl rS (gW _ _ _)) (aK.if (inl hj (bG _ _)) (aK.bind (Gv.bg (by simp [e]) (Gv.pure false)) (aK.bg (by simp [e]) (B8 hm hk hi hj hs h1 hr h0 d (x+1) A b (by omega) (fun r c Ag hc=>?_) fun r Ag=>?_)))))
   ·rw [hA r c Ag hc]
    by_cases q:r < x∧r≠i
    ·rw [if_pos q,if_pos ⟨by omega,q.2⟩]
    ·rw [if_neg q,if_neg (by omega)]
   ·rw [hb r Ag]
    by_cases q:r=i∨r < x
    ·rw [if_pos q,if_pos (by omega)]
    ·rw [if_neg q,if_neg (by omega)]
  ·have adK:LQ (A x) k=LQ (D.a x) k:=lM fun c hc=>by rw [hA x c rS hc,if_neg (by omega)]
   have ebx:b x=D.b x:=by rw [hb x rS,if_neg (by omega)]
   simp only [an,bh (show x < 9223372036854775807 by omega),dC,tV _ _ rS,adK,gN _ _ rS,gN _ _ hi,ebi,ebx,gN _ _ hj]
   have eE:((x:Int) != (i:Int))=true:=by simp;omega
   refine aK.bg (by simp;omega) (aK.if (by rw [gW];exact rS) (aK.if (inl rS (gW _ _ _)) (aK.if (inl hj (bG _ _)) (aK.bind (Gv.aG eE (((hr.a x j rS hj).q (by omega)).zero (by decide))) ?_))))
   by_cases z:D.a x j=0
   ·refine aK.bg (by simp [z]) (B8 hm hk hi hj hs h1 hr h0 d (x+1) A b (by omega) (fun r c Ag hc=>?_) fun r Ag=>?_)
    ·rw [hA r c Ag hc]
     by_cases q:r < x∧r≠i
     ·rw [if_pos q,if_pos ⟨by omega,q.2⟩]
     ·rw [if_neg q]
      by_cases q2:r=x
      ·rw [if_pos ⟨by omega,by omega⟩,q2]
       simp only [bq.il,if_neg e,z]
       split
       ·rename_i q3;rw [q3,z];grind
       ·grind
      ·rw [if_neg (by omega)]
    ·rw [hb r Ag]
     by_cases q:r=i∨r < x
     ·rw [if_pos q,if_pos (by omega)]
     ·rw [if_neg q]
      by_cases q2:r=x
      ·rw [if_pos (by omega),q2]
       simp only [bq.il,if_neg e,z];grind
      ·rw [if_neg (by omega)]
   ·refine aK.aG (by rw [eE];simp [z]) (aK.if (inl rS (bG _ _)) (aK.if (inl hi (bG _ _)) (aK.bind (((hr.a x j rS hj).q (by omega)).mul (hp.q (by omega)) (EF (by decide)))
     (aK.bind (((hr.b x rS).q (by omega)).add ((((hr.a x j rS hj).mul hp).le (aR _)).q (by omega)) (EF (by decide)))
     (aK.bind (SB hk hs h1 (hr.a x j rS hj) (fun c hc=>hr.a x c rS hc) (fun c hc=>hr.nD h1 hi hj h0 hc)) (aK.if (by rw [bG,bG]) ?_))))))
    simp only [SA,xg]
    refine B8 hm hk hi hj hs h1 hr h0 d (x+1) _ _ (by omega) (fun r c Ag hc=>?_) fun r Ag=>?_
    ·by_cases q2:r=x
     ·have q4:x < x+1∧x≠i:=⟨by omega,e⟩
      simp only [q2,q4,if_true,if_false,bq.il,and_self,ne_eq,not_false_eq_true]
      by_cases q3:c=j
      ·simp only [q3,if_true]
      ·simp only [q3,if_false]
     ·simp only [q2,if_false]
      rw [hA r c Ag hc]
      by_cases q:r < x∧r≠i
      ·rw [if_pos q,if_pos ⟨by omega,q.2⟩]
      ·rw [if_neg q,if_neg (by omega)]
    ·by_cases q2:r=x
     ·rw [if_pos q2,if_pos (by omega),q2]
      simp only [bq.il,if_neg e]
     ·rw [if_neg q2,hb r Ag]
      by_cases q:r=i∨r < x
      ·rw [if_pos q,if_pos (by omega)]
      ·rw [if_neg q,if_neg (by omega)]
theorem GV (hm:m≤1000) (hk:k≤1000) (hi:i < m) (hj:j < k) (hs:5 * s≤MS) (h1:1≤s) (hr:D.GN m k s) (h0:D.a i j≠0):∀ (d x:Nat) (R:Nat→Rat),x+d=k→(∀ c,c < k→R c=if c < x∧c≠j then D.nD i j c else D.a i c) →
  aK (fun N g=>dD N (i:Int) (j:Int) (n:Int) (m:Int) (bj D.v).fN.fG (bj D.v).fN.fL (bj D.v).fD.fG (bj D.v).fD.fL (h:Int) (LN D.eT m) (LN D.fr k) (LA D.a m k) (LQ D.b m) (LQ D.g k)
   g (LQ R k) (x:Int)) (RT n m k h (D.il i j))
 | 0,x,R,hx,hR=>by
  have hp:RB (D.b i / D.a i j) (2 * s):=((hr.b i hi).div (hr.a i j hi hj) h0).le (by omega)
  have hc:=(hr.a i j hi hj).q (show s≤MS by omega)
  refine aK.succ (fun N g=>dD.eq_2 ..) (aK.bg (Ls (m:=x) (n:=k) (by omega) (by simp only [an,tV _ _ hi,bG])) ?_)
  simp only [an,tV _ _ hi,gN _ _ hi,gN _ _ hj]
  refine aK.bind (pQ (z:=1) (by decide) (by decide)) (aK.bind ((bq.X1.q (by decide)).Jl hc h0 (EF (by decide))) (aK.if (inl hj (bG _ _)) (aK.if (inl hi (bG _ _))
   (aK.bind (((hr.b i hi).q (by omega)).Jl hc h0 (EF (by decide))) (aK.bind (by have:=nC (hp.q (show 2 * s≤MS by omega)).ir (by decide) (EF (by decide));rwa [iV] at this) ?_)))))
  simp only [xg]
  have e1:=lM (f:=fun a=>if a=j then (1:Rat) / D.a i j else R a) (g:=D.nD i j) (n:=k) fun c hc=>by
   by_cases q:c=j
   ·rw [if_pos q];unfold bq.nD;rw [if_pos q]
   ·rw [if_neg q,hR c hc,if_pos ⟨by omega,q⟩]
  have:=(B8 hm hk hi hj hs h1 hr h0 m 0 D.a (fun a=>if a=i then -(D.b i / D.a i j) else D.b a) (by omega) (fun r c _ _=>by rw [if_neg (by omega)]) (fun r Ag=>by
   by_cases q:r=i
   ·rw [if_pos q,if_pos (.inl q)];simp only [bq.il,if_pos q];rfl
   ·rw [if_neg q,if_neg (by omega)]) (n:=n) (h:=h)).diag
  rw [← e1] at this
  exact aK.one this
 | d+1,x,R,hx,hR=>by
  have ql:x < k:=by omega
  have hc:=(hr.a i j hi hj).q (show s≤MS by omega)
  have hd:RB (D.a i x / D.a i j) (2 * s):=((hr.a i x hi ql).div (hr.a i j hi hj) h0).le (by omega)
  have ex:R x=D.a i x:=by rw [hR x ql,if_neg (by omega)]
  refine aK.succ (fun N g=>dD.eq_2 ..) (aK.aG (Ka (n:=k) ql (by simp only [an,tV _ _ hi,bG])) ?_)
  simp only [an,tV _ _ hi,gN _ _ ql,ex,gN _ _ hj,bh (show x < 9223372036854775807 by omega),iH]
  by_cases e:x=j
  ·refine aK.bg (by simp;omega) (GV hm hk hi hj hs h1 hr h0 d (x+1) R (by omega) fun c hc=>?_)
   rw [hR c hc]
   by_cases q:c < x∧c≠j
   ·rw [if_pos q,if_pos ⟨by omega,q.2⟩]
   ·rw [if_neg q,if_neg (by omega)]
  ·refine aK.aG (by simp;omega) (aK.if (inl ql (bG _ _)) (aK.bind (((hr.a i x hi ql).q (by omega)).Jl hc h0 (EF (by decide))) (aK.bind (by have:=nC (hd.q (show 2 * s≤MS by omega)).ir (by decide) (EF (by decide));rwa [iV] at this) ?_)))
   simp only [xg]
   refine GV hm hk hi hj hs h1 hr h0 d (x+1) _ (by omega) fun c hc=>?_
   by_cases q2:c=x
   ·rw [if_pos q2,if_pos ⟨by omega,by omega⟩,q2];unfold bq.nD;rw [if_neg e]
   ·rw [if_neg q2,hR c hc]
    by_cases q:c < x∧c≠j
    ·rw [if_pos q,if_pos ⟨by omega,q.2⟩]
    ·rw [if_neg q,if_neg (by omega)]
theorem GW (hm:m≤1000) (hk:k≤1000) (hi:i < m) (hj:j < k) (hs:5 * s≤MS) (h1:1≤s) (hr:D.GN m k s) (h0:D.a i j≠0) :
  Gv (fun N=>ja N (i:Int) (j:Int) (n:Int) (m:Int) (bj D.v).fN.fG (bj D.v).fN.fL (bj D.v).fD.fG (bj D.v).fD.fL (h:Int) (LN D.eT m) (LN D.fr k) (LA D.a m k) (LQ D.b m) (LQ D.g k)) (RT n m k h (D.il i j)):=by
 have:=(GV hm hk hi hj hs h1 hr h0 k 0 (D.a i) (by omega) (fun c _=>by rw [if_neg (by omega)]) (n:=n) (h:=h)).diag
 refine Gv.if (by rw [gW];exact hi) (Gv.if (inl hi (gW _ _ _)) (Gv.if (inl hj (by simp only [an,tV _ _ hi,bG])) ?_))
 simp only [an,tV _ _ hi]
 exact this
end
end Go.Den
namespace Go.Den
open Go.Ab
section
variable {n m k h j s:Nat} {D:bq}
def PY (D:bq) (x:Nat) (dI:Int):Prop:=(dI = -1∧∀ j,j < x→D.g j≤0)∨∃ b:Nat,dI=b∧b < x∧0 < D.g b∧∀ j',j' < x→0 < D.g j'→D.fr b≤D.fr j'
theorem SC (hk:k≤1000) (hs:s≤MS) (hr:D.GN m k s):∀ (d x:Nat) (dI:Int),x+d=k→PY D x dI →
  ∃ r,aK (fun N g=>bN N (n:Int) (m:Int) (bj D.v).fN.fG (bj D.v).fN.fL (bj D.v).fD.fG (bj D.v).fD.fL (h:Int) (LN D.eT m) (LN D.fr k) (LA D.a m k) (LQ D.b m) (LQ D.g k) g dI (x:Int)) r∧PY D k r
 | 0,x,dI,hx,hI=>⟨dI,aK.succ (fun N g=>bN.eq_2 ..) (aK.bg (Ls (m:=x) (n:=k) (by omega) (eD _ _)) (aK.one (Gv.pure _))),by rw [show k=x by omega];exact hI⟩
 | d+1,x,dI,hx,hI=>by
  have ql:x < k:=by omega
  have hsg:=((hr.g x ql).q hs).qm (by decide)
  have nx:∀ rN:Int,PY D (x+1) rN→(cond (cond (decide (qm (D.g x) > 0)) (cond (decide (dI < 0)) true (decide ((LN D.fr k).getD x 0 < (LN D.fr k).getD dI.toNat 0))) false) (x:Int) dI)=rN →
    ∃ r,aK (fun N g=>bN N (n:Int) (m:Int) (bj D.v).fN.fG (bj D.v).fN.fL (bj D.v).fD.fG (bj D.v).fD.fL (h:Int) (LN D.eT m) (LN D.fr k) (LA D.a m k) (LQ D.b m) (LQ D.g k) (g+1) dI (x:Int)) r∧PY D k r:=fun rN h1 h2=>by
   obtain ⟨r,h3,h4⟩:=SC hk hs hr d (x+1) rN (by omega) h1
   refine ⟨r,?_,h4⟩
   have hb:0≤dI→dI < ((k:Nat):Int):=fun h0=>by
    rcases hI with ⟨e,_⟩ | ⟨b,e,hb,_⟩<;>omega
   have:aK (fun N g=>bN N (n:Int) (m:Int) (bj D.v).fN.fG (bj D.v).fN.fL (bj D.v).fD.fG (bj D.v).fD.fL (h:Int) (LN D.eT m) (LN D.fr k) (LA D.a m k) (LQ D.b m) (LQ D.g k) (g+1) dI (x:Int)) r:=by
    simp only [bN]
    refine aK.aG (Ka (n:=k) ql (eD _ _)) (aK.if (inl ql (bG _ _)) ?_)
    simp only [an,gN _ _ ql,gj,bh (show x < 9223372036854775807 by omega)]
    refine aK.bind hsg (aK.if (fun _=>inl ql (eD _ _)) (aK.if (fun q=>?_) ?_))
    ·simp at q
     rw [eD];exact ⟨by omega,hb (by omega)⟩
    ·revert h2
     cases (cond (decide (qm (D.g x) > 0)) (cond (decide (dI < 0)) true (decide ((LN D.fr k).getD x 0 < (LN D.fr k).getD dI.toNat 0))) false) with
     | true=>intro h2;refine aK.aG rfl ?_;simp only [cond_true] at h2;rw [h2];exact h3
     | false=>intro h2;refine aK.bg rfl ?_;simp only [cond_false] at h2;rw [h2];exact h3
   exact this
  have fin:∀ {rN:Int},PY D (x+1) rN→(cond (cond (decide (qm (D.g x) > 0)) (cond (decide (dI < 0)) true (decide ((LN D.fr k).getD x 0 < (LN D.fr k).getD dI.toNat 0))) false) (x:Int) dI)=rN →
    ∃ r,aK (fun N g=>bN N (n:Int) (m:Int) (bj D.v).fN.fG (bj D.v).fN.fL (bj D.v).fD.fG (bj D.v).fD.fL (h:Int) (LN D.eT m) (LN D.fr k) (LA D.a m k) (LQ D.b m) (LQ D.g k) g dI (x:Int)) r∧PY D k r:=fun h1 h2=>by
   obtain ⟨r,h3,h4⟩:=nx _ h1 h2
   exact ⟨r,aK.succ (fun _ _=>rfl) h3,h4⟩
  by_cases hp:0 < D.g x
  ·have e1:decide (qm (D.g x) > 0)=true:=decide_eq_true (JK.2 hp)
   rcases hI with ⟨rfl,hb⟩ | ⟨b,rfl,hb,hg,uc⟩
   ·refine fin (rN:=x) (.inr ⟨x,rfl,by omega,hp,fun j' h1 h2=>?_⟩) (by rw [e1];rfl)
    by_cases e:j'=x
    ·rw [e];exact aR _
    ·exact absurd h2 (Rat.not_lt.2 (hb j' (by omega)))
   ·have e2:decide (((b:Nat):Int) < 0)=false:=by simp
    by_cases fo:D.fr x < D.fr b
    ·refine fin (rN:=x) (.inr ⟨x,rfl,by omega,hp,fun j' h1 h2=>?_⟩) (by
      rw [e1,e2,qH _ _ ql,an,qH _ _ (show b < k by omega),decide_eq_true (show ((D.fr x:Nat):Int) < ((D.fr b:Nat):Int) by omega)];rfl)
     by_cases e:j'=x
     ·rw [e];exact aR _
     ·have:=uc j' (by omega) h2;omega
    ·refine fin (rN:=b) (.inr ⟨b,rfl,by omega,hg,fun j' h1 h2=>?_⟩) (by
      rw [e1,e2,qH _ _ ql,an,qH _ _ (show b < k by omega),decide_eq_false (show ¬ ((D.fr x:Nat):Int) < ((D.fr b:Nat):Int) by omega)];rfl)
     by_cases e:j'=x
     ·rw [e];omega
     ·exact uc j' (by omega) h2
  ·have e1:decide (qm (D.g x) > 0)=false:=decide_eq_false fun q=>hp (JK.1 q)
   refine fin (rN:=dI) ?_ (by rw [e1];rfl)
   rcases hI with ⟨e,hb⟩ | ⟨b,e,hb,hg,uc⟩
   ·refine .inl ⟨e,fun j' h1=>?_⟩
    by_cases e2:j'=x
    ·rw [e2];exact Rat.not_lt.1 hp
    ·exact hb j' (by omega)
   ·refine .inr ⟨b,e,by omega,hg,fun j' h1 h2=>?_⟩
    by_cases e2:j'=x
    ·rw [e2] at h2;exact absurd h2 hp
    ·exact uc j' (by omega) h2
theorem X4 (hk:k≤1000) (hs:s≤MS) (hr:D.GN m k s):∃ r,Gv (fun N=>kT N (n:Int) (m:Int) (bj D.v).fN.fG (bj D.v).fN.fL (bj D.v).fD.fG (bj D.v).fD.fL (h:Int) (LN D.eT m) (LN D.fr k) (LA D.a m k) (LQ D.b m) (LQ D.g k)) r ∧
  ((r = -1∧∀ j,j < k→D.g j≤0)∨∃ j:Nat,r=j∧D.EP k j):=by
 obtain ⟨r,h1,h2⟩:=SC hk hs hr k 0 (-1) (by omega) (.inl ⟨rfl,fun j hj=>absurd hj (dN _)⟩) (n:=n) (h:=h)
 refine ⟨r,h1.diag,?_⟩
 rcases h2 with h | ⟨b,e,q1,q2,q3⟩
 ·exact .inl h
 ·exact .inr ⟨b,e,q1,q2,q3⟩
def Vy (D:bq) (j x:Nat) (dI:Int) (least:aa):Prop:=(dI = -1∧∀ i,i < x→0≤D.a i j)∨∃ b:Nat,dI=b∧b < x∧D.a b j < 0∧least=bj (D.ratio j b) ∧
 ∀ i',i' < x→D.a i' j < 0→D.ratio j b < D.ratio j i'∨D.ratio j b=D.ratio j i'∧D.eT b≤D.eT i'
theorem SD (hm:m≤1000) (hj:j < k) (hs:2 * s≤MS) (hr:D.GN m k s):∀ (d x:Nat) (dI:Int) (least:aa),x+d=m→Vy D j x dI least →
  ∃ r l,aK (fun N g=>bW N (j:Int) (n:Int) (m:Int) (bj D.v).fN.fG (bj D.v).fN.fL (bj D.v).fD.fG (bj D.v).fD.fL (h:Int) (LN D.eT m) (LN D.fr k) (LA D.a m k) (LQ D.b m) (LQ D.g k) g dI least (x:Int)) r∧Vy D j m r l
 | 0,x,dI,least,hx,hI=>⟨dI,least,aK.succ (fun N g=>bW.eq_2 ..) (aK.bg (Ls (m:=x) (n:=m) (by omega) (eD _ _)) (aK.one (Gv.pure _))),by rw [show m=x by omega];exact hI⟩
 | d+1,x,dI,least,hx,hI=>by
  have rS:x < m:=by omega
  have ha:=(hr.a x j rS hj).q (show s≤MS by omega)
  have hsg:=ha.qm (by decide)
  have ng:Gv (fun N=>en N (bj (D.a x j))) (bj (-(D.a x j))):=by have:=nC ha.ir (by decide) (EF (by decide));rwa [iV] at this
  have nx:∀ (rN:Int) (GX:aa),Vy D j (x+1) rN GX→(0≤D.a x j→rN=dI∧GX=least) →
    (D.a x j < 0→∀ c7:Int,(dI < 0∧c7 = -1∨∃ b:Nat,dI=b∧b < m∧c7=qm (D.ratio j x - D.ratio j b)) →
     cond (cond (decide (c7 < 0)) true (cond (c7 == 0) (decide ((LN D.eT m).getD x 0 < (LN D.eT m).getD dI.toNat 0)) false)) ((x:Int),bj (D.ratio j x)) (dI,least)=(rN,GX)) →
    ∃ r l,aK (fun N g=>bW N (j:Int) (n:Int) (m:Int) (bj D.v).fN.fG (bj D.v).fN.fL (bj D.v).fD.fG (bj D.v).fD.fL (h:Int) (LN D.eT m) (LN D.fr k) (LA D.a m k) (LQ D.b m) (LQ D.g k) g dI least (x:Int)) r∧Vy D j m r l:=fun rN GX h1 h2 h5=>by
   obtain ⟨r,l,h3,h4⟩:=SD hm hj hs hr d (x+1) rN GX (by omega) h1
   refine ⟨r,l,aK.succ (fun N g=>bW.eq_2 ..) (aK.aG (Ka (n:=m) rS (eD _ _)) ?_),h4⟩
   simp only [an,tV _ _ rS,gN _ _ hj,gN _ _ rS,bG,gW,eu,bh (show x < 9223372036854775807 by omega)]
   refine aK.if rS (aK.if (mQ rS) (aK.if (mQ hj) (aK.bind hsg ?_)))
   by_cases hz:0≤D.a x j
   ·have e:decide (qm (D.a x j)≥0)=true:=decide_eq_true (Int.not_lt.1 fun q=>by have:=mT.1 q;grind)
    obtain ⟨e1,e2⟩:=h2 hz
    refine aK.aG e ?_
    rw [e1,e2] at h3;exact h3
   ·have rL:D.a x j < 0:=Rat.not_le.1 hz
    have e:decide (qm (D.a x j)≥0)=false:=decide_eq_false fun q=>by have:=mT.2 rL;omega
    have h0:-(D.a x j)≠0:=by grind
    have hov:=((hr.b x rS).q (show s≤MS by omega)).Jl (((hr.a x j rS hj).neg).q (show s≤MS by omega)) h0 (EF (by decide))
    refine aK.bg e (aK.if (mQ rS) (aK.bind ng (aK.bind hov ?_)))
    have hJ3:∀ c7:Int,(dI < 0∧c7 = -1∨∃ b:Nat,dI=b∧b < m∧c7=qm (D.ratio j x - D.ratio j b))→aK (fun N g=>fm N (j:Int) (n:Int) (m:Int) (bj D.v).fN.fG (bj D.v).fN.fL (bj D.v).fD.fG (bj D.v).fD.fL (h:Int) (LN D.eT m) (LN D.fr k) (LA D.a m k) (LQ D.b m) (LQ D.g k) dI least (x:Int) (bj (D.b x / -(D.a x j)))
      (bW N (j:Int) (n:Int) (m:Int) (bj D.v).fN.fG (bj D.v).fN.fL (bj D.v).fD.fG (bj D.v).fD.fL (h:Int) (LN D.eT m) (LN D.fr k) (LA D.a m k) (LQ D.b m) (LQ D.g k) g) c7) r:=fun c7 hc=>by
     have h6:=h5 rL c7 hc
     simp only [fm,eu,an,bh (show x < 9223372036854775807 by omega)]
     refine aK.if (fun _=>inl rS (eD _ _)) (aK.if (fun q=>?_) ?_)
     ·rw [eD]
      rcases hc with ⟨_,e⟩ | ⟨b,e,hb,_⟩
      ·simp [e] at q
      ·omega
     ·revert h6
      cases (cond (decide (c7 < 0)) true (cond (c7 == 0) (decide ((LN D.eT m).getD x 0 < (LN D.eT m).getD dI.toNat 0)) false)) with
      | true=>intro h6;simp only [cond_true,aA] at h6;refine aK.aG rfl ?_;rw [← h6.1,← h6.2] at h3;exact h3
      | false=>intro h6;simp only [cond_false,aA] at h6;refine aK.bg rfl ?_;rw [← h6.1,← h6.2] at h3;exact h3
    rcases hI with ⟨e1,_⟩ | ⟨b,e1,hb,hbn,e2,_⟩
    ·exact aK.bg (by simp [e1]) (hJ3 (-1) (.inl ⟨by omega,rfl⟩))
    ·have YF:b < m:=by omega
     have q1:RB (D.ratio j x) (2 * s):=by unfold bq.ratio;exact ((hr.b x rS).div (hr.a x j rS hj).neg h0).le (by omega)
     have q2:RB (D.ratio j b) (2 * s):=by unfold bq.ratio;exact ((hr.b b YF).div (hr.a b j YF hj).neg (by grind)).le (by omega)
     refine aK.aG (by simp [e1]) (aK.bind (r:=qm (D.ratio j x - D.ratio j b)) ?_ (hJ3 _ (.inr ⟨b,e1,YF,rfl⟩)))
     rw [e2]
     exact (q1.q hs).cmp (q2.q hs) (EF (by decide))
  by_cases hz:0≤D.a x j
  ·refine nx dI least ?_ (fun _=>⟨rfl,rfl⟩) fun q=>by grind
   rcases hI with ⟨e,hb⟩ | ⟨b,e,hb,hg,e3,uc⟩
   ·refine .inl ⟨e,fun j' h1=>?_⟩
    by_cases e2:j'=x
    ·rw [e2];exact hz
    ·exact hb j' (by omega)
   ·refine .inr ⟨b,e,by omega,hg,e3,fun j' h1 h2=>?_⟩
    by_cases e2:j'=x
    ·rw [e2] at h2;grind
    ·exact uc j' (by omega) h2
  ·have rL:D.a x j < 0:=Rat.not_le.1 hz
   rcases hI with ⟨rfl,hb⟩ | ⟨b,rfl,hb,hg,rfl,uc⟩
   ·refine nx x (bj (D.ratio j x)) (.inr ⟨x,rfl,by omega,rL,rfl,fun j' h1 h2=>?_⟩) (fun q=>by grind) fun _ c7 hc=>?_
    ·by_cases e:j'=x
     ·rw [e];exact .inr ⟨rfl,aR _⟩
     ·have:=hb j' (by omega);grind
    ·rcases hc with ⟨_,e⟩ | ⟨b,e,_⟩
     ·rw [e];rfl
     ·omega
   ·have c7e:∀ c7:Int,(((b:Nat):Int) < 0∧c7 = -1∨∃ b':Nat,((b:Nat):Int)=b'∧b' < m∧c7=qm (D.ratio j x - D.ratio j b'))→c7=qm (D.ratio j x - D.ratio j b):=fun c7 hc=>by
     rcases hc with ⟨e,_⟩ | ⟨b',e,_,e2⟩
     ·omega
     ·rw [e2,show b'=b by omega]
    have YF:b < m:=by omega
    by_cases h1:D.ratio j x < D.ratio j b
    ·refine nx x (bj (D.ratio j x)) (.inr ⟨x,rfl,by omega,rL,rfl,fun j' q1 q2=>?_⟩) (fun q=>by grind) fun _ c7 hc=>?_
     ·by_cases e:j'=x
      ·rw [e];exact .inr ⟨rfl,aR _⟩
      ·rcases uc j' (by omega) q2 with q3 | ⟨q3,_⟩
       ·exact .inl (by grind)
       ·exact .inl (by grind)
     ·rw [c7e c7 hc,decide_eq_true (mT.2 (show D.ratio j x - D.ratio j b < 0 by grind))];rfl
    ·have Mi:decide (qm (D.ratio j x - D.ratio j b) < 0)=false:=decide_eq_false fun q=>by have:=mT.1 q;grind
     by_cases h2:D.ratio j x=D.ratio j b
     ·have NN:(qm (D.ratio j x - D.ratio j b) == 0)=true:=by rw [beq_iff_eq];exact yP.2 (by grind)
      by_cases h3:D.eT x < D.eT b
      ·refine nx x (bj (D.ratio j x)) (.inr ⟨x,rfl,by omega,rL,rfl,fun j' q1 q2=>?_⟩) (fun q=>by grind) fun _ c7 hc=>?_
       ·by_cases e:j'=x
        ·rw [e];exact .inr ⟨rfl,aR _⟩
        ·rcases uc j' (by omega) q2 with q3 | ⟨q3,q4⟩
         ·exact .inl (by grind)
         ·exact .inr ⟨by grind,by omega⟩
       ·rw [c7e c7 hc,Mi,NN,qH _ _ rS,an,qH _ _ YF,decide_eq_true (show ((D.eT x:Nat):Int) < ((D.eT b:Nat):Int) by omega)];rfl
      ·refine nx b (bj (D.ratio j b)) (.inr ⟨b,rfl,by omega,hg,rfl,fun j' q1 q2=>?_⟩) (fun q=>by grind) fun _ c7 hc=>?_
       ·by_cases e:j'=x
        ·rw [e];exact .inr ⟨h2.symm,by omega⟩
        ·exact uc j' (by omega) q2
       ·rw [c7e c7 hc,Mi,NN,qH _ _ rS,an,qH _ _ YF,decide_eq_false (show ¬ ((D.eT x:Nat):Int) < ((D.eT b:Nat):Int) by omega)];rfl
     ·have NN:(qm (D.ratio j x - D.ratio j b) == 0)=false:=by
       rw [beq_eq_false_iff_ne];intro q;have:=yP.1 q;grind
      refine nx b (bj (D.ratio j b)) (.inr ⟨b,rfl,by omega,hg,rfl,fun j' q1 q2=>?_⟩) (fun q=>by grind) fun _ c7 hc=>?_
      ·by_cases e:j'=x
       ·rw [e];exact .inl (by grind)
       ·exact uc j' (by omega) q2
      ·rw [c7e c7 hc,Mi,NN];rfl
theorem X5 (hm:m≤1000) (hj:j < k) (hs:2 * s≤MS) (hr:D.GN m k s):∃ r,Gv (fun N=>lA N (j:Int) (n:Int) (m:Int) (bj D.v).fN.fG (bj D.v).fN.fL (bj D.v).fD.fG (bj D.v).fD.fL (h:Int) (LN D.eT m) (LN D.fr k) (LA D.a m k) (LQ D.b m) (LQ D.g k)) r ∧
  ((r = -1∧∀ i,i < m→0≤D.a i j)∨∃ i:Nat,r=i∧D.B2 m j i):=by
 obtain ⟨r,l,h1,h2⟩:=SD hm hj hs hr m 0 (-1) _ (by omega) (.inl ⟨rfl,fun j hj=>absurd hj (dN _)⟩) (n:=n) (h:=h)
 refine ⟨r,h1.diag,?_⟩
 rcases h2 with h | ⟨b,e,q1,q2,_,q3⟩
 ·exact .inl h
 ·exact .inr ⟨b,e,q1,q2,q3⟩
def Stop (D:bq) (m k:Nat) (r:Int):Prop:=(r = -1∧∀ j,j < k→D.g j≤0)∨∃ j:Nat,r=j∧D.EP k j∧∀ i,i < m→0≤D.a i j
theorem LD (hm:m≤1000) (hk:k≤1000) {D0:bq} (h0:D0.WF m k) (HJ:D0.GN m k s) (h1:1≤s) (hs:5 * (5 ^ m * s)≤MS) (hw:D.WF m k) (hf:D.Kc m) (he:bq.z7 m k D0 D) :
  ∃ D' r,D'.WF m k∧D'.Kc m∧bq.z7 m k D0 D'∧Stop D' m k r∧aK (fun N g=>dE N g (n:Int) (m:Int) (LN D.eT m) (LN D.fr k) (LA D.a m k) (LQ D.b m) (LQ D.g k) (bj D.v).fN.fG (bj D.v).fN.fL (bj D.v).fD.fG (bj D.v).fD.fL (h:Int)) (r,RT n m k h D'):=by
 induction bq.Sw hw hf with
 | intro D _ ih =>
  have hr:=bq.size hw h0 he HJ h1
  have Hi:1≤5 ^ m * s:=dj h1 (Nat.le_mul_of_pos_left _ (Nat.pow_pos (by decide)))
  obtain ⟨r,e1,e2⟩:=X4 hk (by omega) hr (n:=n) (h:=h)
  rcases e2 with ⟨rfl,e2⟩ | ⟨j,rfl,e2⟩
  ·exact ⟨D,-1,hw,hf,he,.inl ⟨rfl,e2⟩,aK.succ (fun N g=>dE.eq_2 ..) (aK.bind e1 (aK.aG (by decide) (aK.one (Gv.pure _))))⟩
  ·obtain ⟨r,e3,e4⟩:=X5 hm e2.lt (by omega) hr (n:=n) (h:=h)
   rcases e4 with ⟨rfl,e4⟩ | ⟨i,rfl,e4⟩
   ·exact ⟨D,j,hw,hf,he,.inr ⟨j,rfl,e2,e4⟩,aK.succ (fun N g=>dE.eq_2 ..) (aK.bind e1 (aK.bg (by simp) (aK.bind e3 (aK.aG (by decide) (aK.one (Gv.pure _))))))⟩
   ·have eE:D.a i j≠0:=by have:=e4.neg;grind
    obtain ⟨D',r,q1,q2,q3,q4,q5⟩:=ih (D.il i j) ⟨j,i,e2,e4,rfl⟩ (hw.il e4.lt e2.lt) (hf.il e4) (he.trans (.il e4.lt e2.lt eE))
    refine ⟨D',r,q1,q2,q3,q4,aK.succ (fun N g=>dE.eq_2 ..) (aK.bind e1 (aK.bg (by simp) (aK.bind e3 (aK.bg (by simp) (aK.bind (GW hm hk e4.lt e2.lt hs Hi hr eE) ?_)))))⟩
    simp only [RT,eD,gW,bG]
    exact aK.if trivial (aK.if trivial (aK.if trivial (aK.if trivial (aK.if trivial q5))))
end
end Go.Den
namespace Go.Den
open Go.Ab
theorem SE {f:Nat→Nat} {k v:Nat} (hk:k≤1000):∀ d x,x+d=k→(∀ j,j < x→f j≠v)→∃ r,aK (fun N g=>cz N (LN f k) (v:Int) g (x:Int)) r∧((r = -1∧∀ j,j < k→f j≠v)∨∃ j:Nat,r=j∧j < k∧f j=v)
 | 0,x,hx,h=>⟨-1,aK.succ (fun N g=>cz.eq_2 ..) (aK.bg (Ls (m:=x) (n:=k) (by omega) (eD _ _)) (aK.one (Gv.pure _))),.inl ⟨rfl,fun j hj=>h j (by omega)⟩⟩
 | d+1,x,hx,h=>by
  have ql:x < k:=by omega
  by_cases e:f x=v
  ·refine ⟨x,aK.succ (fun N g=>cz.eq_2 ..) (aK.aG (Ka (n:=k) ql (eD _ _)) (aK.if (inl ql (eD _ _)) (aK.aG ?_ (aK.one (Gv.pure _))))),.inr ⟨x,rfl,ql,e⟩⟩
   rw [an,qH _ _ ql,e];simp
  ·obtain ⟨r,h1,h2⟩:=SE (f:=f) (v:=v) hk d (x+1) (by omega) fun j hj=>by
    by_cases q:j=x
    ·rw [q];exact e
    ·exact h j (by omega)
   refine ⟨r,aK.succ (fun N g=>cz.eq_2 ..) (aK.aG (Ka (n:=k) ql (eD _ _)) (aK.if (inl ql (eD _ _)) (aK.bg ?_ ?_))),h2⟩
   ·rw [an,qH _ _ ql];simp;omega
   ·rw [bh (show x < 9223372036854775807 by omega)];exact h1
theorem A5 {f:Nat→Nat} {k v:Nat} (hk:k≤1000):∃ r,Gv (fun N=>bX N (LN f k) (v:Int)) r∧((r = -1∧∀ j,j < k→f j≠v)∨∃ j:Nat,r=j∧j < k∧f j=v):=by
 obtain ⟨r,h1,h2⟩:=SE (f:=f) (v:=v) hk k 0 (by omega) fun j hj=>absurd hj (dN _)
 exact ⟨r,h1.diag,h2⟩
theorem SG {f:Nat→Rat} {k s:Nat} (hk:k≤1000) (hs:s≤MS) (hf:∀ j,j < k→RB (f j) s):∀ d x,x+d=k→(∀ j,j < x→f j=0) →
  ∃ r,aK (fun N g=>cA N (LQ f k) g (x:Int)) r∧((r = -1∧∀ j,j < k→f j=0)∨∃ j:Nat,r=j∧j < k∧f j≠0)
 | 0,x,hx,h=>⟨-1,aK.succ (fun N g=>cA.eq_2 ..) (aK.bg (Ls (m:=x) (n:=k) (by omega) (bG _ _)) (aK.one (Gv.pure _))),.inl ⟨rfl,fun j hj=>h j (by omega)⟩⟩
 | d+1,x,hx,h=>by
  have ql:x < k:=by omega
  have hz:Gv (fun N=>kU N (bj (f x))) (!decide (f x=0)):=Gv.bind (((hf x ql).q hs).zero (by decide)) (Gv.pure _)
  by_cases e:f x=0
  ·obtain ⟨r,h1,h2⟩:=SG hk hs hf d (x+1) (by omega) fun j hj=>by
    by_cases q:j=x
    ·rw [q];exact e
    ·exact h j (by omega)
   refine ⟨r,aK.succ (fun N g=>cA.eq_2 ..) (aK.aG (Ka (n:=k) ql (bG _ _)) (aK.if (inl ql (bG _ _)) ?_)),h2⟩
   simp only [an,gN _ _ ql,bh (show x < 9223372036854775807 by omega)]
   exact aK.bind hz (aK.bg (by simp [e]) h1)
  ·refine ⟨x,aK.succ (fun N g=>cA.eq_2 ..) (aK.aG (Ka (n:=k) ql (bG _ _)) (aK.if (inl ql (bG _ _)) ?_)),.inr ⟨x,rfl,ql,e⟩⟩
   simp only [an,gN _ _ ql]
   exact aK.bind hz (aK.aG (by simp [e]) (aK.one (Gv.pure _)))
theorem X6 {f:Nat→Rat} {k s:Nat} (hk:k≤1000) (hs:s≤MS) (hf:∀ j,j < k→RB (f j) s) :
  ∃ r,Gv (fun N=>jz N (LQ f k)) r∧((r = -1∧∀ j,j < k→f j=0)∨∃ j:Nat,r=j∧j < k∧f j≠0):=by
 obtain ⟨r,h1,h2⟩:=SG hk hs hf k 0 (by omega) fun j hj=>absurd hj (dN _)
 exact ⟨r,h1.diag,h2⟩
def sk (c j:Nat):Nat:=if j < c then j else j+1
section
variable {α:Type}
theorem OJ (f:Nat→α) {k c:Nat} (hc:c≤k):(kJ (Bc f (k+1)) c (c+1)).take ((c - 0)+((Bc f (k+1)).length - (c+1)))=Bc (fun j=>f (sk c j)) k:=by
 refine List.ext_getElem? fun j=>?_
 have e1:((Bc f (k+1)).take c).length=c:=by rw [oK,qk];omega
 have e3:∀ {n i:Nat} (g:Nat→α),(Bc g n)[i]?=if i < n then some (g i) else none:=fun {n i} g=>by
  unfold Bc
  by_cases h:i < n<;>simp [h]
 rw [ke,qk,e3]
 unfold kJ
 by_cases h:j < c
 ·rw [if_pos (by omega),if_pos (by omega),y7,eH (by omega),ke,if_pos h,e3,if_pos (by omega)]
  unfold sk;rw [if_pos h]
 ·by_cases h2:j < k
  ·have e2:((Bc f (k+1)).drop (c+1)).length=k - c:=by rw [List.length_drop,qk];omega
   rw [if_pos (by omega),if_pos h2,y7,gF (by omega),e1,eH (by omega),kc,e3,if_pos (by omega)]
   unfold sk;rw [if_neg h,show c+1+(j - c)=j+1 by omega]
  ·rw [if_neg (by omega),if_neg h2]
theorem OK (f:Nat→α) {k c:Nat} (hc:c≤k):(kJ (Bc f (k+1)) c (c+1)).length=k+1:=by
 rw [← EK ⟨by omega,by rw [qk];omega⟩,qk]
end
theorem Vz (f:Nat→Nat) {k c:Nat} (hc:c≤k) (hk:k≤1000):Gv (fun N=>jb N (c:Int) (aq ((c:Int)+1)) (LN f (k+1))) (LN (fun j=>f (sk c j)) k,LN (fun j=>f (sk c j)) k):=by
 rw [bh (by omega)]
 have e:=OK (fun i=>((f i:Nat):Int)) hc
 have e2:=OJ (fun i=>((f i:Nat):Int)) hc
 refine Gv.if (by rw [eD];omega) (Gv.bg (by simp;omega) ?_)
 simp only [an]
 refine Gv.if (by rw [eD];omega) (Gv.if (by omega) (Gv.if (by rw [eD];omega) (Gv.if (by omega) (Gv.if (by rw [eD];omega) (Gv.if (by rw [eD];omega) (Gv.if ?_ (Gv.if ?_ ((Gv.pure _).eq ?_))))))))
 ·rw [eD];unfold LN;rw [e];omega
 ·rw [eD];unfold LN;rw [e];omega
 ·unfold LN;rw [e2]
theorem VA (f:Nat→Rat) {k c:Nat} (hc:c≤k) (hk:k≤1000):Gv (fun N=>lB N (c:Int) (aq ((c:Int)+1)) (LQ f (k+1))) (LQ (fun j=>f (sk c j)) k,LQ (fun j=>f (sk c j)) k):=by
 rw [bh (by omega)]
 have e:=OK (fun i=>bj (f i)) hc
 have e2:=OJ (fun i=>bj (f i)) hc
 refine Gv.if (by rw [bG];omega) (Gv.bg (by simp;omega) ?_)
 simp only [an]
 refine Gv.if (by rw [bG];omega) (Gv.if (by omega) (Gv.if (by rw [bG];omega) (Gv.if (by omega) (Gv.if (by rw [bG];omega) (Gv.if (by rw [bG];omega) (Gv.if ?_ (Gv.if ?_ ((Gv.pure _).eq ?_))))))))
 ·rw [bG];unfold LQ;rw [e];omega
 ·rw [bG];unfold LQ;rw [e];omega
 ·unfold LQ;rw [e2]
def bq.del (D:bq) (c:Nat):bq where
 eT:=D.eT
 fr:=fun j=>D.fr (sk c j)
 a:=fun i j=>D.a i (sk c j)
 b:=D.b
 g:=fun _=>0
 v:=0
def RS (ok:Bool) (n m k h:Nat) (D:bq):Bool×jj×List Int×List Int×List (List aa)×List aa :=
 (ok,⟨n,m,LN D.eT m,LN D.fr k,LA D.a m k,LQ D.b m,LQ D.g k,bj D.v,h⟩,LN D.eT m,LN D.fr k,LA D.a m k,LQ D.b m)
section
variable {n m k h c s:Nat} {D:bq}
theorem SH (z:Int) (h1:-1000≤z) (h2:z≤1000):Gv (fun N=>du N z) (bj (z:Rat)):=pQ (by omega) (by omega)
theorem sX:Gv (fun N=>du N 0) (bj 0):=pQ (z:=0) (by decide) (by decide)
theorem SI (hk:k≤1000) {v1 v3:Bool} {v2 v4:List Int}:∀ (d x:Nat) (L:List aa),x+d=k→L.length=k→(∀ j,j < x→L.getD j aa.d=bj 0) →
  aK (fun N g=>dU N (n:Int) (m:Int) (LN D.eT m) (LQ D.b m) v1 v2 v3 v4 (h:Int) (LN (fun j=>D.fr (sk c j)) k,LN (fun j=>D.fr (sk c j)) k) (LA (fun i j=>D.a i (sk c j)) m k) g L (x:Int)) (RS true n m k h (D.del c))
 | 0,x,L,hx,hl,h0=>by
  refine aK.succ (fun N g=>dU.eq_2 ..) (aK.bg (Ls (m:=x) (n:=k) (by omega) (by rw [dn,eD])) (aK.bind sX (aK.one ((Gv.pure _).eq ?_))))
  rw [show L=LQ (fun _=>0) k from Dv aa.d hl fun j hj=>h0 j (by omega)]
  rfl
 | d+1,x,L,hx,hl,h0=>by
  have ql:x < k:=by omega
  refine aK.succ (fun N g=>dU.eq_2 ..) (aK.aG (Ka (n:=k) ql (by rw [dn,eD])) (aK.bind sX (aK.if (inl ql hl) ?_)))
  rw [bh (show x < 9223372036854775807 by omega)]
  refine SI hk d (x+1) _ (by omega) (by rw [List.length_set];exact hl) fun j hj=>?_
  rw [an]
  by_cases e:x=j
  ·subst e;exact lL _ _ _ _ (by omega)
  ·rw [je _ _ _ e];exact h0 j (by omega)
theorem SJ (hm:m≤1000) (hk:k≤1000) (hc:c≤k) {g0:List aa} {v1 v3:Bool} {v2 v4:List Int}:∀ (d x:Nat) (G:Nat→List aa),x+d=m→(∀ r,r < m→G r=if r < x then LQ (fun j=>D.a r (sk c j)) k else LQ (D.a r) (k+1)) →
  aK (fun N g=>dV N (n:Int) (m:Int) (LN D.eT m) (LA D.a m (k+1)) (LQ D.b m) g0 v1 v2 v3 v4 (h:Int) (c:Int) (LN (fun j=>D.fr (sk c j)) k,LN (fun j=>D.fr (sk c j)) k) g (Bc G m) (x:Int)) (RS true n m k h (D.del c))
 | 0,x,G,hx,hG=>by
  refine aK.succ (fun N g=>dV.eq_2 ..) (aK.bg (Ls (m:=x) (n:=m) (by omega) (gW _ _ _)) ?_)
  simp only [eD]
  refine aK.if (by omega) ?_
  rw [show Bc G m=LA (fun i j=>D.a i (sk c j)) m k from qG fun r hr=>by rw [hG r hr,if_pos (by omega)]]
  have:=(SI hk (n:=n) (m:=m) (h:=h) (c:=c) (D:=D) (v1:=v1) (v2:=v2) (v3:=v3) (v4:=v4) k 0 (List.replicate k aa.d) (by omega) dn fun j hj=>absurd hj (dN _)).diag
  exact aK.one this
 | d+1,x,G,hx,hG=>by
  have rS:x < m:=by omega
  have e:G x=LQ (D.a x) (k+1):=by rw [hG x rS,if_neg (by omega)]
  refine aK.succ (fun N g=>dV.eq_2 ..) (aK.aG (Ka (n:=m) rS (gW _ _ _)) (aK.if (by rw [qk];exact rS) (aK.if (inl rS (qk _ _)) ?_)))
  simp only [an,ER _ _ rS,e]
  refine aK.bind (VA (D.a x) hc hk) ?_
  rw [bh (show x < 9223372036854775807 by omega),ES]
  refine SJ hm hk hc d (x+1) _ (by omega) fun r hr=>?_
  by_cases q:r=x
  ·rw [if_pos q,if_pos (by omega),q]
  ·rw [if_neg q,hG r hr]
   by_cases q2:r < x
   ·rw [if_pos q2,if_pos (by omega)]
   ·rw [if_neg q2,if_neg (by omega)]
theorem SK (hm:m≤1000) (hk:k≤999) (hw:D.WF m (k+1)) (hc:c < k+1) (hh:D.fr c=h) :
  Gv (fun N=>g9 N (n:Int) (m:Int) (LN D.eT m) (LN D.fr (k+1)) (LA D.a m (k+1)) (LQ D.b m) (LQ D.g (k+1)) (bj D.v).fN.fG (bj D.v).fN.fL (bj D.v).fD.fG (bj D.v).fD.fL (h:Int)) (RS true n m k h (D.del c)):=by
 obtain ⟨r,h1,h2⟩:=A5 (f:=D.fr) (k:=k+1) (v:=h) (by omega)
 rcases h2 with ⟨_,h2⟩ | ⟨j,rfl,hj,h2⟩
 ·exact absurd hh (h2 c hc)
 ·obtain rfl:j=c:=hw.fi j c hj hc (h2.trans hh.symm)
  refine Gv.bind h1 (Gv.bind (Vz D.fr (by omega) (by omega)) ?_)
  have:=(SJ hm (show k≤1000 by omega) (show j≤k by omega) (n:=n) (h:=h) (D:=D) (g0:=LQ D.g (k+1)) (v1:=(bj D.v).fN.fG) (v2:=(bj D.v).fN.fL) (v3:=(bj D.v).fD.fG) (v4:=(bj D.v).fD.fL) m 0 (fun r=>LQ (D.a r) (k+1)) (by omega) fun r _=>by rw [if_neg (dN _)]).diag
  exact this
structure xh (n m:Nat) (C:Nat→Nat→Rat) (B:Nat→Rat) (D:bq) (c:Nat):Prop where
 wf:D.WF m (2 * n+1)
 fea:D.Kc m
 eqv:(∃ z,bq.z7 m (2 * n+1) (bq.fst n m C B z) D)
 lt:c < 2 * n+1
 fr:D.fr c=2 * n+m
variable {C:Nat→Nat→Rat} {B:Nat→Rat}
theorem SL (hm:m≤1000) (hn:2 * n≤998) {z:Rat} (HJ:(bq.fst n m C B z).GN m (2 * n+1) s) (h1:1≤s) (hs:5 * (5 ^ m * s)≤MS) (hw:D.WF m (2 * n+1)) (hf:D.Kc m) (he:bq.z7 m (2 * n+1) (bq.fst n m C B z) D)
  (UK:∀ i,i < m→D.eT i=2 * n+m→D.b i=0∧∃ j,j < 2 * n+1∧D.a i j≠0) :
  ∃ D' c,xh n m C B D' c∧Gv (fun N=>fE N (n:Int) (m:Int) (LN D.eT m) (LN D.fr (2 * n+1)) (LA D.a m (2 * n+1)) (LQ D.b m) (LQ D.g (2 * n+1)) (bj D.v).fN.fG (bj D.v).fN.fL (bj D.v).fD.fG (bj D.v).fD.fL ((2 * n+m:Nat):Int)) (RS true n m (2 * n) (2 * n+m) (D'.del c)):=by
 have hr:=bq.size hw (bq.Du n m C B z) he HJ h1
 have Hi:1≤5 ^ m * s:=dj h1 (Nat.le_mul_of_pos_left _ (Nat.pow_pos (by decide)))
 obtain ⟨r,q1,q2⟩:=A5 (f:=D.eT) (k:=m) (v:=2 * n+m) hm
 rcases q2 with ⟨rfl,q2⟩ | ⟨i,rfl,hi,q2⟩
 ·obtain ⟨c,hc,LV⟩:=bq.zP hw (u:=2 * n+m) (by omega) fun ⟨i,hi,e⟩=>q2 i hi e
  exact ⟨D,c,⟨hw,hf,⟨z,he⟩,hc,LV⟩,Gv.bind q1 (Gv.bg (by decide) (SK hm (by omega) hw hc LV))⟩
 ·obtain ⟨hb,j0,hj0,ha0⟩:=UK i hi q2
  obtain ⟨r,q3,q4⟩:=X6 (f:=D.a i) (k:=2 * n+1) (by omega) (show 5 ^ m * s≤MS by omega) fun j hj=>hr.a i j hi hj
  rcases q4 with ⟨_,q4⟩ | ⟨j,rfl,hj,q4⟩
  ·exact absurd (q4 j0 hj0) ha0
  ·refine ⟨D.il i j,j,⟨hw.il hi hj,bq.Sy hf hb,⟨z,he.trans (.il hi hj q4)⟩,hj,by simp only [bq.il,if_true];exact q2⟩,Gv.bind q1 (Gv.aG (by simp) ?_)⟩
   simp only [an,tV _ _ hi]
   refine Gv.if (by rw [gW];exact hi) (Gv.if (inl hi (gW _ _ _)) (Gv.bind q3 (Gv.bind (GW hm (by omega) hi hj hs Hi hr q4) ?_)))
   simp only [RT,eD,gW,bG]
   exact Gv.if trivial (Gv.if trivial (Gv.if trivial (Gv.if trivial (Gv.if trivial (SK hm (by omega) (hw.il hi hj) hj (by simp only [bq.il,if_true];exact q2))))))
def aad (B:Nat→Rat) (x:Nat) (low:Int):Prop:=(low = -1∧∀ r,r < x→0≤B r)∨∃ l:Nat,low=l∧l < x∧B l < 0∧∀ r,r < x→B l≤B r
structure ET (n m:Nat) (C:Nat→Nat→Rat) (B:Nat→Rat) (D:bq):Prop where
 wf:D.WF m (2 * n+1)
 eqv:bq.z7 m (2 * n+1) (bq.fst n m C B (-1)) D
 g:∀ j,j < 2 * n+1→D.g j≤0
 v:D.v < 0
theorem OL (z:Rat) (hz:RB z s) (hr:(bq.fst n m C B 0).GN m (2 * n+1) s):(bq.fst n m C B z).GN m (2 * n+1) s:=by
 refine ⟨hr.a,hr.b,fun j hj=>?_,hr.v⟩
 have:=hr.g j hj
 simp only [bq.fst] at this ⊢
 split
 ·rw [if_pos (by assumption)] at this;exact this
 ·exact hz
theorem SN (hm:m≤1000) (hn:2 * n≤998) (hr:(bq.fst n m C B 0).GN m (2 * n+1) s) (h1:1≤s) (hs:5 * (5 ^ m * s)≤MS):∀ (d x:Nat) (low:Int),x+d=m→aad B x low →
  ∃ r,aK (fun N g=>bH N (n:Int) (m:Int) (bj 0).fN.fG (bj 0).fN.fL (bj 0).fD.fG (bj 0).fD.fL ((2 * n+m:Nat):Int) (LN (bq.fst n m C B 0).eT m) (LN (bq.fst n m C B 0).fr (2 * n+1))
    (LA (bq.fst n m C B 0).a m (2 * n+1)) (LQ B m) (LQ (bq.fst n m C B 0).g (2 * n+1)) g low (x:Int)) r ∧
   ((∃ D,ET n m C B D∧r=RS false n m (2 * n+1) (2 * n+m) D)∨∃ D c,xh n m C B D c∧r=RS true n m (2 * n) (2 * n+m) (D.del c))
 | 0,x,low,hx,hI=>by
  have rS:x=m:=by omega
  subst rS
  have step:∀ {r},(∃ N0:Nat,True)→aK (fun N g=>bH N (n:Int) (x:Int) (bj 0).fN.fG (bj 0).fN.fL (bj 0).fD.fG (bj 0).fD.fL ((2 * n+x:Nat):Int) (LN (bq.fst n x C B 0).eT x) (LN (bq.fst n x C B 0).fr (2 * n+1))
    (LA (bq.fst n x C B 0).a x (2 * n+1)) (LQ B x) (LQ (bq.fst n x C B 0).g (2 * n+1)) (g+1) low (x:Int)) r→aK (fun N g=>bH N (n:Int) (x:Int) (bj 0).fN.fG (bj 0).fN.fL (bj 0).fD.fG (bj 0).fD.fL ((2 * n+x:Nat):Int) (LN (bq.fst n x C B 0).eT x) (LN (bq.fst n x C B 0).fr (2 * n+1))
    (LA (bq.fst n x C B 0).a x (2 * n+1)) (LQ B x) (LQ (bq.fst n x C B 0).g (2 * n+1)) g low (x:Int)) r:=fun _ h=>aK.succ (fun _ _=>rfl) h
  rcases hI with ⟨rfl,hB⟩ | ⟨l,rfl,hl,rL,uc⟩
  ·obtain ⟨D,c,q1,q2⟩:=SL (D:=bq.fst n x C B 0) hm hn hr h1 hs (bq.Du n x C B 0) hB (.refl _ _ _) fun i hi e=>by
    simp only [bq.fst] at e;omega
   refine ⟨_,step ⟨0,trivial⟩ ?_,.inr ⟨D,c,q1,rfl⟩⟩
   simp only [bH]
   exact aK.bg (Ls (m:=x) (n:=x) (aR _) (bG _ _)) (aK.bg (by decide) (aK.one q2))
  ·have hw:=bq.Du n x C B (-1)
   have RZ:=OL (-1) (bq.X1.neg.le h1) hr
   have ea:(bq.fst n x C B (-1)).a l (2 * n)=1:=by simp only [bq.fst];rw [if_neg (by omega),if_neg (by omega)]
   have h0:(bq.fst n x C B (-1)).a l (2 * n)≠0:=by rw [ea];decide
   have hs5:s≤5 ^ x * s:=Nat.le_mul_of_pos_left _ (Nat.pow_pos (by decide))
   have adM:=GW (n:=n) (h:=2 * n+x) hm (show 2 * n+1≤1000 by omega) hl (show 2 * n < 2 * n+1 by omega) (show 5 * s≤MS by omega) h1 RZ h0
   obtain ⟨D,r,q1,q2,q3,q4,q5⟩:=LD (n:=n) (h:=2 * n+x) hm (show 2 * n+1≤1000 by omega) hw RZ h1 hs (hw.il hl (show 2 * n < 2 * n+1 by omega)) (bq.PX n x C B hl rL uc) (.il hl (by omega) h0)
   have XO:=bq.Vx q1 q3 q2 (by
    rcases q4 with ⟨_,h⟩ | ⟨j,_,h,h'⟩
    ·exact .inl h
    ·exact .inr ⟨j,h,h'⟩)
   have hrD:=bq.size q1 hw q3 RZ h1
   have eg:(LQ (bq.fst n x C B 0).g (2 * n+1)).set (2 * n) (bj ((-1:Int):Rat))=LQ (bq.fst n x C B (-1)).g (2 * n+1):=by
    rw [xg]
    refine lM fun j hj=>?_
    simp only [bq.fst]
    by_cases e:j=2 * n
    ·rw [if_pos e,if_neg (by omega)];rfl
    ·rw [if_neg e,if_pos (by omega),if_pos (by omega)]
   have aae:aq (((2 * n+1:Nat):Int) - 1)=((2 * n:Nat):Int):=by rw [bE (by omega) (by omega)];omega
   have main:∀ {r'},Gv (fun N=>(gI N (bj D.v)).bind fun fS=>cond (!fS) (some (RS false n x (2 * n+1) (2 * n+x) D)) (fE N (n:Int) (x:Int) (LN D.eT x) (LN D.fr (2 * n+1)) (LA D.a x (2 * n+1)) (LQ D.b x) (LQ D.g (2 * n+1)) (bj D.v).fN.fG (bj D.v).fN.fL (bj D.v).fD.fG (bj D.v).fD.fL ((2 * n+x:Nat):Int))) r' →
     aK (fun N g=>bH N (n:Int) (x:Int) (bj 0).fN.fG (bj 0).fN.fL (bj 0).fD.fG (bj 0).fD.fL ((2 * n+x:Nat):Int) (LN (bq.fst n x C B 0).eT x) (LN (bq.fst n x C B 0).fr (2 * n+1))
      (LA (bq.fst n x C B 0).a x (2 * n+1)) (LQ B x) (LQ (bq.fst n x C B 0).g (2 * n+1)) g ((l:Nat):Int) (x:Int)) r':=fun h=>by
    refine step ⟨0,trivial⟩ ?_
    simp only [bH,eD,aae,an]
    refine aK.bg (Ls (m:=x) (n:=x) (aR _) (bG _ _)) (aK.aG (by simp) (aK.bind (SH (-1) (by decide) (by decide)) (aK.if (inl (show 2 * n < 2 * n+1 by omega) (bG _ _)) ?_)))
    rw [eg]
    refine aK.bind adM ?_
    simp only [RT,eD,gW,bG]
    refine aK.if trivial (aK.if trivial (aK.if trivial (aK.if trivial (aK.if trivial (aK.bind (q5.diag) ?_)))))
    simp only [RT,eD,gW,bG]
    exact aK.if trivial (aK.if trivial (aK.if trivial (aK.if trivial (aK.if trivial (aK.one h)))))
   by_cases hz:D.v=0
   ·have hh0:D.ext x (2 * n+1) bq.qQ (2 * n+x)=0:=by have:=bq.GU q1 q3;grind
    obtain ⟨D',c,p1,p2⟩:=SL hm hn RZ h1 hs q1 q2 q3 fun i hi e=>⟨by
     rw [← e,bq.uH q1 hi,bq.sV] at hh0;exact hh0,bq.Nk q1 q3 hi e⟩
    exact ⟨_,main (Gv.bind ((hrD.v.q (by omega)).zero (by decide)) (Gv.bg (by simp [hz]) p2)),.inr ⟨D',c,p1,rfl⟩⟩
   ·refine ⟨_,main (Gv.bind ((hrD.v.q (by omega)).zero (by decide)) (Gv.aG (by simp [hz]) (Gv.pure _))),.inl ⟨D,⟨q1,q3,XO,?_⟩,rfl⟩⟩
    have e1:=bq.GU q1 q3
    have e2:=bq.zR q1 q2 (2 * n+x) (by omega)
    grind
 | d+1,x,low,hx,hI=>by
  have rS:x < m:=by omega
  have hs5:s≤5 ^ m * s:=Nat.le_mul_of_pos_left _ (Nat.pow_pos (by decide))
  have hB:∀ r,r < m→RB (B r) s:=hr.b
  have hbx:=(hB x rS).q (show s≤MS by omega)
  have Cv:0≤low→low < ((m:Nat):Int):=fun h0=>by
   rcases hI with ⟨e,_⟩ | ⟨b,e,hb,_⟩<;>omega
  have nx:∀ VC:Int,aad B (x+1) VC→(∃ cmp:Int,(B x < 0→∀ l:Nat,low=l→cmp=qm (B x - B l))∧(¬ (B x < 0∧0≤low)→cmp=0)∧(cond (cond (decide (qm (B x) < 0)) (cond (decide (low < 0)) true (decide (cmp < 0))) false) (x:Int) low)=VC) →
    ∃ r,aK (fun N g=>bH N (n:Int) (m:Int) (bj 0).fN.fG (bj 0).fN.fL (bj 0).fD.fG (bj 0).fD.fL ((2 * n+m:Nat):Int) (LN (bq.fst n m C B 0).eT m) (LN (bq.fst n m C B 0).fr (2 * n+1))
      (LA (bq.fst n m C B 0).a m (2 * n+1)) (LQ B m) (LQ (bq.fst n m C B 0).g (2 * n+1)) g low (x:Int)) r ∧
     ((∃ D,ET n m C B D∧r=RS false n m (2 * n+1) (2 * n+m) D)∨∃ D c,xh n m C B D c∧r=RS true n m (2 * n) (2 * n+m) (D.del c)):=fun VC g1 ⟨cmp,g2,g3,g4⟩=>by
   obtain ⟨r,g5,g6⟩:=SN hm hn hr h1 hs d (x+1) VC (by omega) g1
   refine ⟨r,aK.succ (fun _ _=>rfl) ?_,g6⟩
   have adN:Gv (fun N=>cond ((decide (qm (B x) < 0)) && ((decide (qm (B x) < 0)) && (!(decide (low < 0))))) (pe N (bj (B x)) ((LQ B m).getD low.toNat aa.d)) (some 0)) cmp:=by
    by_cases q:B x < 0∧0≤low
    ·obtain ⟨q1,q2⟩:=q
     obtain ⟨l,rfl⟩:∃ l:Nat,low=l:=⟨low.toNat,by omega⟩
     have hlm:l < m:=by have:=Cv q2;omega
     rw [g2 q1 l rfl]
     refine Gv.aG (by simp [mT,q1]) ?_
     rw [an,gN _ _ hlm]
     exact hbx.cmp ((hB l hlm).q (show s≤MS by omega)) (EF (by decide))
    ·rw [g3 q]
     refine Gv.bg ?_ (Gv.pure 0)
     by_cases q1:B x < 0
     ·have:low < 0:=Int.not_le.1 fun q2=>q ⟨q1,q2⟩
      simp [this]
     ·simp [mT,q1]
   have:aK (fun N g=>bH N (n:Int) (m:Int) (bj 0).fN.fG (bj 0).fN.fL (bj 0).fD.fG (bj 0).fD.fL ((2 * n+m:Nat):Int) (LN (bq.fst n m C B 0).eT m) (LN (bq.fst n m C B 0).fr (2 * n+1))
      (LA (bq.fst n m C B 0).a m (2 * n+1)) (LQ B m) (LQ (bq.fst n m C B 0).g (2 * n+1)) (g+1) low (x:Int)) r:=by
    simp only [bH]
    refine aK.aG (Ka (n:=m) rS (bG _ _)) (aK.if (inl rS (bG _ _)) ?_)
    simp only [an,gN _ _ rS,g8,bh (show x < 9223372036854775807 by omega)]
    refine aK.bind (hbx.qm (by decide)) (aK.if (fun _=>inl rS (bG _ _)) (aK.if (fun q=>?_) (aK.bind adN ?_)))
    ·simp at q
     rw [bG];exact ⟨by omega,Cv (by omega)⟩
    ·revert g4
     cases (cond (decide (qm (B x) < 0)) (cond (decide (low < 0)) true (decide (cmp < 0))) false) with
     | true=>intro g4;refine aK.aG rfl ?_;simp only [cond_true] at g4;rw [g4];exact g5
     | false=>intro g4;refine aK.bg rfl ?_;simp only [cond_false] at g4;rw [g4];exact g5
   exact this
  by_cases hp:B x < 0
  ·have e1:decide (qm (B x) < 0)=true:=decide_eq_true (mT.2 hp)
   rcases hI with ⟨rfl,hb⟩ | ⟨l,rfl,hl,hg,uc⟩
   ·refine nx x (.inr ⟨x,rfl,by omega,hp,fun r Ag=>?_⟩) ⟨0,fun _ l e=>by omega,fun _=>rfl,by rw [e1];rfl⟩
    by_cases e:r=x
    ·rw [e];exact Rat.le_refl
    ·have:=hb r (by omega);grind
   ·have e2:decide (((l:Nat):Int) < 0)=false:=by simp
    by_cases fo:B x < B l
    ·refine nx x (.inr ⟨x,rfl,by omega,hp,fun r Ag=>?_⟩) ⟨qm (B x - B l),fun _ l' e=>by rw [show l'=l by omega],fun q=>absurd ⟨hp,by omega⟩ q,by rw [e1,e2,decide_eq_true (mT.2 (show B x - B l < 0 by grind))];rfl⟩
     by_cases e:r=x
     ·rw [e];exact Rat.le_refl
     ·have:=uc r (by omega);grind
    ·refine nx l (.inr ⟨l,rfl,by omega,hg,fun r Ag=>?_⟩) ⟨qm (B x - B l),fun _ l' e=>by rw [show l'=l by omega],fun q=>absurd ⟨hp,by omega⟩ q,by rw [e1,e2,decide_eq_false fun q=>by have:=mT.1 q;grind];rfl⟩
     by_cases e:r=x
     ·rw [e];grind
     ·exact uc r (by omega)
  ·have e1:decide (qm (B x) < 0)=false:=decide_eq_false fun q=>hp (mT.1 q)
   refine nx low ?_ ⟨0,fun q=>absurd q hp,fun _=>rfl,by rw [e1];rfl⟩
   rcases hI with ⟨e,hb⟩ | ⟨l,e,hl,hg,uc⟩
   ·refine .inl ⟨e,fun r h1=>?_⟩
    by_cases e2:r=x
    ·rw [e2];exact Rat.not_lt.1 hp
    ·exact hb r (by omega)
   ·refine .inr ⟨l,e,by omega,hg,fun r h1=>?_⟩
    by_cases e2:r=x
    ·rw [e2];grind
    ·exact uc r (by omega)
theorem Iz (hm:m≤1000) (hn:2 * n≤998) (hr:(bq.fst n m C B 0).GN m (2 * n+1) s) (h1:1≤s) (hs:5 * (5 ^ m * s)≤MS) :
  ∃ r,Gv (fun N=>jY N (n:Int) (m:Int) (bj 0).fN.fG (bj 0).fN.fL (bj 0).fD.fG (bj 0).fD.fL ((2 * n+m:Nat):Int) (LN (bq.fst n m C B 0).eT m) (LN (bq.fst n m C B 0).fr (2 * n+1))
    (LA (bq.fst n m C B 0).a m (2 * n+1)) (LQ B m) (LQ (bq.fst n m C B 0).g (2 * n+1))) r ∧
   ((∃ D,ET n m C B D∧r=RS false n m (2 * n+1) (2 * n+m) D)∨∃ D c,xh n m C B D c∧r=RS true n m (2 * n) (2 * n+m) (D.del c)):=by
 obtain ⟨r,h2,h3⟩:=SN hm hn hr h1 hs m 0 (-1) (by omega) (.inl ⟨rfl,fun j hj=>absurd hj (dN _)⟩)
 exact ⟨r,h2.diag,h3⟩
end
end Go.Den
namespace Go.Den
open Go.Ab
structure JT (r:aH):Prop where
 len:r.bu.length≤20
 co:∀ j,IR (r.bu.getD j aa.d) 2
 bo:IR r.b6 2
structure lx (l:List aH):Prop where
 len:l.length≤60
 row:∀ i,JT (l.getD i aH.d)
theorem ird {n:Nat}:IR aa.d n:=⟨⟨U.nil,Nat.zero_le _⟩,⟨U.nil,Nat.zero_le _⟩⟩
theorem JT.d:JT aH.d:=⟨by decide,fun j=>by
 have:(aH.d.bu.getD j aa.d)=aa.d:=by cases j<;>rfl
 rw [this];exact ird,ird⟩
theorem SO {l:List aH} {i:Nat} (h:l.length≤i):l.getD i aH.d=aH.d:=by
 simp [List.getD,List.getElem?_eq_none_iff.2 h]
def uI (l:List aH) (n:Int) (i:Nat):Prop:=(((l.getD i aH.d).bu.length:Nat):Int) > n
instance (l:List aH) (n:Int) (i:Nat):Decidable (uI l n i):=by unfold uI;infer_instance
def qR (l:List aH) (n:Int):Nat→Nat→Bool
 | 0,_=>false
 | k+1,i=>if uI l n i then true else qR l n k (i+1)
def fO (n:Int) (l:List aH):Int:=if n < 0∨n > 12 then 2 else if l.length > 40 then 8 else cond (qR l n l.length 0) 11 0
theorem An {l:List aH} {n:Int}:∀ k i,qR l n k i=false→∀ j,i≤j→j < i+k→¬ uI l n j
 | 0,_,_,j,h1,h2=>by omega
 | k+1,i,h,j,h1,h2=>by
  rw [qR] at h
  split at h
  ·cases h
  ·by_cases Ha:j=i
   ·rw [Ha];assumption
   ·exact An k (i+1) h j (by omega) (by omega)
theorem IA {l:List aH} {n:Int} (hl:l.length≤1000):∀ k i,i+k=l.length→∃ r,aK (fun N fuel=>cx N l n fuel (i:Int)) r∧decide (r≥0)=qR l n k i
 | 0,i,hi=>⟨-1,.step 0 fun N g _ _=>by
  have:i=l.length:=by omega
  subst this
  rw [cx,eJ];rfl,rfl⟩
 | k+1,i,hi=>by
  have nH:i < l.length:=by omega
  obtain ⟨r,h1,h2⟩:=IA (n:=n) hl k (i+1) (by omega)
  have hp:Gv (fun N=>oO N (l.getD i aH.d) n) (decide (uI l n i)):=Gv.pure _
  rw [qR]
  by_cases h:uI l n i
  ·rw [if_pos h]
   refine ⟨(i:Int),aK.succ (fun N g=>cx.eq_2 ..) (aK.aG (dec_lt nH) (aK.if (mQ nH) (aK.bind hp (aK.aG (decide_eq_true h) (aK.one (Gv.pure _)))))),decide_eq_true (by omega)⟩
  ·rw [if_neg h]
   refine ⟨r,aK.succ (fun N g=>cx.eq_2 ..) (aK.aG (dec_lt nH) (aK.if (mQ nH) (aK.bind hp (aK.bg (decide_eq_false h) ?_)))),h2⟩
   rw [bh (by omega)];exact h1
theorem sY (n:Int) (l:List aH):Gv (fun N=>lg N n l) (fO n l):=by
 unfold lg fO
 have e:cond (decide (n < 0)) true (decide (n > 12))=decide (n < 0∨n > 12):=by
  by_cases h:n < 0
  ·rw [decide_eq_true h,decide_eq_true (Or.inl h)];rfl
  ·rw [decide_eq_false h,cond_false];exact decide_eq_decide.2 ⟨Or.inr,fun h2=>h2.resolve_left h⟩
 rw [e]
 by_cases h:n < 0∨n > 12
 ·rw [if_pos h];exact Gv.aG (decide_eq_true h) (Gv.pure _)
 ·rw [if_neg h]
  refine Gv.bg (decide_eq_false h) ?_
  by_cases h2:l.length > 40
  ·rw [if_pos h2];exact Gv.aG (decide_eq_true (by omega)) (Gv.pure _)
  ·rw [if_neg h2]
   obtain ⟨r,h3,h4⟩:=IA (l:=l) (n:=n) (by omega) l.length 0 (by omega)
   refine Gv.bg (decide_eq_false (by omega)) (Gv.bind (r:=decide (r≥0)) (Gv.bind h3.diag (Gv.pure _)) ?_)
   rw [h4]
   cases qR l n l.length 0 with
   | true=>exact Gv.aG rfl (Gv.pure _)
   | false=>exact Gv.bg rfl (Gv.pure _)
theorem Ao {l:List aH} {n:Int} (hl:l.length≤1000):∀ k i,i+k=l.length→aK (fun N fuel=>fb N n l fuel (i:Int)) (cond (qR l n k i) 11 0)
 | 0,i,hi=>.step 0 fun N g _ _=>by
  have:i=l.length:=by omega
  subst this
  rw [fb,eJ];rfl
 | k+1,i,hi=>by
  have nH:i < l.length:=by omega
  refine aK.succ (fun N g=>fb.eq_2 ..) (aK.aG (dec_lt nH) (aK.if (mQ nH) ?_))
  rw [an,qR]
  by_cases h:uI l n i
  ·rw [if_pos h];exact aK.aG (decide_eq_true h) (aK.one (Gv.pure _))
  ·rw [if_neg h]
   refine aK.bg (decide_eq_false h) ?_
   rw [bh (by omega)];exact Ao hl k (i+1) (by omega)
theorem oH (n:Int) (l:List aH):Gv (fun N=>kD N n l) (fO n l):=by
 unfold kD fO
 have e:cond (decide (n < 0)) true (decide (n > 12))=decide (n < 0∨n > 12):=by
  by_cases h:n < 0
  ·rw [decide_eq_true h,decide_eq_true (Or.inl h)];rfl
  ·rw [decide_eq_false h,cond_false];exact decide_eq_decide.2 ⟨Or.inr,fun h2=>h2.resolve_left h⟩
 rw [e]
 by_cases h:n < 0∨n > 12
 ·rw [if_pos h];exact Gv.aG (decide_eq_true h) (Gv.pure _)
 ·rw [if_neg h]
  refine Gv.bg (decide_eq_false h) ?_
  by_cases h2:l.length > 40
  ·rw [if_pos h2];exact Gv.aG (decide_eq_true (by omega)) (Gv.pure _)
  ·rw [if_neg h2]
   exact Gv.bg (decide_eq_false (by omega)) (Ao (by omega) l.length 0 (by omega)).diag
structure Dw (n:Nat) (l:List aH):Prop where
 adO:n≤12
 len:l.length≤40
 co:∀ i,i < l.length→(l.getD i aH.d).bu.length≤n
theorem Nl {n:Int} {l:List aH} (h:fO n l=0):0≤n∧Dw n.toNat l:=by
 unfold fO at h
 split at h
 ·cases h
 ·split at h
  ·cases h
  ·cases e:qR l n l.length 0 with
   | true=>rw [e] at h;cases h
   | false =>
    refine ⟨by omega,by omega,by omega,fun i hi=>?_⟩
    have:=An _ _ e i (Nat.zero_le _) (by omega)
    unfold uI at this
    omega
def dF (c x:List aa):Nat→Nat→Rat→Rat
 | 0,_,a=>a
 | k+1,i,a=>dF c x k (i+1) (a+qv (c.getD i aa.d) * qv (x.getD i aa.d))
def HM (c x:List aa):Rat:=dF c x c.length 0 0
structure LB (l:List aa) (n:Nat):Prop where
 len:l.length≤60
 ir:∀ i,IR (l.getD i aa.d) n
theorem LB.rq {l:List aa} {n:Nat} (h:LB l n) (hn:1≤n) (i:Nat):RQ (l.getD i aa.d) (qv (l.getD i aa.d)) n:=⟨h.ir i,rfl,hn⟩
section
variable {c x:List aa}
theorem GY (hc:LB c 12) (hx:LB x 400000) (hle:c.length≤x.length):∀ (k i m:Nat) (a:Rat),i+k=c.length→RB a m→1≤m→m+k * 400013≤100000000→aK (fun N fuel=>gl N c x fuel (bj a) (i:Int)) (bj (dF c x k i a))
 | 0,i,m,a,hi,_,_,_=>.step 0 fun N g _ _=>by
  have:i=c.length:=by omega
  subst this
  rw [gl,eJ];rfl
 | k+1,i,m,a,hi,ha,h1,hm=>by
  have nH:i < c.length:=by omega
  have hlen:=hc.len
  have r1:=hc.rq (by decide) i
  have r2:=hx.rq (by decide) i
  refine aK.succ (fun N g=>gl.eq_2 ..) (aK.aG (by rw [dec_lt nH,dec_lt (by omega)];rfl) (aK.if (mQ nH) (aK.if (mQ (by omega)) ?_)))
  rw [an,bh (by omega)]
  refine aK.bind (r1.JN r2 (by decide)) (aK.bind ((ha.rq h1).PU ((r1.rb.mul r2.rb).rq (by decide)) (by simp only [LM];omega)) ?_)
  exact GY hc hx hle k (i+1) (m+400013) _ (by omega) ((ha.add (r1.rb.mul r2.rb)).le (by omega)) (by omega) (by omega)
theorem xi (hc:LB c 12) (hx:LB x 400000) (hle:c.length≤x.length):Gv (fun N=>ll N c x) (bj (HM c x)):=by
 have:=hc.len
 exact rQ0.bind (GY hc hx hle c.length 0 1 0 (by omega) RB.zero (by decide) (by omega)).diag
theorem Wm (hc:LB c 12) (hx:LB x 400000):∀ (k i m:Nat) (a:Rat),RB a m→RB (dF c x k i a) (m+k * 400013)
 | 0,_,_,_,h=>h.le (by omega)
 | k+1,i,m,a,h=>by
  rw [dF]
  exact (Wm hc hx k (i+1) (m+400013) _ ((h.add ((hc.rq (by decide) i).rb.mul (hx.rq (by decide) i).rb)).le (by omega))).le (by omega)
theorem JU (hc:LB c 12) (hx:LB x 400000):RB (HM c x) 24000781:=by
 have:=hc.len
 exact (Wm hc hx c.length 0 1 0 RB.zero).le (by omega)
end
theorem JT.lb {r:aH} (h:JT r):LB r.bu 12:=⟨by have:=h.len;omega,fun i=>(h.co i).le (by decide)⟩
theorem JT.X7 {r:aH} (h:JT r):RQ r.b6 (qv r.b6) 2:=⟨h.bo,rfl,by decide⟩
def Dx (l:List aH) (x:List aa) (i:Nat):Prop:=0 < HM (l.getD i aH.d).bu x - qv (l.getD i aH.d).b6
instance (l:List aH) (x:List aa) (i:Nat):Decidable (Dx l x i):=by unfold Dx;infer_instance
def vd (l:List aH) (x:List aa):Nat→Nat→Bool
 | 0,_=>false
 | k+1,i=>if Dx l x i then true else vd l x k (i+1)
section
variable {l:List aH} {x:List aa}
theorem LF (hl:lx l) (hx:LB x 400000) (ok:∀ i,i < l.length→(l.getD i aH.d).bu.length≤x.length):∀ k i,i+k=l.length→aK (fun N fuel=>iT N l x fuel (i:Int)) (!vd l x k i)
 | 0,i,hi=>.step 0 fun N g _ _=>by
  have:i=l.length:=by omega
  subst this
  rw [iT,eJ];rfl
 | k+1,i,hi=>by
  have nH:i < l.length:=by omega
  have hlen:=hl.len
  have hb:=hl.row i
  refine aK.succ (fun N g=>iT.eq_2 ..) (aK.aG (dec_lt nH) (aK.if (mQ nH) ?_))
  rw [an,vd,bh (by omega)]
  refine aK.bind (xi hb.lb hx (ok i nH)) (aK.bind (((JU hb.lb hx).rq (by decide)).Vv hb.X7 (by decide)) ?_)
  rw [yR]
  by_cases h:Dx l x i
  ·rw [if_pos h]
   exact aK.aG (decide_eq_true h) (aK.one (Gv.pure _))
  ·rw [if_neg h]
   exact aK.bg (decide_eq_false h) (LF hl hx ok k (i+1) (by omega))
theorem LG (hl:lx l) (hx:LB x 400000) (ok:∀ i,i < l.length→(l.getD i aH.d).bu.length≤x.length):Gv (fun N=>rl N l x) (!vd l x l.length 0) :=
 (LF hl hx ok l.length 0 (by omega)).diag
end
end Go.Den
namespace Go.Den
open Go.Ab
def yv (y:List aa) (i:Nat):Rat:=qv (y.getD i aa.d)
def cf (l:List aH) (i j:Nat):Rat:=qv ((l.getD i aH.d).bu.getD j aa.d)
def bv (l:List aH) (i:Nat):Rat:=qv (l.getD i aH.d).b6
def cS (l:List aH) (y:List aa) (j:Nat):Nat→Rat
 | 0=>0
 | i+1=>cS l y j i+yv y i * cf l i j
def bS (l:List aH) (y:List aa):Nat→Rat
 | 0=>0
 | i+1=>bS l y i+yv y i * bv l i
theorem aaf:qv aa.d=0:=by decide +kernel
theorem Wn {l:List aH} {i j:Nat} (h:(l.getD i aH.d).bu.length≤j):cf l i j=0:=by
 unfold cf;rw [yS h,aaf]
def lf (n:Nat) (f:Nat→Rat):List aa:=(List.range n).map fun j=>bj (f j)
theorem Nm {n:Nat} {f:Nat→Rat}:(lf n f).length=n:=by simp [lf]
theorem OM {n:Nat} {f:Nat→Rat} {j:Nat} (h:j < n):(lf n f).getD j aa.d=bj (f j):=by simp [lf,List.getD,h]
theorem VD {n:Nat} {f:Nat→Rat}:lf n f ++ [bj (f n)]=lf (n+1) f:=by
 unfold lf;rw [List.range_succ,List.map_append];rfl
section
variable {l:List aH} {y:List aa}
theorem LH (hl:lx l) (i j:Nat):RQ ((l.getD i aH.d).bu.getD j aa.d) (cf l i j) 2:=⟨(hl.row i).co j,rfl,by decide⟩
theorem GZ (hy:LB y 400000) (i:Nat):RQ (y.getD i aa.d) (yv y i) 400000:=hy.rq (by decide) i
theorem SP (hl:lx l) (hy:LB y 400000) (j:Nat):∀ i,RB (cS l y j i) (1+400003 * i)
 | 0=>RB.zero
 | i+1=>((SP hl hy j i).add ((GZ hy i).rb.mul (LH hl i j).rb)).le (by omega)
theorem SQ (hl:lx l) (hy:LB y 400000):∀ i,RB (bS l y i) (1+400003 * i)
 | 0=>RB.zero
 | i+1=>((SQ hl hy i).add ((GZ hy i).rb.mul (hl.row i).X7.rb)).le (by omega)
def sq (y:List aa):Nat→Nat→Bool
 | 0,_=>false
 | k+1,i=>if yv y i < 0 then true else sq y k (i+1)
theorem ON (hl:lx l) (hy:LB y 400000) {n j:Nat} (hn:n≤12) (hj:j < n) (SR:y.length=l.length) {out:List aa} (ho:out.length≤100):∀ k i,i+k=l.length→∃ N0,∀ N fuel,N0≤N→N0≤fuel→∀ K:List aa→Int→Option (List aa×aa),
  eR N n l y out (j:Int) K fuel (bj (cS l y j i)) (i:Int)=K (out ++ [bj (cS l y j l.length)]) ((j+1:Nat):Int)
 | 0,i,hi=>⟨1,fun N fuel hN hf K=>by
  have hi:i=l.length:=by omega
  subst hi
  obtain ⟨g,rfl⟩:∃ g,fuel=g+1:=⟨fuel - 1,by omega⟩
  rw [eR,eJ,cond_false,if_pos (by omega),bh (by omega)]⟩
 | k+1,i,hi=>by
  have hlen:=hl.len
  have nH:i < l.length:=by omega
  obtain ⟨N1,h1⟩:=(GZ hy i).JN (LH hl i j) (by decide)
  have hs:RB (cS l y j i) 24000181:=(SP hl hy j i).le (by omega)
  obtain ⟨N2,h2⟩:=(hs.rq (by decide)).PU (((GZ hy i).rb.mul (LH hl i j).rb).rq (by decide)) (by decide)
  obtain ⟨N3,h3⟩:=ON hl hy hn hj SR ho k (i+1) (by omega)
  refine ⟨N1+N2+N3+1,fun N fuel hN hf K=>?_⟩
  obtain ⟨g,rfl⟩:∃ g,fuel=g+1:=⟨fuel - 1,by omega⟩
  have Kx:=h1 N (by omega)
  have YG:=h2 N (by omega)
  have Zi:=h3 N g (by omega) (by omega) K
  dsimp only at Kx YG
  rw [eR,dec_lt nH,cond_true,if_pos (mQ nH),an,an]
  unfold k7
  rw [bh (by omega)]
  by_cases h:j < (l.getD i aH.d).bu.length
  ·have e1:l8 N (⟨((y.getD i aa.d).fN),((y.getD i aa.d).fD)⟩:aa) (⟨((((l.getD i aH.d).bu).getD j aa.d).fN),((((l.getD i aH.d).bu).getD j aa.d).fD)⟩:aa)=some (bj (yv y i * cf l i j)):=Kx
   rw [dec_lt h,cond_true,if_pos (mQ (by omega)),if_pos (mQ h),e1,bV,YG,bV]
   exact Zi
  ·have e:cS l y j (i+1)=cS l y j i:=by rw [cS,Wn (by omega)];grind
   rw [e] at Zi
   rw [decide_eq_false (by omega),cond_false]
   exact Zi
theorem IC (hl:lx l) (hy:LB y 400000) (SR:y.length=l.length) {out:List aa}:∀ k i,i+k=l.length→aK (fun N fuel=>fA N l y out fuel (bj (bS l y i)) (i:Int)) (out,bj (bS l y l.length))
 | 0,i,hi=>by
  have hi:i=l.length:=by omega
  subst hi
  exact aK.succ (fun N g=>fA.eq_2 ..) (aK.bg eJ (aK.one (Gv.pure _)))
 | k+1,i,hi=>by
  have hlen:=hl.len
  have nH:i < l.length:=by omega
  have hB:RB (bS l y i) 24000181:=(SQ hl hy i).le (by omega)
  refine aK.succ (fun N g=>fA.eq_2 ..) (aK.aG (dec_lt nH) (aK.if (mQ (by omega)) (aK.if (mQ nH) ?_)))
  rw [an,bh (by omega)]
  exact aK.bind ((GZ hy i).JN (hl.row i).X7 (by decide)) (aK.bind ((hB.rq (by decide)).PU (((GZ hy i).rb.mul (hl.row i).X7.rb).rq (by decide)) (by decide)) (IC hl hy SR k (i+1) (by omega)))
theorem LI (hl:lx l) (hy:LB y 400000) {n:Nat} (hn:n≤12) (SR:y.length=l.length):∀ k j,j+k=n→aK (fun N fuel=>eS N n l y fuel (lf j fun t=>cS l y t l.length) (j:Int)) (lf n fun t=>cS l y t l.length,bj (bS l y l.length))
 | 0,j,hj=>by
  have hj:j=n:=by omega
  subst hj
  exact aK.succ (fun N g=>eS.eq_2 ..) (aK.bg eJ (aK.one (rQ0.bind (IC hl hy SR l.length 0 (by omega)).diag)))
 | k+1,j,hj=>by
  refine aK.succ (fun N g=>eS.eq_2 ..) (aK.aG (dec_lt (by omega)) (aK.bind rQ0 ?_))
  obtain ⟨N0,h0⟩:=ON hl hy hn (show j < n by omega) SR (out:=lf j fun t=>cS l y t l.length) (by rw [Nm];omega) l.length 0 (by omega)
  obtain ⟨N1,h1⟩:=LI hl hy hn SR k (j+1) (by omega)
  refine ⟨N0+N1,fun N fuel hN hf=>?_⟩
  have:=h0 N N (by omega) (by omega) (eS N n l y fuel)
  have e:=@VD j (fun t=>cS l y t l.length)
  rw [e] at this
  exact this.trans (h1 N fuel (by omega) (by omega))
theorem B9 (hl:lx l) (hy:LB y 400000) {n:Nat} (hn:n≤12) (SR:y.length=l.length):Gv (fun N=>np N n l y) (lf n fun t=>cS l y t l.length,bj (bS l y l.length)) :=
 (LI hl hy hn SR n 0 (by omega)).diag
theorem xC (hy:LB y 400000):∀ k i,i+k=y.length→aK (fun N fuel=>dW N y fuel (i:Int)) (!sq y k i)
 | 0,i,hi=>by
  have hi:i=y.length:=by omega
  subst hi
  exact aK.succ (fun N g=>dW.eq_2 ..) (aK.bg eJ (aK.one (Gv.pure _)))
 | k+1,i,hi=>by
  have hlen:=hy.len
  have nH:i < y.length:=by omega
  refine aK.succ (fun N g=>dW.eq_2 ..) (aK.aG (dec_lt nH) (aK.if (mQ nH) (aK.bind (r:=qm (yv y i)) (by rw [an];exact (GZ hy i).PV (by decide)) ?_)))
  rw [DV,sq,bh (by omega)]
  by_cases h:yv y i < 0
  ·rw [if_pos h];exact aK.aG (decide_eq_true h) (aK.one (Gv.pure _))
  ·rw [if_neg h];exact aK.bg (decide_eq_false h) (xC hy k (i+1) (by omega))
theorem xD (hy:LB y 400000):Gv (fun N=>j4 N y) (!sq y y.length 0):=(xC hy y.length 0 (by omega)).diag
end
end Go.Den
namespace Go.Den
open Go.Ab
def LJ (x:aa):Bool:=cond (decide (((x.fN.fL.length:Nat):Int) > 2)) true (decide (((x.fD.fL.length:Nat):Int) > 2))
theorem OO {x:aa} (h:aa.wf x) (hb:LJ x=false):IR x 2:=by
 unfold LJ at hb
 by_cases h1:x.fN.fL.length≤2
 ·rw [decide_eq_false (by omega),cond_false] at hb
  have h2:=lz hb
  exact ⟨IB.OA h.1 h1,IB.OA h.2 (by omega)⟩
 ·rw [decide_eq_true (by omega)] at hb;cases hb
theorem IE {p:cT} {i:Nat} (ze:i < p.jM.length) (Ap:(p.jM.getD i aH.d).bu.length≤20) (hlen:p.jM.length≤60) (hw:∀ x∈(p.jM.getD i aH.d).bu,aa.wf x):∀ k j,j+k=(p.jM.getD i aH.d).bu.length →
  (∀ N fuel K,k < fuel→bO N p (i:Int) K fuel (j:Int)=some false)∨((∀ N fuel K,k < fuel→bO N p (i:Int) K fuel (j:Int)=K ((i+1:Nat):Int))∧∀ t,j≤t→IR ((p.jM.getD i aH.d).bu.getD t aa.d) 2)
 | 0,j,hj=>.inr ⟨fun N fuel K hf=>by
  have hj:j=(p.jM.getD i aH.d).bu.length:=by omega
  subst hj
  obtain ⟨g,rfl⟩:∃ g,fuel=g+1:=⟨fuel - 1,by omega⟩
  rw [bO,if_pos (mQ ze),an,eJ,cond_false,bh (by omega)],fun t ht=>by rw [yS (by omega)];exact ird⟩
 | k+1,j,hj=>by
  have To:j < (p.jM.getD i aH.d).bu.length:=by omega
  have step:∀ N g K,bO N p (i:Int) K (g+1) (j:Int)=cond (LJ ((p.jM.getD i aH.d).bu.getD j aa.d)) (some false) (bO N p (i:Int) K g ((j+1:Nat):Int)):=fun N g K=>by
   rw [bO,if_pos (mQ ze),an,dec_lt To,cond_true,if_pos (mQ To),if_pos (fun _=>mQ ze),if_pos (fun _=>mQ To),an,bh (by omega)]
   rfl
  cases hb:LJ ((p.jM.getD i aH.d).bu.getD j aa.d) with
  | true =>
   refine .inl fun N fuel K hf=>?_
   obtain ⟨g,rfl⟩:∃ g,fuel=g+1:=⟨fuel - 1,by omega⟩
   rw [step,hb];rfl
  | false =>
   have hir:=OO (OF hw To) hb
   rcases IE ze Ap hlen hw k (j+1) (by omega) with h | ⟨h,h2⟩
   ·refine .inl fun N fuel K hf=>?_
    obtain ⟨g,rfl⟩:∃ g,fuel=g+1:=⟨fuel - 1,by omega⟩
    rw [step,hb];exact h N g K (by omega)
   ·refine .inr ⟨fun N fuel K hf=>?_,fun t ht=>?_⟩
    ·obtain ⟨g,rfl⟩:∃ g,fuel=g+1:=⟨fuel - 1,by omega⟩
     rw [step,hb];exact h N g K (by omega)
    ·by_cases htj:t=j
     ·rw [htj];exact hir
     ·exact h2 t (by omega)
theorem IG {p:cT} (hlen:p.jM.length≤60) (hw:∀ x∈p.jM,aH.wf x):∀ k i,i+k=p.jM.length →
  aK (fun N fuel=>bw N p fuel (i:Int)) false∨(aK (fun N fuel=>bw N p fuel (i:Int)) true∧(∀ t,i≤t→JT (p.jM.getD t aH.d))∧(fO p.J8 p.jM=0→p.J8≤4∧p.jM.length≤7))
 | 0,i,hi=>by
  have hi:i=p.jM.length:=by omega
  subst hi
  have h:aK (fun N fuel=>bw N p fuel ((p.jM.length:Nat):Int)) (cond (fO p.J8 p.jM != 0) true (cond (decide (p.J8≤4)) (decide (((p.jM.length:Nat):Int)≤7)) false)) :=
   aK.succ (fun N g=>bw.eq_2 ..) (aK.bg eJ (aK.one ((oH _ _).bind (Gv.pure _))))
  cases hr:(cond (fO p.J8 p.jM != 0) true (cond (decide (p.J8≤4)) (decide (((p.jM.length:Nat):Int)≤7)) false)) with
  | false=>rw [hr] at h;exact .inl h
  | true =>
   rw [hr] at h
   refine .inr ⟨h,fun t ht=>by rw [SO ht];exact JT.d,fun hc=>?_⟩
   rw [hc] at hr
   by_cases h4:p.J8≤4
   ·by_cases h7:p.jM.length≤7
    ·exact ⟨h4,h7⟩
    ·rw [decide_eq_true h4,decide_eq_false (by omega)] at hr;cases hr
   ·rw [decide_eq_false h4] at hr;cases hr
 | k+1,i,hi=>by
  have nH:i < p.jM.length:=by omega
  have ua:aH.wf (p.jM.getD i aH.d):=by
   have e:p.jM.getD i aH.d=p.jM[i]:=by simp [List.getD,nH]
   rw [e];exact hw _ (List.getElem_mem nH)
  by_cases h1:cond (LJ (p.jM.getD i aH.d).b6) true (decide ((((p.jM.getD i aH.d).bu.length:Nat):Int) > 20))=true
  ·left
   refine aK.succ (fun N g=>bw.eq_2 ..) (aK.aG (dec_lt nH) (aK.if (mQ nH) (aK.if (fun _=>mQ nH) (aK.if (fun _=>mQ nH) ?_))))
   rw [an]
   exact aK.aG h1 (aK.one (Gv.pure _))
  ·have h1:cond (LJ (p.jM.getD i aH.d).b6) true (decide ((((p.jM.getD i aH.d).bu.length:Nat):Int) > 20))=false:=by simpa using h1
   have lN:LJ (p.jM.getD i aH.d).b6=false:=by
    revert h1;cases LJ (p.jM.getD i aH.d).b6<;>simp
   have h3:=h1
   rw [lN,cond_false] at h3
   have Ap:(p.jM.getD i aH.d).bu.length≤20:=by have:=lz h3;omega
   have Wo:∀ r,aK (fun N fuel=>bO N p (i:Int) (bw N p fuel) N 0) r→aK (fun N fuel=>bw N p fuel (i:Int)) r:=fun r hr=>by
    refine aK.succ (fun N g=>bw.eq_2 ..) (aK.aG (dec_lt nH) (aK.if (mQ nH) (aK.if (fun _=>mQ nH) (aK.if (fun _=>mQ nH) ?_))))
    rw [an]
    exact aK.bg h1 hr
   rcases IE nH Ap hlen ua.1.2 _ 0 (Nat.zero_add _) with h | ⟨h,h2⟩
   ·exact .inl (Wo _ ⟨100,fun N fuel hN hf=>h N N _ (by omega)⟩)
   ·have key:∀ r,aK (fun N fuel=>bw N p fuel ((i+1:Nat):Int)) r→aK (fun N fuel=>bw N p fuel (i:Int)) r:=fun r hr=>by
     obtain ⟨N0,h0⟩:=hr
     exact Wo _ ⟨N0+100,fun N fuel hN hf=>(h N N _ (by omega)).trans (h0 N fuel (by omega) (by omega))⟩
    rcases IG hlen hw k (i+1) (by omega) with g | ⟨g,g2,g3⟩
    ·exact .inl (key _ g)
    ·refine .inr ⟨key _ g,fun t ht=>?_,g3⟩
     by_cases UM:t=i
     ·rw [UM]
      exact ⟨Ap,fun j=>h2 j (Nat.zero_le _),OO ua.2 lN⟩
     ·exact g2 t (by omega)
theorem JV {p:cT} (hp:cT.wf p):Gv (fun N=>iI N p) false∨(Gv (fun N=>iI N p) true∧lx p.jM∧(fO p.J8 p.jM=0→p.J8≤4∧p.jM.length≤7)):=by
 by_cases h:p.jM.length≤60
 ·rcases IG h hp.2.2 p.jM.length 0 (by omega) with g | ⟨g,g2,g3⟩
  ·exact .inl (Gv.bg (decide_eq_false (by omega)) g.diag)
  ·exact .inr ⟨Gv.bg (decide_eq_false (by omega)) g.diag,⟨h,fun i=>g2 i (Nat.zero_le _)⟩,g3⟩
 ·exact .inl (Gv.aG (decide_eq_true (by omega)) (Gv.pure _))
section
variable {l:List aH} {y:List aa} {n:Nat}
def yX (f:Nat→Rat):Nat→Nat→Bool
 | 0,_=>false
 | k+1,i=>if f i=0 then yX f k (i+1) else true
theorem aag (hl:lx l) (hy:LB y 400000):RB (bS l y l.length) 24000181:=(SQ hl hy _).le (by have:=hl.len;omega)
theorem aah (hl:lx l) (hy:LB y 400000) (j:Nat):RB (cS l y j l.length) 24000181:=(SP hl hy j _).le (by have:=hl.len;omega)
def contra (l:List aH) (y:List aa) (n:Nat):Bool:=!sq y y.length 0 && decide (bS l y l.length < 0) && !yX (fun j=>cS l y j l.length) n 0
theorem yY (hl:lx l) (hy:LB y 400000) (hn:n≤12):∀ k j,j+k=n→aK (fun N fuel=>ee N n y (lf n fun t=>cS l y t l.length,bj (bS l y l.length)) fuel (j:Int)) (!sq y y.length 0 && decide (bS l y l.length < 0) && !yX (fun j=>cS l y j l.length) k j)
 | 0,j,hj=>by
  have hj:j=n:=by omega
  subst hj
  refine aK.succ (fun N g=>ee.eq_2 ..) (aK.bg eJ (aK.one ((xD hy).bind ?_)))
  rw [yX]
  cases sq y y.length 0 with
  | true=>exact Gv.bind (Gv.bg rfl (Gv.pure 0)) (Gv.pure _)
  | false =>
   refine Gv.bind (Gv.aG rfl (((aag hl hy).rq (by decide)).PV (by decide))) ((Gv.pure _).eq ?_)
   rw [DV];simp
 | k+1,j,hj=>by
  have To:j < (lf n fun t=>cS l y t l.length).length:=by rw [Nm];omega
  refine aK.succ (fun N g=>ee.eq_2 ..) (aK.aG (dec_lt (by omega)) (aK.if (mQ To) (aK.bind (r:=qm (cS l y j l.length)) ?_ ?_)))
  ·rw [an]
   have:Gv (fun N=>gy N ((lf n fun t=>cS l y t l.length).getD j aa.d)) (qm (cS l y j l.length)):=by
    rw [OM (by omega)];exact ((aah hl hy j).rq (by decide)).PV (by decide)
   exact this
  ·rw [yX]
   by_cases h:cS l y j l.length=0
   ·rw [if_pos h]
    refine aK.bg (by rw [h];rfl) ?_
    rw [bh (by omega)];exact yY hl hy hn k (j+1) (by omega)
   ·rw [if_neg h]
    exact aK.aG (by simp;exact fun h'=>h (yP.1 h')) (aK.one ((Gv.pure _).eq (by simp)))
variable {c:List aa} {b:n6} {v:Rat}
def YH (c:List aa) (l:List aH) (y:List aa) (j:Nat):Rat:=cS l y j l.length - qv (c.getD j aa.d)
def Wp (c:List aa) (l:List aH) (b:n6):Bool :=
 !vd l b.bm l.length 0 && !sq b.ai b.ai.length 0 && decide (bS l b.ai l.length - qv b.gG=0) && decide (HM c b.bm - qv b.gG=0) && !yX (YH c l b.ai) c.length 0
theorem VE {q:Rat}:(qm q != 0)=!decide (q=0):=by
 by_cases h:q=0
 ·rw [h];rfl
 ·rw [decide_eq_false h];simp;exact fun h'=>h (yP.1 h')
theorem OP {q:Rat}:(qm q == 0)=decide (q=0):=by
 by_cases h:q=0
 ·rw [h];rfl
 ·rw [decide_eq_false h];simp;exact fun h'=>h (yP.1 h')
theorem IH (hl:lx l) (ok:Dw c.length l) (hc:LB c 12) (hx:LB b.bm 400000) (hy:LB b.ai 400000) (hv:RQ b.gG (qv b.gG) 400000) (wj:b.bm.length=c.length):∀ k j,j+k=c.length→aK (fun N fuel=>gS N c l b (lf c.length fun t=>cS l b.ai t l.length,bj (bS l b.ai l.length)) fuel (j:Int))
   (!vd l b.bm l.length 0 && !sq b.ai b.ai.length 0 && decide (bS l b.ai l.length - qv b.gG=0) && decide (HM c b.bm - qv b.gG=0) && !yX (YH c l b.ai) k j)
 | 0,j,hj=>by
  have hj:j=c.length:=by omega
  subst hj
  refine aK.succ (fun N g=>gS.eq_2 ..) (aK.bg eJ (aK.one ((LG hl hx (fun i hi=>by have:=ok.co i hi;omega)).bind ?_)))
  rw [yX]
  cases vd l b.bm l.length 0 with
  | true=>exact Gv.bind (Gv.bg rfl (Gv.pure false)) (Gv.bind (Gv.bg rfl (Gv.pure 0)) (Gv.bind (Gv.bg rfl (Gv.pure aa.d)) (Gv.bind (Gv.bg rfl (Gv.pure 0)) ((Gv.pure _).eq rfl))))
  | false =>
   refine Gv.bind (Gv.aG rfl (xD hy)) ?_
   cases sq b.ai b.ai.length 0 with
   | true=>exact Gv.bind (Gv.bg rfl (Gv.pure 0)) (Gv.bind (Gv.bg rfl (Gv.pure aa.d)) (Gv.bind (Gv.bg rfl (Gv.pure 0)) ((Gv.pure _).eq rfl)))
   | false =>
    refine Gv.bind (Gv.aG rfl (((aag hl hy).rq (by decide)).Vv hv (by decide))) ?_
    rw [OP]
    by_cases hbv:bS l b.ai l.length - qv b.gG=0
    ·rw [decide_eq_true hbv]
     refine Gv.bind (Gv.aG rfl (xi hc hx (by omega))) (Gv.bind (Gv.aG rfl (((JU hc hx).rq (by decide)).Vv hv (by decide))) ((Gv.pure _).eq ?_))
     rw [OP]
     cases decide (HM c b.bm - qv b.gG=0)<;>rfl
    ·rw [decide_eq_false hbv]
     exact Gv.bind (Gv.bg rfl (Gv.pure aa.d)) (Gv.bind (Gv.bg rfl (Gv.pure 0)) ((Gv.pure _).eq (by simp)))
 | k+1,j,hj=>by
  have hlen:=hc.len
  have To:j < (lf c.length fun t=>cS l b.ai t l.length).length:=by rw [Nm];omega
  refine aK.succ (fun N g=>gS.eq_2 ..) (aK.aG (dec_lt (by omega)) (aK.if (mQ To) (aK.if (mQ (by omega)) (aK.bind (r:=qm (YH c l b.ai j)) ?_ ?_))))
  ·rw [an]
   have:Gv (fun N=>k8 N ((lf c.length fun t=>cS l b.ai t l.length).getD j aa.d) (c.getD j aa.d)) (qm (YH c l b.ai j)):=by
    rw [OM (by omega)];exact ((aah hl hy j).rq (by decide)).Vv (hc.rq (by decide) j) (by decide)
   exact this
  ·rw [VE,yX]
   by_cases h:YH c l b.ai j=0
   ·rw [if_pos h]
    refine aK.bg (by rw [decide_eq_true h];rfl) ?_
    rw [bh (by omega)];exact IH hl ok hc hx hy hv wj k (j+1) (by omega)
   ·rw [if_neg h]
    exact aK.aG (by rw [decide_eq_false h];rfl) (aK.one ((Gv.pure _).eq (by simp)))
end
end Go.Den
namespace Go.Den
open Go.Ab
theorem yZ {α:Type} (f:Nat→α) (n:Nat):Bc f n ++ [f n]=Bc f (n+1):=by
 unfold Bc;rw [List.range_succ,List.map_append];rfl
section
variable {n:Nat} {l:List aH}
abbrev D0 (n:Nat) (l:List aH):bq:=bq.fst n l.length (cf l) (bv l) 0
def TB (n:Nat) (l:List aH):jj :=
 ⟨n,((l.length:Nat):Int),LN (D0 n l).eT l.length,LN (D0 n l).fr (2 * n+1),LA (D0 n l).a l.length (2 * n+1),LQ (bv l) l.length,LQ (D0 n l).g (2 * n+1),bj 0,((2 * n+l.length:Nat):Int)⟩
theorem Wq (hn:n≤12):aq (2 * (n:Int))=((2 * n:Nat):Int):=by rw [bE (by omega) (by omega)];omega
theorem SS (hn:n≤12) {t t2:List Int} {t3:List (List aa)} {t4:List aa} (hl:l.length≤40) (h1:t=LN (fun j=>j) (2 * n)) (h2:t2=LN (D0 n l).eT l.length) (h3:t3=LA (D0 n l).a l.length (2 * n+1)) (h4:t4=LQ (bv l) l.length) :
  ∀ (d x:Nat) (L:List aa),x+d=2 * n+1→L.length=2 * n+1→(∀ j,j < x→L.getD j aa.d=bj 0) →
  aK (fun N g=>kO N (n:Int) l (bj 0) t t2 t3 t4 g L (x:Int)) (TB n l)
 | 0,x,L,hx,hL,h0=>by
  refine aK.succ (fun N g=>kO.eq_2 ..) (aK.bg (Ls (m:=x) (n:=2 * n+1) (by omega) (by rw [dn,Wq hn,bh (by omega)];rfl)) (aK.one ((Gv.pure _).eq ?_)))
  have e1:aq (((2 * n:Nat):Int)+((l.length:Nat):Int))=((2 * n+l.length:Nat):Int):=by rw [bE (by omega) (by omega)];omega
  have e2:L=LQ (D0 n l).g (2 * n+1):=Dv aa.d hL fun j hj=>by
   rw [h0 j (by omega)];simp only [bq.fst];split<;>rfl
  have e3:t ++ [((2 * n+l.length:Nat):Int)]=LN (D0 n l).fr (2 * n+1):=by
   have h:=yZ (fun j=>(((D0 n l).fr j:Nat):Int)) (2 * n)
   have h5:(D0 n l).fr (2 * n)=2 * n+l.length:=by simp only [bq.fst];rw [if_neg (by omega)]
   rw [h5] at h
   unfold LN
   rw [← h,h1];unfold LN
   congr 1
   exact qG fun j hj=>by simp only [bq.fst];rw [if_pos hj]
  rw [Wq hn,e1,e3,h2,h3,h4,e2];rfl
 | d+1,x,L,hx,hL,h0=>by
  have ql:x < 2 * n+1:=by omega
  refine aK.succ (fun N g=>kO.eq_2 ..) (aK.aG (Ka (n:=2 * n+1) ql (by rw [dn,Wq hn,bh (by omega)];rfl)) (aK.bind sX (aK.if (inl ql hL) ?_)))
  rw [bh (show x < 9223372036854775807 by omega)]
  refine SS hn hl h1 h2 h3 h4 d (x+1) _ (by omega) (by rw [List.length_set];exact hL) fun j hj=>?_
  rw [an]
  by_cases e:x=j
  ·subst e;exact lL _ _ _ _ (by omega)
  ·rw [je _ _ _ e];exact h0 j (by omega)
theorem SU (hn:n≤12) (hl:lx l) (Qi:l.length≤40) {i:Nat} (hi:i < l.length) (Ap:(l.getD i aH.d).bu.length≤n) {t t2:List Int} {t3:List (List aa)} {t4:List aa} (h3:t3.length=i) (h4:t4.length=i) {rn:aa}:∀ (d x:Nat) (L:List aa),x+d=n→L.length=2 * n+1 →
  (∀ j,j < x→L.getD j aa.d=bj (-(cf l i j))∧L.getD (n+j) aa.d=bj (cf l i j)) →
  Ev fun N g=>∀ K,fR N (n:Int) l rn t t2 t3 t4 (i:Int) K g L (x:Int)=K (t2 ++ [((2 * n+i:Nat):Int)]) (t3 ++ [LQ ((D0 n l).a i) (2 * n+1)]) (t4 ++ [bj (bv l i)]) ((i+1:Nat):Int)
 | 0,x,L,hx,hL,h0=>by
  have Cv:=(hl.row i).X7.low (by decide)
  refine Ev.succ (((pQ (z:=1) (by decide) (by decide)).ev.and Cv.ev).mono fun N g ⟨q1,q2⟩ K=>?_)
  have e1:aq (((2 * n:Nat):Int)+(i:Int))=((2 * n+i:Nat):Int):=by rw [bE (by omega) (by omega)];omega
  have hb:jg N ⟨((l.getD i aH.d).b6).fN,((l.getD i aH.d).b6).fD⟩=some (bj (bv l i)):=q2
  have eL:L.set (2 * n) (bj ((1:Int):Rat))=LQ ((D0 n l).a i) (2 * n+1):=by
   refine Dv aa.d (by rw [List.length_set];exact hL) fun j hj=>?_
   simp only [bq.fst]
   by_cases e:2 * n=j
   ·rw [← e,lL _ _ _ _ (by omega),if_neg (by omega),if_neg (by omega)];rfl
   ·rw [je _ _ _ e]
    by_cases h:j < n
    ·rw [if_pos h];exact (h0 j (by omega)).1
    ·rw [if_neg h,if_pos (by omega)]
     have:=(h0 (j - n) (by omega)).2
     rwa [show n+(j - n)=j by omega] at this
  rw [fR,show decide ((x:Int) < (n:Int))=false from decide_eq_false (by omega),cond_false,q1,bV,Wq hn,an,an,if_pos (inl (show 2 * n < 2 * n+1 by omega) hL),if_pos (by omega),hb,bV,if_pos (by omega),e1,eL,bh (by omega)]
 | d+1,x,L,hx,hL,h0=>by
  have TG:x < n:=by omega
  have e1:aq ((n:Int)+(x:Int))=((n+x:Nat):Int):=by rw [bE (by omega) (by omega)];omega
  have hC:RB (cf l i x) 2:=⟨(((hl.row i).co x).rb (by decide)).num,(((hl.row i).co x).rb (by decide)).den⟩
  have rL:Gv (fun N=>en N (bj (cf l i x))) (bj (-(cf l i x))):=by
   have:=nC (hC.q (show 2≤MS by decide)).ir (by decide) (EF (by decide));rwa [iV] at this
  have ih:=SU hn hl Qi hi Ap h3 h4 (t:=t) (t2:=t2) (rn:=rn) d (x+1) ((L.set x (bj (-(cf l i x)))).set (n+x) (bj (cf l i x))) (by omega) (by rw [List.length_set,List.length_set];exact hL) fun j hj=>by
   by_cases e:j=x
   ·subst e
    refine ⟨?_,lL _ _ _ _ (by rw [List.length_set];omega)⟩
    rw [je _ _ _ (by omega),lL _ _ _ _ (by omega)]
   ·rw [je _ _ _ (show n+x≠j by omega),je _ _ _ (show x≠j by omega),je _ _ _ (show n+x≠n+j by omega),je _ _ _ (show x≠n+j by omega)]
    exact h0 j (by omega)
  have fin:∀ N g K,en N (bj (cf l i x))=some (bj (-(cf l i x)))→(fR N (n:Int) l rn t t2 t3 t4 (i:Int) K g ((L.set x (bj (-(cf l i x)))).set (n+x) (bj (cf l i x))) ((x+1:Nat):Int)=K (t2 ++ [((2 * n+i:Nat):Int)]) (t3 ++ [LQ ((D0 n l).a i) (2 * n+1)]) (t4 ++ [bj (bv l i)]) ((i+1:Nat):Int)) →
    nP N (n:Int) l rn t t2 t3 t4 (i:Int) L (x:Int) (fR N (n:Int) l rn t t2 t3 t4 (i:Int) K g) K (bj (cf l i x))=K (t2 ++ [((2 * n+i:Nat):Int)]) (t3 ++ [LQ ((D0 n l).a i) (2 * n+1)]) (t4 ++ [bj (bv l i)]) ((i+1:Nat):Int):=fun N g K q1 q2=>by
   unfold nP
   rw [q1,bV,e1,an,an,if_pos (inl (show x < 2 * n+1 by omega) hL),if_pos (inl (show n+x < 2 * n+1 by omega) hL),bh (by omega)]
   exact q2
  by_cases hc:x < (l.getD i aH.d).bu.length
  ·have Cv:=(LH hl i x).low (by decide)
   refine Ev.succ (((sX.ev.and rL.ev).and (Cv.ev.and ih)).mono fun N g ⟨⟨q1,q2⟩,q3,q4⟩ K=>?_)
   have q3':jg N ⟨(((l.getD i aH.d).bu).getD x aa.d).fN,(((l.getD i aH.d).bu).getD x aa.d).fD⟩=some (bj (cf l i x)):=q3
   rw [fR,show decide ((x:Int) < (n:Int))=true from decide_eq_true (by omega),cond_true,q1,bV,an,an,dec_lt hc,cond_true,if_pos (mQ hc),q3',bV]
   exact fin N g K q2 (q4 K)
  ·have hz:cf l i x=0:=Wn (by omega)
   refine Ev.succ (((sX.ev.and rL.ev).and ih).mono fun N g ⟨⟨q1,q2⟩,q4⟩ K=>?_)
   rw [fR,show decide ((x:Int) < (n:Int))=true from decide_eq_true (by omega),cond_true,q1,bV,an,decide_eq_false (by omega),cond_false,← hz]
   exact fin N g K q2 (q4 K)
theorem SV (hn:n≤12) (hl:lx l) (Qi:l.length≤40) (Ap:∀ i,i < l.length→(l.getD i aH.d).bu.length≤n):∀ d x,x+d=l.length →
  aK (fun N g=>jw N (n:Int) l (bj 0) (LN (fun j=>j) (2 * n)) g (LN (D0 n l).eT x) (LA (D0 n l).a x (2 * n+1)) (LQ (bv l) x) (x:Int)) (TB n l)
 | 0,x,hx=>by
  have hx:x=l.length:=by omega
  subst hx
  refine aK.succ (fun N g=>jw.eq_2 ..) (aK.bg eJ ?_)
  have ew:aq (aq (2 * (n:Int))+1)=((2 * n+1:Nat):Int):=by rw [Wq hn,bh (by omega)]
  rw [ew,an]
  refine aK.if (by omega) (aK.one ?_)
  exact (SS hn Qi rfl rfl rfl rfl (2 * n+1) 0 (List.replicate (2 * n+1) aa.d) (by omega) dn fun j hj=>absurd hj (dN _)).diag
 | d+1,x,hx=>by
  have wj:x < l.length:=by omega
  have ew:aq (aq (2 * (n:Int))+1)=((2 * n+1:Nat):Int):=by rw [Wq hn,bh (by omega)]
  obtain ⟨N1,h1⟩:=(SU hn hl Qi wj (Ap x wj) (t:=LN (fun j=>j) (2 * n)) (t2:=LN (D0 n l).eT x) (gW (D0 n l).a x (2 * n+1)) (bG (bv l) x) (rn:=bj 0) n 0 (List.replicate (2 * n+1) aa.d) (by omega) dn fun j hj=>absurd hj (dN _))
  obtain ⟨N2,h2⟩:=SV hn hl Qi Ap d (x+1) (by omega)
  refine aK.succ (fun N g=>jw.eq_2 ..) (aK.aG (dec_lt wj) (aK.if (mQ wj) (aK.if (by rw [eD];omega) ?_)))
  rw [ew,an]
  refine aK.if (by omega) ⟨N1+N2,fun N g hN hg=>?_⟩
  have e1:=yZ (fun i=>(((D0 n l).eT i:Nat):Int)) x
  have e2:=yZ (fun i=>LQ ((D0 n l).a i) (2 * n+1)) x
  have e3:=yZ (fun i=>bj (bv l i)) x
  have Kx:=h1 N N (by omega) (by omega) (jw N (n:Int) l (bj 0) (LN (fun j=>j) (2 * n)) g)
  refine Kx.trans ?_
  have YG:=h2 N g (by omega) (by omega)
  unfold LN LA LQ at YG ⊢
  unfold LQ at e2
  rw [← e1,← e2,← e3] at YG
  exact YG
theorem SW (hn:n≤12) (hl:lx l) (Qi:l.length≤40) (Ap:∀ i,i < l.length→(l.getD i aH.d).bu.length≤n):∀ d x,x+d=2 * n →
  aK (fun N g=>kP N (n:Int) l (bj 0) g (LN (fun j=>j) x) (x:Int)) (TB n l)
 | 0,x,hx=>by
  have hx:x=2 * n:=by omega
  subst hx
  refine aK.succ (fun N g=>kP.eq_2 ..) (aK.bg (by rw [Wq hn];exact decide_eq_false (by omega)) (aK.if (by rw [eD];omega) (aK.one ?_)))
  exact (SV hn hl Qi Ap l.length 0 (by omega)).diag
 | d+1,x,hx=>by
  refine aK.succ (fun N g=>kP.eq_2 ..) (aK.aG (by rw [Wq hn];exact decide_eq_true (by omega)) (aK.if (by rw [eD];omega) ?_))
  have e1:=yZ (fun i=>((i:Nat):Int)) x
  have ih:=SW hn hl Qi Ap d (x+1) (by omega)
  rw [bh (by omega)]
  unfold LN at ih ⊢
  rw [← e1] at ih
  exact ih
theorem LK (hn:n≤12) (hl:lx l) (Qi:l.length≤40) (Ap:∀ i,i < l.length→(l.getD i aH.d).bu.length≤n):Gv (fun N=>ta N (n:Int) l) (TB n l) :=
 sX.bind (SW hn hl Qi Ap (2 * n) 0 (by omega)).diag
theorem G0 (hl:lx l):(D0 n l).GN l.length (2 * n+1) 2:=by
 have hC:∀ i j,RB (cf l i j) 2:=fun i j=>(LH hl i j).rb
 refine ⟨fun i j _ _=>?_,fun i _=>(hl.row i).X7.rb,fun j _=>?_,RB.zero.le (by decide)⟩
 ·simp only [bq.fst]
  split
  ·exact (hC i j).neg
  ·split
   ·exact hC i _
   ·exact bq.X1.le (by decide)
 ·simp only [bq.fst];split<;>exact RB.zero.le (by decide)
end
section
variable {n m k h s:Nat} {D:bq}
theorem OQ (hm:m≤1000) (hn:n≤400) (hk:k≤1000) (hs:s≤MS) (hw:D.WF m k) (hg:∀ j,j < k→RB (D.g j) s):∀ (d x:Nat) (L:List aa),x+d=m→L.length=m→(∀ i,i < x→L.getD i aa.d=bj (-(D.gc k (2 * n+i)))) →
  aK (fun N g=>bU N (n:Int) (m:Int) (bj D.v).fN.fG (bj D.v).fN.fL (bj D.v).fD.fG (bj D.v).fD.fL (h:Int) (LN D.eT m) (LN D.fr k) (LA D.a m k) (LQ D.b m) (LQ D.g k) g L (x:Int)) (LQ (fun i=>-(D.gc k (2 * n+i))) m)
 | 0,x,L,hx,hL,h0=>aK.succ (fun N g=>bU.eq_2 ..) (aK.bg (Ls (m:=x) (n:=m) (by omega) (by rw [dn];rfl)) (aK.one ((Gv.pure _).eq (Dv aa.d hL fun i hi=>h0 i (by omega)))))
 | d+1,x,L,hx,hL,h0=>by
  have rS:x < m:=by omega
  have ew:aq (aq (2 * (n:Int))+(x:Int))=((2 * n+x:Nat):Int):=by
   rw [show aq (2 * (n:Int))=((2 * n:Nat):Int) by rw [bE (by omega) (by omega)];omega,bE (by omega) (by omega)];omega
  obtain ⟨r,q1,q2⟩:=A5 (f:=D.fr) (k:=k) (v:=2 * n+x) hk
  have nx:∀ (y:aa),y=bj (-(D.gc k (2 * n+x)))→∀ L2:List aa,L2=L.set x y→aK (fun N g=>bU N (n:Int) (m:Int) (bj D.v).fN.fG (bj D.v).fN.fL (bj D.v).fD.fG (bj D.v).fD.fL (h:Int) (LN D.eT m) (LN D.fr k) (LA D.a m k) (LQ D.b m) (LQ D.g k) g L2 ((x+1:Nat):Int)) (LQ (fun i=>-(D.gc k (2 * n+i))) m):=fun y hy L2 e2=>by
   subst e2
   refine OQ hm hn hk hs hw hg d (x+1) _ (by omega) (by rw [List.length_set];exact hL) fun i hi=>?_
   by_cases e:x=i
   ·subst e;rw [lL _ _ _ _ (by omega)];exact hy
   ·rw [je _ _ _ e];exact h0 i (by omega)
  refine aK.succ (fun N g=>bU.eq_2 ..) (aK.aG (Ka (n:=m) rS (by rw [dn];rfl)) (aK.bind sX (aK.if (inl rS hL) ?_)))
  rw [ew]
  refine aK.bind q1 ?_
  simp only [fa,an,bh (show x < 9223372036854775807 by omega)]
  rcases q2 with ⟨rfl,q2⟩ | ⟨j,rfl,hj,q2⟩
  ·exact aK.bg (by decide) (nx _ (by rw [bq.B6 q2];rfl) _ rfl)
  ·have hgj:=hg j hj
   refine aK.aG (by simp) (aK.if (inl hj (bG _ _)) ?_)
   simp only [gN _ _ hj,an,List.set_set]
   refine aK.bind (r:=bj (-(D.g j))) (by have:=nC (hgj.q hs).ir (by decide) (EF (by decide));rwa [iV] at this) (aK.if (inl rS (by rw [List.length_set];exact hL)) ?_)
   exact nx _ (by rw [← q2,bq.Lz hw hj]) _ rfl
theorem JW (hm:m≤1000) (hn:n≤400) (hk:k≤1000) (hs:s≤MS) (hw:D.WF m k) (hg:∀ j,j < k→RB (D.g j) s) :
  Gv (fun N=>dY N (n:Int) (m:Int) (bj D.v).fN.fG (bj D.v).fN.fL (bj D.v).fD.fG (bj D.v).fD.fL (h:Int) (LN D.eT m) (LN D.fr k) (LA D.a m k) (LQ D.b m) (LQ D.g k)) (LQ (fun i=>-(D.gc k (2 * n+i))) m) :=
 Gv.if (by omega) (OQ hm hn hk hs hw hg m 0 (List.replicate m aa.d) (by omega) dn fun i hi=>absurd hi (dN _)).diag
def mc (D:bq) (m u:Nat):Rat:=match D.OH m u with
 | some i=>D.b i
 | none=>0
theorem zS (D:bq) (m k u:Nat):mc D m u=D.ext m k bq.qQ u:=by
 unfold mc bq.ext
 cases D.OH m u with
 | none=>rfl
 | some i=>simp only [bq.sV]
theorem Wr (hm:m≤1000) (hw:∀ i i',i < m→i' < m→D.eT i=D.eT i'→i=i') (u:Nat) :
  Gv (fun N=>ni N (u:Int) (n:Int) (m:Int) (bj D.v).fN.fG (bj D.v).fN.fL (bj D.v).fD.fG (bj D.v).fD.fL (h:Int) (LN D.eT m) (LN D.fr k) (LA D.a m k) (LQ D.b m) (LQ D.g k)) (bj (mc D m u)):=by
 obtain ⟨r,q1,q2⟩:=A5 (f:=D.eT) (k:=m) (v:=u) hm
 refine Gv.bind q1 ?_
 rcases q2 with ⟨rfl,q2⟩ | ⟨i,rfl,hi,q2⟩
 ·refine Gv.bg (by decide) (sX.bind ((Gv.pure _).eq ?_))
  unfold mc;rw [bq.mi q2]
 ·refine Gv.aG (by simp) (Gv.if (inl hi (bG _ _)) ((Gv.pure _).eq ?_))
  simp only [an,gN _ _ hi]
  unfold mc;rw [← q2,bq.qj hw hi]
theorem LL (hm:m≤1000) (hn:n≤400) (hs:2 * s+1≤MS) (hw:∀ i i',i < m→i' < m→D.eT i=D.eT i'→i=i') (hp:∀ u,RB (mc D m u) s):∀ (d x:Nat) (L:List aa),x+d=n→L.length=n→(∀ i,i < x→L.getD i aa.d=bj (mc D m i - mc D m (n+i))) →
  aK (fun N g=>ec N (n:Int) (m:Int) (bj D.v).fN.fG (bj D.v).fN.fL (bj D.v).fD.fG (bj D.v).fD.fL (h:Int) (LN D.eT m) (LN D.fr k) (LA D.a m k) (LQ D.b m) (LQ D.g k) g L (x:Int)) (LQ (fun i=>mc D m i - mc D m (n+i)) n)
 | 0,x,L,hx,hL,h0=>aK.succ (fun N g=>ec.eq_2 ..) (aK.bg (Ls (m:=x) (n:=n) (by omega) (by rw [dn];rfl)) (aK.one ((Gv.pure _).eq (Dv aa.d hL fun i hi=>h0 i (by omega)))))
 | d+1,x,L,hx,hL,h0=>by
  have TG:x < n:=by omega
  have ew:aq ((n:Int)+(x:Int))=((n+x:Nat):Int):=by rw [bE (by omega) (by omega)];omega
  have r1:=(hp x).q (show s≤MS by omega)
  have r2:=(hp (n+x)).q (show s≤MS by omega)
  refine aK.succ (fun N g=>ec.eq_2 ..) (aK.aG (Ka (n:=n) TG (by rw [dn];rfl)) (aK.bind (Wr hm hw x) ?_))
  rw [ew]
  refine aK.bind (Wr hm hw (n+x)) (aK.bind (r1.sub r2 (EF (by decide))) (aK.if (inl TG hL) ?_))
  rw [bh (show x < 9223372036854775807 by omega),an]
  refine LL hm hn hs hw hp d (x+1) _ (by omega) (by rw [List.length_set];exact hL) fun i hi=>?_
  by_cases e:x=i
  ·subst e;exact lL _ _ _ _ (by omega)
  ·rw [je _ _ _ e];exact h0 i (by omega)
theorem LO (hm:m≤1000) (hn:n≤400) (hs:2 * s+1≤MS) (hw:∀ i i',i < m→i' < m→D.eT i=D.eT i'→i=i') (hp:∀ u,RB (mc D m u) s) :
  Gv (fun N=>jd N (n:Int) (m:Int) (bj D.v).fN.fG (bj D.v).fN.fL (bj D.v).fD.fG (bj D.v).fD.fL (h:Int) (LN D.eT m) (LN D.fr k) (LA D.a m k) (LQ D.b m) (LQ D.g k)) (LQ (fun i=>mc D m i - mc D m (n+i)) n) :=
 Gv.if (by omega) (LL hm hn hs hw hp n 0 (List.replicate n aa.d) (by omega) dn fun i hi=>absurd hi (dN _)).diag
end
end Go.Den
namespace Go.Den
open Go.Ab
section
variable {n:Nat} {l:List aH}
structure VF (n:Nat) (l:List aH) (y:Nat→Rat):Prop where
 nn:∀ i,i < l.length→0≤y i
 col:∀ j,j < n→bR l.length (fun i=>y i * cf l i j)=0
 neg:bR l.length (fun i=>y i * bv l i) < 0
 rb:∀ i,i < l.length→RB (y i) 400000
structure X8 (n:Nat) (l:List aH) (x:Nat→Rat):Prop where
 ok:∀ i,i < l.length→bq.ji n (cf l) x i≤bv l i
 rb:∀ j,j < n→RB (x j) 400000
theorem Nn {m:Nat} (hm:m≤7):5 ^ m * 2≤156250:=by
 have:5 ^ m≤5 ^ 7:=Nat.pow_le_pow_right (by decide) hm
 have e:(5:Nat) ^ 7=78125:=by decide
 omega
theorem Ca {D:bq} (hl:lx l) (h7:l.length≤7) (h:ET n l.length (cf l) (bv l) D):VF n l (fun i=>-(D.gc (2 * n+1) (2 * n+i)))∧∀ j,j < 2 * n+1→RB (D.g j) 156250:=by
 obtain ⟨q1,q2,q3⟩:=bq.aac h.wf h.eqv h.g
 have hr:=bq.size h.wf (bq.Du n l.length (cf l) (bv l) (-1)) h.eqv (OL (-1) (bq.X1.neg.le (by decide)) (G0 hl)) (by decide:1≤2)
 have hp:=Nn h7
 refine ⟨⟨fun i _=>by have:=q1 (2 * n+i);grind,q2,by rw [q3];exact h.v,fun i _=>?_⟩,fun j hj=>(hr.g j hj).le hp⟩
 by_cases e:∃ j,j < 2 * n+1∧D.fr j=2 * n+i
 ·obtain ⟨j,hj,e⟩:=e
  rw [← e,bq.Lz h.wf hj];exact (hr.g j hj).neg.le (by omega)
 ·rw [bq.B6 fun j hj q=>e ⟨j,hj,q⟩];exact RB.zero.neg.le (by decide)
theorem Aq {D:bq} {c:Nat} (hl:lx l) (h7:l.length≤7) (h:xh n l.length (cf l) (bv l) D c):X8 n l (fun j=>mc D l.length j - mc D l.length (n+j))∧∀ u,RB (mc D l.length u) 156250:=by
 obtain ⟨z,he⟩:=h.eqv
 -- the goal does not matter
 have hr:∀ i,i < l.length→RB (D.b i) 156250:=fun i hi=>by
  have e0:bq.z7 l.length (2 * n+1) (bq.fst n l.length (cf l) (bv l) 0) { D with g:=fun j=>if D.fr j=2 * n+l.length then 0 else 0,v:=0 }:=⟨fun x=>by
   rw [← bq.GQ n l.length (cf l) (bv l) z D x he];exact Iff.rfl,fun x _=>by
   rw [bq.Ni];unfold bq.gv
   rw [aE (g:=fun _=>0) fun j _=>by simp,ik];grind⟩
  have hw:bq.WF { D with g:=fun j=>if D.fr j=2 * n+l.length then 0 else 0,v:=0 } l.length (2 * n+1):=⟨h.wf.bi,h.wf.fi,h.wf.bf,h.wf.bl,h.wf.fl,h.wf.al⟩
  exact ((bq.size hw (bq.Du n l.length (cf l) (bv l) 0) e0 (G0 hl) (by decide:1≤2)).b i hi).le (Nn h7)
 have hp:∀ u,RB (mc D l.length u) 156250:=fun u=>by
  by_cases e:∃ i,i < l.length∧D.eT i=u
  ·obtain ⟨i,hi,e⟩:=e
   unfold mc;rw [← e,bq.qj h.wf.bi hi];exact hr i hi
  ·unfold mc;rw [bq.mi fun i hi q=>e ⟨i,hi,q⟩];exact RB.zero.le (by decide)
 refine ⟨⟨fun i hi=>?_,fun j _=>((hp j).sub (hp (n+j))).le (by omega)⟩,hp⟩
 have hs:=(bq.GQ n l.length (cf l) (bv l) z D _ he).1 (bq.o6 h.wf bq.qQ)
 have hs:=(bq.B7 n l.length (cf l) (bv l) 0 _).1 hs i hi
 have h0:D.ext l.length (2 * n+1) bq.qQ (2 * n+l.length)=0:=by rw [← h.fr,bq.vb h.wf h.lt];rfl
 have Mi:=bq.zR h.wf h.fea (2 * n+i) (by omega)
 rw [h0] at hs
 have e:(fun j=>mc D l.length j - mc D l.length (n+j))=fun j=>D.ext l.length (2 * n+1) bq.qQ j - D.ext l.length (2 * n+1) bq.qQ (n+j):=by
  funext j;rw [zS D _ (2 * n+1),zS D _ (2 * n+1)]
 rw [e]
 grind
theorem JX (D:bq) (c m u:Nat):mc (D.del c) m u=mc D m u:=by
 have e:∀ m,bq.OH (D.del c) m u=bq.OH D m u:=fun m=>by
  induction m with
  | zero=>rfl
  | succ m ih=>rw [bq.OH,bq.OH,ih];rfl
 unfold mc;rw [e];rfl
theorem LP (hn:n≤4) (hl:lx l) (h7:l.length≤7) (hc:fO n l=0) :
  (∃ y,VF n l y∧Gv (fun N=>kW N (n:Int) l) ([],LQ y l.length,29))∨∃ x,X8 n l x∧Gv (fun N=>kW N (n:Int) l) (LQ x n,[],0):=by
 obtain ⟨_,ok⟩:=Nl hc
 rw [an] at ok
 have hb:=LK (n:=n) (by omega) hl (by omega) ok.co
 obtain ⟨r,q1,q2⟩:=Iz (n:=n) (m:=l.length) (C:=cf l) (B:=bv l) (s:=2) (by omega) (by omega) (G0 hl) (by decide) (by have:=Nn h7;show 5 * (5 ^ l.length * 2)≤100000000;omega)
 have tW:(fO (n:Int) l != 0)=false:=by rw [hc];rfl
 rcases q2 with ⟨D,q2,rfl⟩ | ⟨D,c,q2,rfl⟩
 ·obtain ⟨g1,g2⟩:=Ca hl h7 q2
  refine .inl ⟨_,g1,(sY _ _).bind (Gv.bg tW (hb.bind (q1.bind ?_)))⟩
  simp only [RS,TB,eD,gW,bG]
  refine Gv.if trivial (Gv.if trivial (Gv.if trivial (Gv.aG rfl ((JW (by omega) (by omega) (by omega) (by decide:156250≤MS) q2.wf g2).bind (Gv.pure _)))))
 ·obtain ⟨g1,g2⟩:=Aq hl h7 q2
  refine .inr ⟨_,g1,(sY _ _).bind (Gv.bg tW (hb.bind (q1.bind ?_)))⟩
  simp only [RS,TB,eD,gW,bG]
  have:=LO (n:=n) (k:=2 * n) (h:=2 * n+l.length) (D:=D.del c) (m:=l.length) (by omega) (by omega) (s:=156250) (by decide) q2.wf.bi (fun u=>by rw [JX];exact g2 u)
  have e:LQ (fun j=>mc (D.del c) l.length j - mc (D.del c) l.length (n+j)) n=LQ (fun j=>mc D l.length j - mc D l.length (n+j)) n:=lM fun j _=>by rw [JX,JX]
  rw [e] at this
  exact Gv.if trivial (Gv.if trivial (Gv.if trivial (Gv.bg rfl (this.bind (Gv.pure _)))))
theorem II {f:Nat→Rat} {m:Nat} (hm:m≤60) (hf:∀ i,i < m→RB (f i) 400000):LB (LQ f m) 400000:=⟨by rw [bG];exact hm,fun i=>by
 by_cases h:i < m
 ·rw [gN _ _ h];exact (hf i h).ir
 ·rw [yS (by rw [bG];omega)];exact ird⟩
theorem Ws {f:Nat→Rat} {m i:Nat} (h:i < m):yv (LQ f m) i=f i:=by unfold yv;rw [gN _ _ h,iV]
theorem No {y:List aa} (j:Nat):∀ m,cS l y j m=bR m fun i=>yv y i * cf l i j
 | 0=>rfl
 | m+1=>by rw [cS,bR,No j m]
theorem Np {y:List aa}:∀ m,bS l y m=bR m fun i=>yv y i * bv l i
 | 0=>rfl
 | m+1=>by rw [bS,bR,Np m]
theorem A6 {y:List aa}:∀ {k i:Nat},(∀ a,i≤a→a < i+k→0≤yv y a)→sq y k i=false
 | 0,_,_=>rfl
 | k+1,i,h=>by
  rw [sq,if_neg (Rat.not_lt.2 (h i (aR _) (by omega)))]
  exact A6 fun a h1 h2=>h a (by omega) (by omega)
theorem y4 {f:Nat→Rat}:∀ {k i:Nat},(∀ a,i≤a→a < i+k→f a=0)→yX f k i=false
 | 0,_,_=>rfl
 | k+1,i,h=>by
  rw [yX,if_pos (h i (aR _) (by omega))]
  exact y4 fun a h1 h2=>h a (by omega) (by omega)
theorem Cb {x:List aa}:∀ {k i:Nat},(∀ a,i≤a→a < i+k→¬ Dx l x a)→vd l x k i=false
 | 0,_,_=>rfl
 | k+1,i,h=>by
  rw [vd,if_neg (h i (aR _) (by omega))]
  exact Cb fun a h1 h2=>h a (by omega) (by omega)
theorem LR {y:Nat→Rat} (h:VF n l y):contra l (LQ y l.length) n=true:=by
 have hy:∀ i,i < l.length→yv (LQ y l.length) i=y i:=fun i hi=>Ws hi
 unfold contra
 rw [A6 fun a _ h2=>by rw [bG] at h2;rw [hy a (by omega)];exact h.nn a (by omega),Np,aE (g:=fun i=>y i * bv l i) fun i hi=>by rw [hy i hi],decide_eq_true h.neg,
  y4 fun a _ h2=>by rw [No,aE (g:=fun i=>y i * cf l i a) fun i hi=>by rw [hy i hi]];exact h.col a (by omega)]
 rfl
theorem G1 (hl:lx l) {y:List aa} (hy:LB y 400000) (hn:n≤12) (SR:y.length=l.length):Gv (fun N=>mP N (n:Int) l y) (contra l y n) :=
 (B9 hl hy hn SR).bind (yY hl hy hn n 0 (by omega)).diag
theorem SX {c x:List aa}:∀ (k i:Nat) (a:Rat),dF c x k i a=a+bR k fun j=>qv (c.getD (i+j) aa.d) * qv (x.getD (i+j) aa.d)
 | 0,i,a=>by show a=a+0;grind
 | k+1,i,a=>by
  rw [dF,SX k (i+1),show k+1=1+k by omega,nF]
  have e:bR 1 (fun j=>qv (c.getD (i+j) aa.d) * qv (x.getD (i+j) aa.d))=qv (c.getD i aa.d) * qv (x.getD i aa.d):=by show 0+qv (c.getD (i+0) aa.d) * qv (x.getD (i+0) aa.d)=_;rw [Nat.add_zero];grind
  have e2:bR k (fun j=>qv (c.getD (i+(1+j)) aa.d) * qv (x.getD (i+(1+j)) aa.d))=bR k fun j=>qv (c.getD (i+1+j) aa.d) * qv (x.getD (i+1+j) aa.d):=aE fun j _=>by rw [show i+(1+j)=i+1+j by omega]
  rw [e,e2]
  grind
theorem G2 {c x:List aa} {n:Nat} (h:c.length≤n):HM c x=bR n fun j=>qv (c.getD j aa.d) * qv (x.getD j aa.d):=by
 unfold HM
 rw [SX,show n=c.length+(n - c.length) by omega,nF]
 rw [aE (n:=n - c.length) (g:=fun _=>0) fun j _=>by rw [yS (show c.length≤c.length+j by omega),aaf];grind,ik,aE (n:=c.length) (g:=fun j=>qv (c.getD j aa.d) * qv (x.getD j aa.d)) fun j _=>by rw [Nat.zero_add]]
 grind
theorem IJ (ok:Dw n l) {x:Nat→Rat} (h:X8 n l x):vd l (LQ x n) l.length 0=false:=Cb fun i _ hi=>by
 unfold Dx
 rw [G2 (ok.co i (by omega)),aE (g:=fun j=>cf l i j * x j) fun j hj=>by rw [gN _ _ hj,iV];rfl]
 have:=h.ok i (by omega)
 unfold bq.ji at this
 show ¬ 0 < _ - bv l i
 grind
end
end Go.Den
namespace Go.Den
open Go.Ab
theorem Cc {γ δ:Type} {rem:List γ} {z:Option δ} {f:γ→List γ→Option δ} {o:Option δ} (eE:rem≠[]) (h:∀ l1 x l2,rem=l1 ++ x :: l2→f x (l1 ++ l2)=o):qD rem z f=o:=by
 cases o with
 | some r=>exact PB eE h
 | none =>
  unfold qD
  rw [if_neg eE]
  split
  ·rename_i hx
   obtain ⟨r,hr⟩:=hx
   cases rem with
   | nil=>exact absurd rfl eE
   | cons a l =>
    have e1:=hr [] a l rfl
    rw [h [] a l rfl] at e1;cases e1
  ·rfl
def bq.fP (D:bq) (m u c:Nat):Rat:=match D.OH m u with
 | some i=>D.a i c
 | none=>if D.fr c=u then 1 else 0
noncomputable def VG (N:Nat) (ab:List aa) (X9 SY SZ:Int) (VH KC:List Int) (Ya:List (List aa)) (PZ:List aa) (x:Int) (K1:(List aa)→Bool→(List Int)→Bool→(List Int)→Int→Option (jj×(List aa))) (fuel:Nat)
  (Dy:List aa) (S3:Bool) (S4:List Int) (S5:Bool) (S6:List Int) (Ch:Int×aa) (left:List (Int×aa)):Option (jj×(List aa)) :=
  ((bX N KC Ch.1).bind fun aP =>
  (cond (decide (aP≥0))
  ((if 0≤aP∧aP < ((Dy.length:Nat):Int) then
  ((er N (⟨((Dy.getD ((aP).toNat) aa.d).fN),((Dy.getD ((aP).toNat) aa.d).fD)⟩:aa) Ch.2).bind fun bz =>
  b5 N ab X9 SY SZ VH KC Ya PZ x K1 fuel (Dy.set ((aP).toNat) bz) S3 S4 S5 S6 left)
  else none))
  (((bX N VH Ch.1).bind fun bB =>
  (if 0≤bB∧bB < ((PZ.length:Nat):Int) then
  ((e8 N Ch.2 (⟨((PZ.getD ((bB).toNat) aa.d).fN),((PZ.getD ((bB).toNat) aa.d).fD)⟩:aa)).bind fun cy =>
  ((er N (⟨(⟨S3,S4⟩:bM),(⟨S5,S6⟩:bM)⟩:aa) cy).bind fun dg =>
  ey N ab X9 SY SZ VH KC Ya PZ x Dy Ch left bB dg (b5 N ab X9 SY SZ VH KC Ya PZ x K1 fuel) K1 N Dy 0))
  else none)))))
theorem Ev.aai {p:Nat→Nat→Prop} (h:Ev p):Ev fun N _=>p N N:=h.diag
section
variable {n m k h s t:Nat} {D:bq} {ob:List aa}
theorem S7 (hk:k≤1000) (hm:m≤1000) {i:Nat} (hi:i < m) {f:Rat} (hf:RB f 12) (ha:∀ c,c < k→RB (D.a i c) s) {F:Nat→Rat} (hF:∀ c,c < k→RB (F c) t) (hs:t+s+13≤MS) {c0:List aa} (h0:c0.length=k) {u:Int} {x:Int} :
  ∀ (d x2:Nat) (G:Nat→Rat),x2+d=k→(∀ c,c < k→G c=if c < x2 then F c+f * D.a i c else F c) →
  Ev fun N g=>∀ left rA K2 K1,ey N ob (n:Int) (m:Int) (h:Int) (LN D.eT m) (LN D.fr k) (LA D.a m k) (LQ D.b m) x c0 (u,bj f) left (i:Int) rA K2 K1 g (LQ G k) (x2:Int)=K2 (LQ (fun c=>F c+f * D.a i c) k) rA.fN.fG rA.fN.fL rA.fD.fG rA.fD.fL left
 | 0,x2,G,hx,hG=>Ev.succ (Ev.true fun N g left rA K2 K1=>by
  rw [ey,Ls (m:=x2) (n:=k) (by omega) h0,cond_false,lM (f:=G) (g:=fun c=>F c+f * D.a i c) fun c hc=>by rw [hG c hc,if_pos (by omega)]])
 | d+1,x2,G,hx,hG=>by
  have ql:x2 < k:=by omega
  have hmul:=(hf.q (show 12≤MS by decide)).mul ((ha x2 ql).q (by omega)) (EF (by decide))
  have My:=((hF x2 ql).q (by omega)).add ((hf.mul (ha x2 ql)).q (by omega)) (EF (by decide))
  have eG:G x2=F x2:=by rw [hG x2 ql,if_neg (sH x2)]
  refine Ev.succ ((hmul.ev.and (My.ev.and (S7 (u:=u) (x:=x) hk hm hi hf ha hF hs h0 d (x2+1) (fun a=>if a=x2 then F x2+f * D.a i x2 else G a) (by omega) fun c hc=>?_))).mono fun N g ⟨q1,q2,q3⟩ left rA K2 K1=>?_)
  ·by_cases q:c=x2
   ·rw [if_pos q,if_pos (by omega),q]
   ·rw [if_neg q,hG c hc]
    by_cases q2:c < x2
    ·simp only [q2,show c < x2+1 by omega,if_true]
    ·rw [if_neg q2,if_neg (by omega)]
  ·rw [ey,Ka (m:=x2) (n:=k) ql h0,cond_true,an,an,tV _ _ hi,if_pos (by rw [gW];exact hi),if_pos (inl ql (bG _ _)),if_pos (inl hi (gW _ _ _)),if_pos (inl ql (bG _ _)),gN _ _ ql,gN _ _ ql,eG]
   have Rp:e8 N (u,bj f).2 ⟨(bj (D.a i x2)).fN,(bj (D.a i x2)).fD⟩=some (bj (f * D.a i x2)):=q1
   have Tv:er N ⟨(bj (F x2)).fN,(bj (F x2)).fD⟩ (bj (f * D.a i x2))=some (bj (F x2+f * D.a i x2)):=q2
   rw [Rp,bV,Tv,bV,xg,bh (by omega)]
   exact q3 left rA K2 K1
variable (hk:k≤1000) (hm:m≤1000) (hw:D.WF m k) (ha:∀ i c,i < m→c < k→RB (D.a i c) s) (hb:∀ i,i < m→RB (D.b i) s)
include hk hm hw ha hb
theorem G3 {u:Nat} (hu:u < m+k) {f:Rat} (hf:RB f 12) {F:Nat→Rat} (hF:∀ c,c < k→RB (F c) t) {v:Rat} (hv:RB v t) (hs:t+s+13≤MS) {x:Int} :
  Ev fun N g=>∀ K1 left,VG N ob (n:Int) (m:Int) (h:Int) (LN D.eT m) (LN D.fr k) (LA D.a m k) (LQ D.b m) x K1 g (LQ F k) (bj v).fN.fG (bj v).fN.fL (bj v).fD.fG (bj v).fD.fL ((u:Int),bj f) left =
   b5 N ob (n:Int) (m:Int) (h:Int) (LN D.eT m) (LN D.fr k) (LA D.a m k) (LQ D.b m) x K1 g (LQ (fun c=>F c+f * D.fP m u c) k) (bj (v+f * mc D m u)).fN.fG (bj (v+f * mc D m u)).fN.fL (bj (v+f * mc D m u)).fD.fG (bj (v+f * mc D m u)).fD.fL left:=by
 obtain ⟨r,q1,q2⟩:=A5 (f:=D.fr) (k:=k) (v:=u) hk
 rcases q2 with ⟨rfl,q2⟩ | ⟨j,rfl,hj,rfl⟩
 ·obtain ⟨i,hi,rfl⟩:=(hw.al u hu).resolve_right fun ⟨j,hj,e⟩=>q2 j hj e
  have S8:=bq.qj hw.bi hi
  have ep:mc D m (D.eT i)=D.b i:=by unfold mc;rw [S8]
  have ed:∀ c,D.fP m (D.eT i) c=D.a i c:=fun c=>by unfold bq.fP;rw [S8]
  obtain ⟨r,q3,q4⟩:=A5 (f:=D.eT) (k:=m) (v:=D.eT i) hm
  rcases q4 with ⟨rfl,q4⟩ | ⟨i',rfl,o8,e⟩
  ·exact absurd rfl (q4 i hi)
  ·have:i'=i:=hw.bi _ _ o8 hi e
   subst this
   have hmul:=(hf.q (show 12≤MS by decide)).mul ((hb i' hi).q (by omega)) (EF (by decide))
   have My:=(hv.q (by omega)).add ((hf.mul (hb i' hi)).q (by omega)) (EF (by decide))
   refine (q1.ev.and (q3.ev.and (hmul.ev.and (My.ev.and (S7 hk hm hi hf (fun c hc=>ha i' c hi hc) hF hs (bG F k) (n:=n) (h:=h) (ob:=ob) (u:=((D.eT i':Nat):Int)) (x:=x) k 0 F (by omega) fun c _=>(if_neg (dN c)).symm).aai)))).mono fun N g ⟨p1,p3,p4,p5,p6⟩ K1 left=>?_
   unfold VG
   rw [p1,bV,show decide ((-1:Int)≥0)=false by decide,cond_false,p3,bV,if_pos (inl hi (bG _ _)),an,gN _ _ hi]
   have p4':e8 N (((D.eT i':Nat):Int),bj f).2 ⟨(bj (D.b i')).fN,(bj (D.b i')).fD⟩=some (bj (f * D.b i')):=p4
   have p5':er N ⟨⟨(bj v).fN.fG,(bj v).fN.fL⟩,⟨(bj v).fD.fG,(bj v).fD.fL⟩⟩ (bj (f * D.b i'))=some (bj (v+f * D.b i')):=p5
   rw [p4',bV,p5',bV]
   refine (p6 _ _ _ _).trans ?_
   rw [ep,lM (f:=fun c=>F c+f * D.fP m (D.eT i') c) (g:=fun c=>F c+f * D.a i' c) fun c _=>by rw [ed]]
 ·have S8:D.OH m (D.fr j)=none:=bq.mi fun i hi=>hw.bf i j hi hj
  have ep:v+f * mc D m (D.fr j)=v:=by unfold mc;rw [S8];show v+f * 0=v;grind
  have ed:∀ c,c < k→D.fP m (D.fr j) c=if c=j then 1 else 0:=fun c hc=>by
   unfold bq.fP;rw [S8]
   by_cases e:c=j
   ·simp only [e,if_true]
   ·simp only [e,if_false];exact if_neg fun q=>e (hw.fi _ _ hc hj q)
  have My:=((hF j hj).q (by omega)).add (hf.q (show 12≤MS by decide)) (EF (by decide))
  refine (q1.ev.and My.ev).mono fun N g ⟨p1,p2⟩ K1 left=>?_
  unfold VG
  rw [p1,bV,decide_eq_true (show ((j:Nat):Int)≥0 by omega),cond_true,if_pos (inl hj (bG _ _)),an,gN _ _ hj]
  have p2':er N ⟨(bj (F j)).fN,(bj (F j)).fD⟩ (((D.fr j:Nat):Int),bj f).2=some (bj (F j+f)):=p2
  rw [p2',bV,xg,ep,lM (f:=fun c=>F c+f * D.fP m (D.fr j) c) (g:=fun a=>if a=j then F j+f else F a) fun c hc=>by
   rw [ed c hc]
   by_cases e:c=j
   ·rw [if_pos e,if_pos e,e];grind
   ·rw [if_neg e,if_neg e];grind]
end
end Go.Den
namespace Go.Den
open Go.Ab
section
variable {n m k h s t:Nat} {D:bq} {ob:List aa}
theorem Dz (N:Nat) (c0 c02 c07:Int) (c1 c2:List Int) (c3:List (List aa)) (c4:List aa) (x:Int) (K1:(List aa)→Bool→(List Int)→Bool→(List Int)→Int→Option (jj×(List aa))) (g:Nat) (F:List aa) (v1:Bool) (v2:List Int) (v3:Bool) (v4:List Int) (rem:List (Int×aa)) :
  b5 N ob c0 c02 c07 c1 c2 c3 c4 x K1 (g+1) F v1 v2 v3 v4 rem=qD rem (K1 F v1 v2 v3 v4 (aq (x+1))) (VG N ob c0 c02 c07 c1 c2 c3 c4 x K1 g F v1 v2 v3 v4):=by
 rw [b5];rfl
variable (hk:k≤1000) (hm:m≤1000) (hw:D.WF m k) (ha:∀ i c,i < m→c < k→RB (D.a i c) s) (hb:∀ i,i < m→RB (D.b i) s)
include hk hm hw ha hb
theorem OS {u:Nat} (hu:u < m+k) {f:Rat} (hf:RB f 12) {F:Nat→Rat} (hF:∀ c,c < k→RB (F c) t) {v:Rat} (hv:RB v t) (hs:t+s+13≤MS) {x:Int} :
  Ev fun N g=>∀ K1,b5 N ob (n:Int) (m:Int) (h:Int) (LN D.eT m) (LN D.fr k) (LA D.a m k) (LQ D.b m) x K1 g (LQ F k) (bj v).fN.fG (bj v).fN.fL (bj v).fD.fG (bj v).fD.fL [((u:Int),bj f)] =
   K1 (LQ (fun c=>F c+f * D.fP m u c) k) (bj (v+f * mc D m u)).fN.fG (bj (v+f * mc D m u)).fN.fL (bj (v+f * mc D m u)).fD.fG (bj (v+f * mc D m u)).fD.fL (aq (x+1)):=by
 refine Ev.succ ((G3 hk hm hw ha hb hu hf hF hv hs (n:=n) (h:=h) (ob:=ob) (x:=x)).and (Ev.of (p:=fun N g=>∀ K1 F v1 v2 v3 v4,b5 N ob (n:Int) (m:Int) (h:Int) (LN D.eT m) (LN D.fr k) (LA D.a m k) (LQ D.b m) x K1 g F v1 v2 v3 v4 []=K1 F v1 v2 v3 v4 (aq (x+1))) 1 fun N g _ hg K1 F v1 v2 v3 v4=>?_) |>.mono fun N g ⟨q1,q2⟩ K1=>?_)
 ·obtain ⟨g,rfl⟩:∃ g',g=g'+1:=⟨g - 1,by omega⟩
  rw [Dz,KU]
 ·rw [Dz]
  refine Cc (by simp) fun l1 e l2 he=>?_
  cases l1 with
  | nil =>
   rw [List.nil_append] at he
   obtain ⟨rfl,rfl⟩:=List.cons.inj he
   exact (q1 K1 []).trans (q2 _ _ _ _ _ _)
  | cons a l1 =>
   have:=congrArg List.length he
   simp at this
theorem OT {u1 u2:Nat} (J1:u1 < m+k) (G5:u2 < m+k) {f1 f2:Rat} (Yo:RB f1 12) (Yp:RB f2 12) {F:Nat→Rat} (hF:∀ c,c < k→RB (F c) t) {v:Rat} (hv:RB v t) (hd:∀ u,u < m+k→(∀ c,c < k→RB (D.fP m u c) s)∧RB (mc D m u) s) (hs:t+2 * (s+13)≤MS) {x:Int} :
  Ev fun N g=>∀ K1,b5 N ob (n:Int) (m:Int) (h:Int) (LN D.eT m) (LN D.fr k) (LA D.a m k) (LQ D.b m) x K1 g (LQ F k) (bj v).fN.fG (bj v).fN.fL (bj v).fD.fG (bj v).fD.fL [((u1:Int),bj f1),((u2:Int),bj f2)] =
   K1 (LQ (fun c=>F c+f1 * D.fP m u1 c+f2 * D.fP m u2 c) k) (bj (v+f1 * mc D m u1+f2 * mc D m u2)).fN.fG (bj (v+f1 * mc D m u1+f2 * mc D m u2)).fN.fL (bj (v+f1 * mc D m u1+f2 * mc D m u2)).fD.fG (bj (v+f1 * mc D m u1+f2 * mc D m u2)).fD.fL (aq (x+1)):=by
 have r1:∀ c,c < k→RB (F c+f1 * D.fP m u1 c) (t+s+13):=fun c hc=>((hF c hc).add (Yo.mul ((hd u1 J1).1 c hc))).le (by omega)
 have r2:∀ c,c < k→RB (F c+f2 * D.fP m u2 c) (t+s+13):=fun c hc=>((hF c hc).add (Yp.mul ((hd u2 G5).1 c hc))).le (by omega)
 have w1:RB (v+f1 * mc D m u1) (t+s+13):=(hv.add (Yo.mul (hd u1 J1).2)).le (by omega)
 have w2:RB (v+f2 * mc D m u2) (t+s+13):=(hv.add (Yp.mul (hd u2 G5).2)).le (by omega)
 refine Ev.succ (((G3 hk hm hw ha hb J1 Yo hF hv (by omega) (n:=n) (h:=h) (ob:=ob) (x:=x)).and ((G3 hk hm hw ha hb G5 Yp hF hv (by omega) (n:=n) (h:=h) (ob:=ob) (x:=x)).and
  ((OS hk hm hw ha hb G5 Yp r1 w1 (by omega) (n:=n) (h:=h) (ob:=ob) (x:=x)).and (OS hk hm hw ha hb J1 Yo r2 w2 (by omega) (n:=n) (h:=h) (ob:=ob) (x:=x))))).mono fun N g ⟨q1,q2,q3,q4⟩ K1=>?_)
 rw [Dz]
 refine Cc (by simp) fun l1 e l2 he=>?_
 cases l1 with
 | nil =>
  rw [List.nil_append] at he
  obtain ⟨rfl,rfl⟩:=List.cons.inj he
  exact (q1 K1 _).trans (q3 K1)
 | cons a l1 =>
  rw [List.cons_append] at he
  obtain ⟨DJ,he⟩:=List.cons.inj he
  cases l1 with
  | nil =>
   rw [List.nil_append] at he
   obtain ⟨rfl,rfl⟩:=List.cons.inj he
   rw [List.append_nil,← DJ]
   refine ((q2 K1 _).trans (q4 K1)).trans ?_
   rw [lM (f:=fun c=>F c+f2 * D.fP m u2 c+f1 * D.fP m u1 c) (g:=fun c=>F c+f1 * D.fP m u1 c+f2 * D.fP m u2 c) fun c _=>by grind,
    show v+f2 * mc D m u2+f1 * mc D m u1=v+f1 * mc D m u1+f2 * mc D m u2 by grind]
  | cons b l1 =>
   have:=congrArg List.length he
   simp at this
def gx (D:bq) (m n:Nat) (co:Nat→Rat):Nat→Nat→Rat
 | 0,c=>D.g c
 | x+1,c=>gx D m n co x c+co x * D.fP m x c+-(co x) * D.fP m (n+x) c
def vx (D:bq) (m n:Nat) (co:Nat→Rat):Nat→Rat
 | 0=>D.v
 | x+1=>vx D m n co x+co x * mc D m x+-(co x) * mc D m (n+x)
omit hk hm hw ha hb in
theorem Wt {co:Nat→Rat} (Ap:∀ j,RB (co j) 12) (hd:∀ u,u < m+k→(∀ c,c < k→RB (D.fP m u c) s)∧RB (mc D m u) s) (h0:∀ c,c < k→RB (D.g c) t) {c:Nat} (hc:c < k):∀ x,n+x≤m+k→x≤n→RB (gx D m n co x c) (t+x * (2 * (s+13)))
 | 0,_,_=>(h0 c hc).le (by omega)
 | x+1,h1,h2=>by
  rw [gx]
  refine (((Wt Ap hd h0 hc x (by omega) (by omega)).add ((Ap x).mul ((hd x (by omega)).1 c hc))).add ((Ap x).neg.mul ((hd (n+x) (by omega)).1 c hc))).le ?_
  rw [cb];omega
omit hk hm hw ha hb in
theorem Wu {co:Nat→Rat} (Ap:∀ j,RB (co j) 12) (hd:∀ u,u < m+k→(∀ c,c < k→RB (D.fP m u c) s)∧RB (mc D m u) s) (h0:RB D.v t):∀ x,n+x≤m+k→x≤n→RB (vx D m n co x) (t+x * (2 * (s+13)))
 | 0,_,_=>h0.le (by omega)
 | x+1,h1,h2=>by
  rw [vx]
  refine (((Wu Ap hd h0 x (by omega) (by omega)).add ((Ap x).mul (hd x (by omega)).2)).add ((Ap x).neg.mul (hd (n+x) (by omega)).2)).le ?_
  rw [cb];omega
theorem S9 (hn:n≤400) (Tp:2 * n≤m+k) (cD:ob.length=n) {co:Nat→Rat} (hq:∀ j,RQ (ob.getD j aa.d) (co j) 12) (Ap:∀ j,RB (co j) 12) (hd:∀ u,u < m+k→(∀ c,c < k→RB (D.fP m u c) s)∧RB (mc D m u) s)
  (hg:∀ c,c < k→RB (D.g c) t) (hv:RB D.v t) (hs:t+n * (2 * (s+13))≤MS):∀ d x,x+d=n →
  aK (fun N g=>eC N ob (n:Int) (m:Int) (h:Int) (LN D.eT m) (LN D.fr k) (LA D.a m k) (LQ D.b m) g (LQ (gx D m n co x) k) (bj (vx D m n co x)).fN.fG (bj (vx D m n co x)).fN.fL (bj (vx D m n co x)).fD.fG (bj (vx D m n co x)).fD.fL (x:Int))
   (⟨n,m,LN D.eT m,LN D.fr k,LA D.a m k,LQ D.b m,LQ (gx D m n co n) k,bj (vx D m n co n),h⟩,LQ (gx D m n co n) k)
 | 0,x,hx=>by
  have hx:x=n:=by omega
  subst hx
  refine aK.succ (fun N g=>eC.eq_2 ..) (aK.bg (Ls (m:=x) (n:=x) (by omega) cD) (aK.one (Gv.pure _)))
 | d+1,x,hx=>by
  have TG:x < n:=by omega
  have hsx:t+x * (2 * (s+13))+2 * (s+13)≤MS:=by
   have:(x+1) * (2 * (s+13))≤n * (2 * (s+13)):=dB _ TG
   rw [cb] at this;omega
  have Cv:=(hq x).low (by decide)
  have rL:Gv (fun N=>en N (ob.getD x aa.d)) (bj (-(co x))):=by have:=nC (hq x).ir (by decide) (EF (by decide));rwa [(hq x).v] at this
  have e1:aq ((n:Int)+(x:Int))=((n+x:Nat):Int):=by rw [bE (by omega) (by omega)];omega
  have eE:((x:Nat):Int)≠((n+x:Nat):Int):=by omega
  have nJ:(((x:Nat):Int) == ((n+x:Nat):Int))=false:=beq_eq_false_iff_ne.2 eE
  have lN:(((n+x:Nat):Int) == ((x:Nat):Int))=false:=beq_eq_false_iff_ne.2 eE.symm
  have p1:o9 (fun (za zb:Int)=>za == zb) (o9 (fun za zb=>za == zb) ([]:List (Int×aa)) (x:Int) (bj (co x))) ((n+x:Nat):Int) (bj (-(co x)))=[((x:Int),bj (co x)),(((n+x:Nat):Int),bj (-(co x)))]:=by
   simp only [o9,nJ,cond_false]
  have p2:o9 (fun (za zb:Int)=>za == zb) (o9 (fun za zb=>za == zb) ([]:List (Int×aa)) ((n+x:Nat):Int) (bj (-(co x)))) (x:Int) (bj (co x))=[(((n+x:Nat):Int),bj (-(co x))),((x:Int),bj (co x))]:=by
   simp only [o9,lN,cond_false]
  have rg:∀ c,c < k→RB (gx D m n co x c) (t+x * (2 * (s+13))):=fun c hc=>Wt Ap hd hg hc x (by omega) (by omega)
  have rv:=Wu Ap hd hv x (n:=n) (by omega) (by omega)
  have t1:=(OT hk hm hw ha hb (u1:=x) (u2:=n+x) (by omega) (by omega) (Ap x) (Ap x).neg rg rv hd hsx (n:=n) (h:=h) (ob:=ob) (x:=(x:Int))).diag
  have t2:=(OT hk hm hw ha hb (u1:=n+x) (u2:=x) (by omega) (by omega) (Ap x).neg (Ap x) rg rv hd hsx (n:=n) (h:=h) (ob:=ob) (x:=(x:Int))).diag
  obtain ⟨N1,t1⟩:=t1
  obtain ⟨N2,t2⟩:=t2
  obtain ⟨N3,ih⟩:=S9 hn Tp cD hq Ap hd hg hv hs d (x+1) (by omega)
  refine aK.succ (fun N g=>eC.eq_2 ..) (aK.aG (Ka (n:=n) TG cD) (aK.if (inl TG cD) ?_))
  simp only [an]
  refine aK.bind Cv (aK.bind rL (aK.bind Cv (aK.bind rL ⟨N1+N2+N3,fun N g hN hgN=>?_⟩)))
  dsimp only
  rw [e1,p1,p2,t1 N g (by omega) (by omega),t2 N g (by omega) (by omega)]
  rw [lM (f:=fun c=>gx D m n co x c+-(co x) * D.fP m (n+x) c+co x * D.fP m x c) (g:=fun c=>gx D m n co x c+co x * D.fP m x c+-(co x) * D.fP m (n+x) c) fun c _=>by grind,
   show vx D m n co x+-(co x) * mc D m (n+x)+co x * mc D m x=vx D m n co x+co x * mc D m x+-(co x) * mc D m (n+x) by grind,Pv,bh (by omega)]
  exact ih N g (by omega) (by omega)
theorem Yb (hn:n≤400) (Tp:2 * n≤m+k) (cD:ob.length=n) {co:Nat→Rat} (hq:∀ j,RQ (ob.getD j aa.d) (co j) 12) (Ap:∀ j,RB (co j) 12) (hd:∀ u,u < m+k→(∀ c,c < k→RB (D.fP m u c) s)∧RB (mc D m u) s)
  (hg:∀ c,c < k→RB (D.g c) t) (hv:RB D.v t) (hs:t+n * (2 * (s+13))≤MS) :
  Gv (fun N=>oU N ob (n:Int) (m:Int) (bj D.v).fN.fG (bj D.v).fN.fL (bj D.v).fD.fG (bj D.v).fD.fL (h:Int) (LN D.eT m) (LN D.fr k) (LA D.a m k) (LQ D.b m) (LQ D.g k))
   (⟨n,m,LN D.eT m,LN D.fr k,LA D.a m k,LQ D.b m,LQ (gx D m n co n) k,bj (vx D m n co n),h⟩,LQ (gx D m n co n) k) :=
 (S9 hk hm hw ha hb hn Tp cD hq Ap hd hg hv hs n 0 (by omega)).diag
end
end Go.Den
namespace Go.Den
open Go.Ab
theorem OU (f:Nat→Rat):∀ (k c:Nat),c≤k→bR (k+1) f=f c+bR k fun j=>f (sk c j)
 | 0,c,h=>by
  have:c=0:=by omega
  subst this
  show 0+f 0=f 0+0
  grind
 | k+1,c,h=>by
  rw [bR]
  by_cases e:c=k+1
  ·subst e
   rw [aE (n:=k+1) (f:=fun j=>f (sk (k+1) j)) (g:=f) fun j hj=>by unfold sk;rw [if_pos hj]]
   grind
  ·rw [OU f k c (by omega),show bR (k+1) (fun j=>f (sk c j))=bR k (fun j=>f (sk c j))+f (sk c k) from rfl]
   have:sk c k=k+1:=by unfold sk;rw [if_neg (by omega)]
   rw [this];grind
namespace bq
structure G4 (D:bq) (m k s t:Nat):Prop where
 a:∀ i j,i < m→j < k→RB (D.a i j) s
 b:∀ i,i < m→RB (D.b i) s
 g:∀ j,j < k→RB (D.g j) t
 v:RB D.v t
theorem G4.il {D:bq} {m k s t i j:Nat} (h:D.G4 m k s t) (h1:1≤s) (hi:i < m) (hj:j < k) (h0:D.a i j≠0):(D.il i j).G4 m k (5 * s) (2 * t+2 * s+1):=by
 have hp:RB (D.pb i j) (2 * s):=((h.b i hi).div (h.a i j hi hj) h0).neg.le (by omega)
 have hw:∀ c,c < k→RB (D.nD i j c) (2 * s):=fun c hc=>by
  unfold bq.nD
  split
  ·exact (X1.div (h.a i j hi hj) h0).le (by omega)
  ·exact ((h.a i c hi hc).div (h.a i j hi hj) h0).neg.le (by omega)
 refine ⟨fun r c hr hc=>?_,fun r hr=>?_,fun c hc=>?_,((h.v).add ((h.g j hj).mul hp)).le (by omega)⟩
 ·have hw:=hw c hc
  simp only [bq.il]
  split
  ·exact hw.le (by omega)
  ·split
   ·exact ((h.a r j hr hj).mul hw).le (by omega)
   ·exact ((h.a r c hr hc).add ((h.a r j hr hj).mul hw)).le (by omega)
 ·simp only [bq.il]
  split
  ·exact hp.le (by omega)
  ·exact ((h.b r hr).add ((h.a r j hr hj).mul hp)).le (by omega)
 ·have hw:=hw c hc
  simp only [bq.il]
  split
  ·exact ((h.g j hj).mul hw).le (by omega)
  ·exact ((h.g c hc).add ((h.g j hj).mul hw)).le (by omega)
theorem G4.le {D:bq} {m k s t s' t':Nat} (h:D.G4 m k s t) (h1:s≤s') (h2:t≤t'):D.G4 m k s' t' :=
 ⟨fun i j hi hj=>(h.a i j hi hj).le h1,fun i hi=>(h.b i hi).le h1,fun j hj=>(h.g j hj).le h2,h.v.le h2⟩
def tb:Nat→Nat→Nat→Nat
 | 0,_,t=>t
 | n+1,s,t=>tb n (5 * s) (2 * t+2 * s+1)
theorem OV:∀ {n s t s' t':Nat},s≤s'→t≤t'→tb n s t≤tb n s' t'
 | 0,_,_,_,_,_,h=>h
 | n+1,_,_,_,_,h1,h2=>OV (n:=n) (by omega) (by omega)
theorem VI (n s t:Nat):tb n s t≤tb (n+1) s t:=OV (by omega) (by omega)
theorem Wv {n n':Nat} (s t:Nat) (h:n≤n'):tb n s t≤tb n' s t:=by
 induction n' with
 | zero=>rw [show n=0 by omega];exact aR _
 | succ n' ih =>
  by_cases e:n=n'+1
  ·rw [e];exact aR _
  ·exact dj (ih (by omega)) (VI n' s t)
theorem IK {m k:Nat} {D:bq} (h:D.WF m k):∀ (n:Nat) {D':bq} {s t:Nat},D'.WF m k→z7 m k D' D→D'.G4 m k s t→1≤s→B4 (fun i=>¬ D'.ve m (D.eT i)) m≤n→D.G4 m k (5 ^ n * s) (tb n s t)
 | n,D',s,t,h',e,hs,h1,hc=>by
  by_cases hz:B4 (fun i=>¬ D'.ve m (D.eT i)) m=0
  ·have hb:∀ u,D.ve m u→D'.ve m u:=fun u ⟨i,hi,q⟩=>q ▸ Classical.not_not.1 (GO hz i hi)
   obtain ⟨u1,u2,u3,u4⟩:=uniq h h' e.symm hb
   have hn:s≤5 ^ n * s:=Nat.le_mul_of_pos_left _ (Nat.pow_pos (by decide))
   have NC:t≤tb n s t:=Wv s t (Nat.zero_le n)
   refine ⟨fun i j hi hj=>?_,fun i hi=>?_,fun j hj=>?_,by rw [u4];exact hs.v.le NC⟩
   ·obtain ⟨i',o8,q⟩:=hb _ ⟨i,hi,rfl⟩
    obtain ⟨j',sx,q2⟩:=zQ h h' e.symm hb hj
    rw [u2 i j i' j' hi o8 hj sx q.symm q2.symm];exact (hs.a _ _ o8 sx).le hn
   ·obtain ⟨i',o8,q⟩:=hb _ ⟨i,hi,rfl⟩
    rw [u1 i i' hi o8 q.symm];exact (hs.b _ o8).le hn
   ·obtain ⟨j',sx,q2⟩:=zQ h h' e.symm hb hj
    rw [u3 j j' hj sx q2.symm];exact (hs.g _ sx).le NC
  ·obtain ⟨i,hi,YA⟩:∃ i,i < m∧¬ D'.ve m (D.eT i):=mJ fun q=>hz (by
    have:B4 (fun i=>¬ D'.ve m (D.eT i)) m≤B4 (fun _=>False) m:=B5 fun i hi hp=>q ⟨i,hi,hp⟩
    have h0:∀ n,B4 (fun _=>False) n=0:=fun n=>by
     induction n with
     | zero=>rfl
     | succ n ih=>rw [B4,ih];simp
    rw [h0] at this;omega)
   obtain ⟨j',sx,hv⟩:=zP h' (h.bl i hi) YA
   obtain ⟨r,hr,h0,O0⟩:∃ r,r < m∧D'.a r j'≠0∧¬ D.ve m (D'.eT r):=mJ fun q=>by
    have:=GP (D:=D) (D':=D') (j:=j') h' e (fun c hc=>?_) hi
    ·rw [← hv,A4 h' sx sx,if_pos rfl] at this;exact absurd this (by decide)
    ·rcases h'.al _ (h.fl c hc) with ⟨r,hr,q2⟩ | ⟨c',jk,q2⟩
     ·rw [← q2,JR h' hr sx]
      refine mJ fun q3=>q ⟨r,hr,q3,fun ⟨i2,Tt,q4⟩=>h.bf i2 c Tt hc (q4.trans q2)⟩
     ·rw [← q2,A4 h' jk sx,if_neg fun q3=>h.bf i c hi hc (by rw [← hv,← q2,q3])]
   have fo:B4 (fun i=>¬ (D'.il r j').ve m (D.eT i)) m < B4 (fun i=>¬ D'.ve m (D.eT i)) m:=by
    refine Nh (i:=i) (fun i' o8 hp hq=>hp ((B3 h' hr).2 (.inl ⟨hq,fun q=>O0 ⟨i',o8,q⟩⟩))) hi YA fun hp=>hp ((B3 h' hr).2 (.inr hv.symm))
   obtain ⟨n,rfl⟩:∃ n',n=n'+1:=⟨n - 1,by omega⟩
   have:=IK h n (h'.il hr sx) ((z7.il hr sx h0).symm.trans e) (hs.il h1 hr sx h0) (by omega) (by omega)
   have e1:5 ^ (n+1) * s=5 ^ n * (5 * s):=by rw [Nat.pow_succ,Nat.mul_assoc]
   exact this.le (Nat.le_of_eq e1.symm) (aR _)
theorem aaj {m k s t:Nat} {D D':bq} (h:D.WF m k) (h':D'.WF m k) (e:z7 m k D' D) (hs:D'.G4 m k s t) (h1:1≤s):D.G4 m k (5 ^ m * s) (tb m s t):=IK h m h' e hs h1 (Ng m)
section
variable (n m:Nat) (C:Nat→Nat→Rat) (B co:Nat→Rat)
def EU:bq where
 eT:=fun i=>2 * n+i
 fr:=fun j=>j
 a:=fun i j=>if j < n then -(C i j) else C i (j - n)
 b:=B
 g:=fun j=>if j < n then co j else -(co (j - n))
 v:=0
theorem Ta:(EU n C B co).WF m (2 * n):=by
 refine ⟨fun i i' _ _ e=>?_,fun j j' _ _ e=>e,fun i j hi hj e=>?_,fun i hi=>?_,fun j hj=>?_,fun u hu=>?_⟩
 ·simp only [EU] at e;omega
 ·simp only [EU] at e;omega
 ·simp only [EU];omega
 ·simp only [EU];omega
 ·by_cases h:u < 2 * n
  ·exact .inr ⟨u,h,rfl⟩
  ·exact .inl ⟨u - 2 * n,by omega,by simp only [EU];omega⟩
theorem OW (x f:Nat→Rat) (s:Rat):bR (2 * n) (fun j=>(if j < n then s * f j else -s * f (j - n)) * x j)=s * bR n fun j=>f j * (x j - x (n+j)):=by
 rw [show 2 * n=n+n by omega,nF]
 rw [aE (n:=n) (f:=fun j=>(if j < n then s * f j else -s * f (j - n)) * x j) (g:=fun j=>s * (f j * x j)) fun j hj=>by rw [if_pos hj];grind,
  aE (n:=n) (f:=fun j=>(if n+j < n then s * f (n+j) else -s * f (n+j - n)) * x (n+j)) (g:=fun j=>s * (-1 * (f j * x (n+j)))) fun j hj=>by rw [if_neg (by omega),show n+j - n=j by omega];grind,
  iW,iW,iW,show (fun j=>f j * (x j - x (n+j)))=fun j=>f j * x j - f j * x (n+j) by funext j;grind,yV]
 grind
theorem OX (x:Nat→Rat) (i:Nat):(EU n C B co).row (2 * n) x i=B i - ji n C (fun j=>x j - x (n+j)) i:=by
 unfold row ji
 have:=OW n x (C i) (-1)
 rw [aE (n:=2 * n) (f:=fun j=>(EU n C B co).a i j * x ((EU n C B co).fr j)) (g:=fun j=>(if j < n then -1 * C i j else -(-1) * C i (j - n)) * x j) fun j _=>by
  simp only [EU]
  split<;>grind]
 rw [this,show (EU n C B co).b i=B i from rfl]
 grind
theorem Tb (x:Nat→Rat):(EU n C B co).gv (2 * n) x=bR n fun j=>co j * (x j - x (n+j)):=by
 unfold gv
 have:=OW n x co 1
 rw [aE (n:=2 * n) (f:=fun j=>(EU n C B co).g j * x ((EU n C B co).fr j)) (g:=fun j=>(if j < n then 1 * co j else -1 * co (j - n)) * x j) fun j _=>by
  simp only [EU]
  split<;>grind]
 rw [this,show (EU n C B co).v=0 from rfl]
 grind
theorem JY (x:Nat→Rat):(EU n C B co).B1 m (2 * n) x↔∀ i,i < m→x (2 * n+i)=B i - ji n C (fun j=>x j - x (n+j)) i:=by
 unfold B1
 constructor
 ·intro h i hi;rw [← OX n C B co];exact h i hi
 ·intro h i hi;rw [OX];exact h i hi
def y5 (y:Nat→Rat) (u:Nat):Rat:=if 2 * n≤u then B (u - 2 * n) - ji n C (fun j=>y j - y (n+j)) (u - 2 * n) else y u
theorem Tc (y:Nat→Rat):(EU n C B co).B1 m (2 * n) (y5 n C B y):=(JY n m C B co _).2 fun i hi=>by
 have e1:y5 n C B y (2 * n+i)=B i - ji n C (fun j=>y j - y (n+j)) i:=by
  unfold y5;rw [if_pos (by omega),show 2 * n+i - 2 * n=i by omega]
 have e3:ji n C (fun j=>y5 n C B y j - y5 n C B y (n+j)) i=ji n C (fun j=>y j - y (n+j)) i:=by
  unfold ji
  refine aE fun j hj=>?_
  show C i j * (y5 n C B y j - y5 n C B y (n+j))=C i j * (y j - y (n+j))
  unfold y5;rw [if_neg (by omega),if_neg (by omega)]
 rw [e1,e3]
end
theorem expr {D:bq} {m k:Nat} (h:D.WF m k) {x:Nat→Rat} (hx:D.B1 m k x) {u:Nat} (hu:u < m+k):x u=mc D m u+bR k fun c=>D.fP m u c * x (D.fr c):=by
 rcases h.al u hu with ⟨i,hi,rfl⟩ | ⟨j,hj,rfl⟩
 ·unfold mc fP
  rw [qj h.bi hi]
  exact hx i hi
 ·unfold mc fP
  rw [mi fun i hi=>h.bf i j hi hj]
  show x (D.fr j)=0+bR k fun c=>(if D.fr c=D.fr j then 1 else 0) * x (D.fr c)
  rw [jo hj _ fun c hc eE=>by rw [if_neg fun e=>eE (h.fi _ _ hc hj e)];grind,if_pos rfl]
  grind
theorem Ww {D:bq} {m k n:Nat} (h:D.WF m k) {co:Nat→Rat} {x:Nat→Rat} (hx:D.B1 m k x):∀ X,X≤n→2 * n≤m+k→vx D m n co X+bR k (fun c=>gx D m n co X c * x (D.fr c))=D.gv k x+bR X fun j=>co j * (x j - x (n+j))
 | 0,_,_=>by
  show D.v+bR k (fun c=>D.g c * x (D.fr c))=D.gv k x+0
  unfold gv;grind
 | X+1,h1,h2=>by
  have ih:=Ww h (co:=co) hx X (by omega) h2 (n:=n)
  have e1:=expr h hx (u:=X) (by omega)
  have e2:=expr h hx (u:=n+X) (by omega)
  rw [bR,← Rat.add_assoc,← ih,vx,aE (f:=fun c=>gx D m n co (X+1) c * x (D.fr c)) (g:=fun c=>(gx D m n co X c * x (D.fr c)+co X * (D.fP m X c * x (D.fr c)))+-(co X) * (D.fP m (n+X) c * x (D.fr c))) fun c _=>by rw [gx];grind,
   rM,rM,iW,iW]
  generalize bR k (fun c=>D.fP m X c * x (D.fr c))=s1 at e1 ⊢
  generalize bR k (fun c=>D.fP m (n+X) c * x (D.fr c))=s2 at e2 ⊢
  rw [e1,e2]
  grind
end bq
end Go.Den
namespace Go.Den
open Go.Ab
namespace bq
section
variable {n m c:Nat} {C:Nat→Nat→Rat} {B co:Nat→Rat} {D:bq}
theorem Td (h:D.WF m (2 * n+1)) (hc:c < 2 * n+1) (hf:D.fr c=2 * n+m):(D.del c).WF m (2 * n):=by
 have P6:∀ j,j < 2 * n→sk c j < 2 * n+1∧sk c j≠c:=fun j hj=>by unfold sk;split<;>omega
 refine ⟨h.bi,fun j j' hj sx e=>?_,fun i j hi hj=>h.bf i _ hi (P6 j hj).1,fun i hi=>?_,fun j hj=>?_,fun u hu=>?_⟩
 ·have:=h.fi _ _ (P6 j hj).1 (P6 j' sx).1 e
  unfold sk at this
  split at this<;>split at this<;>omega
 ·have h1:=h.bl i hi
  have h2:=h.bf i c hi hc
  show D.eT i < m+2 * n
  omega
 ·have h1:=h.fl _ (P6 j hj).1
  have h2:D.fr (sk c j)≠D.fr c:=fun e=>(P6 j hj).2 (h.fi _ _ (P6 j hj).1 hc e)
  show D.fr (sk c j) < m+2 * n
  omega
 ·rcases h.al u (by omega) with h1 | ⟨j,hj,e⟩
  ·exact .inl h1
  ·have hjc:j≠c:=fun q=>by rw [q] at e;omega
   by_cases q:j < c
   ·exact .inr ⟨j,by omega,by show D.fr (sk c j)=u;unfold sk;rw [if_pos q];exact e⟩
   ·exact .inr ⟨j - 1,by omega,by show D.fr (sk c (j - 1))=u;unfold sk;rw [if_neg (by omega),show j - 1+1=j by omega];exact e⟩
theorem VJ (h:D.WF m (2 * n+1)) (hc:c < 2 * n+1) (hf:D.fr c=2 * n+m) (x:Nat→Rat):(D.del c).B1 m (2 * n) x↔D.B1 m (2 * n+1) (fun u=>if u=2 * n+m then 0 else x u):=by
 have P6:∀ j,j < 2 * n→sk c j < 2 * n+1∧sk c j≠c:=fun j hj=>by unfold sk;split<;>omega
 have hr:∀ i,D.row (2 * n+1) (fun u=>if u=2 * n+m then 0 else x u) i=(D.del c).row (2 * n) x i:=fun i=>by
  unfold row
  rw [OU _ (2 * n) c (by omega)]
  show D.b i+(D.a i c * (if D.fr c=2 * n+m then 0 else x (D.fr c))+bR (2 * n) fun j=>D.a i (sk c j) * (if D.fr (sk c j)=2 * n+m then 0 else x (D.fr (sk c j))))=D.b i+bR (2 * n) fun j=>D.a i (sk c j) * x (D.fr (sk c j))
  rw [if_pos hf,aE (f:=fun j=>D.a i (sk c j) * (if D.fr (sk c j)=2 * n+m then 0 else x (D.fr (sk c j)))) (g:=fun j=>D.a i (sk c j) * x (D.fr (sk c j))) fun j hj=>by
   rw [if_neg fun e=>(P6 j hj).2 (h.fi _ _ (P6 j hj).1 hc (e.trans hf.symm))]]
  grind
 constructor
 ·intro hs i hi
  rw [hr]
  exact (if_neg (fun e=>h.bf i c hi hc (e.trans hf.symm))).trans (hs i hi)
 ·intro hs i hi
  have:=hs i hi
  rw [hr] at this
  exact (if_neg (fun e=>h.bf i c hi hc (e.trans hf.symm))).symm.trans this
def Yc (D:bq) (m n:Nat) (co:Nat→Rat):bq:={ D with g:=gx D m n co n,v:=vx D m n co n }
theorem Yd {k:Nat} (h:D.WF m k):(D.Yc m n co).WF m k:=⟨h.bi,h.fi,h.bf,h.bl,h.fl,h.al⟩
theorem VK (h:xh n m C B D c):z7 m (2 * n) (EU n C B co) ((D.del c).Yc m n co):=by
 obtain ⟨z,he⟩:=h.eqv
 have hw:=Td h.wf h.lt h.fr
 have aak:∀ x,(EU n C B co).B1 m (2 * n) x↔(D.del c).B1 m (2 * n) x:=fun x=>by
  rw [VJ h.wf h.lt h.fr,← he.Kb,B7,JY]
  have e0:(if 2 * n+m=2 * n+m then (0:Rat) else x (2 * n+m))=0:=if_pos rfl
  have e1:∀ i,i < m→(if 2 * n+i=2 * n+m then (0:Rat) else x (2 * n+i))=x (2 * n+i):=fun i hi=>if_neg (by omega)
  have e2:∀ i,ji n C (fun j=>(if j=2 * n+m then (0:Rat) else x j) - (if n+j=2 * n+m then 0 else x (n+j))) i=ji n C (fun j=>x j - x (n+j)) i:=fun i=>by
   unfold ji
   refine aE fun j hj=>?_
   dsimp only
   rw [if_neg (by omega),if_neg (by omega)]
  constructor
  ·intro hs i hi
   show (if 2 * n+i=2 * n+m then (0:Rat) else x (2 * n+i))=B i - ji n C (fun j=>(if j=2 * n+m then (0:Rat) else x j) - (if n+j=2 * n+m then 0 else x (n+j))) i+(if 2 * n+m=2 * n+m then (0:Rat) else x (2 * n+m))
   rw [e0,e1 i hi,e2,hs i hi];grind
  ·intro hs i hi
   have:=hs i hi
   have this:(if 2 * n+i=2 * n+m then (0:Rat) else x (2 * n+i))=B i - ji n C (fun j=>(if j=2 * n+m then (0:Rat) else x j) - (if n+j=2 * n+m then 0 else x (n+j))) i+(if 2 * n+m=2 * n+m then (0:Rat) else x (2 * n+m)):=this
   rw [e0,e1 i hi,e2] at this
   rw [this];grind
 refine ⟨fun x=>aak x,fun x hx=>?_⟩
 have h1:=Ww hw (co:=co) ((aak x).1 hx) n (aR n) (by omega)
 rw [Tb]
 show _=vx (D.del c) m n co n+bR (2 * n) (fun j=>gx (D.del c) m n co n j * x ((D.del c).fr j))
 rw [h1]
 unfold gv
 rw [aE (f:=fun j=>(D.del c).g j * x ((D.del c).fr j)) (g:=fun _=>0) fun j _=>by show 0 * _=_;grind,ik]
 show _=0+0+_
 grind
variable (hw:D.WF m (2 * n)) (he:z7 m (2 * n) (EU n C B co) D)
include hw he
omit hw in
theorem OY {x:Nat→Rat} (hx:D.B1 m (2 * n) x):D.gv (2 * n) x=bR n fun j=>co j * (x j - x (n+j)):=by
 rw [← he.gv x ((he.Kb x).2 hx),Tb]
omit hw in
theorem Nq {x:Nat→Rat} (hx:D.B1 m (2 * n) x) {i:Nat} (hi:i < m):x (2 * n+i)=B i - ji n C (fun j=>x j - x (n+j)) i:=(JY n m C B co _).1 ((he.Kb x).2 hx) i hi
theorem opt (hf:D.Kc m) (hg:∀ j,j < 2 * n→D.g j≤0) :
  (∀ i,0≤-(D.gc (2 * n) (2 * n+i)))∧(∀ j,j < n→bR m (fun i=>-(D.gc (2 * n) (2 * n+i)) * C i j)=co j)∧bR m (fun i=>-(D.gc (2 * n) (2 * n+i)) * B i)=D.v ∧
   (∀ i,i < m→ji n C (fun j=>mc D m j - mc D m (n+j)) i≤B i)∧bR n (fun j=>co j * (mc D m j - mc D m (n+j)))=D.v:=by
 have TF:∀ u,D.gc (2 * n) u≤0:=fun u=>by
  by_cases e:∃ j,j < 2 * n∧D.fr j=u
  ·obtain ⟨j,hj,rfl⟩:=e
   rw [Lz hw hj];exact hg j hj
  ·rw [B6 fun j hj q=>e ⟨j,hj,q⟩];exact Rat.le_refl
 -- the goal at the solution that unknowns tell
 have key:∀ y:Nat→Rat,D.v+(bR n (fun j=>D.gc (2 * n) j * y j)+bR n (fun j=>D.gc (2 * n) (n+j) * y (n+j))+bR m fun i=>D.gc (2 * n) (2 * n+i) * (B i - ji n C (fun j=>y j - y (n+j)) i))=bR n fun j=>co j * (y j - y (n+j)):=fun y=>by
  have hs:=(he.Kb _).1 (Tc n m C B co y)
  have h1:=OY he hs
  rw [Sx hw] at h1
  have e1:bR n (fun j=>co j * (y5 n C B y j - y5 n C B y (n+j)))=bR n fun j=>co j * (y j - y (n+j)):=aE fun j hj=>by
   unfold y5;rw [if_neg (by omega),if_neg (by omega)]
  rw [e1] at h1
  rw [← h1,show m+2 * n=n+(n+m) by omega,nF,nF]
  rw [aE (f:=fun j=>D.gc (2 * n) j * y5 n C B y j) (g:=fun j=>D.gc (2 * n) j * y j) fun j hj=>by unfold y5;rw [if_neg (by omega)],
   aE (f:=fun j=>D.gc (2 * n) (n+j) * y5 n C B y (n+j)) (g:=fun j=>D.gc (2 * n) (n+j) * y (n+j)) fun j hj=>by unfold y5;rw [if_neg (by omega)],
   aE (f:=fun i=>D.gc (2 * n) (n+(n+i)) * y5 n C B y (n+(n+i))) (g:=fun i=>D.gc (2 * n) (2 * n+i) * (B i - ji n C (fun j=>y j - y (n+j)) i)) fun i _=>by
    rw [show n+(n+i)=2 * n+i by omega];unfold y5;rw [if_pos (by omega),show 2 * n+i - 2 * n=i by omega]]
  grind
 have k0:=key fun _=>0
 have z1:∀ i,ji n C (fun _=>(0:Rat) - 0) i=0:=fun i=>by
  unfold ji;rw [aE (g:=fun _=>0) fun j _=>by grind,ik]
 have Zh:D.v+bR m (fun i=>D.gc (2 * n) (2 * n+i) * B i)=0:=by
  rw [aE (n:=n) (f:=fun j=>D.gc (2 * n) j * 0) (g:=fun _=>0) fun j _=>by grind,aE (n:=n) (f:=fun j=>D.gc (2 * n) (n+j) * 0) (g:=fun _=>0) fun j _=>by grind,aE (n:=n) (f:=fun j=>co j * (0 - 0)) (g:=fun _=>0) fun j _=>by grind,
   ik,aE (n:=m) (f:=fun i=>D.gc (2 * n) (2 * n+i) * (B i - ji n C (fun _=>0 - 0) i)) (g:=fun i=>D.gc (2 * n) (2 * n+i) * B i) fun i _=>by rw [z1];grind] at k0
  grind
 -- a single unknown
 have k1:∀ (j:Nat) (s:Rat) (t:Rat),j < n→D.gc (2 * n) j * s+D.gc (2 * n) (n+j) * t - (s - t) * bR m (fun i=>D.gc (2 * n) (2 * n+i) * C i j)=co j * (s - t):=fun j s t hj=>by
  have k:=key fun u=>if u=j then s else if u=n+j then t else 0
  have y1:∀ a,a < n→(if a=j then s else if a=n+j then t else (0:Rat))=if a=j then s else 0:=fun a ha=>by
   by_cases e:a=j
   ·rw [if_pos e,if_pos e]
   ·rw [if_neg e,if_neg e,if_neg (by omega)]
  have y2:∀ a,a < n→(if n+a=j then s else if n+a=n+j then t else (0:Rat))=if a=j then t else 0:=fun a ha=>by
   rw [if_neg (by omega)]
   by_cases e:a=j
   ·rw [if_pos (by omega),if_pos e]
   ·rw [if_neg (by omega),if_neg e]
  have d1:∀ i,ji n C (fun a=>(if a=j then s else if a=n+j then t else (0:Rat)) - (if n+a=j then s else if n+a=n+j then t else 0)) i=C i j * (s - t):=fun i=>by
   unfold ji
   rw [aE (g:=fun a=>if a=j then C i j * (s - t) else 0) fun a ha=>by
    dsimp only
    rw [y1 a ha,y2 a ha]
    by_cases e:a=j
    ·rw [if_pos e,if_pos e,if_pos e,e]
    ·rw [if_neg e,if_neg e,if_neg e];grind]
   rw [jo hj _ fun a _ h=>if_neg h,if_pos rfl]
  rw [aE (n:=n) (f:=fun a=>D.gc (2 * n) a * (if a=j then s else if a=n+j then t else 0)) (g:=fun a=>if a=j then D.gc (2 * n) j * s else 0) fun a ha=>by
    rw [y1 a ha]
    by_cases e:a=j
    ·rw [if_pos e,if_pos e,e]
    ·rw [if_neg e,if_neg e];grind,
   aE (n:=n) (f:=fun a=>D.gc (2 * n) (n+a) * (if n+a=j then s else if n+a=n+j then t else 0)) (g:=fun a=>if a=j then D.gc (2 * n) (n+j) * t else 0) fun a ha=>by
    rw [y2 a ha]
    by_cases e:a=j
    ·rw [if_pos e,if_pos e,e]
    ·rw [if_neg e,if_neg e];grind,
   aE (n:=n) (f:=fun a=>co a * ((if a=j then s else if a=n+j then t else 0) - (if n+a=j then s else if n+a=n+j then t else 0))) (g:=fun a=>if a=j then co j * (s - t) else 0) fun a ha=>by
    rw [y1 a ha,y2 a ha]
    by_cases e:a=j
    ·rw [if_pos e,if_pos e,if_pos e,e]
    ·rw [if_neg e,if_neg e,if_neg e];grind,
   jo hj _ fun a _ h=>if_neg h,if_pos rfl,jo hj _ fun a _ h=>if_neg h,if_pos rfl,jo hj _ fun a _ h=>if_neg h,if_pos rfl,
   aE (n:=m) (g:=fun i=>D.gc (2 * n) (2 * n+i) * B i - (s - t) * (D.gc (2 * n) (2 * n+i) * C i j)) fun i _=>by rw [d1];grind,yV,iW] at k
  grind
 have rL:∀ f:Nat→Rat,bR m (fun i=>-(D.gc (2 * n) (2 * n+i)) * f i) = - bR m fun i=>D.gc (2 * n) (2 * n+i) * f i:=fun f=>by
  rw [aE (g:=fun i=>(-1) * (D.gc (2 * n) (2 * n+i) * f i)) fun i _=>by grind,iW];grind
 have LZ:=o6 hw qQ
 refine ⟨fun i=>by have:=TF (2 * n+i);grind,fun j hj=>?_,by rw [rL];grind,fun i hi=>?_,?_⟩
 ·have a1:=k1 j 1 0 hj
  have a2:=k1 j 0 1 hj
  have b1:=TF j
  have b2:=TF (n+j)
  rw [rL]
  grind
 ·have h1:=Nq he LZ hi
  have h2:=zR hw hf (2 * n+i) (by omega)
  have e:(fun j=>mc D m j - mc D m (n+j))=fun j=>D.ext m (2 * n) qQ j - D.ext m (2 * n) qQ (n+j):=by
   funext j;rw [zS D _ (2 * n),zS D _ (2 * n)]
  rw [e]
  grind
 ·have h1:=OY he LZ
  rw [yT hw,Dt] at h1
  rw [h1]
  exact aE fun j _=>by rw [zS D _ (2 * n),zS D _ (2 * n)]
omit he in
theorem Te {j u:Nat} (hj:j < 2 * n) (hu:u < m+2 * n):D.fP m u j=D.dir m (2 * n) j u:=by
 rcases hw.al u hu with ⟨i,hi,rfl⟩ | ⟨c',jk,rfl⟩
 ·unfold fP;rw [qj hw.bi hi,JR hw hi hj]
 ·unfold fP;rw [mi fun i hi=>hw.bf i c' hi jk,A4 hw jk hj]
  by_cases e:c'=j
  ·simp only [e,if_true]
  ·simp only [e,if_false];exact if_neg fun q=>e (hw.fi _ _ hj jk q).symm
theorem ray {j:Nat} (hj:j < 2 * n) (hg:0 < D.g j) (hn:∀ i,i < m→0≤D.a i j) :
  (∀ i,i < m→ji n C (fun a=>D.fP m a j - D.fP m (n+a) j) i≤0)∧0 < bR n fun a=>co a * (D.fP m a j - D.fP m (n+a) j):=by
 have LZ:=o6 hw qQ
 have Hi:=o6 hw (one (D.fr j))
 have ed:∀ u,u < m+2 * n→D.fP m u j=D.ext m (2 * n) (one (D.fr j)) u - D.ext m (2 * n) qQ u:=fun u hu=>Te hw hj hu
 have Mi:∀ u,u < m+2 * n→0≤D.fP m u j:=fun u hu=>by
  rcases hw.al u hu with ⟨i,hi,rfl⟩ | ⟨c',jk,rfl⟩
  ·unfold fP;rw [qj hw.bi hi];exact hn i hi
  ·unfold fP;rw [mi fun i hi=>hw.bf i c' hi jk]
   show 0≤if D.fr j=D.fr c' then (1:Rat) else 0
   split<;>decide
 refine ⟨fun i hi=>?_,?_⟩
 ·have h0:=Nq he LZ hi
  have h1:=Nq he Hi hi
  have h2:=Mi (2 * n+i) (by omega)
  rw [ed _ (by omega)] at h2
  have e:ji n C (fun a=>D.fP m a j - D.fP m (n+a) j) i=ji n C (fun j_1=>D.ext m (2 * n) (one (D.fr j)) j_1 - D.ext m (2 * n) (one (D.fr j)) (n+j_1)) i - ji n C (fun j=>D.ext m (2 * n) qQ j - D.ext m (2 * n) qQ (n+j)) i:=by
   unfold ji
   rw [← yV]
   exact aE fun a ha=>by dsimp only;rw [ed a (by omega),ed (n+a) (by omega)];grind
  rw [e]
  grind
 ·have h0:=OY he LZ
  have h1:=OY he Hi
  rw [yT hw,Dt] at h0
  rw [yT hw,JP hw hj] at h1
  have e:bR n (fun a=>co a * (D.fP m a j - D.fP m (n+a) j))=bR n (fun a=>co a * (D.ext m (2 * n) (one (D.fr j)) a - D.ext m (2 * n) (one (D.fr j)) (n+a))) - bR n fun a=>co a * (D.ext m (2 * n) qQ a - D.ext m (2 * n) qQ (n+a)):=by
   rw [← yV]
   exact aE fun a ha=>by rw [ed a (by omega),ed (n+a) (by omega)];grind
  rw [e]
  grind
end
end bq
end Go.Den
namespace Go.Den
open Go.Ab
section
variable {n m k h j s:Nat} {D:bq}
theorem IL (hm:m≤1000) (hw:D.WF m k) (hj:j < k) (u:Nat) :
  Gv (fun N=>jn N (u:Int) (n:Int) (m:Int) (bj D.v).fN.fG (bj D.v).fN.fL (bj D.v).fD.fG (bj D.v).fD.fL (h:Int) (LN D.eT m) (LN D.fr k) (LA D.a m k) (LQ D.b m) (LQ D.g k) (j:Int)) (bj (D.fP m u j)):=by
 refine Gv.if (inl hj (eD _ _)) ?_
 rw [an,qH _ _ hj]
 by_cases e:D.fr j=u
 ·refine Gv.aG (by rw [e];simp) ((SH 1 (by decide) (by decide)).bind ((Gv.pure _).eq ?_))
  unfold bq.fP
  rw [← e,bq.mi fun i hi=>hw.bf i j hi hj]
  show bj ((1:Int):Rat)=bj (if D.fr j=D.fr j then 1 else 0)
  rw [if_pos rfl];rfl
 ·have e0:(((D.fr j:Nat):Int) == ((u:Nat):Int))=false:=beq_eq_false_iff_ne.2 (by omega)
  obtain ⟨r,q1,q2⟩:=A5 (f:=D.eT) (k:=m) (v:=u) hm
  refine Gv.bg e0 (Gv.bind q1 ?_)
  rcases q2 with ⟨rfl,q2⟩ | ⟨i,rfl,hi,q2⟩
  ·refine Gv.bg (by decide) (sX.bind ((Gv.pure _).eq ?_))
   unfold bq.fP;rw [bq.mi q2]
   show bj 0=bj (if D.fr j=u then 1 else 0)
   rw [if_neg e]
  ·refine Gv.aG (by simp) ?_
   simp only [an,tV _ _ hi]
   refine Gv.if (by rw [gW];exact hi) (Gv.if (inl hi (gW _ _ _)) (Gv.if (inl hj (bG _ _)) ((Gv.pure _).eq ?_)))
   rw [gN _ _ hj]
   unfold bq.fP;rw [← q2,bq.qj hw.bi hi]
theorem IM (hm:m≤1000) (hn:n≤400) (hs:2 * s+1≤MS) (hw:D.WF m k) (hj:j < k) (hp:∀ u,u < 2 * n→RB (D.fP m u j) s):∀ (d x:Nat) (L:List aa),x+d=n→L.length=n→(∀ i,i < x→L.getD i aa.d=bj (D.fP m i j - D.fP m (n+i) j)) →
  aK (fun N g=>dm N (n:Int) (m:Int) (bj D.v).fN.fG (bj D.v).fN.fL (bj D.v).fD.fG (bj D.v).fD.fL (h:Int) (LN D.eT m) (LN D.fr k) (LA D.a m k) (LQ D.b m) (LQ D.g k) (j:Int) g L (x:Int)) (LQ (fun i=>D.fP m i j - D.fP m (n+i) j) n)
 | 0,x,L,hx,hL,h0=>aK.succ (fun N g=>dm.eq_2 ..) (aK.bg (Ls (m:=x) (n:=n) (by omega) (by rw [dn];rfl)) (aK.one ((Gv.pure _).eq (Dv aa.d hL fun i hi=>h0 i (by omega)))))
 | d+1,x,L,hx,hL,h0=>by
  have TG:x < n:=by omega
  have ew:aq ((n:Int)+(x:Int))=((n+x:Nat):Int):=by rw [bE (by omega) (by omega)];omega
  have r1:=(hp x (by omega)).q (show s≤MS by omega)
  have r2:=(hp (n+x) (by omega)).q (show s≤MS by omega)
  refine aK.succ (fun N g=>dm.eq_2 ..) (aK.aG (Ka (n:=n) TG (by rw [dn];rfl)) (aK.bind (IL hm hw hj x) ?_))
  rw [ew]
  refine aK.bind (IL hm hw hj (n+x)) (aK.bind (r1.sub r2 (EF (by decide))) (aK.if (inl TG hL) ?_))
  rw [bh (show x < 9223372036854775807 by omega),an]
  refine IM hm hn hs hw hj hp d (x+1) _ (by omega) (by rw [List.length_set];exact hL) fun i hi=>?_
  by_cases e:x=i
  ·subst e;exact lL _ _ _ _ (by omega)
  ·rw [je _ _ _ e];exact h0 i (by omega)
theorem P0 (hm:m≤1000) (hn:n≤400) (hs:2 * s+1≤MS) (hw:D.WF m k) (hj:j < k) (hp:∀ u,u < 2 * n→RB (D.fP m u j) s) :
  Gv (fun N=>iQ N (n:Int) (m:Int) (bj D.v).fN.fG (bj D.v).fN.fL (bj D.v).fD.fG (bj D.v).fD.fL (h:Int) (LN D.eT m) (LN D.fr k) (LA D.a m k) (LQ D.b m) (LQ D.g k) (j:Int)) (LQ (fun i=>D.fP m i j - D.fP m (n+i) j) n) :=
 Gv.if (by omega) (IM hm hn hs hw hj hp n 0 (List.replicate n aa.d) (by omega) dn fun i hi=>absurd hi (dN _)).diag
theorem OZ {D:bq} {m k s:Nat} (hw:D.WF m k) (h1:1≤s) (ha:∀ i c,i < m→c < k→RB (D.a i c) s) {u c:Nat} (hu:u < m+k) (hc:c < k):RB (D.fP m u c) s:=by
 rcases hw.al u hu with ⟨i,hi,rfl⟩ | ⟨c',jk,rfl⟩
 ·unfold bq.fP;rw [bq.qj hw.bi hi];exact ha i c hi hc
 ·unfold bq.fP;rw [bq.mi fun i hi=>hw.bf i c' hi jk]
  show RB (if D.fr c=D.fr c' then (1:Rat) else 0) s
  split
  ·exact bq.X1.le h1
  ·exact RB.zero.le h1
theorem Tf {D:bq} {m k s:Nat} (hw:D.WF m k) (h1:1≤s) (hb:∀ i,i < m→RB (D.b i) s) (u:Nat):RB (mc D m u) s:=by
 by_cases e:∃ i,i < m∧D.eT i=u
 ·obtain ⟨i,hi,rfl⟩:=e
  unfold mc;rw [bq.qj hw.bi hi];exact hb i hi
 ·unfold mc;rw [bq.mi fun i hi q=>e ⟨i,hi,q⟩];exact RB.zero.le h1
end
section
variable {n:Nat} {l:List aH} {ob:List aa}
def Nr (ob:List aa) (j:Nat):Rat:=qv (ob.getD j aa.d)
structure Opt (n:Nat) (l:List aH) (ob:List aa) (x y:Nat→Rat) (v:Rat):Prop where
 poi:X8 n l x
 nn:∀ i,i < l.length→0≤y i
 col:∀ j,j < n→bR l.length (fun i=>y i * cf l i j)=Nr ob j
 XV:bR l.length (fun i=>y i * bv l i)=v
 val:bR n (fun j=>Nr ob j * x j)=v
 rb:∀ i,i < l.length→RB (y i) 400000
 rv:RB v 400000
structure aal (n:Nat) (l:List aH) (ob:List aa) (d:Nat→Rat):Prop where
 le:∀ i,i < l.length→bq.ji n (cf l) d i≤0
 gt:0 < bR n fun j=>Nr ob j * d j
 rb:∀ j,j < n→RB (d j) 400000
theorem tb7 {m:Nat} (h:m≤7):bq.tb m 2 12≤400000:=dj (bq.Wv 2 12 h) (by decide)
theorem HN {D:bq} {c:Nat} (hl:lx l) (h7:l.length≤7) (h:xh n l.length (cf l) (bv l) D c):(∀ i j,i < l.length→j < 2 * n+1→RB (D.a i j) 156250)∧∀ i,i < l.length→RB (D.b i) 156250:=by
 obtain ⟨z,he⟩:=h.eqv
 have e0:bq.z7 l.length (2 * n+1) (bq.fst n l.length (cf l) (bv l) 0) { D with g:=fun j=>if D.fr j=2 * n+l.length then 0 else 0,v:=0 }:=⟨fun x=>by
  rw [← bq.GQ n l.length (cf l) (bv l) z D x he];exact Iff.rfl,fun x _=>by
  rw [bq.Ni];unfold bq.gv
  rw [aE (g:=fun _=>0) fun j _=>by simp,ik];grind⟩
 have hw:bq.WF { D with g:=fun j=>if D.fr j=2 * n+l.length then 0 else 0,v:=0 } l.length (2 * n+1):=⟨h.wf.bi,h.wf.fi,h.wf.bf,h.wf.bl,h.wf.fl,h.wf.al⟩
 have hs:=bq.size hw (bq.Du n l.length (cf l) (bv l) 0) e0 (G0 hl) (by decide:1≤2)
 exact ⟨fun i j hi hj=>(hs.a i j hi hj).le (Nn h7),fun i hi=>(hs.b i hi).le (Nn h7)⟩
theorem Ns (hq:LB ob 12) (j:Nat):RB (Nr ob j) 12:=(hq.rq (by decide) j).rb
theorem Tg (hl:lx l) (i j:Nat):RB (cf l i j) 2:=⟨(((hl.row i).co j).rb (by decide)).num,(((hl.row i).co j).rb (by decide)).den⟩
theorem Th (hl:lx l) (hq:LB ob 12):(bq.EU n (cf l) (bv l) (Nr ob)).G4 l.length (2 * n) 2 12:=by
 refine ⟨fun i j _ _=>?_,fun i _=>(hl.row i).X7.rb,fun j _=>?_,RB.zero.le (by decide)⟩
 ·simp only [bq.EU]
  split
  ·exact (Tg hl i j).neg
  ·exact Tg hl i _
 ·simp only [bq.EU]
  split
  ·exact Ns hq j
  ·exact (Ns hq _).neg
theorem LS (hn:n≤4) (hl:lx l) (h7:l.length≤7) (hc:fO n l=0) (cD:ob.length=n) (hq:LB ob 12) :
  (∃ y,VF n l y∧Gv (fun N=>kZ N ob l) (⟨aa.d,[],LQ y l.length⟩,29))∨(∃ d,(∃ x,X8 n l x)∧aal n l ob d∧Gv (fun N=>kZ N ob l) (⟨aa.d,LQ d n,[]⟩,14)) ∨
   ∃ x y v,Opt n l ob x y v∧Gv (fun N=>kZ N ob l) (⟨bj v,LQ x n,LQ y l.length⟩,0):=by
 obtain ⟨_,ok⟩:=Nl hc
 rw [an] at ok
 have hb:=LK (n:=n) (by omega) hl (by omega) ok.co
 obtain ⟨r,q1,q2⟩:=Iz (n:=n) (m:=l.length) (C:=cf l) (B:=bv l) (s:=2) (by omega) (by omega) (G0 hl) (by decide) (by have:=Nn h7;show 5 * (5 ^ l.length * 2)≤100000000;omega)
 have tW:(fO (n:Int) l != 0)=false:=by rw [hc];rfl
 have WT:Gv (fun N=>lg N ((ob.length:Nat):Int) l) (fO (n:Int) l):=by rw [cD];exact sY _ _
 have hbe:Gv (fun N=>ta N ((ob.length:Nat):Int) l) (TB n l):=by rw [cD];exact hb
 rcases q2 with ⟨D,q2,rfl⟩ | ⟨D,c,q2,rfl⟩
 ·obtain ⟨g1,g2⟩:=Ca hl h7 q2
  refine .inl ⟨_,g1,WT.bind (Gv.bg tW (hbe.bind (q1.bind ?_)))⟩
  simp only [RS,TB,eD,gW,bG]
  refine Gv.if trivial (Gv.if trivial (Gv.if trivial (Gv.aG rfl ((JW (by omega) (by omega) (by omega) (by decide:156250≤MS) q2.wf g2).bind (Gv.pure _)))))
 ·obtain ⟨g1,_⟩:=Aq hl h7 q2
  obtain ⟨ra,rb⟩:=HN hl h7 q2
  have RA:=bq.Td q2.wf q2.lt q2.fr
  have ra1:∀ i j,i < l.length→j < 2 * n→RB ((D.del c).a i j) 156250:=fun i j hi hj=>ra i _ hi (by unfold sk;split<;>omega)
  have rb1:∀ i,i < l.length→RB ((D.del c).b i) 156250:=rb
  have adQ:=Yb (D:=D.del c) (k:=2 * n) (m:=l.length) (n:=n) (h:=2 * n+l.length) (s:=156250) (t:=1) (ob:=ob) (co:=Nr ob) (by omega) (by omega) RA ra1 rb1 (by omega) (by omega) cD (fun j=>hq.rq (by decide) j) (Ns hq)
   (fun u hu=>⟨fun c' jk=>OZ RA (by decide) ra1 hu jk,Tf RA (by decide) rb1 u⟩) (fun c' _=>RB.zero) RB.zero (by show 1+n * (2 * (156250+13))≤100000000;omega)
  have YD:=bq.Yd (n:=n) (co:=Nr ob) RA
  have he2:=bq.VK (co:=Nr ob) q2
  have eW:=Th (n:=n) hl hq
  have hp5:=Nn h7
  obtain ⟨D',r,O7,Yi,P9,y8,Tn⟩:=LD (n:=n) (m:=l.length) (k:=2 * n) (h:=2 * n+l.length) (s:=12) (D:=(D.del c).Yc l.length n (Nr ob)) (by omega) (by omega) (bq.Ta n l.length (cf l) (bv l) (Nr ob))
   ⟨fun i j hi hj=>(eW.a i j hi hj).le (by decide),fun i hi=>(eW.b i hi).le (by decide),eW.g,eW.v⟩ (by decide) (by show 5 * (5 ^ l.length * 12)≤100000000;omega) YD q2.fea he2
  have kj:=bq.aaj O7 (bq.Ta n l.length (cf l) (bv l) (Nr ob)) P9 eW (by decide)
  have ht:=tb7 h7
  have Ye:=Tn.diag
  have go:∀ R,Gv (fun N=>(cond (decide (r≥0))
    (((mN N r (n:Int) (l.length:Nat) (bj D'.v).fN.fG (bj D'.v).fN.fL (bj D'.v).fD.fG (bj D'.v).fD.fL ((2 * n+l.length:Nat):Int) (LN D'.eT l.length) (LN D'.fr (2 * n)) (LA D'.a l.length (2 * n)) (LQ D'.b l.length) (LQ D'.g (2 * n))).bind fun FU =>
     ((iQ N (n:Int) (l.length:Nat) (bj D'.v).fN.fG (bj D'.v).fN.fL (bj D'.v).fD.fG (bj D'.v).fD.fL ((2 * n+l.length:Nat):Int) (LN D'.eT l.length) (LN D'.fr (2 * n)) (LA D'.a l.length (2 * n)) (LQ D'.b l.length) (LQ D'.g (2 * n)) FU).bind fun jZ =>
     some ((⟨aa.d,jZ,([]:List aa)⟩:n6),(14:Int)))))
    (((jd N (n:Int) (l.length:Nat) (bj D'.v).fN.fG (bj D'.v).fN.fL (bj D'.v).fD.fG (bj D'.v).fD.fL ((2 * n+l.length:Nat):Int) (LN D'.eT l.length) (LN D'.fr (2 * n)) (LA D'.a l.length (2 * n)) (LQ D'.b l.length) (LQ D'.g (2 * n))).bind fun oV =>
     ((dY N (n:Int) (l.length:Nat) (bj D'.v).fN.fG (bj D'.v).fN.fL (bj D'.v).fD.fG (bj D'.v).fD.fL ((2 * n+l.length:Nat):Int) (LN D'.eT l.length) (LN D'.fr (2 * n)) (LA D'.a l.length (2 * n)) (LQ D'.b l.length) (LQ D'.g (2 * n))).bind fun fg =>
     some ((⟨bj D'.v,oV,fg⟩:n6),(0:Int))))))) R→Gv (fun N=>kZ N ob l) R:=fun R hR=>by
   refine WT.bind (Gv.bg tW (hbe.bind (q1.bind ?_)))
   simp only [RS,TB,eD,gW,bG]
   refine Gv.if trivial (Gv.if trivial (Gv.if trivial (Gv.bg rfl (adQ.bind ?_))))
   simp only [bG]
   refine Gv.if trivial (Ye.bind ?_)
   simp only [RT,eD,gW,bG]
   exact Gv.if trivial (Gv.if trivial (Gv.if trivial (Gv.if trivial (Gv.if trivial hR))))
  right
  rcases y8 with ⟨rfl,hg⟩ | ⟨j,rfl,X0,Mi⟩
  ·right
   obtain ⟨o1,o2,o3,o4,o5⟩:=bq.opt O7 P9 Yi hg
   have hp:∀ u,RB (mc D' l.length u) 156250:=Tf O7 (by decide) fun i hi=>(kj.b i hi).le hp5
   have TF:∀ i,RB (-(D'.gc (2 * n) (2 * n+i))) 400000:=fun i=>by
    by_cases e:∃ j,j < 2 * n∧D'.fr j=2 * n+i
    ·obtain ⟨j,hj,e⟩:=e
     rw [← e,bq.Lz O7 hj];exact (kj.g j hj).neg.le ht
    ·rw [bq.B6 fun j hj q=>e ⟨j,hj,q⟩];exact RB.zero.neg.le (by decide)
   refine ⟨_,_,_,⟨⟨o4,fun j _=>((hp j).sub (hp (n+j))).le (by omega)⟩,fun i _=>o1 i,o2,o3,o5,fun i _=>TF i,kj.v.le ht⟩,go _ (Gv.bg (by decide) ?_)⟩
   exact (LO (by omega) (by omega) (s:=156250) (by decide) O7.bi hp).bind ((JW (by omega) (by omega) (by omega) (show bq.tb l.length 2 12≤MS by show _≤100000000;omega) O7 kj.g).bind (Gv.pure _))
  ·left
   obtain ⟨p1,p2⟩:=bq.ray O7 P9 X0.lt X0.pos Mi
   have hd:∀ u,u < 2 * n→RB (D'.fP l.length u j) 156250:=fun u hu=>OZ O7 (by decide) (fun i c' hi jk=>(kj.a i c' hi jk).le hp5) (by omega) X0.lt
   refine ⟨_,⟨_,g1⟩,⟨p1,p2,fun a ha=>((hd a (by omega)).sub (hd (n+a) (by omega))).le (by omega)⟩,go _ (Gv.aG (by simp) ?_)⟩
   exact Gv.bind (r:=((j:Nat):Int)) (Gv.pure _) ((P0 (by omega) (by omega) (s:=156250) (by decide) O7 X0.lt hd).bind (Gv.pure _))
end
end Go.Den
namespace Go.Den
open Go.Ab
section
variable {n:Nat} {l:List aH} {ob:List aa}
theorem LB.up {x:List aa} {a b:Nat} (h:LB x a) (TC:a≤b):LB x b:=⟨h.len,fun i=>(h.ir i).le TC⟩
theorem VL (ok:Dw n l) {d:Nat→Rat} {i:Nat} (hi:i < l.length):HM (l.getD i aH.d).bu (LQ d n)=bq.ji n (cf l) d i:=by
 rw [G2 (ok.co i hi),aE (g:=fun j=>cf l i j * d j) fun j hj=>by rw [gN _ _ hj,iV];rfl];rfl
theorem Ti (cD:ob.length=n) {d:Nat→Rat}:HM ob (LQ d n)=bR n fun j=>Nr ob j * d j:=by
 rw [G2 (Nat.le_of_eq cD),aE (g:=fun j=>Nr ob j * d j) fun j hj=>by rw [gN _ _ hj,iV];rfl]
theorem Tj (ok:Dw n l) (cD:ob.length=n) {x y:Nat→Rat} {v:Rat} (h:Opt n l ob x y v):Wp ob l ⟨bj v,LQ x n,LQ y l.length⟩=true:=by
 have hy:∀ i,i < l.length→yv (LQ y l.length) i=y i:=fun i hi=>Ws hi
 unfold Wp
 dsimp only
 rw [IJ ok h.poi,A6 fun a _ h2=>by rw [bG] at h2;rw [hy a (by omega)];exact h.nn a (by omega),Np,aE (g:=fun i=>y i * bv l i) fun i hi=>by rw [hy i hi],
  decide_eq_true (by rw [h.XV,iV];grind),Ti cD,decide_eq_true (by rw [h.val,iV];grind),y4 fun a _ h2=>by
   unfold YH
   rw [No,aE (g:=fun i=>y i * cf l i a) fun i hi=>by rw [hy i hi],h.col a (by omega)]
   show Nr ob a - Nr ob a=0
   grind]
 rfl
theorem P1 {x y:Nat→Rat} {v:Rat} (h:Opt n l ob x y v):RQ (bj v) (qv (bj v)) 400000:=by rw [iV];exact h.rv.rq (by decide)
theorem Tk (hl:lx l) (ok:Dw n l) (cD:ob.length=n) (hq:LB ob 12) (hn:n≤60) {d:Nat→Rat} (h:aal n l ob d):∀ k i,i+k=l.length→aK (fun N fuel=>k9 N ob l (LQ d n) fuel (i:Int)) true
 | 0,i,hi=>by
  have:i=l.length:=by omega
  subst this
  have hx:=II hn h.rb
  refine aK.succ (fun N g=>k9.eq_2 ..) (aK.bg eJ (aK.one ((xi hq hx (by rw [bG];omega)).bind ((((JU hq hx).rq (by decide)).PV (by decide)).bind ((Gv.pure _).eq ?_)))))
  rw [yR,Ti cD]
  exact decide_eq_true h.gt
 | k+1,i,hi=>by
  have nH:i < l.length:=by omega
  have hlen:=hl.len
  have hb:=hl.row i
  have hx:=II hn h.rb
  refine aK.succ (fun N g=>k9.eq_2 ..) (aK.aG (dec_lt nH) (aK.if (mQ nH) ?_))
  rw [an,bh (by omega)]
  refine aK.bind (xi hb.lb hx (by rw [bG];exact ok.co i nH)) (aK.bind (((JU hb.lb hx).rq (by decide)).PV (by decide)) ?_)
  rw [yR,VL ok nH]
  exact aK.bg (decide_eq_false (Rat.not_lt.2 (h.le i nH))) (Tk hl ok cD hq hn h k (i+1) (by omega))
end
theorem Tl:Gv (fun N=>iL N aa.d aa.d) true:=GH _ (by decide) (by decide)
theorem z8 (ab:List aa) (l:List aH) (h0:wL aa.wf ab) (h1:wL aH.wf l):∃ N,gP N ab l=some true:=by
 refine Gv.ex ?_
 have awk:Gv (fun N=>(kY N).bind fun r=>some r) true:=Gv.bind yQ (Gv.pure _)
 unfold gP
 rcases JV (p:=⟨((ab.length:Nat):Int),l⟩) ⟨⟨show -9223372036854775808≤((ab.length:Nat):Int) by omega,show ((ab.length:Nat):Int)≤9223372036854775807 by have:=h0.1;omega⟩,h1⟩ with w | ⟨w,hl,hsm⟩
 ·exact Gv.bind w (Gv.bind (Gv.bg rfl (Gv.pure false)) (Gv.aG rfl awk))
 refine Gv.bind w ?_
 rcases HL (l:=ab) h0.2 (most:=20) (by omega) with w | ⟨w,w1,w2⟩
 ·exact Gv.bind (Gv.aG rfl w) (Gv.aG rfl awk)
 have hq:LB ab 12:=⟨by omega,w2⟩
 refine Gv.bind (Gv.aG rfl w) (Gv.bg rfl ?_)
 simp only at hl hsm
 by_cases hc:fO ((ab.length:Nat):Int) l=0
 ·obtain ⟨h4,h7⟩:=hsm hc
  have h4:ab.length≤4:=by omega
  have ok:=(Nl hc).2
  rw [an] at ok
  have e0:(fO ((ab.length:Nat):Int) l != 0)=false:=by rw [hc];rfl
  rcases LS (n:=ab.length) h4 hl h7 hc rfl hq with ⟨y,g1,g2⟩ | ⟨d,⟨x,g0⟩,g1,g2⟩ | ⟨x,y,v,g1,g2⟩
  ·refine Gv.bind g2 (Gv.bind (oH _ _) (Gv.bg e0 (Gv.bg rfl (Gv.aG rfl ?_))))
   have e1:cond (((([]:List aa).length:Nat):Int) == 0) ((((LQ y l.length).length:Nat):Int) == ((l.length:Nat):Int)) false=true:=by rw [bG];simp
   have Vi:=II (f:=y) (m:=l.length) (by omega) g1.rb
   exact Gv.bind (r:=true) (Gv.aG e1 Tl) (Gv.bind (r:=true) (Gv.aG (by rw [e1];rfl) ((G1 hl Vi (by omega) (bG _ _)).eq (LR g1))) (Gv.bind (r:=true) (Gv.aG (by rw [e1];rfl) yQ) ((Gv.pure _).eq (by rw [e1];rfl))))
  ·refine Gv.bind g2 (Gv.bind (oH _ _) (Gv.bg e0 (Gv.bg rfl (Gv.bg rfl (Gv.aG rfl ?_)))))
   have hF:Gv (fun N=>kW N ((ab.length:Nat):Int) l) (LQ x ab.length,[],0)∨∃ x',X8 ab.length l x'∧Gv (fun N=>kW N ((ab.length:Nat):Int) l) (LQ x' ab.length,[],0):=by
    rcases LP h4 hl h7 hc with ⟨y,q1,_⟩ | ⟨x',q1,q2⟩
    ·exfalso
     -- a point and multipliers
     have s1:bR l.length (fun i=>y i * bq.ji ab.length (cf l) x i)=0:=by
      unfold bq.ji
      rw [aE (g:=fun i=>bR ab.length fun j=>y i * (cf l i j * x j)) fun i _=>by rw [iW],Iy,aE (g:=fun _=>0) fun j hj=>by
       rw [aE (g:=fun i=>x j * (y i * cf l i j)) fun i _=>by grind,iW,q1.col j hj];grind]
      exact ik _
     have s2:∀ m,m≤l.length→bR m (fun i=>y i * bq.ji ab.length (cf l) x i)≤bR m fun i=>y i * bv l i:=fun m=>by
      induction m with
      | zero=>intro _;exact Rat.le_refl
      | succ m ih =>
       intro hm
       have h1:=ih (by omega)
       have h2:=Rat.mul_le_mul_of_nonneg_left (g0.ok m (by omega)) (q1.nn m (by omega))
       rw [bR,bR];grind
     have:=s2 l.length (aR _)
     have:=q1.neg
     grind
    ·exact .inr ⟨x',q1,q2⟩
   obtain ⟨x',g0',hF⟩:∃ x',X8 ab.length l x'∧Gv (fun N=>kW N ((ab.length:Nat):Int) l) (LQ x' ab.length,[],0):=hF.elim (fun h=>⟨x,g0,h⟩) id
   have Vi:=II (f:=x') (m:=ab.length) (by omega) g0'.rb
   have e1:cond ((0:Int) == 0) ((((LQ x' ab.length).length:Nat):Int) == ((ab.length:Nat):Int)) false=true:=by rw [bG];simp
   have e2:((((LQ d ab.length).length:Nat):Int) == ((ab.length:Nat):Int))=true:=by rw [bG];simp
   have hR:Gv (fun N=>zH N ab l (LQ d ab.length)) true:=(Tk hl ok rfl hq (by omega) g1 l.length 0 (by omega)).diag
   refine Gv.bind hF (Gv.bind (r:=true) (Gv.aG e1 ((LG hl Vi (fun i hi=>by rw [bG];exact ok.co i hi)).eq (by rw [IJ ok g0'];rfl))) ?_)
   dsimp only
   rw [e1,e2]
   exact Gv.bind (r:=true) (Gv.aG rfl Tl) (Gv.bind (r:=true) (Gv.aG rfl hR) (Gv.bind (r:=true) (Gv.aG rfl yQ) ((Gv.pure _).eq rfl)))
  ·refine Gv.bind g2 (Gv.bind (oH _ _) (Gv.bg e0 (Gv.aG rfl ?_)))
   have hx:=II (f:=x) (m:=ab.length) (by omega) g1.poi.rb
   have hy:=II (f:=y) (m:=l.length) (by omega) g1.rb
   have e1:cond ((((LQ x ab.length).length:Nat):Int) == ((ab.length:Nat):Int)) ((((LQ y l.length).length:Nat):Int) == ((l.length:Nat):Int)) false=true:=by rw [bG,bG];simp
   have hP:Gv (fun N=>sN N ab l ⟨bj v,LQ x ab.length,LQ y l.length⟩) true :=
    ((B9 hl hy ok.adO (bG _ _)).bind (IH (b:=⟨bj v,LQ x ab.length,LQ y l.length⟩) hl ok hq hx hy (P1 g1) (bG _ _) ab.length 0 (by omega)).diag).eq (Tj ok rfl g1)
   have hN:Gv (fun N=>fM N (bj v)) (bj v):=(g1.rv.rq (by decide)).GJ (by decide)
   refine Gv.bind (r:=true) (Gv.aG e1 hP) ?_
   dsimp only
   rw [e1]
   exact Gv.bind (Gv.aG rfl hN) (Gv.bind (r:=true) (Gv.aG rfl (GI g1.rv (by decide))) (Gv.bind (r:=true) (Gv.aG rfl yQ) ((Gv.pure _).eq rfl)))
 ·have e0:(fO ((ab.length:Nat):Int) l != 0)=true:=by simpa using hc
  have hM:Gv (fun N=>kZ N ab l) (⟨aa.d,[],[]⟩,fO ((ab.length:Nat):Int) l):=(sY _ _).bind (Gv.aG e0 (Gv.pure _))
  have e2:((aq ((((([]:List aa).length:Nat):Int))+(((([]:List aa).length:Nat):Int)))) == 0)=true:=by decide
  have e3:(fO ((ab.length:Nat):Int) l == fO ((ab.length:Nat):Int) l)=true:=by simp
  refine Gv.bind hM (Gv.bind (oH _ _) (Gv.aG e0 (Gv.bind (r:=true) (Gv.aG e2 Tl) ?_)))
  dsimp only
  rw [e2,e3]
  exact Gv.bind (r:=true) (Gv.aG rfl yQ) ((Gv.pure _).eq rfl)
end Go.Den
