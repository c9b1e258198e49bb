/- The plain law: the Lean function of the law returns true for every input, and what it needs. No conditions. -/
import Derived.Test.YtakkcneiophofaaGreatExactIrreduciblePk
set_option linter.unusedVariables false
set_option linter.unusedSimpArgs false
namespace Go.Den
open Go.Ab
theorem msm {a:Nat} (h:a≤MS+MS+1):SM (2 * a+2):=by simp only [SM,MS] at *;omega
theorem MatR.at {A:List (List TRat)} {n w:Nat} {M:Nat→Nat→Rat} (h:MatR A n w M) {i j:Nat} (hi:i < n) (hj:j < w):RQ ((A.getD i []).getD j TRat.d) (M i j) MS:=h.ent i j hi hj
theorem inl {m n k:Nat} (h:m < n) (e:k=n):0≤(m:Int)∧(m:Int) < ((k:Nat):Int):=⟨by omega,by omega⟩
theorem dlt {m n k:Nat} (h:m < n) (e:k=n):decide ((m:Int) < ((k:Nat):Int))=true:=by simp;omega
theorem dnl {m n k:Nat} (h:n≤m) (e:k=n):decide ((m:Int) < ((k:Nat):Int))=false:=by simp;omega
section
variable {A:List (List TRat)} {n w c:Nat} {M:Nat→Nat→Rat}
end
end Go.Den
namespace Go.Den
open Go.Ab
def sumN:Nat→(Nat→Rat)→Rat
 | 0,_=>0
 | n+1,f=>sumN n f+f n
theorem sumN_congr {n:Nat} {f g:Nat→Rat} (h:∀ i,i < n→f i=g i):sumN n f=sumN n g:=by
 induction n with
 | zero=>rfl
 | succ n ih=>rw [sumN,sumN,ih fun i hi=>h i (by omega),h n (by omega)]
theorem sumN_add (n:Nat) (f g:Nat→Rat):sumN n (fun i=>f i+g i)=sumN n f+sumN n g:=by
 induction n with
 | zero=>show (0:Rat)=0+0;grind
 | succ n ih=>rw [sumN,sumN,sumN,ih];grind
theorem sumN_mul (n:Nat) (c:Rat) (f:Nat→Rat):sumN n (fun i=>c * f i)=c * sumN n f:=by
 induction n with
 | zero=>show (0:Rat)=c * 0;grind
 | succ n ih=>rw [sumN,sumN,ih];grind
theorem sumN_zero (n:Nat):sumN n (fun _=>0)=0:=by
 induction n with
 | zero=>rfl
 | succ n ih=>rw [sumN,ih];grind
theorem sumN_one {n j:Nat} (hj:j < n) (f:Nat→Rat) (h:∀ i,i < n→i≠j→f i=0):sumN n f=f j:=by
 induction n with
 | zero=>omega
 | succ n ih =>
  rw [sumN]
  by_cases e:j=n
  ·subst e
   rw [sumN_congr (g:=fun _=>0) fun i hi=>h i (by omega) (by omega),sumN_zero];grind
  ·rw [ih (by omega) fun i hi hne=>h i (by omega) hne,h n (by omega) (by omega)];grind
theorem sumN_split {n j:Nat} (hj:j < n) (f:Nat→Rat):sumN n f=f j+sumN n (fun i=>if i=j then 0 else f i):=by
 have e:sumN n f=sumN n (fun i=>(if i=j then f j else 0)+(if i=j then 0 else f i)):=sumN_congr fun i _=>by
  split
  ·rename_i h;subst h;grind
  ·grind
 rw [e,sumN_add,sumN_one hj (fun i=>if i=j then f j else 0) fun i _ h=>if_neg h,if_pos rfl]
structure Dic where
 bas:Nat→Nat
 fr:Nat→Nat
 a:Nat→Nat→Rat
 b:Nat→Rat
 g:Nat→Rat
 v:Rat
namespace Dic
def row (D:Dic) (k:Nat) (x:Nat→Rat) (i:Nat):Rat:=D.b i+sumN k fun j=>D.a i j * x (D.fr j)
def Sol (D:Dic) (m k:Nat) (x:Nat→Rat):Prop:=∀ i,i < m→x (D.bas i)=D.row k x i
def gv (D:Dic) (k:Nat) (x:Nat→Rat):Rat:=D.v+sumN k fun j=>D.g j * x (D.fr j)
structure WF (D:Dic) (m k:Nat):Prop where
 bi:∀ i i',i < m→i' < m→D.bas i=D.bas i'→i=i'
 fi:∀ j j',j < k→j' < k→D.fr j=D.fr j'→j=j'
 bf:∀ i j,i < m→j < k→D.bas i≠D.fr j
 bl:∀ i,i < m→D.bas i < m+k
 fl:∀ j,j < k→D.fr j < m+k
 al:∀ u,u < m+k→(∃ i,i < m∧D.bas i=u)∨∃ j,j < k∧D.fr j=u
def prow (D:Dic) (i j k:Nat):Rat:=if k=j then 1 / D.a i j else -(D.a i k / D.a i j)
def pb (D:Dic) (i j:Nat):Rat:=-(D.b i / D.a i j)
def piv (D:Dic) (i j:Nat):Dic where
 bas:=fun r=>if r=i then D.fr j else D.bas r
 fr:=fun c=>if c=j then D.bas i else D.fr c
 a:=fun r c=>if r=i then D.prow i j c else if c=j then D.a r j * D.prow i j c else D.a r c+D.a r j * D.prow i j c
 b:=fun r=>if r=i then D.pb i j else D.b r+D.a r j * D.pb i j
 g:=fun c=>if c=j then D.g j * D.prow i j c else D.g c+D.g j * D.prow i j c
 v:=D.v+D.g j * D.pb i j
theorem WF.piv {D:Dic} {m k i j:Nat} (h:D.WF m k) (hi:i < m) (hj:j < k):(D.piv i j).WF m k:=by
 refine ⟨fun r r' hr hr' e=>?_,fun c c' hc hc' e=>?_,fun r c hr hc e=>?_,fun r hr=>?_,fun c hc=>?_,fun u hu=>?_⟩
 ·simp only [Dic.piv] at e
  split at e<;>split at e
  ·omega
  ·exact absurd e.symm (h.bf _ _ hr' hj)
  ·exact absurd e (h.bf _ _ hr hj)
  ·exact h.bi _ _ hr hr' e
 ·simp only [Dic.piv] at e
  split at e<;>split at e
  ·omega
  ·exact absurd e (h.bf _ _ hi hc')
  ·exact absurd e.symm (h.bf _ _ hi hc)
  ·exact h.fi _ _ hc hc' e
 ·simp only [Dic.piv] at e
  split at e<;>split at e
  ·exact h.bf _ _ hi hj e.symm
  ·rename_i h1 h2;exact h2 (h.fi _ _ hc hj e.symm)
  ·rename_i h1 h2;exact h1 (h.bi _ _ hr hi e)
  ·exact h.bf _ _ hr hc e
 ·simp only [Dic.piv];split
  ·exact h.fl j hj
  ·exact h.bl r hr
 ·simp only [Dic.piv];split
  ·exact h.bl i hi
  ·exact h.fl c hc
 ·rcases h.al u hu with ⟨r,hr,e⟩ | ⟨c,hc,e⟩
  ·by_cases q:r=i
   ·subst q;exact .inr ⟨j,hj,by simp only [Dic.piv,if_pos];exact e⟩
   ·exact .inl ⟨r,hr,by simp only [Dic.piv,if_neg q];exact e⟩
  ·by_cases q:c=j
   ·subst q;exact .inl ⟨i,hi,by simp only [Dic.piv,if_pos];exact e⟩
   ·exact .inr ⟨c,hc,by simp only [Dic.piv,if_neg q];exact e⟩
theorem piv_sum {D:Dic} {k i j:Nat} (hj:j < k) (h0:D.a i j≠0) {x:Nat→Rat} (hs:x (D.bas i)=D.row k x i∨x (D.fr j)=(D.piv i j).row k x i) :
  x (D.fr j)=D.pb i j+sumN k fun c=>D.prow i j c * x ((D.piv i j).fr c):=by
 rcases hs with hs | hs
 ·rw [sumN_split hj]
  have e1:(fun c=>if c=j then (0:Rat) else D.prow i j c * x ((D.piv i j).fr c))=fun c=>(-(1 / D.a i j)) * (if c=j then 0 else D.a i c * x (D.fr c)):=by
   funext c
   by_cases q:c=j
   ·simp only [q,if_true];grind
   ·simp only [Dic.prow,Dic.piv,q,if_false];grind
  rw [e1,sumN_mul]
  unfold Dic.row at hs
  rw [sumN_split hj] at hs
  simp only [Dic.prow,Dic.piv,if_true,Dic.pb]
  rw [hs]
  grind
 ·rw [hs]
  simp only [Dic.row,Dic.piv,if_true]
theorem piv_term {D:Dic} {k i j:Nat} (hj:j < k) (f:Nat→Rat) {x:Nat→Rat} {p:Rat} (hx:x (D.fr j)=p+sumN k fun c=>D.prow i j c * x ((D.piv i j).fr c)) :
  (f j * p+sumN k fun c=>(if c=j then f j * D.prow i j c else f c+f j * D.prow i j c) * x ((D.piv i j).fr c))=sumN k fun c=>f c * x (D.fr c):=by
 have e1:sumN k (fun c=>(if c=j then f j * D.prow i j c else f c+f j * D.prow i j c) * x ((D.piv i j).fr c))=sumN k (fun c=>(if c=j then 0 else f c * x (D.fr c))+f j * (D.prow i j c * x ((D.piv i j).fr c))):=sumN_congr fun c _=>by
  by_cases q:c=j
  ·simp only [q,if_true];grind
  ·simp only [q,if_false,Dic.piv];grind
 rw [e1,sumN_add,sumN_mul,sumN_split hj (fun c=>f c * x (D.fr c)),hx]
 grind
theorem Sol.piv {D:Dic} {m k i j:Nat} (hi:i < m) (hj:j < k) (h0:D.a i j≠0) {x:Nat→Rat}:(D.piv i j).Sol m k x↔D.Sol m k x:=by
 have key:∀ r,r≠i→x (D.fr j)=D.pb i j+sumN k (fun c=>D.prow i j c * x ((D.piv i j).fr c))→(D.piv i j).row k x r=D.row k x r:=fun r hr hx=>by
  have e:=piv_term hj (fun c=>D.a r c) hx
  simp only [Dic.row]
  rw [← e]
  simp only [Dic.piv,hr,if_false]
  grind
 constructor
 ·intro h r hr
  have h1:=h i hi
  have h2:x (D.fr j)=(D.piv i j).row k x i:=by rw [← h1];simp [Dic.piv]
  have hx:=piv_sum hj h0 (.inr h2)
  by_cases q:r=i
  ·subst q
   -- solve for the basic variable
   have e:=hx
   rw [sumN_split hj] at e
   have e1:(fun c=>if c=j then (0:Rat) else D.prow r j c * x ((D.piv r j).fr c))=fun c=>(-(1 / D.a r j)) * (if c=j then 0 else D.a r c * x (D.fr c)):=by
    funext c
    by_cases q:c=j
    ·simp only [q,if_true];grind
    ·simp only [Dic.prow,Dic.piv,q,if_false];grind
   rw [e1,sumN_mul] at e
   simp only [Dic.prow,Dic.piv,if_true,Dic.pb] at e
   unfold Dic.row
   rw [sumN_split hj]
   grind
  ·have h3:=h r hr
   rw [key r q hx] at h3
   rw [← h3]
   simp [Dic.piv,q]
 ·intro h r hr
  have hx:=piv_sum hj h0 (.inl (h i hi))
  by_cases q:r=i
  ·subst q
   simp only [Dic.row,Dic.piv,if_true]
   exact hx
  ·rw [key r q hx,← h r hr]
   simp [Dic.piv,q]
theorem gv_piv {D:Dic} {m k i j:Nat} (hi:i < m) (hj:j < k) (h0:D.a i j≠0) {x:Nat→Rat} (hs:D.Sol m k x):(D.piv i j).gv k x=D.gv k x:=by
 have hx:=piv_sum hj h0 (.inl (hs i hi))
 have e:=piv_term hj D.g hx
 simp only [Dic.gv]
 rw [← e]
 simp only [Dic.piv]
 grind
def rix (D:Dic):Nat→Nat→Option Nat
 | 0,_=>none
 | m+1,u=>if D.bas m=u then some m else rix D m u
theorem rix_bas {D:Dic}:∀ {m i:Nat},(∀ i i',i < m→i' < m→D.bas i=D.bas i'→i=i')→i < m→D.rix m (D.bas i)=some i
 | 0,i,_,hi=>by omega
 | m+1,i,h,hi=>by
  rw [rix]
  by_cases e:D.bas m=D.bas i
  ·rw [if_pos e,h m i (by omega) hi e]
  ·rw [if_neg e]
   exact rix_bas (fun i i' h1 h2=>h i i' (by omega) (by omega)) (Nat.lt_of_le_of_ne (by omega) fun q=>e (by rw [q]))
theorem rix_none {D:Dic} {u:Nat}:∀ {m:Nat},(∀ i,i < m→D.bas i≠u)→D.rix m u=none
 | 0,_=>rfl
 | m+1,h=>by rw [rix,if_neg (h m (by omega))];exact rix_none fun i hi=>h i (by omega)
def ext (D:Dic) (m k:Nat) (y:Nat→Rat) (u:Nat):Rat:=match D.rix m u with
 | some i=>D.row k y i
 | none=>y u
theorem ext_bas {D:Dic} {m k i:Nat} (h:D.WF m k) (hi:i < m) (y:Nat→Rat):D.ext m k y (D.bas i)=D.row k y i:=by unfold ext;rw [rix_bas h.bi hi]
theorem ext_fr {D:Dic} {m k j:Nat} (h:D.WF m k) (hj:j < k) (y:Nat→Rat):D.ext m k y (D.fr j)=y (D.fr j):=by
 unfold ext;rw [rix_none fun i hi=>h.bf i j hi hj]
theorem ext_sol {D:Dic} {m k:Nat} (h:D.WF m k) (y:Nat→Rat):D.Sol m k (D.ext m k y):=fun i hi=>by
 rw [ext_bas h hi]
 unfold Dic.row
 congr 1
 exact sumN_congr fun j hj=>by rw [ext_fr h hj]
theorem ext_gv {D:Dic} {m k:Nat} (h:D.WF m k) (y:Nat→Rat):D.gv k (D.ext m k y)=D.gv k y:=by
 unfold Dic.gv
 congr 1
 exact sumN_congr fun j hj=>by rw [ext_fr h hj]
def one (u:Nat):Nat→Rat:=fun w=>if w=u then 1 else 0
def zer:Nat→Rat:=fun _=>0
theorem row_zer (D:Dic) (k i:Nat):D.row k zer i=D.b i:=by
 unfold row zer
 rw [sumN_congr (g:=fun _=>0) fun j _=>by grind,sumN_zero];grind
theorem row_one {D:Dic} {m k j:Nat} (h:D.WF m k) (hj:j < k) (i:Nat):D.row k (one (D.fr j)) i=D.b i+D.a i j:=by
 unfold row one
 rw [sumN_one hj _ fun c hc hne=>by rw [if_neg fun e=>hne (h.fi _ _ hc hj e)];grind]
 rw [if_pos rfl];grind
theorem gv_zer (D:Dic) (k:Nat):D.gv k zer=D.v:=by
 unfold gv zer
 rw [sumN_congr (g:=fun _=>0) fun j _=>by grind,sumN_zero];grind
theorem gv_one {D:Dic} {m k j:Nat} (h:D.WF m k) (hj:j < k):D.gv k (one (D.fr j))=D.v+D.g j:=by
 unfold gv one
 rw [sumN_one hj _ fun c hc hne=>by rw [if_neg fun e=>hne (h.fi _ _ hc hj e)];grind]
 rw [if_pos rfl];grind
structure Eqv (m k:Nat) (D D':Dic):Prop where
 sol:∀ x,D.Sol m k x↔D'.Sol m k x
 gv:∀ x,D.Sol m k x→D.gv k x=D'.gv k x
theorem Eqv.refl (m k:Nat) (D:Dic):Eqv m k D D:=⟨fun _=>Iff.rfl,fun _ _=>rfl⟩
theorem Eqv.symm {m k:Nat} {D D':Dic} (h:Eqv m k D D'):Eqv m k D' D:=⟨fun x=>(h.sol x).symm,fun x hx=>(h.gv x ((h.sol x).2 hx)).symm⟩
theorem Eqv.trans {m k:Nat} {D D' D'':Dic} (h:Eqv m k D D') (h':Eqv m k D' D''):Eqv m k D D'' :=
 ⟨fun x=>(h.sol x).trans (h'.sol x),fun x hx=>(h.gv x hx).trans (h'.gv x ((h.sol x).1 hx))⟩
theorem Eqv.piv {m k i j:Nat} {D:Dic} (hi:i < m) (hj:j < k) (h0:D.a i j≠0):Eqv m k D (D.piv i j) :=
 ⟨fun _=>(Sol.piv hi hj h0).symm,fun _ hx=>(gv_piv hi hj h0 hx).symm⟩
def isB (D:Dic) (m u:Nat):Prop:=∃ i,i < m∧D.bas i=u
theorem notB_fr {D:Dic} {m k:Nat} (h:D.WF m k) {u:Nat} (hu:u < m+k) (hn:¬ D.isB m u):∃ j,j < k∧D.fr j=u:=(h.al u hu).resolve_left hn
theorem sol_free {D:Dic} {m k:Nat} {x y:Nat→Rat} (hx:D.Sol m k x) (hf:∀ j,j < k→x (D.fr j)=y (D.fr j)) {i:Nat} (hi:i < m):x (D.bas i)=D.row k y i:=by
 rw [hx i hi];unfold row;congr 1
 exact sumN_congr fun j hj=>by rw [hf j hj]
theorem uniq {D D':Dic} {m k:Nat} (h:D.WF m k) (h':D'.WF m k) (e:Eqv m k D D') (hb:∀ u,D.isB m u→D'.isB m u) :
  (∀ i i',i < m→i' < m→D.bas i=D'.bas i'→D.b i=D'.b i')∧(∀ i j i' j',i < m→i' < m→j < k→j' < k→D.bas i=D'.bas i'→D.fr j=D'.fr j'→D.a i j=D'.a i' j') ∧
   (∀ j j',j < k→j' < k→D.fr j=D'.fr j'→D.g j=D'.g j')∧D.v=D'.v:=by
 have hf:∀ j',j' < k→∃ j,j < k∧D.fr j=D'.fr j':=fun j' hj'=>notB_fr h (h'.fl j' hj') fun q=>by
  obtain ⟨i,hi,e⟩:=hb _ q
  exact h'.bf i j' hi hj' e
 have key:∀ y,(∀ i i',i < m→i' < m→D.bas i=D'.bas i'→D.row k y i=D'.row k y i')∧D.gv k y=D'.gv k y:=fun y=>by
  have hs:=ext_sol h y
  have hs':=(e.sol _).1 hs
  have hfr:∀ j',j' < k→D.ext m k y (D'.fr j')=y (D'.fr j'):=fun j' hj'=>by
   obtain ⟨j,hj,q⟩:=hf j' hj'
   rw [← q,ext_fr h hj]
  refine ⟨fun i i' hi hi' q=>?_,?_⟩
  ·rw [← ext_bas h hi y,q]
   exact sol_free hs' hfr hi'
  ·rw [← ext_gv h y,e.gv _ hs]
   unfold gv;congr 1
   exact sumN_congr fun j hj=>by rw [hfr j hj]
 have hb0:∀ i i',i < m→i' < m→D.bas i=D'.bas i'→D.b i=D'.b i':=fun i i' hi hi' q=>by
  have:=(key zer).1 i i' hi hi' q
  rwa [row_zer,row_zer] at this
 have hv:D.v=D'.v:=by have:=(key zer).2;rwa [gv_zer,gv_zer] at this
 refine ⟨hb0,fun i j i' j' hi hi' hj hj' q1 q2=>?_,fun j j' hj hj' q=>?_,hv⟩
 ·have:=(key (one (D.fr j))).1 i i' hi hi' q1
  rw [row_one h hj,q2,row_one h' hj',hb0 i i' hi hi' q1] at this
  grind
 ·have:=(key (one (D.fr j))).2
  rw [gv_one h hj,q,gv_one h' hj',hv] at this
  grind
end Dic
end Go.Den
namespace Go.Den
open Go.Ab
namespace Dic
structure IsEnter (D:Dic) (k j:Nat):Prop where
 lt:j < k
 pos:0 < D.g j
 min:∀ j',j' < k→0 < D.g j'→D.fr j≤D.fr j'
def ratio (D:Dic) (j i:Nat):Rat:=D.b i / -(D.a i j)
structure IsLeave (D:Dic) (m j i:Nat):Prop where
 lt:i < m
 neg:D.a i j < 0
 min:∀ i',i' < m→D.a i' j < 0→D.ratio j i < D.ratio j i'∨D.ratio j i=D.ratio j i'∧D.bas i≤D.bas i'
def Fea (D:Dic) (m:Nat):Prop:=∀ i,i < m→0≤D.b i
def Step (m k:Nat) (D D':Dic):Prop:=∃ j i,D.IsEnter k j∧D.IsLeave m j i∧D'=D.piv i j
theorem div_le_mul {x y a:Rat} (ha:0 < a) (h:x≤y / a):x * a≤y:=by
 have e:y / a * a=y:=by grind
 have:=Rat.mul_le_mul_of_nonneg_right h (Rat.le_of_lt ha)
 rwa [e] at this
theorem nonneg_div {x a:Rat} (ha:0 < a) (h:0≤x):0≤x / a:=by
 rw [Rat.div_def]
 exact Rat.mul_nonneg h (Rat.le_of_lt (Rat.inv_pos.2 ha))
theorem pb_ratio (D:Dic) (i j:Nat):D.pb i j=D.ratio j i:=by
 unfold pb ratio
 by_cases h:D.a i j=0
 ·rw [h];simp [Rat.div_def]
 ·have:-(D.a i j)≠0:=by grind
  grind
theorem Fea.ratio {D:Dic} {m i j:Nat} (h:D.Fea m) (hi:i < m) (hn:D.a i j < 0):0≤D.ratio j i:=nonneg_div (by grind) (h i hi)
theorem IsLeave.le {D:Dic} {m j i r:Nat} (h:D.IsLeave m j i) (hr:r < m) (hn:D.a r j < 0):D.ratio j i≤D.ratio j r:=by
 rcases h.min r hr hn with h1 | ⟨h1,_⟩
 ·exact Rat.le_of_lt h1
 ·rw [h1];exact Rat.le_refl
theorem Fea.piv {D:Dic} {m i j:Nat} (h:D.Fea m) (hl:D.IsLeave m j i):(D.piv i j).Fea m:=fun r hr=>by
 have h0:=h.ratio hl.lt hl.neg
 simp only [Dic.piv,pb_ratio]
 split
 ·exact h0
 ·by_cases hn:D.a r j < 0
  ·have h1:=div_le_mul (a:=-(D.a r j)) (by grind) (hl.le hr hn)
   have:=h r hr
   grind
  ·have h1:=Rat.mul_nonneg (Rat.not_lt.1 hn) h0
   have:=h r hr
   grind
theorem isB_piv {D:Dic} {m k i j u:Nat} (h:D.WF m k) (hi:i < m):(D.piv i j).isB m u↔(D.isB m u∧u≠D.bas i)∨u=D.fr j:=by
 constructor
 ·rintro ⟨r,hr,e⟩
  simp only [Dic.piv] at e
  split at e
  ·exact .inr e.symm
  ·rename_i hn
   exact .inl ⟨⟨r,hr,e⟩,fun q=>hn (h.bi _ _ hr hi (e.trans q))⟩
 ·rintro (⟨⟨r,hr,e⟩,hn⟩ | e)
  ·exact ⟨r,hr,by simp only [Dic.piv];rw [if_neg fun q=>hn (by rw [← e,q])];exact e⟩
  ·exact ⟨i,hi,by simp only [Dic.piv,if_pos];exact e.symm⟩
theorem pigeon:∀ (M:Nat) (f:Nat→Nat),(∀ i,f i < M)→∃ i j,i < j∧f i=f j
 | 0,f,h=>absurd (h 0) (Nat.not_lt_zero _)
 | M+1,f,h=>by
  by_cases hM:∃ N,∀ i,N≤i→f i≠M
  ·obtain ⟨N,hN⟩:=hM
   obtain ⟨i,j,h1,h2⟩:=pigeon M (fun i=>f (i+N)) fun i=>by
    have:=h (i+N);have:=hN (i+N) (by omega);omega
   exact ⟨i+N,j+N,by omega,h2⟩
  ·have hM:∀ N,∃ i,N≤i∧f i=M:=fun N=>Classical.byContradiction fun q=>hM ⟨N,fun i hi e=>q ⟨i,hi,e⟩⟩
   obtain ⟨i,_,h1⟩:=hM 0
   obtain ⟨j,h2,h3⟩:=hM (i+1)
   exact ⟨i,j,by omega,h1.trans h3.symm⟩
open Classical in
noncomputable def enc (p:Nat→Prop):Nat→Nat
 | 0=>0
 | n+1=>2 * enc p n+if p n then 1 else 0
theorem enc_lt (p:Nat→Prop):∀ n,enc p n < 2 ^ n
 | 0=>by simp [enc]
 | n+1=>by
  have:=enc_lt p n
  rw [enc,Nat.pow_succ]
  split<;>omega
theorem enc_inj {p q:Nat→Prop}:∀ {n:Nat},enc p n=enc q n→∀ u,u < n→(p u↔q u)
 | 0,_,u,hu=>by omega
 | n+1,h,u,hu=>by
  rw [enc,enc] at h
  by_cases e:u=n
  ·subst e
   by_cases h1:p u<;>by_cases h2:q u<;>simp only [h1,h2,if_true,if_false] at h ⊢<;>omega
  ·refine enc_inj (n:=n) ?_ u (by omega)
   split at h<;>split at h<;>omega
theorem max_of {f:Nat→Nat} {a:Nat}:∀ n,∃ x,a≤x∧x≤a+n∧∀ y,a≤y→y≤a+n→f y≤f x
 | 0=>⟨a,Nat.le_refl _,Nat.le_refl _,fun y h1 h2=>by rw [show y=a by omega];exact Nat.le_refl _⟩
 | n+1=>by
  obtain ⟨x,h1,h2,h3⟩:=max_of (f:=f) (a:=a) n
  by_cases h:f x≤f (a+(n+1))
  ·refine ⟨a+(n+1),by omega,Nat.le_refl _,fun y q1 q2=>?_⟩
   by_cases e:y=a+(n+1)
   ·rw [e];exact Nat.le_refl _
   ·exact Nat.le_trans (h3 y q1 (by omega)) h
  ·refine ⟨x,h1,by omega,fun y q1 q2=>?_⟩
   by_cases e:y=a+(n+1)
   ·rw [e];omega
   ·exact h3 y q1 (by omega)
theorem pos_term:∀ {n:Nat} {f:Nat→Rat},0 < sumN n f→∃ j,j < n∧0 < f j
 | 0,f,h=>by simp only [sumN] at h;exact absurd h (by decide)
 | n+1,f,h=>by
  by_cases h1:0 < f n
  ·exact ⟨n,by omega,h1⟩
  ·rw [sumN] at h
   obtain ⟨j,hj,h2⟩:=pos_term (n:=n) (f:=f) (by grind)
   exact ⟨j,by omega,h2⟩
theorem no_endless {m k:Nat} {s:Nat→Dic} (hw:(s 0).WF m k) (hf:(s 0).Fea m) (hs:∀ n,Step m k (s n) (s (n+1))):False:=by
 obtain ⟨J,hJ⟩:=Classical.axiomOfChoice hs
 obtain ⟨I,st⟩:=Classical.axiomOfChoice hJ
 clear hJ hs
 have h0:∀ n,(s n).a (I n) (J n)≠0:=fun n=>by have:=(st n).2.1.neg;grind
 have hwf:∀ n,(s n).WF m k:=fun n=>by
  induction n with
  | zero=>exact hw
  | succ n ih=>rw [(st n).2.2];exact ih.piv (st n).2.1.lt (st n).1.lt
 have hfe:∀ n,(s n).Fea m:=fun n=>by
  induction n with
  | zero=>exact hf
  | succ n ih=>rw [(st n).2.2];exact ih.piv (st n).2.1
 have he:∀ n,Eqv m k (s 0) (s n):=fun n=>by
  induction n with
  | zero=>exact .refl _ _ _
  | succ n ih=>rw [(st n).2.2];exact ih.trans (.piv (st n).2.1.lt (st n).1.lt (h0 n))
 have hee:∀ a b,Eqv m k (s a) (s b):=fun a b=>(he a).symm.trans (he b)
 have hB:∀ n u,(s (n+1)).isB m u↔((s n).isB m u∧u≠(s n).bas (I n))∨u=(s n).fr (J n):=fun n u=>by
  rw [(st n).2.2];exact isB_piv (hwf n) (st n).2.1.lt
 have notB:∀ n j,j < k→¬ (s n).isB m ((s n).fr j):=fun n j hj ⟨i,hi,e⟩=>(hwf n).bf i j hi hj e
 -- a basis comes again
 obtain ⟨A,B,hAB,hen⟩:=pigeon (2 ^ (m+k)) (fun n=>enc (fun u=>(s n).isB m u) (m+k)) fun n=>enc_lt _ _
 have hbs:∀ u,(s A).isB m u→(s B).isB m u:=fun u hu=>by
  obtain ⟨i,hi,e⟩:=id hu
  exact (enc_inj hen u (e ▸ (hwf A).bl i hi)).1 hu
 have hbs':∀ u,(s B).isB m u→(s A).isB m u:=fun u hu=>by
  obtain ⟨i,hi,e⟩:=id hu
  exact (enc_inj hen u (e ▸ (hwf B).bl i hi)).2 hu
 have hv:(s A).v=(s B).v:=(uniq (hwf A) (hwf B) (hee A B) hbs).2.2.2
 have hpb:∀ n,0≤(s n).ratio (J n) (I n):=fun n=>(hfe n).ratio (st n).2.1.lt (st n).2.1.neg
 have hvs:∀ n,(s (n+1)).v=(s n).v+(s n).g (J n) * (s n).ratio (J n) (I n):=fun n=>by rw [(st n).2.2,← pb_ratio];rfl
 have hmono:∀ n,(s n).v≤(s (n+1)).v:=fun n=>by
  have:=Rat.mul_nonneg (Rat.le_of_lt (st n).1.pos) (hpb n)
  have:=hvs n
  grind
 have hmon:∀ a d,(s a).v≤(s (a+d)).v:=fun a d=>by
  induction d with
  | zero=>exact Rat.le_refl
  | succ d ih=>exact Rat.le_trans ih (hmono _)
 have hb0:∀ n,A≤n→n < B→(s n).ratio (J n) (I n)=0:=fun n h1 h2=>by
  have e1:=hmon A (n - A)
  have e2:=hmon (n+1) (B - (n+1))
  rw [show A+(n - A)=n by omega] at e1
  rw [show n+1+(B - (n+1))=B by omega] at e2
  have e3:=hvs n
  have e4:=hpb n
  have e5:=(st n).1.pos
  have e6:(s n).g (J n) * (s n).ratio (J n) (I n)=0:=by
   have:=Rat.mul_nonneg (Rat.le_of_lt e5) e4
   grind
  rcases Rat.mul_eq_zero.1 e6 with h | h
  ·rw [h] at e5;exact absurd e5 (by decide)
  ·exact h
 have hbi:∀ n,A≤n→n < B→(s n).b (I n)=0:=fun n h1 h2=>by
  have e:=hb0 n h1 h2
  have hn:=(st n).2.1.neg
  unfold ratio at e
  have:(s n).b (I n) / -((s n).a (I n) (J n)) * -((s n).a (I n) (J n))=(s n).b (I n):=by grind
  rw [e] at this
  grind
 -- one point for all
 let x0:=(s A).ext m k zer
 have hx0:∀ n,(s n).Sol m k x0:=fun n=>((hee A n).sol _).1 (ext_sol (hwf A) zer)
 have hxf:∀ d,A+d≤B→∀ j,j < k→x0 ((s (A+d)).fr j)=0:=fun d=>by
  induction d with
  | zero=>intro _ j hj;exact ext_fr (hwf A) hj zer
  | succ d ih =>
   intro hd j hj
   have ih:=ih (by omega)
   show x0 ((s (A+d+1)).fr j)=0
   rw [(st (A+d)).2.2]
   simp only [Dic.piv]
   split
   ·rw [sol_free (y:=zer) (hx0 (A+d)) ih (st (A+d)).2.1.lt,row_zer]
    exact hbi _ (by omega) (by omega)
   ·exact ih j hj
 have hxf:∀ n,A≤n→n≤B→∀ j,j < k→x0 ((s n).fr j)=0:=fun n h1 h2=>by
  have:=hxf (n - A) (by omega)
  rwa [show A+(n - A)=n by omega] at this
 have hxb:∀ n,A≤n→n≤B→∀ i,i < m→(s n).b i=x0 ((s n).bas i):=fun n h1 h2 i hi=>by
  rw [sol_free (y:=zer) (hx0 n) (hxf n h1 h2) hi,row_zer]
 -- what stays out, what stays in
 have out:∀ a d u,¬ (s a).isB m u→(∀ n,a≤n→n < a+d→(s n).fr (J n)≠u)→¬ (s (a+d)).isB m u:=fun a d u h1=>by
  induction d with
  | zero=>intro _;exact h1
  | succ d ih =>
   intro h2 h3
   rcases (hB (a+d) u).1 h3 with ⟨h4,_⟩ | h4
   ·exact ih (fun n q1 q2=>h2 n q1 (by omega)) h4
   ·exact h2 (a+d) (by omega) (by omega) h4.symm
 have inn:∀ a d u,(s a).isB m u→(∀ n,a≤n→n < a+d→(s n).bas (I n)≠u)→(s (a+d)).isB m u:=fun a d u h1=>by
  induction d with
  | zero=>intro _;exact h1
  | succ d ih =>
   intro h2
   exact (hB (a+d) u).2 (.inl ⟨ih (fun n q1 q2=>h2 n q1 (by omega)),fun q=>h2 (a+d) (by omega) (by omega) q.symm⟩)
 -- the greatest one that comes in
 obtain ⟨q,hq1,hq2,hq3⟩:=max_of (f:=fun n=>(s n).fr (J n)) (a:=A) (B - A - 1)
 have hq2:q < B:=by omega
 have hq3:∀ n,A≤n→n < B→(s n).fr (J n)≤(s q).fr (J q):=fun n h1 h2=>hq3 n h1 (by omega)
 generalize ht:(s q).fr (J q)=t at hq3
 have htq:¬ (s q).isB m t:=ht ▸ notB q _ (st q).1.lt
 have enters:∀ u p,A≤p→p < B→(s p).isB m u→¬ (s q).isB m u→∃ n,A≤n∧n < B∧(s n).fr (J n)=u:=fun u p h1 h2 h3 h4=>Classical.byContradiction fun hne=>by
  have hne:∀ n,A≤n→n < B→(s n).fr (J n)≠u:=fun n q1 q2 e=>hne ⟨n,q1,q2,e⟩
  have e1:=out q (B - q) u h4 fun n q1 q2=>hne n (by omega) (by omega)
  rw [show q+(B - q)=B by omega] at e1
  have e2:=out A (p - A) u (fun h=>e1 (hbs u h)) fun n q1 q2=>hne n (by omega) (by omega)
  rw [show A+(p - A)=p by omega] at e2
  exact e2 h3
 obtain ⟨p,hp1,hp2,hp3⟩:∃ p,A≤p∧p < B∧(s p).bas (I p)=t:=Classical.byContradiction fun hne=>by
  have hne:∀ n,A≤n→n < B→(s n).bas (I n)≠t:=fun n q1 q2 e=>hne ⟨n,q1,q2,e⟩
  have e0:(s (q+1)).isB m t:=(hB q t).2 (.inr ht.symm)
  have e1:=inn (q+1) (B - (q+1)) t e0 fun n q1 q2=>hne n (by omega) (by omega)
  rw [show q+1+(B - (q+1))=B by omega] at e1
  have e2:=inn A (q - A) t (hbs' t e1) fun n q1 q2=>hne n (by omega) (by omega)
  rw [show A+(q - A)=q by omega] at e2
  exact htq e2
 -- the direction of the step in which it goes out
 have hjp:=(st p).1.lt
 have y1:=ext_sol (hwf p) (one ((s p).fr (J p)))
 have y0:=ext_sol (hwf p) zer
 have g1:(s p).v+(s p).g (J p)=(s q).gv k ((s p).ext m k (one ((s p).fr (J p)))):=by
  rw [← (hee p q).gv _ y1,ext_gv (hwf p),gv_one (hwf p) hjp]
 have g0:(s p).v=(s q).gv k ((s p).ext m k zer):=by rw [← (hee p q).gv _ y0,ext_gv (hwf p),gv_zer]
 let d:Nat→Rat:=fun u=>(s p).ext m k (one ((s p).fr (J p))) u - (s p).ext m k zer u
 have hd:(s p).g (J p)=sumN k fun j=>(s q).g j * d ((s q).fr j):=by
  have e:sumN k (fun j=>(s q).g j * (s p).ext m k (one ((s p).fr (J p))) ((s q).fr j))=sumN k (fun j=>(s q).g j * d ((s q).fr j)+(s q).g j * (s p).ext m k zer ((s q).fr j)):=sumN_congr fun j _=>by
   show _=_ * (_ - _)+_
   grind
  rw [sumN_add] at e
  unfold gv at g1 g0
  rw [e] at g1
  rw [g0] at g1
  grind
 obtain ⟨j,hj,hpos⟩:=pos_term (by rw [← hd];exact (st p).1.pos)
 generalize hr:(s q).fr j=r at hpos
 have hrq:¬ (s q).isB m r:=hr ▸ notB q j hj
 have hru:r < m+k:=hr ▸ (hwf q).fl j hj
 -- Bland's choice at q
 have blq:t≤r∨(s q).g j≤0:=by
  by_cases h:0 < (s q).g j
  ·exact .inl (by rw [← ht,← hr];exact (st q).1.min j hj h)
  ·exact .inr (Rat.not_lt.1 h)
 have tneg:∀ i,i < m→(s p).bas i=t→(s p).a i (J p) < 0:=fun i hi e=>by
  rw [(hwf p).bi i (I p) hi (st p).2.1.lt (e.trans hp3.symm)];exact (st p).2.1.neg
 rcases (hwf p).al r hru with ⟨i,hi,e⟩ | ⟨c,hc,e⟩
 ·have hdr:d r=(s p).a i (J p):=by
   show (s p).ext m k _ r - (s p).ext m k zer r=_
   rw [← e,ext_bas (hwf p) hi,ext_bas (hwf p) hi,row_one (hwf p) hjp,row_zer];grind
  rw [hdr] at hpos
  obtain ⟨n,n1,n2,n3⟩:=enters r p hp1 hp2 ⟨i,hi,e⟩ hrq
  have hrt:r≤t:=n3 ▸ hq3 n n1 n2
  by_cases hrt2:r=t
  ·have h1:=tneg i hi (e.trans hrt2)
   have h2:0 < (s q).g j:=by
    rw [(hwf q).fi j (J q) hj (st q).1.lt (hr.trans (hrt2.trans ht.symm))];exact (st q).1.pos
   have:=Rat.mul_pos h2 (show 0 < -((s p).a i (J p)) by grind)
   grind
  ·have hg:(s q).g j≤0:=blq.resolve_left (by omega)
   have ha:(s p).a i (J p) < 0:=Rat.not_le.1 fun h=>by
    have:=Rat.mul_nonneg (show 0≤-((s q).g j) by grind) h
    grind
   have hbr:(s p).b i=0:=by
    rw [hxb p hp1 (by omega) i hi,e,← hr];exact hxf q hq1 (by omega) j hj
   have hz:(s p).ratio (J p) i=0:=by unfold ratio;rw [hbr];grind
   rcases (st p).2.1.min i hi ha with h | ⟨_,h⟩
   ·rw [hb0 p hp1 hp2,hz] at h;exact absurd h (by decide)
   ·rw [hp3,e] at h;omega
 ·have hdr:d r=one ((s p).fr (J p)) r:=by
   show (s p).ext m k _ r - (s p).ext m k zer r=_
   rw [← e,ext_fr (hwf p) hc,ext_fr (hwf p) hc];unfold zer;grind
  rw [hdr] at hpos
  unfold one at hpos
  split at hpos
  ·rename_i hrs
   have hle:r≤t:=hrs ▸ hq3 p hp1 hp2
   have hne:r≠t:=fun h=>(hwf p).bf (I p) (J p) (st p).2.1.lt hjp (by rw [hp3,← hrs,h])
   have hg:(s q).g j≤0:=blq.resolve_left (by omega)
   grind
  ·grind
theorem acc_step {m k:Nat} {D:Dic} (hw:D.WF m k) (hf:D.Fea m):Acc (fun a b=>Step m k b a) D:=Classical.byContradiction fun hn=>by
 have nx:∀ x:{ x:Dic // ¬ Acc (fun a b=>Step m k b a) x },∃ y:{ x:Dic // ¬ Acc (fun a b=>Step m k b a) x },Step m k x.1 y.1:=fun x=>Classical.byContradiction fun q=>x.2 (.intro _ fun y hy=>Classical.byContradiction fun hy2=>q ⟨⟨y,hy2⟩,hy⟩)
 let s:Nat→{ x:Dic // ¬ Acc (fun a b=>Step m k b a) x }:=fun n=>Nat.rec ⟨D,hn⟩ (fun _ x=>Classical.choose (nx x)) n
 exact no_endless (s:=fun n=>(s n).1) hw hf fun n=>Classical.choose_spec (nx (s n))
end Dic
end Go.Den
namespace Go.Den
open Go.Ab
namespace Dic
structure RBs (D:Dic) (m k s:Nat):Prop where
 a:∀ i j,i < m→j < k→RB (D.a i j) s
 b:∀ i,i < m→RB (D.b i) s
 g:∀ j,j < k→RB (D.g j) s
 v:RB D.v s
theorem RB1:RB 1 1:=RB.int (z:=1) (ZB.small (by decide)) (by decide)
theorem RBs.prow {D:Dic} {m k s i j:Nat} (h:D.RBs m k s) (h1:1≤s) (hi:i < m) (hj:j < k) (h0:D.a i j≠0) {c:Nat} (hc:c < k):RB (D.prow i j c) (2 * s):=by
 unfold Dic.prow
 split
 ·exact (RB1.div (h.a i j hi hj) h0).le (by omega)
 ·exact ((h.a i c hi hc).div (h.a i j hi hj) h0).neg.le (by omega)
theorem RBs.piv {D:Dic} {m k s i j:Nat} (h:D.RBs m k s) (h1:1≤s) (hi:i < m) (hj:j < k) (h0:D.a i j≠0):(D.piv i j).RBs m k (5 * s):=by
 have hp:RB (D.pb i j) (2 * s):=((h.b i hi).div (h.a i j hi hj) h0).neg.le (by omega)
 refine ⟨fun r c hr hc=>?_,fun r hr=>?_,fun c hc=>?_,((h.v).add ((h.g j hj).mul hp)).le (by omega)⟩
 ·have hw:=h.prow h1 hi hj h0 hc
  simp only [Dic.piv]
  split
  ·exact hw.le (by omega)
  ·split
   ·exact ((h.a r j hr hj).mul hw).le (by omega)
   ·exact ((h.a r c hr hc).add ((h.a r j hr hj).mul hw)).le (by omega)
 ·simp only [Dic.piv]
  split
  ·exact hp.le (by omega)
  ·exact ((h.b r hr).add ((h.a r j hr hj).mul hp)).le (by omega)
 ·have hw:=h.prow h1 hi hj h0 hc
  simp only [Dic.piv]
  split
  ·exact ((h.g j hj).mul hw).le (by omega)
  ·exact ((h.g c hc).add ((h.g j hj).mul hw)).le (by omega)
open Classical in
noncomputable def cnt (p:Nat→Prop):Nat→Nat
 | 0=>0
 | n+1=>cnt p n+if p n then 1 else 0
theorem cnt_le {p:Nat→Prop}:∀ n,cnt p n≤n
 | 0=>Nat.le_refl _
 | n+1=>by have:=cnt_le (p:=p) n;rw [cnt];split<;>omega
theorem cnt_mono {p q:Nat→Prop}:∀ {n:Nat},(∀ i,i < n→q i→p i)→cnt q n≤cnt p n
 | 0,_=>Nat.le_refl _
 | n+1,h=>by
  have:=cnt_mono (p:=p) (q:=q) (n:=n) fun i hi=>h i (by omega)
  have hn:=h n (by omega)
  rw [cnt,cnt]
  by_cases h1:q n
  ·simp only [h1,hn h1,if_true];omega
  ·simp only [h1,if_false];omega
theorem cnt_lt {p q:Nat→Prop}:∀ {n i:Nat},(∀ i,i < n→q i→p i)→i < n→p i→¬ q i→cnt q n < cnt p n
 | 0,i,_,hi,_,_=>by omega
 | n+1,i,h,hi,h1,h2=>by
  have hn:=h n (by omega)
  rw [cnt,cnt]
  by_cases e:i=n
  ·subst e
   have:=cnt_mono (p:=p) (q:=q) (n:=i) fun i hi=>h i (by omega)
   simp only [h1,h2,if_true,if_false];omega
  ·have:=cnt_lt (p:=p) (q:=q) (n:=n) (i:=i) (fun i hi=>h i (by omega)) (by omega) h1 h2
   by_cases h3:q n
   ·simp only [h3,hn h3,if_true];omega
   ·simp only [h3,if_false];omega
theorem cnt_zero {p:Nat→Prop}:∀ {n:Nat},cnt p n=0→∀ i,i < n→¬ p i
 | 0,_,i,hi=>by omega
 | n+1,h,i,hi=>by
  rw [cnt] at h
  by_cases e:i=n
  ·subst e;intro hp;simp only [hp,if_true] at h;omega
  ·exact cnt_zero (n:=n) (by omega) i (by omega)
def dir (D:Dic) (m k j:Nat) (u:Nat):Rat:=D.ext m k (one (D.fr j)) u - D.ext m k zer u
theorem dir_bas {D:Dic} {m k i j:Nat} (h:D.WF m k) (hi:i < m) (hj:j < k):D.dir m k j (D.bas i)=D.a i j:=by
 unfold dir;rw [ext_bas h hi,ext_bas h hi,row_one h hj,row_zer];grind
theorem dir_fr {D:Dic} {m k c j:Nat} (h:D.WF m k) (hc:c < k) (hj:j < k):D.dir m k j (D.fr c)=if c=j then 1 else 0:=by
 unfold dir;rw [ext_fr h hc,ext_fr h hc]
 unfold one zer
 by_cases e:c=j
 ·subst e;rw [if_pos rfl,if_pos rfl];grind
 ·rw [if_neg e,if_neg fun q=>e (h.fi _ _ hc hj q)];grind
theorem dir_zero {D D':Dic} {m k j:Nat} (h':D'.WF m k) (e:Eqv m k D' D) (hz:∀ c,c < k→D'.dir m k j (D.fr c)=0) {i:Nat} (hi:i < m):D'.dir m k j (D.bas i)=0:=by
 have s1:=(e.sol _).1 (ext_sol h' (one (D'.fr j)))
 have s0:=(e.sol _).1 (ext_sol h' zer)
 unfold dir
 rw [sol_free s1 (y:=D'.ext m k zer) (fun c hc=>by have:=hz c hc;unfold dir at this;grind) hi,sol_free s0 (y:=D'.ext m k zer) (fun _ _=>rfl) hi]
 grind
theorem free_back {D D':Dic} {m k:Nat} (h:D.WF m k) (h':D'.WF m k) (e:Eqv m k D D') (hb:∀ u,D.isB m u→D'.isB m u) {j:Nat} (hj:j < k):∃ j',j' < k∧D'.fr j'=D.fr j:=by
 refine notB_fr h' (h.fl j hj) fun ⟨i',hi',q⟩=>?_
 have:=dir_zero (D:=D') (D':=D) (j:=j) h e (fun c hc=>?_) hi'
 ·rw [q,dir_fr h hj hj,if_pos rfl] at this;exact absurd this (by decide)
 ·obtain ⟨c',hc',q2⟩:=notB_fr h (h'.fl c hc) fun ⟨i,hi,q3⟩=>by
   obtain ⟨i2,hi2,q4⟩:=hb _ ⟨i,hi,q3⟩
   exact h'.bf i2 c hi2 hc q4
  rw [← q2,dir_fr h hc' hj,if_neg fun q5=>h'.bf i' c hi' hc (by rw [q,← q2,q5])]
theorem size_aux {m k:Nat} {D:Dic} (h:D.WF m k):∀ (n:Nat) {D':Dic} {s:Nat},D'.WF m k→Eqv m k D' D→D'.RBs m k s→1≤s→cnt (fun i=>¬ D'.isB m (D.bas i)) m≤n→D.RBs m k (5 ^ n * s)
 | n,D',s,h',e,hs,h1,hc=>by
  by_cases hz:cnt (fun i=>¬ D'.isB m (D.bas i)) m=0
  ·have hb:∀ u,D.isB m u→D'.isB m u:=fun u ⟨i,hi,q⟩=>q ▸ Classical.not_not.1 (cnt_zero hz i hi)
   obtain ⟨u1,u2,u3,u4⟩:=uniq h h' e.symm hb
   have hn:s≤5 ^ n * s:=Nat.le_mul_of_pos_left _ (Nat.pow_pos (by decide))
   refine ⟨fun i j hi hj=>?_,fun i hi=>?_,fun j hj=>?_,by rw [u4];exact hs.v.le hn⟩
   ·obtain ⟨i',hi',q⟩:=hb _ ⟨i,hi,rfl⟩
    obtain ⟨j',hj',q2⟩:=free_back h h' e.symm hb hj
    rw [u2 i j i' j' hi hi' hj hj' q.symm q2.symm];exact (hs.a _ _ hi' hj').le hn
   ·obtain ⟨i',hi',q⟩:=hb _ ⟨i,hi,rfl⟩
    rw [u1 i i' hi hi' q.symm];exact (hs.b _ hi').le hn
   ·obtain ⟨j',hj',q2⟩:=free_back h h' e.symm hb hj
    rw [u3 j j' hj hj' q2.symm];exact (hs.g _ hj').le hn
  ·obtain ⟨i,hi,hnb⟩:∃ i,i < m∧¬ D'.isB m (D.bas i):=Classical.byContradiction fun q=>hz (by
    have:cnt (fun i=>¬ D'.isB m (D.bas i)) m≤cnt (fun _=>False) m:=cnt_mono fun i hi hp=>q ⟨i,hi,hp⟩
    have h0:∀ n,cnt (fun _=>False) n=0:=fun n=>by
     induction n with
     | zero=>rfl
     | succ n ih=>rw [cnt,ih];simp
    rw [h0] at this;omega)
   obtain ⟨j',hj',hv⟩:=notB_fr h' (h.bl i hi) hnb
   obtain ⟨r,hr,h0,hnr⟩:∃ r,r < m∧D'.a r j'≠0∧¬ D.isB m (D'.bas r):=Classical.byContradiction fun q=>by
    have:=dir_zero (D:=D) (D':=D') (j:=j') h' e (fun c hc=>?_) hi
    ·rw [← hv,dir_fr h' hj' hj',if_pos rfl] at this;exact absurd this (by decide)
    ·rcases h'.al _ (h.fl c hc) with ⟨r,hr,q2⟩ | ⟨c',hc',q2⟩
     ·rw [← q2,dir_bas h' hr hj']
      refine Classical.byContradiction fun q3=>q ⟨r,hr,q3,fun ⟨i2,hi2,q4⟩=>h.bf i2 c hi2 hc (q4.trans q2)⟩
     ·rw [← q2,dir_fr h' hc' hj',if_neg fun q3=>h.bf i c hi hc (by rw [← hv,← q2,q3])]
   have hlt:cnt (fun i=>¬ (D'.piv r j').isB m (D.bas i)) m < cnt (fun i=>¬ D'.isB m (D.bas i)) m:=by
    refine cnt_lt (i:=i) (fun i' hi' hp hq=>hp ((isB_piv h' hr).2 (.inl ⟨hq,fun q=>hnr ⟨i',hi',q⟩⟩))) hi hnb fun hp=>hp ((isB_piv h' hr).2 (.inr hv.symm))
   obtain ⟨n,rfl⟩:∃ n',n=n'+1:=⟨n - 1,by omega⟩
   have:=size_aux h n (h'.piv hr hj') ((Eqv.piv hr hj' h0).symm.trans e) (hs.piv h1 hr hj' h0) (by omega) (by omega)
   rwa [← Nat.mul_assoc,← Nat.pow_succ] at this
theorem size {m k s:Nat} {D D':Dic} (h:D.WF m k) (h':D'.WF m k) (e:Eqv m k D' D) (hs:D'.RBs m k s) (h1:1≤s):D.RBs m k (5 ^ m * s):=size_aux h m h' e hs h1 (cnt_le m)
end Dic
end Go.Den
namespace Go.Den
open Go.Ab
theorem sumN_swap (m n:Nat) (f:Nat→Nat→Rat):sumN m (fun i=>sumN n fun j=>f i j)=sumN n fun j=>sumN m fun i=>f i j:=by
 induction m with
 | zero=>show (0:Rat)=_;rw [show (fun j=>sumN 0 fun i=>f i j)=fun _=>(0:Rat) from rfl,sumN_zero]
 | succ m ih=>simp only [sumN];rw [ih,← sumN_add]
theorem sumN_append (m n:Nat) (f:Nat→Rat):sumN (m+n) f=sumN m f+sumN n fun i=>f (m+i):=by
 induction n with
 | zero=>show sumN m f=sumN m f+0;grind
 | succ n ih=>rw [show m+(n+1)=m+n+1 by omega,sumN,sumN,ih];grind
theorem sumN_sub (n:Nat) (f g:Nat→Rat):sumN n (fun i=>f i - g i)=sumN n f - sumN n g:=by
 have e:(fun i=>f i - g i)=fun i=>f i+(-1) * g i:=by funext i;grind
 rw [e,sumN_add,sumN_mul];grind
namespace Dic
def sc (t:Rat) (u:Nat):Nat→Rat:=fun w=>if w=u then t else 0
theorem row_sc {D:Dic} {m k j:Nat} (h:D.WF m k) (hj:j < k) (t:Rat) (i:Nat):D.row k (sc t (D.fr j)) i=D.b i+D.a i j * t:=by
 unfold row sc
 rw [sumN_one hj _ fun c hc hne=>by rw [if_neg fun e=>hne (h.fi _ _ hc hj e)];grind]
 rw [if_pos rfl]
theorem gv_sc {D:Dic} {m k j:Nat} (h:D.WF m k) (hj:j < k) (t:Rat):D.gv k (sc t (D.fr j))=D.v+D.g j * t:=by
 unfold gv sc
 rw [sumN_one hj _ fun c hc hne=>by rw [if_neg fun e=>hne (h.fi _ _ hc hj e)];grind]
 rw [if_pos rfl]
def gc (D:Dic) (k u:Nat):Rat:=sumN k fun j=>if D.fr j=u then D.g j else 0
theorem gc_fr {D:Dic} {m k j:Nat} (h:D.WF m k) (hj:j < k):D.gc k (D.fr j)=D.g j:=by
 unfold gc
 rw [sumN_one hj _ fun c hc hne=>if_neg fun e=>hne (h.fi _ _ hc hj e),if_pos rfl]
theorem gc_none {D:Dic} {k u:Nat} (h:∀ j,j < k→D.fr j≠u):D.gc k u=0:=by
 unfold gc
 rw [sumN_congr (g:=fun _=>0) fun j hj=>if_neg (h j hj),sumN_zero]
theorem gv_all {D:Dic} {m k:Nat} (h:D.WF m k) (x:Nat→Rat):D.gv k x=D.v+sumN (m+k) fun u=>D.gc k u * x u:=by
 unfold gv;congr 1
 have e:(fun u=>D.gc k u * x u)=fun u=>sumN k fun j=>x u * (if D.fr j=u then D.g j else 0):=by
  funext u;rw [sumN_mul];unfold gc;grind
 rw [e,sumN_swap]
 refine sumN_congr fun j hj=>?_
 rw [sumN_one (h.fl j hj) _ fun u _ hu=>by rw [if_neg fun q=>hu q.symm];grind]
 rw [if_pos rfl];grind
section
variable (n m:Nat) (C:Nat→Nat→Rat) (B:Nat→Rat)
def fst (z:Rat):Dic where
 bas:=fun i=>2 * n+i
 fr:=fun j=>if j < 2 * n then j else 2 * n+m
 a:=fun i j=>if j < n then -(C i j) else if j < 2 * n then C i (j - n) else 1
 b:=B
 g:=fun j=>if j < 2 * n then 0 else z
 v:=0
theorem fst_wf (z:Rat):(fst n m C B z).WF m (2 * n+1):=by
 refine ⟨fun i i' _ _ e=>?_,fun j j' hj hj' e=>?_,fun i j hi hj e=>?_,fun i hi=>?_,fun j hj=>?_,fun u hu=>?_⟩
 ·simp only [fst] at e;omega
 ·simp only [fst] at e;split at e<;>split at e<;>omega
 ·simp only [fst] at e;split at e<;>omega
 ·simp only [fst];omega
 ·simp only [fst];split<;>omega
 ·by_cases h:u < 2 * n
  ·exact .inr ⟨u,by omega,by simp only [fst];rw [if_pos h]⟩
  ·by_cases h2:u=2 * n+m
   ·exact .inr ⟨2 * n,by omega,by simp only [fst];rw [if_neg (by omega)];exact h2.symm⟩
   ·exact .inl ⟨u - 2 * n,by omega,by simp only [fst];omega⟩
def dotN (p:Nat→Rat) (i:Nat):Rat:=sumN n fun j=>C i j * p j
theorem fst_row (z:Rat) (x:Nat→Rat) (i:Nat):(fst n m C B z).row (2 * n+1) x i=B i - dotN n C (fun j=>x j - x (n+j)) i+x (2 * n+m):=by
 unfold row dotN
 have e2:sumN (2 * n) (fun j=>(fst n m C B z).a i j * x ((fst n m C B z).fr j)) = - sumN n fun j=>C i j * (x j - x (n+j)):=by
  rw [show 2 * n=n+n by omega,sumN_append]
  have e3:sumN n (fun j=>(fst n m C B z).a i j * x ((fst n m C B z).fr j))=sumN n fun j=>(-1) * (C i j * x j):=sumN_congr fun j hj=>by
   simp only [fst];rw [if_pos hj,if_pos (by omega)];grind
  have e4:sumN n (fun j=>(fst n m C B z).a i (n+j) * x ((fst n m C B z).fr (n+j)))=sumN n fun j=>C i j * x (n+j):=sumN_congr fun j hj=>by
   simp only [fst];rw [if_neg (by omega),if_pos (by omega),if_pos (by omega),show n+j - n=j by omega]
  rw [e3,e4,sumN_mul,show (fun j=>C i j * (x j - x (n+j)))=fun j=>C i j * x j - C i j * x (n+j) by funext j;grind,sumN_sub]
  grind
 rw [sumN,e2]
 have e5:(fst n m C B z).a i (2 * n)=1:=by simp only [fst];rw [if_neg (by omega),if_neg (by omega)]
 have e6:(fst n m C B z).fr (2 * n)=2 * n+m:=by simp only [fst];rw [if_neg (by omega)]
 have e7:(fst n m C B z).b i=B i:=rfl
 rw [e5,e6,e7];grind
theorem fst_gv (z:Rat) (x:Nat→Rat):(fst n m C B z).gv (2 * n+1) x=z * x (2 * n+m):=by
 unfold gv
 rw [sumN_one (j:=2 * n) (by omega) _ fun j hj hne=>by simp only [fst];rw [if_pos (by omega)];grind]
 have e5:(fst n m C B z).g (2 * n)=z:=by simp only [fst];rw [if_neg (by omega)]
 have e6:(fst n m C B z).fr (2 * n)=2 * n+m:=by simp only [fst];rw [if_neg (by omega)]
 have e7:(fst n m C B z).v=0:=rfl
 rw [e5,e6,e7];grind
theorem fst_sol (z:Rat) (x:Nat→Rat):(fst n m C B z).Sol m (2 * n+1) x↔∀ i,i < m→x (2 * n+i)=B i - dotN n C (fun j=>x j - x (n+j)) i+x (2 * n+m):=by
 unfold Sol
 constructor
 ·intro h i hi;rw [← fst_row n m C B z];exact h i hi
 ·intro h i hi;rw [fst_row];exact h i hi
theorem fst_eqv0 (z:Rat) (D:Dic) (x:Nat→Rat) (h:Eqv m (2 * n+1) (fst n m C B z) D):D.Sol m (2 * n+1) x↔(fst n m C B 0).Sol m (2 * n+1) x:=by
 rw [← h.sol,fst_sol,fst_sol]
def sol0 (y:Nat→Rat) (u:Nat):Rat:=if 2 * n≤u∧u < 2 * n+m then B (u - 2 * n) - dotN n C (fun j=>y j - y (n+j)) (u - 2 * n)+y (2 * n+m) else y u
theorem sol0_sol (z:Rat) (y:Nat→Rat):(fst n m C B z).Sol m (2 * n+1) (sol0 n m C B y):=(fst_sol n m C B z _).2 fun i hi=>by
 have e1:sol0 n m C B y (2 * n+i)=B i - dotN n C (fun j=>y j - y (n+j)) i+y (2 * n+m):=by
  unfold sol0;rw [if_pos ⟨by omega,by omega⟩,show 2 * n+i - 2 * n=i by omega]
 have e2:sol0 n m C B y (2 * n+m)=y (2 * n+m):=by unfold sol0;rw [if_neg (by omega)]
 have e3:dotN n C (fun j=>sol0 n m C B y j - sol0 n m C B y (n+j)) i=dotN n C (fun j=>y j - y (n+j)) i:=by
  unfold dotN
  refine sumN_congr fun j hj=>?_
  show C i j * (sol0 n m C B y j - sol0 n m C B y (n+j))=C i j * (y j - y (n+j))
  unfold sol0;rw [if_neg (by omega),if_neg (by omega)]
 rw [e1,e2,e3]
theorem first_fea {low:Nat} (hl:low < m) (hneg:B low < 0) (hmin:∀ r,r < m→B low≤B r):((fst n m C B (-1)).piv low (2 * n)).Fea m:=fun r hr=>by
 have e5:∀ r,(fst n m C B (-1)).a r (2 * n)=1:=fun r=>by simp only [fst];rw [if_neg (by omega),if_neg (by omega)]
 have e7:∀ r,(fst n m C B (-1)).b r=B r:=fun _=>rfl
 simp only [Dic.piv,pb,e5,e7]
 have:=hmin r hr
 split<;>grind
variable {n m C B} {D:Dic} (hw:D.WF m (2 * n+1)) (he:Eqv m (2 * n+1) (fst n m C B (-1)) D)
include hw he in
theorem gv_neg {x:Nat→Rat} (hx:D.Sol m (2 * n+1) x):D.gv (2 * n+1) x = -(x (2 * n+m)):=by
 have:=hw
 rw [← he.gv x ((he.sol x).2 hx),fst_gv];grind
theorem ext_nonneg {m k:Nat} (hw:D.WF m k) {y:Nat→Rat} (hr:∀ i,i < m→0≤D.row k y i) (hy:∀ u,0≤y u) (u:Nat) (hu:u < m+k):0≤D.ext m k y u:=by
 rcases hw.al u hu with ⟨i,hi,e⟩ | ⟨j,hj,e⟩
 ·rw [← e,ext_bas hw hi];exact hr i hi
 ·rw [← e,ext_fr hw hj];exact hy _
theorem p0_nonneg {m k:Nat} (hw:D.WF m k) (hf:D.Fea m) (u:Nat) (hu:u < m+k):0≤D.ext m k zer u :=
 ext_nonneg hw (y:=zer) (fun i hi=>by rw [row_zer];exact hf i hi) (fun _=>Rat.le_refl) u hu
include hw he in
theorem v_helper:D.v = -(D.ext m (2 * n+1) zer (2 * n+m)):=by
 rw [← gv_neg hw he (ext_sol hw zer),ext_gv hw,gv_zer]
include hw he in
theorem end_top (hf:D.Fea m) (hstop:(∀ j,j < 2 * n+1→D.g j≤0)∨∃ j,D.IsEnter (2 * n+1) j∧∀ i,i < m→0≤D.a i j):∀ j,j < 2 * n+1→D.g j≤0:=by
 rcases hstop with h | ⟨j,hj,ha⟩
 ·exact h
 ·exfalso
  have hv:D.v≤0:=by rw [v_helper hw he];have:=p0_nonneg hw hf (2 * n+m) (by omega);grind
  have hp:=hj.pos
  have ht:0≤(1 - D.v) / D.g j:=nonneg_div hp (by grind)
  have hs:=ext_sol hw (sc ((1 - D.v) / D.g j) (D.fr j))
  have h1:=gv_neg hw he hs
  rw [ext_gv hw,gv_sc hw hj.lt] at h1
  have h2:=ext_nonneg hw (y:=sc ((1 - D.v) / D.g j) (D.fr j)) (fun i hi=>by
   rw [row_sc hw hj.lt]
   have:=Rat.mul_nonneg (ha i hi) ht
   have:=hf i hi
   grind) (fun u=>by unfold sc;split<;>grind) (2 * n+m) (by omega)
  have h3:D.g j * ((1 - D.v) / D.g j)=1 - D.v:=by grind
  rw [h3] at h1
  grind
include hw he in
theorem mults (hg:∀ j,j < 2 * n+1→D.g j≤0):(∀ u,D.gc (2 * n+1) u≤0)∧(∀ j,j < n→sumN m (fun i=>-(D.gc (2 * n+1) (2 * n+i)) * C i j)=0)∧sumN m (fun i=>-(D.gc (2 * n+1) (2 * n+i)) * B i)=D.v:=by
 have hgc:∀ u,D.gc (2 * n+1) u≤0:=fun u=>by
  by_cases h:∃ j,j < 2 * n+1∧D.fr j=u
  ·obtain ⟨j,hj,rfl⟩:=h
   rw [gc_fr hw hj];exact hg j hj
  ·rw [gc_none fun j hj e=>h ⟨j,hj,e⟩];exact Rat.le_refl
 generalize hG:D.gc (2 * n+1)=G at hgc ⊢
 have key:∀ y:Nat→Rat,-(y (2 * n+m))=D.v+(sumN (2 * n) (fun u=>G u * y u)+sumN m (fun i=>G (2 * n+i) * (B i - dotN n C (fun j=>y j - y (n+j)) i+y (2 * n+m)))+G (2 * n+m) * y (2 * n+m)):=fun y=>by
  have h1:=gv_neg hw he ((he.sol _).1 (sol0_sol n m C B (-1) y))
  rw [gv_all hw,hG,show m+(2 * n+1)=(2 * n+m)+1 by omega,sumN,sumN_append] at h1
  have e1:∀ u,u < 2 * n→sol0 n m C B y u=y u:=fun u hu=>by unfold sol0;rw [if_neg (by omega)]
  have e2:sol0 n m C B y (2 * n+m)=y (2 * n+m):=by unfold sol0;rw [if_neg (by omega)]
  have e3:∀ i,i < m→sol0 n m C B y (2 * n+i)=B i - dotN n C (fun j=>y j - y (n+j)) i+y (2 * n+m):=fun i hi=>by
   unfold sol0;rw [if_pos ⟨by omega,by omega⟩,show 2 * n+i - 2 * n=i by omega]
  rw [sumN_congr (n:=2 * n) (g:=fun u=>G u * y u) fun u hu=>by rw [e1 u hu],sumN_congr (n:=m) (g:=fun i=>G (2 * n+i) * (B i - dotN n C (fun j=>y j - y (n+j)) i+y (2 * n+m))) fun i hi=>by rw [e3 i hi],e2] at h1
  exact h1.symm
 have k0:=key zer
 have d0:∀ i,dotN n C (fun j=>zer j - zer (n+j)) i=0:=fun i=>by
  unfold dotN zer
  rw [sumN_congr (g:=fun _=>0) fun j _=>by grind,sumN_zero]
 have z0:sumN m (fun i=>G (2 * n+i) * (B i - dotN n C (fun j=>zer j - zer (n+j)) i+zer (2 * n+m)))=sumN m fun i=>G (2 * n+i) * B i:=sumN_congr fun i _=>by
  rw [d0];unfold zer;grind
 rw [z0,sumN_congr (n:=2 * n) (g:=fun _=>0) fun u _=>by unfold zer;grind,sumN_zero] at k0
 have k0:sumN m (fun i=>G (2 * n+i) * B i) = -D.v:=by unfold zer at k0;grind
 have un:∀ (u:Nat) (s:Rat),u < 2 * n→(∀ i,i < m→dotN n C (fun j=>one u j - one u (n+j)) i=s * C i (if u < n then u else u - n))→G u=s * sumN m fun i=>G (2 * n+i) * C i (if u < n then u else u - n):=fun u s hu hd=>by
  have k1:=key (one u)
  have z1:one u (2 * n+m)=0:=if_neg (by omega)
  rw [z1,sumN_one hu (fun w=>G w * one u w) fun w _ hne=>by unfold one;rw [if_neg hne];grind] at k1
  rw [sumN_congr (n:=m) (g:=fun i=>G (2 * n+i) * B i+(-s) * (G (2 * n+i) * C i (if u < n then u else u - n))) fun i hi=>by rw [hd i hi];grind,sumN_add,sumN_mul,k0] at k1
  have:one u u=1:=if_pos rfl
  rw [this] at k1
  grind
 have hneg:∀ f:Nat→Rat,sumN m (fun i=>-(G (2 * n+i)) * f i) = -(sumN m fun i=>G (2 * n+i) * f i):=fun f=>by
  rw [show (fun i=>-(G (2 * n+i)) * f i)=fun i=>(-1) * (G (2 * n+i) * f i) by funext i;grind,sumN_mul];grind
 refine ⟨hgc,fun j hj=>?_,by rw [hneg,k0];grind⟩
 have a1:=un j 1 (by omega) fun i hi=>by
  unfold dotN
  rw [sumN_one hj _ fun c hc hne=>by show C i c * (one j c - one j (n+c))=0;unfold one;rw [if_neg hne,if_neg (by omega)];grind]
  show C i j * (one j j - one j (n+j))=_
  unfold one;rw [if_pos rfl,if_neg (by omega),if_pos hj];grind
 have a2:=un (n+j) (-1) (by omega) fun i hi=>by
  unfold dotN
  rw [sumN_one hj _ fun c hc hne=>by show C i c * (one (n+j) c - one (n+j) (n+c))=0;unfold one;rw [if_neg (by omega),if_neg (by omega)];grind]
  show C i j * (one (n+j) j - one (n+j) (n+j))=_
  unfold one;rw [if_pos rfl,if_neg (by omega),if_neg (by omega),show n+j - n=j by omega];grind
 rw [if_pos hj] at a1
 rw [if_neg (by omega),show n+j - n=j by omega] at a2
 have b1:=hgc j
 have b2:=hgc (n+j)
 rw [hneg]
 grind
include hw he in
include hw he in
theorem helper_col {i:Nat} (hi:i < m) (hb:D.bas i=2 * n+m):∃ j,j < 2 * n+1∧D.a i j≠0:=Classical.byContradiction fun hn=>by
 have hz:∀ j,j < 2 * n+1→D.a i j=0:=fun j hj=>Classical.byContradiction fun q=>hn ⟨j,hj,q⟩
 have hc:∀ x,D.Sol m (2 * n+1) x→x (2 * n+m)=D.b i:=fun x hx=>by
  rw [← hb,hx i hi];unfold row
  rw [sumN_congr (g:=fun _=>0) fun j hj=>by rw [hz j hj];grind,sumN_zero];grind
 have c0:=hc _ ((he.sol _).1 (sol0_sol n m C B (-1) zer))
 have c1:=hc _ ((he.sol _).1 (sol0_sol n m C B (-1) (one (2 * n+m))))
 have:=hw
 unfold sol0 at c0 c1
 rw [if_neg (by omega)] at c0 c1
 unfold zer at c0
 unfold one at c1
 rw [if_pos rfl] at c1
 rw [← c0] at c1
 exact absurd c1 (by decide)
theorem piv_fea0 {m i j:Nat} (hf:D.Fea m) (h0:D.b i=0):(D.piv i j).Fea m:=fun r hr=>by
 have hp:D.pb i j=0:=by unfold pb;rw [h0,Rat.div_def,Rat.zero_mul];rfl
 simp only [Dic.piv,hp]
 have:=hf r hr
 split
 ·exact Rat.le_refl
 ·grind
end
end Dic
end Go.Den
namespace Go.Den
open Go.Ab
section
variable {α:Type}
def tab (f:Nat→α) (n:Nat):List α:=(List.range n).map f
theorem tab_len (f:Nat→α) (n:Nat):(tab f n).length=n:=by simp [tab]
theorem tab_get (f:Nat→α) {n i:Nat} (d:α) (h:i < n):(tab f n).getD i d=f i:=by simp [tab,h]
theorem tab_congr {f g:Nat→α} {n:Nat} (h:∀ i,i < n→f i=g i):tab f n=tab g n:=by
 unfold tab;exact List.map_congr_left fun i hi=>h i (List.mem_range.1 hi)
theorem tab_of {l:List α} {f:Nat→α} {n:Nat} (d:α) (hl:l.length=n) (h:∀ i,i < n→l.getD i d=f i):l=tab f n:=by
 refine List.ext_getElem (by rw [hl,tab_len]) fun i h1 h2=>?_
 have:=h i (by omega)
 rw [List.getD_eq_getElem?_getD,List.getElem?_eq_getElem h1,Option.getD_some] at this
 rw [this];simp [tab]
theorem tab_set (f:Nat→α) (n i:Nat) (v:α):(tab f n).set i v=tab (fun a=>if a=i then v else f a) n:=by
 refine List.ext_getElem (by simp [tab]) fun a h1 h2=>?_
 rw [List.getElem_set]
 by_cases e:i=a
 ·subst e;simp [tab]
 ·rw [if_neg e];simp [tab];intro q;exact absurd q.symm e
end
def LQ (f:Nat→Rat) (n:Nat):List TRat:=tab (fun i=>ofQ (f i)) n
def LN (f:Nat→Nat) (n:Nat):List Int:=tab (fun i=>(f i:Int)) n
def LA (a:Nat→Nat→Rat) (m k:Nat):List (List TRat):=tab (fun i=>LQ (a i) k) m
theorem LQ_len (f:Nat→Rat) (n:Nat):(LQ f n).length=n:=tab_len _ _
theorem LN_len (f:Nat→Nat) (n:Nat):(LN f n).length=n:=tab_len _ _
theorem LA_len (a:Nat→Nat→Rat) (m k:Nat):(LA a m k).length=m:=tab_len _ _
theorem LQ_get (f:Nat→Rat) {n i:Nat} (d:TRat) (h:i < n):(LQ f n).getD i d=ofQ (f i):=tab_get _ _ h
theorem LN_get (f:Nat→Nat) {n i:Nat} (d:Int) (h:i < n):(LN f n).getD i d=(f i:Int):=tab_get _ _ h
theorem LA_get (a:Nat→Nat→Rat) {m k i:Nat} (d:List TRat) (h:i < m):(LA a m k).getD i d=LQ (a i) k:=tab_get _ _ h
theorem LQ_congr {f g:Nat→Rat} {n:Nat} (h:∀ i,i < n→f i=g i):LQ f n=LQ g n:=tab_congr fun i hi=>by rw [h i hi]
theorem LA_congr {a b:Nat→Nat→Rat} {m k:Nat} (h:∀ i j,i < m→j < k→a i j=b i j):LA a m k=LA b m k:=tab_congr fun i hi=>LQ_congr fun j hj=>h i j hi hj
theorem LQ_set (f:Nat→Rat) (n i:Nat) (q:Rat):(LQ f n).set i (ofQ q)=LQ (fun a=>if a=i then q else f a) n:=by
 unfold LQ;rw [tab_set];exact tab_congr fun a _=>by by_cases e:a=i<;>simp [e]
theorem LN_set (f:Nat→Nat) (n i q:Nat):(LN f n).set i (q:Int)=LN (fun a=>if a=i then q else f a) n:=by
 unfold LN;rw [tab_set];exact tab_congr fun a _=>by by_cases e:a=i<;>simp [e]
theorem LA_set (a:Nat→Nat→Rat) (m k i:Nat) (r:Nat→Rat):(LA a m k).set i (LQ r k)=LA (fun x=>if x=i then r else a x) m k:=by
 unfold LA;rw [tab_set];exact tab_congr fun a _=>by by_cases e:a=i<;>simp [e]
theorem RB.q {p:Rat} {s:Nat} (h:RB p s) (hs:s≤MS):RQ (ofQ p) p MS:=(h.le hs).rq (by decide)
section
variable {k j s:Nat} {f:Rat} {F R:Nat→Rat}
theorem put_L1 (hk:k≤1000) (hs:5 * s≤MS) (h1:1≤s) (hf:RB f s) (hF:∀ c,c < k→RB (F c) s) (hR:∀ c,c < k→RB (R c) (2 * s)) {c0:List TRat} (h0:c0.length=k):∀ (d x:Nat) (G:Nat→Rat),x+d=k →
  (∀ c,c < k→G c=if c < x then if c=j then f * R j else F c+f * R c else F c) →
  Gv2 (fun N g=>g_e_tableau_put_v2_L1 N (j:Int) (ofQ f) c0 (LQ R k) g (LQ G k) (x:Int)) (LQ (fun c=>if c=j then f * R j else F c+f * R c) k)
 | 0,x,G,hx,hG=>Gv2.succ (fun N g=>g_e_tableau_put_v2_L1.eq_2 ..) (Gv2.condF (dnl (m:=x) (n:=k) (by omega) h0) ((Gv2.one (Gv.pure _)).eq (LQ_congr fun c hc=>by rw [hG c hc,if_pos (by omega)])))
 | d+1,x,G,hx,hG=>by
  have hxk:x < k:=by omega
  have hm:RB (f * R x) (3 * s):=(hf.mul (hR x hxk)).le (by omega)
  have hfm:=(hf.q (by omega)).mul ((hR x hxk).q (by omega)) (msm (by decide))
  have eG:G x=F x:=by rw [hG x hxk,if_neg (Nat.lt_irrefl x)]
  refine Gv2.succ (fun N g=>g_e_tableau_put_v2_L1.eq_2 ..) (Gv2.condT (dlt (n:=k) hxk h0) ?_)
  simp only [toNat_nat,LQ_get _ _ hxk,eG,w64_succ (show x < 9223372036854775807 by omega),g_e_tableau_put_v2_J2,LQ_set]
  by_cases e:x=j
  ·refine Gv2.condT (by simp [e]) (Gv2.if (inl hxk (LQ_len _ _)) (Gv2.bind hfm (Gv2.if (inl hxk (LQ_len _ _)) ?_)))
   simp only [LQ_set]
   refine put_L1 hk hs h1 hf hF hR h0 d (x+1) _ (by omega) fun c hc=>?_
   by_cases q:c=x
   ·rw [if_pos q,if_pos (by omega),if_pos (q.trans e),e]
   ·rw [if_neg q,hG c hc]
    by_cases q2:c < x
    ·simp only [q2,show c < x+1 by omega,if_true]
    ·rw [if_neg q2,if_neg (by omega)]
  ·refine Gv2.condF (by simp;omega) (Gv2.if (inl hxk (LQ_len _ _)) (Gv2.bind (((hR x hxk).q (by omega)).zero (by decide)) ?_))
   by_cases z:R x=0
   ·refine Gv2.condF (by simp [z]) (put_L1 hk hs h1 hf hF hR h0 d (x+1) _ (by omega) fun c hc=>?_)
    rw [hG c hc]
    by_cases q2:c < x
    ·simp only [q2,show c < x+1 by omega,if_true]
    ·rw [if_neg q2]
     by_cases q:c=x
     ·rw [if_pos (by omega),if_neg (by omega),q,z];grind
     ·rw [if_neg (by omega)]
   ·refine Gv2.condT (by simp [z]) (Gv2.if (inl hxk (LQ_len _ _)) (Gv2.bind hfm (Gv2.bind (((hF x hxk).q (by omega)).add (hm.q (by omega)) (msm (by decide))) ?_)))
    simp only [LQ_set]
    refine put_L1 hk hs h1 hf hF hR h0 d (x+1) _ (by omega) fun c hc=>?_
    by_cases q:c=x
    ·rw [if_pos q,if_pos (by omega),if_neg (by omega),q]
    ·rw [if_neg q,hG c hc]
     by_cases q2:c < x
     ·simp only [q2,show c < x+1 by omega,if_true]
     ·rw [if_neg q2,if_neg (by omega)]
theorem put_gv (hk:k≤1000) (hs:5 * s≤MS) (h1:1≤s) (hf:RB f s) (hF:∀ c,c < k→RB (F c) s) (hR:∀ c,c < k→RB (R c) (2 * s)) :
  Gv (fun N=>g_e_tableau_put_v2 N (j:Int) (ofQ f) (LQ F k) (LQ R k)) (LQ (fun c=>if c=j then f * R j else F c+f * R c) k) :=
 (put_L1 hk hs h1 hf hF hR (LQ_len F k) k 0 F (by omega) fun c _=>(if_neg (Nat.not_lt_zero c)).symm).diag
end
def RT (n m k h:Nat) (D:Dic):Ttb×List Int×List Int×List (List TRat)×List TRat×List TRat :=
 (⟨n,m,LN D.bas m,LN D.fr k,LA D.a m k,LQ D.b m,LQ D.g k,ofQ D.v,h⟩,LN D.bas m,LN D.fr k,LA D.a m k,LQ D.b m,LQ D.g k)
section
variable {n m k h i j s:Nat} {D:Dic}
theorem pivot_J5 (hi:i < m) (hj:j < k) {A:Nat→Nat→Rat} {b:Nat→Rat} (hA:∀ r c,r < m→c < k→r≠i→A r c=(D.piv i j).a r c) (hb:∀ r,r < m→b r=(D.piv i j).b r) {G:Nat→Rat} (hG:∀ c,c < k→G c=(D.piv i j).g c) {v:Rat} (hv:v=(D.piv i j).v) (N:Nat) :
  g_e_tableau_pivot_J5 N (i:Int) (j:Int) (n:Int) (m:Int) (h:Int) (LN D.bas m) (LN D.fr k) (LA A m k) (LQ (D.prow i j) k) (LQ b m) (LQ G k) (ofQ v).fN.fG (ofQ v).fN.fL (ofQ v).fD.fG (ofQ v).fD.fL=some (RT n m k h (D.piv i j)):=by
 unfold g_e_tableau_pivot_J5
 rw [if_pos (inl hj (LN_len _ _)),if_pos (inl hi (LN_len _ _))]
 simp only [toNat_nat,LN_get _ _ hi,LN_get _ _ hj,LN_set,LA_set]
 have e1:=LA_congr (a:=fun x=>if x=i then D.prow i j else A x) (b:=(D.piv i j).a) (m:=m) (k:=k) fun r c hr' hc=>by
  by_cases q:r=i
  ·simp only [q,if_true,Dic.piv]
  ·simp only [q,if_false];exact hA r c hr' hc q
 rw [e1,LQ_congr hb,LQ_congr hG,hv]
 rfl
theorem pivot_L3 (hm:m≤1000) (hk:k≤1000) (hi:i < m) (hj:j < k) (hs:5 * s≤MS) (h1:1≤s) (hr:D.RBs m k s) (h0:D.a i j≠0):∀ (d x:Nat) (A:Nat→Nat→Rat) (b:Nat→Rat),x+d=m →
  (∀ r c,r < m→c < k→A r c=if r < x∧r≠i then (D.piv i j).a r c else D.a r c)→(∀ r,r < m→b r=if r=i∨r < x then (D.piv i j).b r else D.b r) →
  Gv2 (fun N g=>g_e_tableau_pivot_L3 N (i:Int) (j:Int) (n:Int) (m:Int) (ofQ D.v).fN.fG (ofQ D.v).fN.fL (ofQ D.v).fD.fG (ofQ D.v).fD.fL (h:Int) (LN D.bas m) (LN D.fr k) (LA D.a m k) (LQ D.g k)
   g (LA A m k) (LQ (D.prow i j) k) (LQ b m) (x:Int)) (RT n m k h (D.piv i j))
 | 0,x,A,b,hx,hA,hb=>by
  have hp:RB (D.pb i j) (2 * s):=((hr.b i hi).div (hr.a i j hi hj) h0).neg.le (by omega)
  have ebi:b i=D.pb i j:=by rw [hb i hi,if_pos (.inl rfl)];simp [Dic.piv]
  have hA2:∀ r c,r < m→c < k→r≠i→A r c=(D.piv i j).a r c:=fun r c hr' hc q=>by rw [hA r c hr' hc,if_pos ⟨by omega,q⟩]
  have hb2:∀ r,r < m→b r=(D.piv i j).b r:=fun r hr'=>by rw [hb r hr',if_pos (.inr (by omega))]
  refine Gv2.succ (fun N g=>g_e_tableau_pivot_L3.eq_2 ..) (Gv2.condF (dnl (m:=x) (n:=m) (by omega) (LA_len _ _ _)) ?_)
  simp only [toNat_nat,LQ_get _ _ hj,LQ_get _ _ hi,ebi]
  refine Gv2.if (inl hj (LQ_len _ _)) (Gv2.bind (((hr.g j hj).q (by omega)).zero (by decide)) ?_)
  by_cases z:D.g j=0
  ·refine Gv2.condF (by simp [z]) (Gv2.if (by rw [LA_len];exact hi) (Gv2.one ⟨0,fun N _=>pivot_J5 hi hj hA2 hb2 (fun c _=>?_) ?_ N⟩))
   ·simp only [Dic.piv,z]
    by_cases q:c=j
    ·rw [if_pos q,q,z];grind
    ·rw [if_neg q];grind
   ·simp only [Dic.piv,z];grind
  ·refine Gv2.condT (by simp [z]) (Gv2.if (inl hi (LQ_len _ _)) (Gv2.bind (((hr.g j hj).q (by omega)).mul (hp.q (by omega)) (msm (by decide))) (Gv2.bind ((hr.v.q (by omega)).add ((((hr.g j hj).mul hp).le (Nat.le_refl _)).q (by omega)) (msm (by decide)))
    (Gv2.bind (put_gv hk hs h1 (hr.g j hj) (fun c hc=>hr.g c hc) (fun c hc=>hr.prow h1 hi hj h0 hc)) (Gv2.if (by rw [LQ_len,LQ_len]) (Gv2.if (by rw [LA_len];exact hi) (Gv2.one ⟨0,fun N _=>pivot_J5 hi hj hA2 hb2 (fun c _=>?_) rfl N⟩)))))))
   simp only [Dic.piv]
   by_cases q:c=j
   ·rw [if_pos q,if_pos q,q]
   ·rw [if_neg q,if_neg q]
 | d+1,x,A,b,hx,hA,hb=>by
  have hxm:x < m:=by omega
  have hp:RB (D.pb i j) (2 * s):=((hr.b i hi).div (hr.a i j hi hj) h0).neg.le (by omega)
  have ebi:b i=D.pb i j:=by rw [hb i hi,if_pos (.inl rfl)];simp [Dic.piv]
  refine Gv2.succ (fun N g=>g_e_tableau_pivot_L3.eq_2 ..) (Gv2.condT (dlt (n:=m) hxm (LA_len _ _ _)) ?_)
  by_cases e:x=i
  ·simp only [toNat_nat,w64_succ (show x < 9223372036854775807 by omega),g_e_tableau_pivot_J4]
   refine Gv2.condT (by simp [e]) (Gv2.if (inl hxm (LA_len _ _ _)) (Gv2.if (inl hj (LQ_len _ _)) (Gv2.bind (Gv.condF (by simp [e]) (Gv.pure false)) (Gv2.condF (by simp [e]) (pivot_L3 hm hk hi hj hs h1 hr h0 d (x+1) A b (by omega) (fun r c hr' hc=>?_) fun r hr'=>?_)))))
   ·rw [hA r c hr' hc]
    by_cases q:r < x∧r≠i
    ·rw [if_pos q,if_pos ⟨by omega,q.2⟩]
    ·rw [if_neg q,if_neg (by omega)]
   ·rw [hb r hr']
    by_cases q:r=i∨r < x
    ·rw [if_pos q,if_pos (by omega)]
    ·rw [if_neg q,if_neg (by omega)]
  ·have erow:LQ (A x) k=LQ (D.a x) k:=LQ_congr fun c hc=>by rw [hA x c hxm hc,if_neg (by omega)]
   have ebx:b x=D.b x:=by rw [hb x hxm,if_neg (by omega)]
   simp only [toNat_nat,w64_succ (show x < 9223372036854775807 by omega),g_e_tableau_pivot_J4,LA_get _ _ hxm,erow,LQ_get _ _ hxm,LQ_get _ _ hi,ebi,ebx,LQ_get _ _ hj]
   have hne:((x:Int) != (i:Int))=true:=by simp;omega
   refine Gv2.condF (by simp;omega) (Gv2.if (by rw [LA_len];exact hxm) (Gv2.if (inl hxm (LA_len _ _ _)) (Gv2.if (inl hj (LQ_len _ _)) (Gv2.bind (Gv.condT hne (((hr.a x j hxm hj).q (by omega)).zero (by decide))) ?_))))
   by_cases z:D.a x j=0
   ·refine Gv2.condF (by simp [z]) (pivot_L3 hm hk hi hj hs h1 hr h0 d (x+1) A b (by omega) (fun r c hr' hc=>?_) fun r hr'=>?_)
    ·rw [hA r c hr' hc]
     by_cases q:r < x∧r≠i
     ·rw [if_pos q,if_pos ⟨by omega,q.2⟩]
     ·rw [if_neg q]
      by_cases q2:r=x
      ·rw [if_pos ⟨by omega,by omega⟩,q2]
       simp only [Dic.piv,if_neg e,z]
       split
       ·rename_i q3;rw [q3,z];grind
       ·grind
      ·rw [if_neg (by omega)]
    ·rw [hb r hr']
     by_cases q:r=i∨r < x
     ·rw [if_pos q,if_pos (by omega)]
     ·rw [if_neg q]
      by_cases q2:r=x
      ·rw [if_pos (by omega),q2]
       simp only [Dic.piv,if_neg e,z];grind
      ·rw [if_neg (by omega)]
   ·refine Gv2.condT (by rw [hne];simp [z]) (Gv2.if (inl hxm (LQ_len _ _)) (Gv2.if (inl hi (LQ_len _ _)) (Gv2.bind (((hr.a x j hxm hj).q (by omega)).mul (hp.q (by omega)) (msm (by decide)))
     (Gv2.bind (((hr.b x hxm).q (by omega)).add ((((hr.a x j hxm hj).mul hp).le (Nat.le_refl _)).q (by omega)) (msm (by decide)))
     (Gv2.bind (put_gv hk hs h1 (hr.a x j hxm hj) (fun c hc=>hr.a x c hxm hc) (fun c hc=>hr.prow h1 hi hj h0 hc)) (Gv2.if (by rw [LQ_len,LQ_len]) ?_))))))
    simp only [LA_set,LQ_set]
    refine pivot_L3 hm hk hi hj hs h1 hr h0 d (x+1) _ _ (by omega) (fun r c hr' hc=>?_) fun r hr'=>?_
    ·by_cases q2:r=x
     ·have q4:x < x+1∧x≠i:=⟨by omega,e⟩
      simp only [q2,q4,if_true,if_false,Dic.piv,and_self,ne_eq,not_false_eq_true]
      by_cases q3:c=j
      ·simp only [q3,if_true]
      ·simp only [q3,if_false]
     ·simp only [q2,if_false]
      rw [hA r c hr' hc]
      by_cases q:r < x∧r≠i
      ·rw [if_pos q,if_pos ⟨by omega,q.2⟩]
      ·rw [if_neg q,if_neg (by omega)]
    ·by_cases q2:r=x
     ·rw [if_pos q2,if_pos (by omega),q2]
      simp only [Dic.piv,if_neg e]
     ·rw [if_neg q2,hb r hr']
      by_cases q:r=i∨r < x
      ·rw [if_pos q,if_pos (by omega)]
      ·rw [if_neg q,if_neg (by omega)]
theorem pivot_L1 (hm:m≤1000) (hk:k≤1000) (hi:i < m) (hj:j < k) (hs:5 * s≤MS) (h1:1≤s) (hr:D.RBs m k s) (h0:D.a i j≠0):∀ (d x:Nat) (R:Nat→Rat),x+d=k→(∀ c,c < k→R c=if c < x∧c≠j then D.prow i j c else D.a i c) →
  Gv2 (fun N g=>g_e_tableau_pivot_L1 N (i:Int) (j:Int) (n:Int) (m:Int) (ofQ D.v).fN.fG (ofQ D.v).fN.fL (ofQ D.v).fD.fG (ofQ D.v).fD.fL (h:Int) (LN D.bas m) (LN D.fr k) (LA D.a m k) (LQ D.b m) (LQ D.g k)
   g (LQ R k) (x:Int)) (RT n m k h (D.piv i j))
 | 0,x,R,hx,hR=>by
  have hp:RB (D.b i / D.a i j) (2 * s):=((hr.b i hi).div (hr.a i j hi hj) h0).le (by omega)
  have hc:=(hr.a i j hi hj).q (show s≤MS by omega)
  refine Gv2.succ (fun N g=>g_e_tableau_pivot_L1.eq_2 ..) (Gv2.condF (dnl (m:=x) (n:=k) (by omega) (by simp only [toNat_nat,LA_get _ _ hi,LQ_len])) ?_)
  simp only [toNat_nat,LA_get _ _ hi,LQ_get _ _ hi,LQ_get _ _ hj]
  refine Gv2.bind (number_gv (z:=1) (by decide) (by decide)) (Gv2.bind ((Dic.RB1.q (by decide)).over hc h0 (msm (by decide))) (Gv2.if (inl hj (LQ_len _ _)) (Gv2.if (inl hi (LQ_len _ _))
   (Gv2.bind (((hr.b i hi).q (by omega)).over hc h0 (msm (by decide))) (Gv2.bind (by have:=negative_gv (hp.q (show 2 * s≤MS by omega)).ir (by decide) (msm (by decide));rwa [qv_ofQ] at this) ?_)))))
  simp only [LQ_set]
  have e1:=LQ_congr (f:=fun a=>if a=j then (1:Rat) / D.a i j else R a) (g:=D.prow i j) (n:=k) fun c hc=>by
   by_cases q:c=j
   ·rw [if_pos q];unfold Dic.prow;rw [if_pos q]
   ·rw [if_neg q,hR c hc,if_pos ⟨by omega,q⟩]
  have:=(pivot_L3 hm hk hi hj hs h1 hr h0 m 0 D.a (fun a=>if a=i then -(D.b i / D.a i j) else D.b a) (by omega) (fun r c _ _=>by rw [if_neg (by omega)]) (fun r hr'=>by
   by_cases q:r=i
   ·rw [if_pos q,if_pos (.inl q)];simp only [Dic.piv,if_pos q];rfl
   ·rw [if_neg q,if_neg (by omega)]) (n:=n) (h:=h)).diag
  rw [← e1] at this
  exact Gv2.one this
 | d+1,x,R,hx,hR=>by
  have hxk:x < k:=by omega
  have hc:=(hr.a i j hi hj).q (show s≤MS by omega)
  have hd:RB (D.a i x / D.a i j) (2 * s):=((hr.a i x hi hxk).div (hr.a i j hi hj) h0).le (by omega)
  have ex:R x=D.a i x:=by rw [hR x hxk,if_neg (by omega)]
  refine Gv2.succ (fun N g=>g_e_tableau_pivot_L1.eq_2 ..) (Gv2.condT (dlt (n:=k) hxk (by simp only [toNat_nat,LA_get _ _ hi,LQ_len])) ?_)
  simp only [toNat_nat,LA_get _ _ hi,LQ_get _ _ hxk,ex,LQ_get _ _ hj,w64_succ (show x < 9223372036854775807 by omega),g_e_tableau_pivot_J2]
  by_cases e:x=j
  ·refine Gv2.condF (by simp;omega) (pivot_L1 hm hk hi hj hs h1 hr h0 d (x+1) R (by omega) fun c hc=>?_)
   rw [hR c hc]
   by_cases q:c < x∧c≠j
   ·rw [if_pos q,if_pos ⟨by omega,q.2⟩]
   ·rw [if_neg q,if_neg (by omega)]
  ·refine Gv2.condT (by simp;omega) (Gv2.if (inl hxk (LQ_len _ _)) (Gv2.bind (((hr.a i x hi hxk).q (by omega)).over hc h0 (msm (by decide))) (Gv2.bind (by have:=negative_gv (hd.q (show 2 * s≤MS by omega)).ir (by decide) (msm (by decide));rwa [qv_ofQ] at this) ?_)))
   simp only [LQ_set]
   refine pivot_L1 hm hk hi hj hs h1 hr h0 d (x+1) _ (by omega) fun c hc=>?_
   by_cases q2:c=x
   ·rw [if_pos q2,if_pos ⟨by omega,by omega⟩,q2];unfold Dic.prow;rw [if_neg e]
   ·rw [if_neg q2,hR c hc]
    by_cases q:c < x∧c≠j
    ·rw [if_pos q,if_pos ⟨by omega,q.2⟩]
    ·rw [if_neg q,if_neg (by omega)]
theorem pivot_gv (hm:m≤1000) (hk:k≤1000) (hi:i < m) (hj:j < k) (hs:5 * s≤MS) (h1:1≤s) (hr:D.RBs m k s) (h0:D.a i j≠0) :
  Gv (fun N=>g_e_tableau_pivot N (i:Int) (j:Int) (n:Int) (m:Int) (ofQ D.v).fN.fG (ofQ D.v).fN.fL (ofQ D.v).fD.fG (ofQ D.v).fD.fL (h:Int) (LN D.bas m) (LN D.fr k) (LA D.a m k) (LQ D.b m) (LQ D.g k)) (RT n m k h (D.piv i j)):=by
 have:=(pivot_L1 hm hk hi hj hs h1 hr h0 k 0 (D.a i) (by omega) (fun c _=>by rw [if_neg (by omega)]) (n:=n) (h:=h)).diag
 refine Gv.if (by rw [LA_len];exact hi) (Gv.if (inl hi (LA_len _ _ _)) (Gv.if (inl hj (by simp only [toNat_nat,LA_get _ _ hi,LQ_len])) ?_))
 simp only [toNat_nat,LA_get _ _ hi]
 exact this
end
end Go.Den
namespace Go.Den
open Go.Ab
section
variable {n m k h j s:Nat} {D:Dic}
def EntI (D:Dic) (x:Nat) (best:Int):Prop:=(best = -1∧∀ j,j < x→D.g j≤0)∨∃ b:Nat,best=b∧b < x∧0 < D.g b∧∀ j',j' < x→0 < D.g j'→D.fr b≤D.fr j'
theorem ent_L1 (hk:k≤1000) (hs:s≤MS) (hr:D.RBs m k s):∀ (d x:Nat) (best:Int),x+d=k→EntI D x best →
  ∃ r,Gv2 (fun N g=>g_e_tableau_entering_L1 N (n:Int) (m:Int) (ofQ D.v).fN.fG (ofQ D.v).fN.fL (ofQ D.v).fD.fG (ofQ D.v).fD.fL (h:Int) (LN D.bas m) (LN D.fr k) (LA D.a m k) (LQ D.b m) (LQ D.g k) g best (x:Int)) r∧EntI D k r
 | 0,x,best,hx,hI=>⟨best,Gv2.succ (fun N g=>g_e_tableau_entering_L1.eq_2 ..) (Gv2.condF (dnl (m:=x) (n:=k) (by omega) (LN_len _ _)) (Gv2.one (Gv.pure _))),by rw [show k=x by omega];exact hI⟩
 | d+1,x,best,hx,hI=>by
  have hxk:x < k:=by omega
  have hsg:=((hr.g x hxk).q hs).sgn (by decide)
  have nx:∀ best':Int,EntI D (x+1) best'→(cond (cond (decide (sgn (D.g x) > 0)) (cond (decide (best < 0)) true (decide ((LN D.fr k).getD x 0 < (LN D.fr k).getD best.toNat 0))) false) (x:Int) best)=best' →
    ∃ r,Gv2 (fun N g=>g_e_tableau_entering_L1 N (n:Int) (m:Int) (ofQ D.v).fN.fG (ofQ D.v).fN.fL (ofQ D.v).fD.fG (ofQ D.v).fD.fL (h:Int) (LN D.bas m) (LN D.fr k) (LA D.a m k) (LQ D.b m) (LQ D.g k) (g+1) best (x:Int)) r∧EntI D k r:=fun best' h1 h2=>by
   obtain ⟨r,h3,h4⟩:=ent_L1 hk hs hr d (x+1) best' (by omega) h1
   refine ⟨r,?_,h4⟩
   have hb:0≤best→best < ((k:Nat):Int):=fun h0=>by
    rcases hI with ⟨e,_⟩ | ⟨b,e,hb,_⟩<;>omega
   have:Gv2 (fun N g=>g_e_tableau_entering_L1 N (n:Int) (m:Int) (ofQ D.v).fN.fG (ofQ D.v).fN.fL (ofQ D.v).fD.fG (ofQ D.v).fD.fL (h:Int) (LN D.bas m) (LN D.fr k) (LA D.a m k) (LQ D.b m) (LQ D.g k) (g+1) best (x:Int)) r:=by
    simp only [g_e_tableau_entering_L1]
    refine Gv2.condT (dlt (n:=k) hxk (LN_len _ _)) (Gv2.if (inl hxk (LQ_len _ _)) ?_)
    simp only [toNat_nat,LQ_get _ _ hxk,g_e_tableau_entering_J2,w64_succ (show x < 9223372036854775807 by omega)]
    refine Gv2.bind hsg (Gv2.if (fun _=>inl hxk (LN_len _ _)) (Gv2.if (fun q=>?_) ?_))
    ·simp at q
     rw [LN_len];exact ⟨by omega,hb (by omega)⟩
    ·revert h2
     cases (cond (decide (sgn (D.g x) > 0)) (cond (decide (best < 0)) true (decide ((LN D.fr k).getD x 0 < (LN D.fr k).getD best.toNat 0))) false) with
     | true=>intro h2;refine Gv2.condT rfl ?_;simp only [cond_true] at h2;rw [h2];exact h3
     | false=>intro h2;refine Gv2.condF rfl ?_;simp only [cond_false] at h2;rw [h2];exact h3
   exact this
  have fin:∀ {best':Int},EntI D (x+1) best'→(cond (cond (decide (sgn (D.g x) > 0)) (cond (decide (best < 0)) true (decide ((LN D.fr k).getD x 0 < (LN D.fr k).getD best.toNat 0))) false) (x:Int) best)=best' →
    ∃ r,Gv2 (fun N g=>g_e_tableau_entering_L1 N (n:Int) (m:Int) (ofQ D.v).fN.fG (ofQ D.v).fN.fL (ofQ D.v).fD.fG (ofQ D.v).fD.fL (h:Int) (LN D.bas m) (LN D.fr k) (LA D.a m k) (LQ D.b m) (LQ D.g k) g best (x:Int)) r∧EntI D k r:=fun h1 h2=>by
   obtain ⟨r,h3,h4⟩:=nx _ h1 h2
   exact ⟨r,Gv2.succ (fun _ _=>rfl) h3,h4⟩
  by_cases hp:0 < D.g x
  ·have e1:decide (sgn (D.g x) > 0)=true:=decide_eq_true (sgn_pos.2 hp)
   rcases hI with ⟨rfl,hb⟩ | ⟨b,rfl,hb,hg,hmin⟩
   ·refine fin (best':=x) (.inr ⟨x,rfl,by omega,hp,fun j' h1 h2=>?_⟩) (by rw [e1];rfl)
    by_cases e:j'=x
    ·rw [e];exact Nat.le_refl _
    ·exact absurd h2 (Rat.not_lt.2 (hb j' (by omega)))
   ·have e2:decide (((b:Nat):Int) < 0)=false:=by simp
    by_cases hlt:D.fr x < D.fr b
    ·refine fin (best':=x) (.inr ⟨x,rfl,by omega,hp,fun j' h1 h2=>?_⟩) (by
      rw [e1,e2,LN_get _ _ hxk,toNat_nat,LN_get _ _ (show b < k by omega),decide_eq_true (show ((D.fr x:Nat):Int) < ((D.fr b:Nat):Int) by omega)];rfl)
     by_cases e:j'=x
     ·rw [e];exact Nat.le_refl _
     ·have:=hmin j' (by omega) h2;omega
    ·refine fin (best':=b) (.inr ⟨b,rfl,by omega,hg,fun j' h1 h2=>?_⟩) (by
      rw [e1,e2,LN_get _ _ hxk,toNat_nat,LN_get _ _ (show b < k by omega),decide_eq_false (show ¬ ((D.fr x:Nat):Int) < ((D.fr b:Nat):Int) by omega)];rfl)
     by_cases e:j'=x
     ·rw [e];omega
     ·exact hmin j' (by omega) h2
  ·have e1:decide (sgn (D.g x) > 0)=false:=decide_eq_false fun q=>hp (sgn_pos.1 q)
   refine fin (best':=best) ?_ (by rw [e1];rfl)
   rcases hI with ⟨e,hb⟩ | ⟨b,e,hb,hg,hmin⟩
   ·refine .inl ⟨e,fun j' h1=>?_⟩
    by_cases e2:j'=x
    ·rw [e2];exact Rat.not_lt.1 hp
    ·exact hb j' (by omega)
   ·refine .inr ⟨b,e,by omega,hg,fun j' h1 h2=>?_⟩
    by_cases e2:j'=x
    ·rw [e2] at h2;exact absurd h2 hp
    ·exact hmin j' (by omega) h2
theorem ent_gv (hk:k≤1000) (hs:s≤MS) (hr:D.RBs m k s):∃ r,Gv (fun N=>g_e_tableau_entering N (n:Int) (m:Int) (ofQ D.v).fN.fG (ofQ D.v).fN.fL (ofQ D.v).fD.fG (ofQ D.v).fD.fL (h:Int) (LN D.bas m) (LN D.fr k) (LA D.a m k) (LQ D.b m) (LQ D.g k)) r ∧
  ((r = -1∧∀ j,j < k→D.g j≤0)∨∃ j:Nat,r=j∧D.IsEnter k j):=by
 obtain ⟨r,h1,h2⟩:=ent_L1 hk hs hr k 0 (-1) (by omega) (.inl ⟨rfl,fun j hj=>absurd hj (Nat.not_lt_zero _)⟩) (n:=n) (h:=h)
 refine ⟨r,h1.diag,?_⟩
 rcases h2 with h | ⟨b,e,q1,q2,q3⟩
 ·exact .inl h
 ·exact .inr ⟨b,e,q1,q2,q3⟩
def LeaI (D:Dic) (j x:Nat) (best:Int) (least:TRat):Prop:=(best = -1∧∀ i,i < x→0≤D.a i j)∨∃ b:Nat,best=b∧b < x∧D.a b j < 0∧least=ofQ (D.ratio j b) ∧
 ∀ i',i' < x→D.a i' j < 0→D.ratio j b < D.ratio j i'∨D.ratio j b=D.ratio j i'∧D.bas b≤D.bas i'
theorem lea_L1 (hm:m≤1000) (hj:j < k) (hs:2 * s≤MS) (hr:D.RBs m k s):∀ (d x:Nat) (best:Int) (least:TRat),x+d=m→LeaI D j x best least →
  ∃ r l,Gv2 (fun N g=>g_e_tableau_leaving_L1 N (j:Int) (n:Int) (m:Int) (ofQ D.v).fN.fG (ofQ D.v).fN.fL (ofQ D.v).fD.fG (ofQ D.v).fD.fL (h:Int) (LN D.bas m) (LN D.fr k) (LA D.a m k) (LQ D.b m) (LQ D.g k) g best least (x:Int)) r∧LeaI D j m r l
 | 0,x,best,least,hx,hI=>⟨best,least,Gv2.succ (fun N g=>g_e_tableau_leaving_L1.eq_2 ..) (Gv2.condF (dnl (m:=x) (n:=m) (by omega) (LN_len _ _)) (Gv2.one (Gv.pure _))),by rw [show m=x by omega];exact hI⟩
 | d+1,x,best,least,hx,hI=>by
  have hxm:x < m:=by omega
  have ha:=(hr.a x j hxm hj).q (show s≤MS by omega)
  have hsg:=ha.sgn (by decide)
  have ng:Gv (fun N=>g_e_negative N (ofQ (D.a x j))) (ofQ (-(D.a x j))):=by have:=negative_gv ha.ir (by decide) (msm (by decide));rwa [qv_ofQ] at this
  have nx:∀ (best':Int) (least':TRat),LeaI D j (x+1) best' least'→(0≤D.a x j→best'=best∧least'=least) →
    (D.a x j < 0→∀ c7:Int,(best < 0∧c7 = -1∨∃ b:Nat,best=b∧b < m∧c7=sgn (D.ratio j x - D.ratio j b)) →
     cond (cond (decide (c7 < 0)) true (cond (c7 == 0) (decide ((LN D.bas m).getD x 0 < (LN D.bas m).getD best.toNat 0)) false)) ((x:Int),ofQ (D.ratio j x)) (best,least)=(best',least')) →
    ∃ r l,Gv2 (fun N g=>g_e_tableau_leaving_L1 N (j:Int) (n:Int) (m:Int) (ofQ D.v).fN.fG (ofQ D.v).fN.fL (ofQ D.v).fD.fG (ofQ D.v).fD.fL (h:Int) (LN D.bas m) (LN D.fr k) (LA D.a m k) (LQ D.b m) (LQ D.g k) g best least (x:Int)) r∧LeaI D j m r l:=fun best' least' h1 h2 h5=>by
   obtain ⟨r,l,h3,h4⟩:=lea_L1 hm hj hs hr d (x+1) best' least' (by omega) h1
   refine ⟨r,l,Gv2.succ (fun N g=>g_e_tableau_leaving_L1.eq_2 ..) (Gv2.condT (dlt (n:=m) hxm (LN_len _ _)) ?_),h4⟩
   simp only [toNat_nat,LA_get _ _ hxm,LQ_get _ _ hj,LQ_get _ _ hxm,LQ_len,LA_len,g_e_tableau_leaving_J2,w64_succ (show x < 9223372036854775807 by omega)]
   refine Gv2.if hxm (Gv2.if (inb hxm) (Gv2.if (inb hj) (Gv2.bind hsg ?_)))
   by_cases hz:0≤D.a x j
   ·have e:decide (sgn (D.a x j)≥0)=true:=decide_eq_true (Int.not_lt.1 fun q=>by have:=sgn_neg.1 q;grind)
    obtain ⟨e1,e2⟩:=h2 hz
    refine Gv2.condT e ?_
    rw [e1,e2] at h3;exact h3
   ·have hneg:D.a x j < 0:=Rat.not_le.1 hz
    have e:decide (sgn (D.a x j)≥0)=false:=decide_eq_false fun q=>by have:=sgn_neg.2 hneg;omega
    have h0:-(D.a x j)≠0:=by grind
    have hov:=((hr.b x hxm).q (show s≤MS by omega)).over (((hr.a x j hxm hj).neg).q (show s≤MS by omega)) h0 (msm (by decide))
    refine Gv2.condF e (Gv2.if (inb hxm) (Gv2.bind ng (Gv2.bind hov ?_)))
    have hJ3:∀ c7:Int,(best < 0∧c7 = -1∨∃ b:Nat,best=b∧b < m∧c7=sgn (D.ratio j x - D.ratio j b))→Gv2 (fun N g=>g_e_tableau_leaving_J3 N (j:Int) (n:Int) (m:Int) (ofQ D.v).fN.fG (ofQ D.v).fN.fL (ofQ D.v).fD.fG (ofQ D.v).fD.fL (h:Int) (LN D.bas m) (LN D.fr k) (LA D.a m k) (LQ D.b m) (LQ D.g k) best least (x:Int) (ofQ (D.b x / -(D.a x j)))
      (g_e_tableau_leaving_L1 N (j:Int) (n:Int) (m:Int) (ofQ D.v).fN.fG (ofQ D.v).fN.fL (ofQ D.v).fD.fG (ofQ D.v).fD.fL (h:Int) (LN D.bas m) (LN D.fr k) (LA D.a m k) (LQ D.b m) (LQ D.g k) g) c7) r:=fun c7 hc=>by
     have h6:=h5 hneg c7 hc
     simp only [g_e_tableau_leaving_J3,g_e_tableau_leaving_J2,toNat_nat,w64_succ (show x < 9223372036854775807 by omega)]
     refine Gv2.if (fun _=>inl hxm (LN_len _ _)) (Gv2.if (fun q=>?_) ?_)
     ·rw [LN_len]
      rcases hc with ⟨_,e⟩ | ⟨b,e,hb,_⟩
      ·simp [e] at q
      ·omega
     ·revert h6
      cases (cond (decide (c7 < 0)) true (cond (c7 == 0) (decide ((LN D.bas m).getD x 0 < (LN D.bas m).getD best.toNat 0)) false)) with
      | true=>intro h6;simp only [cond_true,Prod.mk.injEq] at h6;refine Gv2.condT rfl ?_;rw [← h6.1,← h6.2] at h3;exact h3
      | false=>intro h6;simp only [cond_false,Prod.mk.injEq] at h6;refine Gv2.condF rfl ?_;rw [← h6.1,← h6.2] at h3;exact h3
    rcases hI with ⟨e1,_⟩ | ⟨b,e1,hb,hbn,e2,_⟩
    ·exact Gv2.condF (by simp [e1]) (hJ3 (-1) (.inl ⟨by omega,rfl⟩))
    ·have hbm:b < m:=by omega
     have q1:RB (D.ratio j x) (2 * s):=by unfold Dic.ratio;exact ((hr.b x hxm).div (hr.a x j hxm hj).neg h0).le (by omega)
     have q2:RB (D.ratio j b) (2 * s):=by unfold Dic.ratio;exact ((hr.b b hbm).div (hr.a b j hbm hj).neg (by grind)).le (by omega)
     refine Gv2.condT (by simp [e1]) (Gv2.bind (r:=sgn (D.ratio j x - D.ratio j b)) ?_ (hJ3 _ (.inr ⟨b,e1,hbm,rfl⟩)))
     rw [e2]
     exact (q1.q hs).cmp (q2.q hs) (msm (by decide))
  by_cases hz:0≤D.a x j
  ·refine nx best least ?_ (fun _=>⟨rfl,rfl⟩) fun q=>by grind
   rcases hI with ⟨e,hb⟩ | ⟨b,e,hb,hg,e3,hmin⟩
   ·refine .inl ⟨e,fun j' h1=>?_⟩
    by_cases e2:j'=x
    ·rw [e2];exact hz
    ·exact hb j' (by omega)
   ·refine .inr ⟨b,e,by omega,hg,e3,fun j' h1 h2=>?_⟩
    by_cases e2:j'=x
    ·rw [e2] at h2;grind
    ·exact hmin j' (by omega) h2
  ·have hneg:D.a x j < 0:=Rat.not_le.1 hz
   rcases hI with ⟨rfl,hb⟩ | ⟨b,rfl,hb,hg,rfl,hmin⟩
   ·refine nx x (ofQ (D.ratio j x)) (.inr ⟨x,rfl,by omega,hneg,rfl,fun j' h1 h2=>?_⟩) (fun q=>by grind) fun _ c7 hc=>?_
    ·by_cases e:j'=x
     ·rw [e];exact .inr ⟨rfl,Nat.le_refl _⟩
     ·have:=hb j' (by omega);grind
    ·rcases hc with ⟨_,e⟩ | ⟨b,e,_⟩
     ·rw [e];rfl
     ·omega
   ·have c7e:∀ c7:Int,(((b:Nat):Int) < 0∧c7 = -1∨∃ b':Nat,((b:Nat):Int)=b'∧b' < m∧c7=sgn (D.ratio j x - D.ratio j b'))→c7=sgn (D.ratio j x - D.ratio j b):=fun c7 hc=>by
     rcases hc with ⟨e,_⟩ | ⟨b',e,_,e2⟩
     ·omega
     ·rw [e2,show b'=b by omega]
    have hbm:b < m:=by omega
    by_cases h1:D.ratio j x < D.ratio j b
    ·refine nx x (ofQ (D.ratio j x)) (.inr ⟨x,rfl,by omega,hneg,rfl,fun j' q1 q2=>?_⟩) (fun q=>by grind) fun _ c7 hc=>?_
     ·by_cases e:j'=x
      ·rw [e];exact .inr ⟨rfl,Nat.le_refl _⟩
      ·rcases hmin j' (by omega) q2 with q3 | ⟨q3,_⟩
       ·exact .inl (by grind)
       ·exact .inl (by grind)
     ·rw [c7e c7 hc,decide_eq_true (sgn_neg.2 (show D.ratio j x - D.ratio j b < 0 by grind))];rfl
    ·have hnn:decide (sgn (D.ratio j x - D.ratio j b) < 0)=false:=decide_eq_false fun q=>by have:=sgn_neg.1 q;grind
     by_cases h2:D.ratio j x=D.ratio j b
     ·have hz0:(sgn (D.ratio j x - D.ratio j b) == 0)=true:=by rw [beq_iff_eq];exact sgn_zero.2 (by grind)
      by_cases h3:D.bas x < D.bas b
      ·refine nx x (ofQ (D.ratio j x)) (.inr ⟨x,rfl,by omega,hneg,rfl,fun j' q1 q2=>?_⟩) (fun q=>by grind) fun _ c7 hc=>?_
       ·by_cases e:j'=x
        ·rw [e];exact .inr ⟨rfl,Nat.le_refl _⟩
        ·rcases hmin j' (by omega) q2 with q3 | ⟨q3,q4⟩
         ·exact .inl (by grind)
         ·exact .inr ⟨by grind,by omega⟩
       ·rw [c7e c7 hc,hnn,hz0,LN_get _ _ hxm,toNat_nat,LN_get _ _ hbm,decide_eq_true (show ((D.bas x:Nat):Int) < ((D.bas b:Nat):Int) by omega)];rfl
      ·refine nx b (ofQ (D.ratio j b)) (.inr ⟨b,rfl,by omega,hg,rfl,fun j' q1 q2=>?_⟩) (fun q=>by grind) fun _ c7 hc=>?_
       ·by_cases e:j'=x
        ·rw [e];exact .inr ⟨h2.symm,by omega⟩
        ·exact hmin j' (by omega) q2
       ·rw [c7e c7 hc,hnn,hz0,LN_get _ _ hxm,toNat_nat,LN_get _ _ hbm,decide_eq_false (show ¬ ((D.bas x:Nat):Int) < ((D.bas b:Nat):Int) by omega)];rfl
     ·have hz0:(sgn (D.ratio j x - D.ratio j b) == 0)=false:=by
       rw [beq_eq_false_iff_ne];intro q;have:=sgn_zero.1 q;grind
      refine nx b (ofQ (D.ratio j b)) (.inr ⟨b,rfl,by omega,hg,rfl,fun j' q1 q2=>?_⟩) (fun q=>by grind) fun _ c7 hc=>?_
      ·by_cases e:j'=x
       ·rw [e];exact .inl (by grind)
       ·exact hmin j' (by omega) q2
      ·rw [c7e c7 hc,hnn,hz0];rfl
theorem lea_gv (hm:m≤1000) (hj:j < k) (hs:2 * s≤MS) (hr:D.RBs m k s):∃ r,Gv (fun N=>g_e_tableau_leaving N (j:Int) (n:Int) (m:Int) (ofQ D.v).fN.fG (ofQ D.v).fN.fL (ofQ D.v).fD.fG (ofQ D.v).fD.fL (h:Int) (LN D.bas m) (LN D.fr k) (LA D.a m k) (LQ D.b m) (LQ D.g k)) r ∧
  ((r = -1∧∀ i,i < m→0≤D.a i j)∨∃ i:Nat,r=i∧D.IsLeave m j i):=by
 obtain ⟨r,l,h1,h2⟩:=lea_L1 hm hj hs hr m 0 (-1) _ (by omega) (.inl ⟨rfl,fun j hj=>absurd hj (Nat.not_lt_zero _)⟩) (n:=n) (h:=h)
 refine ⟨r,h1.diag,?_⟩
 rcases h2 with h | ⟨b,e,q1,q2,_,q3⟩
 ·exact .inl h
 ·exact .inr ⟨b,e,q1,q2,q3⟩
def Stop (D:Dic) (m k:Nat) (r:Int):Prop:=(r = -1∧∀ j,j < k→D.g j≤0)∨∃ j:Nat,r=j∧D.IsEnter k j∧∀ i,i < m→0≤D.a i j
theorem climb_gv (hm:m≤1000) (hk:k≤1000) {D0:Dic} (h0:D0.WF m k) (hr0:D0.RBs m k s) (h1:1≤s) (hs:5 * (5 ^ m * s)≤MS) (hw:D.WF m k) (hf:D.Fea m) (he:Dic.Eqv m k D0 D) :
  ∃ D' r,D'.WF m k∧D'.Fea m∧Dic.Eqv m k D0 D'∧Stop D' m k r∧Gv2 (fun N g=>g_e_tableau_climb_L1 N g (n:Int) (m:Int) (LN D.bas m) (LN D.fr k) (LA D.a m k) (LQ D.b m) (LQ D.g k) (ofQ D.v).fN.fG (ofQ D.v).fN.fL (ofQ D.v).fD.fG (ofQ D.v).fD.fL (h:Int)) (r,RT n m k h D'):=by
 induction Dic.acc_step hw hf with
 | intro D _ ih =>
  have hr:=Dic.size hw h0 he hr0 h1
  have hs1:1≤5 ^ m * s:=Nat.le_trans h1 (Nat.le_mul_of_pos_left _ (Nat.pow_pos (by decide)))
  obtain ⟨r,e1,e2⟩:=ent_gv hk (by omega) hr (n:=n) (h:=h)
  rcases e2 with ⟨rfl,e2⟩ | ⟨j,rfl,e2⟩
  ·exact ⟨D,-1,hw,hf,he,.inl ⟨rfl,e2⟩,Gv2.succ (fun N g=>g_e_tableau_climb_L1.eq_2 ..) (Gv2.bind e1 (Gv2.condT (by decide) (Gv2.one (Gv.pure _))))⟩
  ·obtain ⟨r,e3,e4⟩:=lea_gv hm e2.lt (by omega) hr (n:=n) (h:=h)
   rcases e4 with ⟨rfl,e4⟩ | ⟨i,rfl,e4⟩
   ·exact ⟨D,j,hw,hf,he,.inr ⟨j,rfl,e2,e4⟩,Gv2.succ (fun N g=>g_e_tableau_climb_L1.eq_2 ..) (Gv2.bind e1 (Gv2.condF (by simp) (Gv2.bind e3 (Gv2.condT (by decide) (Gv2.one (Gv.pure _))))))⟩
   ·have hne:D.a i j≠0:=by have:=e4.neg;grind
    obtain ⟨D',r,q1,q2,q3,q4,q5⟩:=ih (D.piv i j) ⟨j,i,e2,e4,rfl⟩ (hw.piv e4.lt e2.lt) (hf.piv e4) (he.trans (.piv e4.lt e2.lt hne))
    refine ⟨D',r,q1,q2,q3,q4,Gv2.succ (fun N g=>g_e_tableau_climb_L1.eq_2 ..) (Gv2.bind e1 (Gv2.condF (by simp) (Gv2.bind e3 (Gv2.condF (by simp) (Gv2.bind (pivot_gv hm hk e4.lt e2.lt hs hs1 hr hne) ?_)))))⟩
    simp only [RT,LN_len,LA_len,LQ_len]
    exact Gv2.if trivial (Gv2.if trivial (Gv2.if trivial (Gv2.if trivial (Gv2.if trivial q5))))
end
end Go.Den
namespace Go.Den
open Go.Ab
theorem idx_L1 {f:Nat→Nat} {k v:Nat} (hk:k≤1000):∀ d x,x+d=k→(∀ j,j < x→f j≠v)→∃ r,Gv2 (fun N g=>g_slices_Index_int_int_L1 N (LN f k) (v:Int) g (x:Int)) r∧((r = -1∧∀ j,j < k→f j≠v)∨∃ j:Nat,r=j∧j < k∧f j=v)
 | 0,x,hx,h=>⟨-1,Gv2.succ (fun N g=>g_slices_Index_int_int_L1.eq_2 ..) (Gv2.condF (dnl (m:=x) (n:=k) (by omega) (LN_len _ _)) (Gv2.one (Gv.pure _))),.inl ⟨rfl,fun j hj=>h j (by omega)⟩⟩
 | d+1,x,hx,h=>by
  have hxk:x < k:=by omega
  by_cases e:f x=v
  ·refine ⟨x,Gv2.succ (fun N g=>g_slices_Index_int_int_L1.eq_2 ..) (Gv2.condT (dlt (n:=k) hxk (LN_len _ _)) (Gv2.if (inl hxk (LN_len _ _)) (Gv2.condT ?_ (Gv2.one (Gv.pure _))))),.inr ⟨x,rfl,hxk,e⟩⟩
   rw [toNat_nat,LN_get _ _ hxk,e];simp
  ·obtain ⟨r,h1,h2⟩:=idx_L1 (f:=f) (v:=v) hk d (x+1) (by omega) fun j hj=>by
    by_cases q:j=x
    ·rw [q];exact e
    ·exact h j (by omega)
   refine ⟨r,Gv2.succ (fun N g=>g_slices_Index_int_int_L1.eq_2 ..) (Gv2.condT (dlt (n:=k) hxk (LN_len _ _)) (Gv2.if (inl hxk (LN_len _ _)) (Gv2.condF ?_ ?_))),h2⟩
   ·rw [toNat_nat,LN_get _ _ hxk];simp;omega
   ·rw [w64_succ (show x < 9223372036854775807 by omega)];exact h1
theorem idx_gv {f:Nat→Nat} {k v:Nat} (hk:k≤1000):∃ r,Gv (fun N=>g_slices_Index_int_int N (LN f k) (v:Int)) r∧((r = -1∧∀ j,j < k→f j≠v)∨∃ j:Nat,r=j∧j < k∧f j=v):=by
 obtain ⟨r,h1,h2⟩:=idx_L1 (f:=f) (v:=v) hk k 0 (by omega) fun j hj=>absurd hj (Nat.not_lt_zero _)
 exact ⟨r,h1.diag,h2⟩
theorem col_L1 {f:Nat→Rat} {k s:Nat} (hk:k≤1000) (hs:s≤MS) (hf:∀ j,j < k→RB (f j) s):∀ d x,x+d=k→(∀ j,j < x→f j=0) →
  ∃ r,Gv2 (fun N g=>g_slices_IndexFunc_Rat_L1 N (LQ f k) g (x:Int)) r∧((r = -1∧∀ j,j < k→f j=0)∨∃ j:Nat,r=j∧j < k∧f j≠0)
 | 0,x,hx,h=>⟨-1,Gv2.succ (fun N g=>g_slices_IndexFunc_Rat_L1.eq_2 ..) (Gv2.condF (dnl (m:=x) (n:=k) (by omega) (LQ_len _ _)) (Gv2.one (Gv.pure _))),.inl ⟨rfl,fun j hj=>h j (by omega)⟩⟩
 | d+1,x,hx,h=>by
  have hxk:x < k:=by omega
  have hz:Gv (fun N=>g_e_tableau_settle_1 N (ofQ (f x))) (!decide (f x=0)):=Gv.bind (((hf x hxk).q hs).zero (by decide)) (Gv.pure _)
  by_cases e:f x=0
  ·obtain ⟨r,h1,h2⟩:=col_L1 hk hs hf d (x+1) (by omega) fun j hj=>by
    by_cases q:j=x
    ·rw [q];exact e
    ·exact h j (by omega)
   refine ⟨r,Gv2.succ (fun N g=>g_slices_IndexFunc_Rat_L1.eq_2 ..) (Gv2.condT (dlt (n:=k) hxk (LQ_len _ _)) (Gv2.if (inl hxk (LQ_len _ _)) ?_)),h2⟩
   simp only [toNat_nat,LQ_get _ _ hxk,w64_succ (show x < 9223372036854775807 by omega)]
   exact Gv2.bind hz (Gv2.condF (by simp [e]) h1)
  ·refine ⟨x,Gv2.succ (fun N g=>g_slices_IndexFunc_Rat_L1.eq_2 ..) (Gv2.condT (dlt (n:=k) hxk (LQ_len _ _)) (Gv2.if (inl hxk (LQ_len _ _)) ?_)),.inr ⟨x,rfl,hxk,e⟩⟩
   simp only [toNat_nat,LQ_get _ _ hxk]
   exact Gv2.bind hz (Gv2.condT (by simp [e]) (Gv2.one (Gv.pure _)))
theorem col_gv {f:Nat→Rat} {k s:Nat} (hk:k≤1000) (hs:s≤MS) (hf:∀ j,j < k→RB (f j) s) :
  ∃ r,Gv (fun N=>g_slices_IndexFunc_Rat N (LQ f k)) r∧((r = -1∧∀ j,j < k→f j=0)∨∃ j:Nat,r=j∧j < k∧f j≠0):=by
 obtain ⟨r,h1,h2⟩:=col_L1 hk hs hf k 0 (by omega) fun j hj=>absurd hj (Nat.not_lt_zero _)
 exact ⟨r,h1.diag,h2⟩
def sk (c j:Nat):Nat:=if j < c then j else j+1
section
variable {α:Type}
theorem del_tab (f:Nat→α) {k c:Nat} (hc:c≤k):(delL (tab f (k+1)) c (c+1)).take ((c - 0)+((tab f (k+1)).length - (c+1)))=tab (fun j=>f (sk c j)) k:=by
 refine List.ext_getElem? fun j=>?_
 have e1:((tab f (k+1)).take c).length=c:=by rw [List.length_take,tab_len];omega
 have e3:∀ {n i:Nat} (g:Nat→α),(tab g n)[i]?=if i < n then some (g i) else none:=fun {n i} g=>by
  unfold tab
  by_cases h:i < n<;>simp [h]
 rw [List.getElem?_take,tab_len,e3]
 unfold delL
 by_cases h:j < c
 ·rw [if_pos (by omega),if_pos (by omega),List.append_assoc,List.getElem?_append_left (by omega),List.getElem?_take,if_pos h,e3,if_pos (by omega)]
  unfold sk;rw [if_pos h]
 ·by_cases h2:j < k
  ·have e2:((tab f (k+1)).drop (c+1)).length=k - c:=by rw [List.length_drop,tab_len];omega
   rw [if_pos (by omega),if_pos h2,List.append_assoc,List.getElem?_append_right (by omega),e1,List.getElem?_append_left (by omega),List.getElem?_drop,e3,if_pos (by omega)]
   unfold sk;rw [if_neg h,show c+1+(j - c)=j+1 by omega]
  ·rw [if_neg (by omega),if_neg h2]
theorem del_len (f:Nat→α) {k c:Nat} (hc:c≤k):(delL (tab f (k+1)) c (c+1)).length=k+1:=by
 rw [← len_del ⟨by omega,by rw [tab_len];omega⟩,tab_len]
end
theorem del_int (f:Nat→Nat) {k c:Nat} (hc:c≤k) (hk:k≤1000):Gv (fun N=>g_slices_Delete_int_int N (c:Int) (w64 ((c:Int)+1)) (LN f (k+1))) (LN (fun j=>f (sk c j)) k,LN (fun j=>f (sk c j)) k):=by
 rw [w64_succ (by omega)]
 have e:=del_len (fun i=>((f i:Nat):Int)) hc
 have e2:=del_tab (fun i=>((f i:Nat):Int)) hc
 refine Gv.if (by rw [LN_len];omega) (Gv.condF (by simp;omega) ?_)
 simp only [toNat_nat]
 refine Gv.if (by rw [LN_len];omega) (Gv.if (by omega) (Gv.if (by rw [LN_len];omega) (Gv.if (by omega) (Gv.if (by rw [LN_len];omega) (Gv.if (by rw [LN_len];omega) (Gv.if ?_ (Gv.if ?_ ((Gv.pure _).eq ?_))))))))
 ·rw [LN_len];unfold LN;rw [e];omega
 ·rw [LN_len];unfold LN;rw [e];omega
 ·unfold LN;rw [e2]
theorem del_rat (f:Nat→Rat) {k c:Nat} (hc:c≤k) (hk:k≤1000):Gv (fun N=>g_slices_Delete_Rat N (c:Int) (w64 ((c:Int)+1)) (LQ f (k+1))) (LQ (fun j=>f (sk c j)) k,LQ (fun j=>f (sk c j)) k):=by
 rw [w64_succ (by omega)]
 have e:=del_len (fun i=>ofQ (f i)) hc
 have e2:=del_tab (fun i=>ofQ (f i)) hc
 refine Gv.if (by rw [LQ_len];omega) (Gv.condF (by simp;omega) ?_)
 simp only [toNat_nat]
 refine Gv.if (by rw [LQ_len];omega) (Gv.if (by omega) (Gv.if (by rw [LQ_len];omega) (Gv.if (by omega) (Gv.if (by rw [LQ_len];omega) (Gv.if (by rw [LQ_len];omega) (Gv.if ?_ (Gv.if ?_ ((Gv.pure _).eq ?_))))))))
 ·rw [LQ_len];unfold LQ;rw [e];omega
 ·rw [LQ_len];unfold LQ;rw [e];omega
 ·unfold LQ;rw [e2]
def Dic.del (D:Dic) (c:Nat):Dic where
 bas:=D.bas
 fr:=fun j=>D.fr (sk c j)
 a:=fun i j=>D.a i (sk c j)
 b:=D.b
 g:=fun _=>0
 v:=0
def RS (ok:Bool) (n m k h:Nat) (D:Dic):Bool×Ttb×List Int×List Int×List (List TRat)×List TRat :=
 (ok,⟨n,m,LN D.bas m,LN D.fr k,LA D.a m k,LQ D.b m,LQ D.g k,ofQ D.v,h⟩,LN D.bas m,LN D.fr k,LA D.a m k,LQ D.b m)
section
variable {n m k h c s:Nat} {D:Dic}
theorem num_gv (z:Int) (h1:-1000≤z) (h2:z≤1000):Gv (fun N=>g_e_number N z) (ofQ (z:Rat)):=number_gv (by omega) (by omega)
theorem num0_gv:Gv (fun N=>g_e_number N 0) (ofQ 0):=number_gv (z:=0) (by decide) (by decide)
theorem set_L6 (hk:k≤1000) {g0:List TRat} {v1 v3:Bool} {v2 v4:List Int}:∀ (d x:Nat) (L:List TRat),x+d=k→L.length=k→(∀ j,j < x→L.getD j TRat.d=ofQ 0) →
  Gv2 (fun N g=>g_e_tableau_settle_L6 N (n:Int) (m:Int) (LN D.bas m) (LQ D.b m) g0 v1 v2 v3 v4 (h:Int) (LN (fun j=>D.fr (sk c j)) k,LN (fun j=>D.fr (sk c j)) k) (LA (fun i j=>D.a i (sk c j)) m k) g L (x:Int)) (RS true n m k h (D.del c))
 | 0,x,L,hx,hl,h0=>by
  refine Gv2.succ (fun N g=>g_e_tableau_settle_L6.eq_2 ..) (Gv2.condF (dnl (m:=x) (n:=k) (by omega) (by rw [List.length_replicate,LN_len])) (Gv2.bind num0_gv (Gv2.one ((Gv.pure _).eq ?_))))
  rw [show L=LQ (fun _=>0) k from tab_of TRat.d hl fun j hj=>h0 j (by omega)]
  rfl
 | d+1,x,L,hx,hl,h0=>by
  have hxk:x < k:=by omega
  refine Gv2.succ (fun N g=>g_e_tableau_settle_L6.eq_2 ..) (Gv2.condT (dlt (n:=k) hxk (by rw [List.length_replicate,LN_len])) (Gv2.bind num0_gv (Gv2.if (inl hxk hl) ?_)))
  rw [w64_succ (show x < 9223372036854775807 by omega)]
  refine set_L6 hk d (x+1) _ (by omega) (by rw [List.length_set];exact hl) fun j hj=>?_
  rw [toNat_nat]
  by_cases e:x=j
  ·subst e;exact getD_setE _ _ _ _ (by omega)
  ·rw [getD_setN _ _ _ e];exact h0 j (by omega)
theorem set_L5 (hm:m≤1000) (hk:k≤1000) (hc:c≤k) {g0:List TRat} {v1 v3:Bool} {v2 v4:List Int}:∀ (d x:Nat) (G:Nat→List TRat),x+d=m→(∀ r,r < m→G r=if r < x then LQ (fun j=>D.a r (sk c j)) k else LQ (D.a r) (k+1)) →
  Gv2 (fun N g=>g_e_tableau_settle_L5 N (n:Int) (m:Int) (LN D.bas m) (LA D.a m (k+1)) (LQ D.b m) g0 v1 v2 v3 v4 (h:Int) (c:Int) (LN (fun j=>D.fr (sk c j)) k,LN (fun j=>D.fr (sk c j)) k) g (tab G m) (x:Int)) (RS true n m k h (D.del c))
 | 0,x,G,hx,hG=>by
  refine Gv2.succ (fun N g=>g_e_tableau_settle_L5.eq_2 ..) (Gv2.condF (dnl (m:=x) (n:=m) (by omega) (LA_len _ _ _)) ?_)
  simp only [LN_len]
  refine Gv2.if (by omega) ?_
  rw [show tab G m=LA (fun i j=>D.a i (sk c j)) m k from tab_congr fun r hr=>by rw [hG r hr,if_pos (by omega)]]
  have:=(set_L6 hk (n:=n) (m:=m) (h:=h) (c:=c) (D:=D) (g0:=g0) (v1:=v1) (v2:=v2) (v3:=v3) (v4:=v4) k 0 (List.replicate k TRat.d) (by omega) List.length_replicate fun j hj=>absurd hj (Nat.not_lt_zero _)).diag
  exact Gv2.one this
 | d+1,x,G,hx,hG=>by
  have hxm:x < m:=by omega
  have e:G x=LQ (D.a x) (k+1):=by rw [hG x hxm,if_neg (by omega)]
  refine Gv2.succ (fun N g=>g_e_tableau_settle_L5.eq_2 ..) (Gv2.condT (dlt (n:=m) hxm (LA_len _ _ _)) (Gv2.if (by rw [tab_len];exact hxm) (Gv2.if (inl hxm (tab_len _ _)) ?_)))
  simp only [toNat_nat,tab_get _ _ hxm,e]
  refine Gv2.bind (del_rat (D.a x) hc hk) ?_
  rw [w64_succ (show x < 9223372036854775807 by omega),tab_set]
  refine set_L5 hm hk hc d (x+1) _ (by omega) fun r hr=>?_
  by_cases q:r=x
  ·rw [if_pos q,if_pos (by omega),q]
  ·rw [if_neg q,hG r hr]
   by_cases q2:r < x
   ·rw [if_pos q2,if_pos (by omega)]
   ·rw [if_neg q2,if_neg (by omega)]
theorem set_J4 (hm:m≤1000) (hk:k≤999) (hw:D.WF m (k+1)) (hc:c < k+1) (hh:D.fr c=h) :
  Gv (fun N=>g_e_tableau_settle_J4 N (n:Int) (m:Int) (LN D.bas m) (LN D.fr (k+1)) (LA D.a m (k+1)) (LQ D.b m) (LQ D.g (k+1)) (ofQ D.v).fN.fG (ofQ D.v).fN.fL (ofQ D.v).fD.fG (ofQ D.v).fD.fL (h:Int)) (RS true n m k h (D.del c)):=by
 obtain ⟨r,h1,h2⟩:=idx_gv (f:=D.fr) (k:=k+1) (v:=h) (by omega)
 rcases h2 with ⟨_,h2⟩ | ⟨j,rfl,hj,h2⟩
 ·exact absurd hh (h2 c hc)
 ·obtain rfl:j=c:=hw.fi j c hj hc (h2.trans hh.symm)
  refine Gv.bind h1 (Gv.bind (del_int D.fr (by omega) (by omega)) ?_)
  have:=(set_L5 hm (show k≤1000 by omega) (show j≤k by omega) (n:=n) (h:=h) (D:=D) (g0:=LQ D.g (k+1)) (v1:=(ofQ D.v).fN.fG) (v2:=(ofQ D.v).fN.fL) (v3:=(ofQ D.v).fD.fG) (v4:=(ofQ D.v).fD.fL) m 0 (fun r=>LQ (D.a r) (k+1)) (by omega) fun r _=>by rw [if_neg (Nat.not_lt_zero _)]).diag
  exact this
structure Settled (n m:Nat) (C:Nat→Nat→Rat) (B:Nat→Rat) (D:Dic) (c:Nat):Prop where
 wf:D.WF m (2 * n+1)
 fea:D.Fea m
 eqv:(∃ z,Dic.Eqv m (2 * n+1) (Dic.fst n m C B z) D)
 lt:c < 2 * n+1
 fr:D.fr c=2 * n+m
variable {C:Nat→Nat→Rat} {B:Nat→Rat}
theorem set_J3 (hm:m≤1000) (hn:2 * n≤998) {z:Rat} (hr0:(Dic.fst n m C B z).RBs m (2 * n+1) s) (h1:1≤s) (hs:5 * (5 ^ m * s)≤MS) (hw:D.WF m (2 * n+1)) (hf:D.Fea m) (he:Dic.Eqv m (2 * n+1) (Dic.fst n m C B z) D)
  (hb0:∀ i,i < m→D.bas i=2 * n+m→D.b i=0∧∃ j,j < 2 * n+1∧D.a i j≠0) :
  ∃ D' c,Settled n m C B D' c∧Gv (fun N=>g_e_tableau_settle_J3 N (n:Int) (m:Int) (LN D.bas m) (LN D.fr (2 * n+1)) (LA D.a m (2 * n+1)) (LQ D.b m) (LQ D.g (2 * n+1)) (ofQ D.v).fN.fG (ofQ D.v).fN.fL (ofQ D.v).fD.fG (ofQ D.v).fD.fL ((2 * n+m:Nat):Int)) (RS true n m (2 * n) (2 * n+m) (D'.del c)):=by
 have hr:=Dic.size hw (Dic.fst_wf n m C B z) he hr0 h1
 have hs1:1≤5 ^ m * s:=Nat.le_trans h1 (Nat.le_mul_of_pos_left _ (Nat.pow_pos (by decide)))
 obtain ⟨r,q1,q2⟩:=idx_gv (f:=D.bas) (k:=m) (v:=2 * n+m) hm
 rcases q2 with ⟨rfl,q2⟩ | ⟨i,rfl,hi,q2⟩
 ·obtain ⟨c,hc,hfr⟩:=Dic.notB_fr hw (u:=2 * n+m) (by omega) fun ⟨i,hi,e⟩=>q2 i hi e
  exact ⟨D,c,⟨hw,hf,⟨z,he⟩,hc,hfr⟩,Gv.bind q1 (Gv.condF (by decide) (set_J4 hm (by omega) hw hc hfr))⟩
 ·obtain ⟨hb,j0,hj0,ha0⟩:=hb0 i hi q2
  obtain ⟨r,q3,q4⟩:=col_gv (f:=D.a i) (k:=2 * n+1) (by omega) (show 5 ^ m * s≤MS by omega) fun j hj=>hr.a i j hi hj
  rcases q4 with ⟨_,q4⟩ | ⟨j,rfl,hj,q4⟩
  ·exact absurd (q4 j0 hj0) ha0
  ·refine ⟨D.piv i j,j,⟨hw.piv hi hj,Dic.piv_fea0 hf hb,⟨z,he.trans (.piv hi hj q4)⟩,hj,by simp only [Dic.piv,if_true];exact q2⟩,Gv.bind q1 (Gv.condT (by simp) ?_)⟩
   simp only [toNat_nat,LA_get _ _ hi]
   refine Gv.if (by rw [LA_len];exact hi) (Gv.if (inl hi (LA_len _ _ _)) (Gv.bind q3 (Gv.bind (pivot_gv hm (by omega) hi hj hs hs1 hr q4) ?_)))
   simp only [RT,LN_len,LA_len,LQ_len]
   exact Gv.if trivial (Gv.if trivial (Gv.if trivial (Gv.if trivial (Gv.if trivial (set_J4 hm (by omega) (hw.piv hi hj) hj (by simp only [Dic.piv,if_true];exact q2))))))
def LowI (B:Nat→Rat) (x:Nat) (low:Int):Prop:=(low = -1∧∀ r,r < x→0≤B r)∨∃ l:Nat,low=l∧l < x∧B l < 0∧∀ r,r < x→B l≤B r
structure Refused (n m:Nat) (C:Nat→Nat→Rat) (B:Nat→Rat) (D:Dic):Prop where
 wf:D.WF m (2 * n+1)
 eqv:Dic.Eqv m (2 * n+1) (Dic.fst n m C B (-1)) D
 g:∀ j,j < 2 * n+1→D.g j≤0
 v:D.v < 0
theorem fst_rbs (z:Rat) (hz:RB z s) (hr:(Dic.fst n m C B 0).RBs m (2 * n+1) s):(Dic.fst n m C B z).RBs m (2 * n+1) s:=by
 refine ⟨hr.a,hr.b,fun j hj=>?_,hr.v⟩
 have:=hr.g j hj
 simp only [Dic.fst] at this ⊢
 split
 ·rw [if_pos (by assumption)] at this;exact this
 ·exact hz
theorem set_L1 (hm:m≤1000) (hn:2 * n≤998) (hr:(Dic.fst n m C B 0).RBs m (2 * n+1) s) (h1:1≤s) (hs:5 * (5 ^ m * s)≤MS):∀ (d x:Nat) (low:Int),x+d=m→LowI B x low →
  ∃ r,Gv2 (fun N g=>g_e_tableau_settle_L1 N (n:Int) (m:Int) (ofQ 0).fN.fG (ofQ 0).fN.fL (ofQ 0).fD.fG (ofQ 0).fD.fL ((2 * n+m:Nat):Int) (LN (Dic.fst n m C B 0).bas m) (LN (Dic.fst n m C B 0).fr (2 * n+1))
    (LA (Dic.fst n m C B 0).a m (2 * n+1)) (LQ B m) (LQ (Dic.fst n m C B 0).g (2 * n+1)) g low (x:Int)) r ∧
   ((∃ D,Refused n m C B D∧r=RS false n m (2 * n+1) (2 * n+m) D)∨∃ D c,Settled n m C B D c∧r=RS true n m (2 * n) (2 * n+m) (D.del c))
 | 0,x,low,hx,hI=>by
  have hxm:x=m:=by omega
  subst hxm
  have step:∀ {r},(∃ N0:Nat,True)→Gv2 (fun N g=>g_e_tableau_settle_L1 N (n:Int) (x:Int) (ofQ 0).fN.fG (ofQ 0).fN.fL (ofQ 0).fD.fG (ofQ 0).fD.fL ((2 * n+x:Nat):Int) (LN (Dic.fst n x C B 0).bas x) (LN (Dic.fst n x C B 0).fr (2 * n+1))
    (LA (Dic.fst n x C B 0).a x (2 * n+1)) (LQ B x) (LQ (Dic.fst n x C B 0).g (2 * n+1)) (g+1) low (x:Int)) r→Gv2 (fun N g=>g_e_tableau_settle_L1 N (n:Int) (x:Int) (ofQ 0).fN.fG (ofQ 0).fN.fL (ofQ 0).fD.fG (ofQ 0).fD.fL ((2 * n+x:Nat):Int) (LN (Dic.fst n x C B 0).bas x) (LN (Dic.fst n x C B 0).fr (2 * n+1))
    (LA (Dic.fst n x C B 0).a x (2 * n+1)) (LQ B x) (LQ (Dic.fst n x C B 0).g (2 * n+1)) g low (x:Int)) r:=fun _ h=>Gv2.succ (fun _ _=>rfl) h
  rcases hI with ⟨rfl,hB⟩ | ⟨l,rfl,hl,hneg,hmin⟩
  ·obtain ⟨D,c,q1,q2⟩:=set_J3 (D:=Dic.fst n x C B 0) hm hn hr h1 hs (Dic.fst_wf n x C B 0) hB (.refl _ _ _) fun i hi e=>by
    simp only [Dic.fst] at e;omega
   refine ⟨_,step ⟨0,trivial⟩ ?_,.inr ⟨D,c,q1,rfl⟩⟩
   simp only [g_e_tableau_settle_L1]
   exact Gv2.condF (dnl (m:=x) (n:=x) (Nat.le_refl _) (LQ_len _ _)) (Gv2.condF (by decide) (Gv2.one q2))
  ·have hw:=Dic.fst_wf n x C B (-1)
   have hr1:=fst_rbs (-1) (Dic.RB1.neg.le h1) hr
   have ea:(Dic.fst n x C B (-1)).a l (2 * n)=1:=by simp only [Dic.fst];rw [if_neg (by omega),if_neg (by omega)]
   have h0:(Dic.fst n x C B (-1)).a l (2 * n)≠0:=by rw [ea];decide
   have hs5:s≤5 ^ x * s:=Nat.le_mul_of_pos_left _ (Nat.pow_pos (by decide))
   have hpiv:=pivot_gv (n:=n) (h:=2 * n+x) hm (show 2 * n+1≤1000 by omega) hl (show 2 * n < 2 * n+1 by omega) (show 5 * s≤MS by omega) h1 hr1 h0
   obtain ⟨D,r,q1,q2,q3,q4,q5⟩:=climb_gv (n:=n) (h:=2 * n+x) hm (show 2 * n+1≤1000 by omega) hw hr1 h1 hs (hw.piv hl (show 2 * n < 2 * n+1 by omega)) (Dic.first_fea n x C B hl hneg hmin) (.piv hl (by omega) h0)
   have htop:=Dic.end_top q1 q3 q2 (by
    rcases q4 with ⟨_,h⟩ | ⟨j,_,h,h'⟩
    ·exact .inl h
    ·exact .inr ⟨j,h,h'⟩)
   have hrD:=Dic.size q1 hw q3 hr1 h1
   have eg:(LQ (Dic.fst n x C B 0).g (2 * n+1)).set (2 * n) (ofQ ((-1:Int):Rat))=LQ (Dic.fst n x C B (-1)).g (2 * n+1):=by
    rw [LQ_set]
    refine LQ_congr fun j hj=>?_
    simp only [Dic.fst]
    by_cases e:j=2 * n
    ·rw [if_pos e,if_neg (by omega)];rfl
    ·rw [if_neg e,if_pos (by omega),if_pos (by omega)]
   have elast:w64 (((2 * n+1:Nat):Int) - 1)=((2 * n:Nat):Int):=by rw [w64_eq (by omega) (by omega)];omega
   have main:∀ {r'},Gv (fun N=>(g_e_isZero N (ofQ D.v)).bind fun risZero=>cond (!risZero) (some (RS false n x (2 * n+1) (2 * n+x) D)) (g_e_tableau_settle_J3 N (n:Int) (x:Int) (LN D.bas x) (LN D.fr (2 * n+1)) (LA D.a x (2 * n+1)) (LQ D.b x) (LQ D.g (2 * n+1)) (ofQ D.v).fN.fG (ofQ D.v).fN.fL (ofQ D.v).fD.fG (ofQ D.v).fD.fL ((2 * n+x:Nat):Int))) r' →
     Gv2 (fun N g=>g_e_tableau_settle_L1 N (n:Int) (x:Int) (ofQ 0).fN.fG (ofQ 0).fN.fL (ofQ 0).fD.fG (ofQ 0).fD.fL ((2 * n+x:Nat):Int) (LN (Dic.fst n x C B 0).bas x) (LN (Dic.fst n x C B 0).fr (2 * n+1))
      (LA (Dic.fst n x C B 0).a x (2 * n+1)) (LQ B x) (LQ (Dic.fst n x C B 0).g (2 * n+1)) g ((l:Nat):Int) (x:Int)) r':=fun h=>by
    refine step ⟨0,trivial⟩ ?_
    simp only [g_e_tableau_settle_L1,LN_len,elast,toNat_nat]
    refine Gv2.condF (dnl (m:=x) (n:=x) (Nat.le_refl _) (LQ_len _ _)) (Gv2.condT (by simp) (Gv2.bind (num_gv (-1) (by decide) (by decide)) (Gv2.if (inl (show 2 * n < 2 * n+1 by omega) (LQ_len _ _)) ?_)))
    rw [eg]
    refine Gv2.bind hpiv ?_
    simp only [RT,LN_len,LA_len,LQ_len]
    refine Gv2.if trivial (Gv2.if trivial (Gv2.if trivial (Gv2.if trivial (Gv2.if trivial (Gv2.bind (q5.diag) ?_)))))
    simp only [RT,LN_len,LA_len,LQ_len]
    exact Gv2.if trivial (Gv2.if trivial (Gv2.if trivial (Gv2.if trivial (Gv2.if trivial (Gv2.one h)))))
   by_cases hz:D.v=0
   ·have hh0:D.ext x (2 * n+1) Dic.zer (2 * n+x)=0:=by have:=Dic.v_helper q1 q3;grind
    obtain ⟨D',c,p1,p2⟩:=set_J3 hm hn hr1 h1 hs q1 q2 q3 fun i hi e=>⟨by
     rw [← e,Dic.ext_bas q1 hi,Dic.row_zer] at hh0;exact hh0,Dic.helper_col q1 q3 hi e⟩
    exact ⟨_,main (Gv.bind ((hrD.v.q (by omega)).zero (by decide)) (Gv.condF (by simp [hz]) p2)),.inr ⟨D',c,p1,rfl⟩⟩
   ·refine ⟨_,main (Gv.bind ((hrD.v.q (by omega)).zero (by decide)) (Gv.condT (by simp [hz]) (Gv.pure _))),.inl ⟨D,⟨q1,q3,htop,?_⟩,rfl⟩⟩
    have e1:=Dic.v_helper q1 q3
    have e2:=Dic.p0_nonneg q1 q2 (2 * n+x) (by omega)
    grind
 | d+1,x,low,hx,hI=>by
  have hxm:x < m:=by omega
  have hs5:s≤5 ^ m * s:=Nat.le_mul_of_pos_left _ (Nat.pow_pos (by decide))
  have hB:∀ r,r < m→RB (B r) s:=hr.b
  have hbx:=(hB x hxm).q (show s≤MS by omega)
  have hlow:0≤low→low < ((m:Nat):Int):=fun h0=>by
   rcases hI with ⟨e,_⟩ | ⟨b,e,hb,_⟩<;>omega
  have nx:∀ low':Int,LowI B (x+1) low'→(∃ cmp:Int,(B x < 0→∀ l:Nat,low=l→cmp=sgn (B x - B l))∧(¬ (B x < 0∧0≤low)→cmp=0)∧(cond (cond (decide (sgn (B x) < 0)) (cond (decide (low < 0)) true (decide (cmp < 0))) false) (x:Int) low)=low') →
    ∃ r,Gv2 (fun N g=>g_e_tableau_settle_L1 N (n:Int) (m:Int) (ofQ 0).fN.fG (ofQ 0).fN.fL (ofQ 0).fD.fG (ofQ 0).fD.fL ((2 * n+m:Nat):Int) (LN (Dic.fst n m C B 0).bas m) (LN (Dic.fst n m C B 0).fr (2 * n+1))
      (LA (Dic.fst n m C B 0).a m (2 * n+1)) (LQ B m) (LQ (Dic.fst n m C B 0).g (2 * n+1)) g low (x:Int)) r ∧
     ((∃ D,Refused n m C B D∧r=RS false n m (2 * n+1) (2 * n+m) D)∨∃ D c,Settled n m C B D c∧r=RS true n m (2 * n) (2 * n+m) (D.del c)):=fun low' g1 ⟨cmp,g2,g3,g4⟩=>by
   obtain ⟨r,g5,g6⟩:=set_L1 hm hn hr h1 hs d (x+1) low' (by omega) g1
   refine ⟨r,Gv2.succ (fun _ _=>rfl) ?_,g6⟩
   have hcmp:Gv (fun N=>cond ((decide (sgn (B x) < 0)) && ((decide (sgn (B x) < 0)) && (!(decide (low < 0))))) (g_e_CmpRat N (ofQ (B x)) ((LQ B m).getD low.toNat TRat.d)) (some 0)) cmp:=by
    by_cases q:B x < 0∧0≤low
    ·obtain ⟨q1,q2⟩:=q
     obtain ⟨l,rfl⟩:∃ l:Nat,low=l:=⟨low.toNat,by omega⟩
     have hlm:l < m:=by have:=hlow q2;omega
     rw [g2 q1 l rfl]
     refine Gv.condT (by simp [sgn_neg,q1]) ?_
     rw [toNat_nat,LQ_get _ _ hlm]
     exact hbx.cmp ((hB l hlm).q (show s≤MS by omega)) (msm (by decide))
    ·rw [g3 q]
     refine Gv.condF ?_ (Gv.pure 0)
     by_cases q1:B x < 0
     ·have:low < 0:=Int.not_le.1 fun q2=>q ⟨q1,q2⟩
      simp [this]
     ·simp [sgn_neg,q1]
   have:Gv2 (fun N g=>g_e_tableau_settle_L1 N (n:Int) (m:Int) (ofQ 0).fN.fG (ofQ 0).fN.fL (ofQ 0).fD.fG (ofQ 0).fD.fL ((2 * n+m:Nat):Int) (LN (Dic.fst n m C B 0).bas m) (LN (Dic.fst n m C B 0).fr (2 * n+1))
      (LA (Dic.fst n m C B 0).a m (2 * n+1)) (LQ B m) (LQ (Dic.fst n m C B 0).g (2 * n+1)) (g+1) low (x:Int)) r:=by
    simp only [g_e_tableau_settle_L1]
    refine Gv2.condT (dlt (n:=m) hxm (LQ_len _ _)) (Gv2.if (inl hxm (LQ_len _ _)) ?_)
    simp only [toNat_nat,LQ_get _ _ hxm,g_e_tableau_settle_J2,w64_succ (show x < 9223372036854775807 by omega)]
    refine Gv2.bind (hbx.sgn (by decide)) (Gv2.if (fun _=>inl hxm (LQ_len _ _)) (Gv2.if (fun q=>?_) (Gv2.bind hcmp ?_)))
    ·simp at q
     rw [LQ_len];exact ⟨by omega,hlow (by omega)⟩
    ·revert g4
     cases (cond (decide (sgn (B x) < 0)) (cond (decide (low < 0)) true (decide (cmp < 0))) false) with
     | true=>intro g4;refine Gv2.condT rfl ?_;simp only [cond_true] at g4;rw [g4];exact g5
     | false=>intro g4;refine Gv2.condF rfl ?_;simp only [cond_false] at g4;rw [g4];exact g5
   exact this
  by_cases hp:B x < 0
  ·have e1:decide (sgn (B x) < 0)=true:=decide_eq_true (sgn_neg.2 hp)
   rcases hI with ⟨rfl,hb⟩ | ⟨l,rfl,hl,hg,hmin⟩
   ·refine nx x (.inr ⟨x,rfl,by omega,hp,fun r hr'=>?_⟩) ⟨0,fun _ l e=>by omega,fun _=>rfl,by rw [e1];rfl⟩
    by_cases e:r=x
    ·rw [e];exact Rat.le_refl
    ·have:=hb r (by omega);grind
   ·have e2:decide (((l:Nat):Int) < 0)=false:=by simp
    by_cases hlt:B x < B l
    ·refine nx x (.inr ⟨x,rfl,by omega,hp,fun r hr'=>?_⟩) ⟨sgn (B x - B l),fun _ l' e=>by rw [show l'=l by omega],fun q=>absurd ⟨hp,by omega⟩ q,by rw [e1,e2,decide_eq_true (sgn_neg.2 (show B x - B l < 0 by grind))];rfl⟩
     by_cases e:r=x
     ·rw [e];exact Rat.le_refl
     ·have:=hmin r (by omega);grind
    ·refine nx l (.inr ⟨l,rfl,by omega,hg,fun r hr'=>?_⟩) ⟨sgn (B x - B l),fun _ l' e=>by rw [show l'=l by omega],fun q=>absurd ⟨hp,by omega⟩ q,by rw [e1,e2,decide_eq_false fun q=>by have:=sgn_neg.1 q;grind];rfl⟩
     by_cases e:r=x
     ·rw [e];grind
     ·exact hmin r (by omega)
  ·have e1:decide (sgn (B x) < 0)=false:=decide_eq_false fun q=>hp (sgn_neg.1 q)
   refine nx low ?_ ⟨0,fun q=>absurd q hp,fun _=>rfl,by rw [e1];rfl⟩
   rcases hI with ⟨e,hb⟩ | ⟨l,e,hl,hg,hmin⟩
   ·refine .inl ⟨e,fun r h1=>?_⟩
    by_cases e2:r=x
    ·rw [e2];exact Rat.not_lt.1 hp
    ·exact hb r (by omega)
   ·refine .inr ⟨l,e,by omega,hg,fun r h1=>?_⟩
    by_cases e2:r=x
    ·rw [e2];grind
    ·exact hmin r (by omega)
theorem settle_gv (hm:m≤1000) (hn:2 * n≤998) (hr:(Dic.fst n m C B 0).RBs m (2 * n+1) s) (h1:1≤s) (hs:5 * (5 ^ m * s)≤MS) :
  ∃ r,Gv (fun N=>g_e_tableau_settle N (n:Int) (m:Int) (ofQ 0).fN.fG (ofQ 0).fN.fL (ofQ 0).fD.fG (ofQ 0).fD.fL ((2 * n+m:Nat):Int) (LN (Dic.fst n m C B 0).bas m) (LN (Dic.fst n m C B 0).fr (2 * n+1))
    (LA (Dic.fst n m C B 0).a m (2 * n+1)) (LQ B m) (LQ (Dic.fst n m C B 0).g (2 * n+1))) r ∧
   ((∃ D,Refused n m C B D∧r=RS false n m (2 * n+1) (2 * n+m) D)∨∃ D c,Settled n m C B D c∧r=RS true n m (2 * n) (2 * n+m) (D.del c)):=by
 obtain ⟨r,h2,h3⟩:=set_L1 hm hn hr h1 hs m 0 (-1) (by omega) (.inl ⟨rfl,fun j hj=>absurd hj (Nat.not_lt_zero _)⟩)
 exact ⟨r,h2.diag,h3⟩
end
end Go.Den
namespace Go.Den
open Go.Ab
structure RowB (r:TRow):Prop where
 len:r.f_Coefs.length≤20
 co:∀ j,IR (r.f_Coefs.getD j TRat.d) 2
 bo:IR r.f_Bound 2
structure RowsB (l:List TRow):Prop where
 len:l.length≤60
 row:∀ i,RowB (l.getD i TRow.d)
theorem ird {n:Nat}:IR TRat.d n:=⟨⟨U.nil,Nat.zero_le _⟩,⟨U.nil,Nat.zero_le _⟩⟩
theorem RowB.d:RowB TRow.d:=⟨by decide,fun j=>by
 have:(TRow.d.f_Coefs.getD j TRat.d)=TRat.d:=by cases j<;>rfl
 rw [this];exact ird,ird⟩
theorem getD_row {l:List TRow} {i:Nat} (h:l.length≤i):l.getD i TRow.d=TRow.d:=by
 simp [List.getD,List.getElem?_eq_none_iff.2 h]
def rowLong (l:List TRow) (n:Int) (i:Nat):Prop:=(((l.getD i TRow.d).f_Coefs.length:Nat):Int) > n
instance (l:List TRow) (n:Int) (i:Nat):Decidable (rowLong l n i):=by unfold rowLong;infer_instance
def anyLong (l:List TRow) (n:Int):Nat→Nat→Bool
 | 0,_=>false
 | k+1,i=>if rowLong l n i then true else anyLong l n k (i+1)
def rowsCode (n:Int) (l:List TRow):Int:=if n < 0∨n > 12 then 2 else if l.length > 40 then 8 else cond (anyLong l n l.length 0) 11 0
theorem anyLong_false {l:List TRow} {n:Int}:∀ k i,anyLong l n k i=false→∀ j,i≤j→j < i+k→¬ rowLong l n j
 | 0,_,_,j,h1,h2=>by omega
 | k+1,i,h,j,h1,h2=>by
  rw [anyLong] at h
  split at h
  ·cases h
  ·by_cases hji:j=i
   ·rw [hji];assumption
   ·exact anyLong_false k (i+1) h j (by omega) (by omega)
theorem rowIdx_L1 {l:List TRow} {n:Int} (hl:l.length≤1000):∀ k i,i+k=l.length→∃ r,Gv2 (fun N fuel=>g_slices_IndexFunc_Row_L1 N l n fuel (i:Int)) r∧decide (r≥0)=anyLong l n k i
 | 0,i,hi=>⟨-1,.step 0 fun N g _ _=>by
  have:i=l.length:=by omega
  subst this
  rw [g_slices_IndexFunc_Row_L1,dec_nlt];rfl,rfl⟩
 | k+1,i,hi=>by
  have hin:i < l.length:=by omega
  obtain ⟨r,h1,h2⟩:=rowIdx_L1 (n:=n) hl k (i+1) (by omega)
  have hp:Gv (fun N=>g_e_CheckRows_1 N (l.getD i TRow.d) n) (decide (rowLong l n i)):=Gv.pure _
  rw [anyLong]
  by_cases h:rowLong l n i
  ·rw [if_pos h]
   refine ⟨(i:Int),Gv2.succ (fun N g=>g_slices_IndexFunc_Row_L1.eq_2 ..) (Gv2.condT (dec_lt hin) (Gv2.if (inb hin) (Gv2.bind hp (Gv2.condT (decide_eq_true h) (Gv2.one (Gv.pure _)))))),decide_eq_true (by omega)⟩
  ·rw [if_neg h]
   refine ⟨r,Gv2.succ (fun N g=>g_slices_IndexFunc_Row_L1.eq_2 ..) (Gv2.condT (dec_lt hin) (Gv2.if (inb hin) (Gv2.bind hp (Gv2.condF (decide_eq_false h) ?_)))),h2⟩
   rw [w64_succ (by omega)];exact h1
theorem CheckRows_gv (n:Int) (l:List TRow):Gv (fun N=>g_e_CheckRows N n l) (rowsCode n l):=by
 unfold g_e_CheckRows rowsCode
 have e:cond (decide (n < 0)) true (decide (n > 12))=decide (n < 0∨n > 12):=by
  by_cases h:n < 0
  ·rw [decide_eq_true h,decide_eq_true (Or.inl h)];rfl
  ·rw [decide_eq_false h,cond_false];exact decide_eq_decide.2 ⟨Or.inr,fun h2=>h2.resolve_left h⟩
 rw [e]
 by_cases h:n < 0∨n > 12
 ·rw [if_pos h];exact Gv.condT (decide_eq_true h) (Gv.pure _)
 ·rw [if_neg h]
  refine Gv.condF (decide_eq_false h) ?_
  by_cases h2:l.length > 40
  ·rw [if_pos h2];exact Gv.condT (decide_eq_true (by omega)) (Gv.pure _)
  ·rw [if_neg h2]
   obtain ⟨r,h3,h4⟩:=rowIdx_L1 (l:=l) (n:=n) (by omega) l.length 0 (by omega)
   refine Gv.condF (decide_eq_false (by omega)) (Gv.bind (r:=decide (r≥0)) (Gv.bind h3.diag (Gv.pure _)) ?_)
   rw [h4]
   cases anyLong l n l.length 0 with
   | true=>exact Gv.condT rfl (Gv.pure _)
   | false=>exact Gv.condF rfl (Gv.pure _)
theorem rCheckRows_L1 {l:List TRow} {n:Int} (hl:l.length≤1000):∀ k i,i+k=l.length→Gv2 (fun N fuel=>g_r01_CheckRows_L1 N n l fuel (i:Int)) (cond (anyLong l n k i) 11 0)
 | 0,i,hi=>.step 0 fun N g _ _=>by
  have:i=l.length:=by omega
  subst this
  rw [g_r01_CheckRows_L1,dec_nlt];rfl
 | k+1,i,hi=>by
  have hin:i < l.length:=by omega
  refine Gv2.succ (fun N g=>g_r01_CheckRows_L1.eq_2 ..) (Gv2.condT (dec_lt hin) (Gv2.if (inb hin) ?_))
  rw [toNat_nat,anyLong]
  by_cases h:rowLong l n i
  ·rw [if_pos h];exact Gv2.condT (decide_eq_true h) (Gv2.one (Gv.pure _))
  ·rw [if_neg h]
   refine Gv2.condF (decide_eq_false h) ?_
   rw [w64_succ (by omega)];exact rCheckRows_L1 hl k (i+1) (by omega)
theorem rCheckRows_gv (n:Int) (l:List TRow):Gv (fun N=>g_r01_CheckRows N n l) (rowsCode n l):=by
 unfold g_r01_CheckRows rowsCode
 have e:cond (decide (n < 0)) true (decide (n > 12))=decide (n < 0∨n > 12):=by
  by_cases h:n < 0
  ·rw [decide_eq_true h,decide_eq_true (Or.inl h)];rfl
  ·rw [decide_eq_false h,cond_false];exact decide_eq_decide.2 ⟨Or.inr,fun h2=>h2.resolve_left h⟩
 rw [e]
 by_cases h:n < 0∨n > 12
 ·rw [if_pos h];exact Gv.condT (decide_eq_true h) (Gv.pure _)
 ·rw [if_neg h]
  refine Gv.condF (decide_eq_false h) ?_
  by_cases h2:l.length > 40
  ·rw [if_pos h2];exact Gv.condT (decide_eq_true (by omega)) (Gv.pure _)
  ·rw [if_neg h2]
   exact Gv.condF (decide_eq_false (by omega)) (rCheckRows_L1 (by omega) l.length 0 (by omega)).diag
structure RowsOk (n:Nat) (l:List TRow):Prop where
 n_le:n≤12
 len:l.length≤40
 co:∀ i,i < l.length→(l.getD i TRow.d).f_Coefs.length≤n
theorem rowsOk {n:Int} {l:List TRow} (h:rowsCode n l=0):0≤n∧RowsOk n.toNat l:=by
 unfold rowsCode at h
 split at h
 ·cases h
 ·split at h
  ·cases h
  ·cases e:anyLong l n l.length 0 with
   | true=>rw [e] at h;cases h
   | false =>
    refine ⟨by omega,by omega,by omega,fun i hi=>?_⟩
    have:=anyLong_false _ _ e i (Nat.zero_le _) (by omega)
    unfold rowLong at this
    omega
def dF (c x:List TRat):Nat→Nat→Rat→Rat
 | 0,_,a=>a
 | k+1,i,a=>dF c x k (i+1) (a+qv (c.getD i TRat.d) * qv (x.getD i TRat.d))
def dotV (c x:List TRat):Rat:=dF c x c.length 0 0
structure LB (l:List TRat) (n:Nat):Prop where
 len:l.length≤60
 ir:∀ i,IR (l.getD i TRat.d) n
theorem LB.rq {l:List TRat} {n:Nat} (h:LB l n) (hn:1≤n) (i:Nat):RQ (l.getD i TRat.d) (qv (l.getD i TRat.d)) n:=⟨h.ir i,rfl,hn⟩
section
variable {c x:List TRat}
theorem Product_L1 (hc:LB c 12) (hx:LB x 400000) (hle:c.length≤x.length):∀ (k i m:Nat) (a:Rat),i+k=c.length→RB a m→1≤m→m+k * 400013≤100000000→Gv2 (fun N fuel=>g_r01_Product_L1 N c x fuel (ofQ a) (i:Int)) (ofQ (dF c x k i a))
 | 0,i,m,a,hi,_,_,_=>.step 0 fun N g _ _=>by
  have:i=c.length:=by omega
  subst this
  rw [g_r01_Product_L1,dec_nlt];rfl
 | k+1,i,m,a,hi,ha,h1,hm=>by
  have hin:i < c.length:=by omega
  have hlen:=hc.len
  have r1:=hc.rq (by decide) i
  have r2:=hx.rq (by decide) i
  refine Gv2.succ (fun N g=>g_r01_Product_L1.eq_2 ..) (Gv2.condT (by rw [dec_lt hin,dec_lt (by omega)];rfl) (Gv2.if (inb hin) (Gv2.if (inb (by omega)) ?_)))
  rw [toNat_nat,w64_succ (by omega)]
  refine Gv2.bind (r1.rmul r2 (by decide)) (Gv2.bind ((ha.rq h1).radd ((r1.rb.mul r2.rb).rq (by decide)) (by simp only [LM];omega)) ?_)
  exact Product_L1 hc hx hle k (i+1) (m+400013) _ (by omega) ((ha.add (r1.rb.mul r2.rb)).le (by omega)) (by omega) (by omega)
theorem Product_gv (hc:LB c 12) (hx:LB x 400000) (hle:c.length≤x.length):Gv (fun N=>g_r01_Product N c x) (ofQ (dotV c x)):=by
 have:=hc.len
 exact rQ0.bind (Product_L1 hc hx hle c.length 0 1 0 (by omega) RB.zero (by decide) (by omega)).diag
theorem dF_rb (hc:LB c 12) (hx:LB x 400000):∀ (k i m:Nat) (a:Rat),RB a m→RB (dF c x k i a) (m+k * 400013)
 | 0,_,_,_,h=>h.le (by omega)
 | k+1,i,m,a,h=>by
  rw [dF]
  exact (dF_rb hc hx k (i+1) (m+400013) _ ((h.add ((hc.rq (by decide) i).rb.mul (hx.rq (by decide) i).rb)).le (by omega))).le (by omega)
theorem dot_rb (hc:LB c 12) (hx:LB x 400000):RB (dotV c x) 24000781:=by
 have:=hc.len
 exact (dF_rb hc hx c.length 0 1 0 RB.zero).le (by omega)
end
theorem RowB.lb {r:TRow} (h:RowB r):LB r.f_Coefs 12:=⟨by have:=h.len;omega,fun i=>(h.co i).le (by decide)⟩
theorem RowB.brq {r:TRow} (h:RowB r):RQ r.f_Bound (qv r.f_Bound) 2:=⟨h.bo,rfl,by decide⟩
def rowBad (l:List TRow) (x:List TRat) (i:Nat):Prop:=0 < dotV (l.getD i TRow.d).f_Coefs x - qv (l.getD i TRow.d).f_Bound
instance (l:List TRow) (x:List TRat) (i:Nat):Decidable (rowBad l x i):=by unfold rowBad;infer_instance
def anyBad (l:List TRow) (x:List TRat):Nat→Nat→Bool
 | 0,_=>false
 | k+1,i=>if rowBad l x i then true else anyBad l x k (i+1)
section
variable {l:List TRow} {x:List TRat}
theorem Holds_L1 (hl:RowsB l) (hx:LB x 400000) (ok:∀ i,i < l.length→(l.getD i TRow.d).f_Coefs.length≤x.length):∀ k i,i+k=l.length→Gv2 (fun N fuel=>g_r01_Holds_L1 N l x fuel (i:Int)) (!anyBad l x k i)
 | 0,i,hi=>.step 0 fun N g _ _=>by
  have:i=l.length:=by omega
  subst this
  rw [g_r01_Holds_L1,dec_nlt];rfl
 | k+1,i,hi=>by
  have hin:i < l.length:=by omega
  have hlen:=hl.len
  have hb:=hl.row i
  refine Gv2.succ (fun N g=>g_r01_Holds_L1.eq_2 ..) (Gv2.condT (dec_lt hin) (Gv2.if (inb hin) ?_))
  rw [toNat_nat,anyBad,w64_succ (by omega)]
  refine Gv2.bind (Product_gv hb.lb hx (ok i hin)) (Gv2.bind (((dot_rb hb.lb hx).rq (by decide)).rcmp hb.brq (by decide)) ?_)
  rw [dec_sgn_pos]
  by_cases h:rowBad l x i
  ·rw [if_pos h]
   exact Gv2.condT (decide_eq_true h) (Gv2.one (Gv.pure _))
  ·rw [if_neg h]
   exact Gv2.condF (decide_eq_false h) (Holds_L1 hl hx ok k (i+1) (by omega))
theorem Holds_gv (hl:RowsB l) (hx:LB x 400000) (ok:∀ i,i < l.length→(l.getD i TRow.d).f_Coefs.length≤x.length):Gv (fun N=>g_r01_Holds N l x) (!anyBad l x l.length 0) :=
 (Holds_L1 hl hx ok l.length 0 (by omega)).diag
end
end Go.Den
namespace Go.Den
open Go.Ab
def yv (y:List TRat) (i:Nat):Rat:=qv (y.getD i TRat.d)
def cf (l:List TRow) (i j:Nat):Rat:=qv ((l.getD i TRow.d).f_Coefs.getD j TRat.d)
def bv (l:List TRow) (i:Nat):Rat:=qv (l.getD i TRow.d).f_Bound
def cS (l:List TRow) (y:List TRat) (j:Nat):Nat→Rat
 | 0=>0
 | i+1=>cS l y j i+yv y i * cf l i j
def bS (l:List TRow) (y:List TRat):Nat→Rat
 | 0=>0
 | i+1=>bS l y i+yv y i * bv l i
theorem qv_d:qv TRat.d=0:=by decide +kernel
theorem cf_ge {l:List TRow} {i j:Nat} (h:(l.getD i TRow.d).f_Coefs.length≤j):cf l i j=0:=by
 unfold cf;rw [getD_geR h,qv_d]
def lf (n:Nat) (f:Nat→Rat):List TRat:=(List.range n).map fun j=>ofQ (f j)
theorem lf_len {n:Nat} {f:Nat→Rat}:(lf n f).length=n:=by simp [lf]
theorem lf_getD {n:Nat} {f:Nat→Rat} {j:Nat} (h:j < n):(lf n f).getD j TRat.d=ofQ (f j):=by simp [lf,List.getD,h]
theorem lf_push {n:Nat} {f:Nat→Rat}:lf n f ++ [ofQ (f n)]=lf (n+1) f:=by
 unfold lf;rw [List.range_succ,List.map_append];rfl
section
variable {l:List TRow} {y:List TRat}
theorem cf_rq (hl:RowsB l) (i j:Nat):RQ ((l.getD i TRow.d).f_Coefs.getD j TRat.d) (cf l i j) 2:=⟨(hl.row i).co j,rfl,by decide⟩
theorem yv_rq (hy:LB y 400000) (i:Nat):RQ (y.getD i TRat.d) (yv y i) 400000:=hy.rq (by decide) i
theorem cS_rb (hl:RowsB l) (hy:LB y 400000) (j:Nat):∀ i,RB (cS l y j i) (1+400003 * i)
 | 0=>RB.zero
 | i+1=>((cS_rb hl hy j i).add ((yv_rq hy i).rb.mul (cf_rq hl i j).rb)).le (by omega)
theorem bS_rb (hl:RowsB l) (hy:LB y 400000):∀ i,RB (bS l y i) (1+400003 * i)
 | 0=>RB.zero
 | i+1=>((bS_rb hl hy i).add ((yv_rq hy i).rb.mul (hl.row i).brq.rb)).le (by omega)
def anyNeg (y:List TRat):Nat→Nat→Bool
 | 0,_=>false
 | k+1,i=>if yv y i < 0 then true else anyNeg y k (i+1)
theorem rcol_L2 (hl:RowsB l) (hy:LB y 400000) {n j:Nat} (hn:n≤12) (hj:j < n) (hyl:y.length=l.length) {out:List TRat} (ho:out.length≤100):∀ k i,i+k=l.length→∃ N0,∀ N fuel,N0≤N→N0≤fuel→∀ K:List TRat→Int→Option (List TRat×TRat),
  g_r01_Combined_L2 N n l y out (j:Int) K fuel (ofQ (cS l y j i)) (i:Int)=K (out ++ [ofQ (cS l y j l.length)]) ((j+1:Nat):Int)
 | 0,i,hi=>⟨1,fun N fuel hN hf K=>by
  have hi:i=l.length:=by omega
  subst hi
  obtain ⟨g,rfl⟩:∃ g,fuel=g+1:=⟨fuel - 1,by omega⟩
  rw [g_r01_Combined_L2,dec_nlt,cond_false,if_pos (by omega),w64_succ (by omega)]⟩
 | k+1,i,hi=>by
  have hlen:=hl.len
  have hin:i < l.length:=by omega
  obtain ⟨N1,h1⟩:=(yv_rq hy i).rmul (cf_rq hl i j) (by decide)
  have hs:RB (cS l y j i) 24000181:=(cS_rb hl hy j i).le (by omega)
  obtain ⟨N2,h2⟩:=(hs.rq (by decide)).radd (((yv_rq hy i).rb.mul (cf_rq hl i j).rb).rq (by decide)) (by decide)
  obtain ⟨N3,h3⟩:=rcol_L2 hl hy hn hj hyl ho k (i+1) (by omega)
  refine ⟨N1+N2+N3+1,fun N fuel hN hf K=>?_⟩
  obtain ⟨g,rfl⟩:∃ g,fuel=g+1:=⟨fuel - 1,by omega⟩
  have h1':=h1 N (by omega)
  have h2':=h2 N (by omega)
  have h3':=h3 N g (by omega) (by omega) K
  dsimp only at h1' h2'
  rw [g_r01_Combined_L2,dec_lt hin,cond_true,if_pos (inb hin),toNat_nat,toNat_nat]
  unfold g_r01_Combined_J3
  rw [w64_succ (by omega)]
  by_cases h:j < (l.getD i TRow.d).f_Coefs.length
  ·have e1:g_r01_MulRat N (⟨((y.getD i TRat.d).fN),((y.getD i TRat.d).fD)⟩:TRat) (⟨((((l.getD i TRow.d).f_Coefs).getD j TRat.d).fN),((((l.getD i TRow.d).f_Coefs).getD j TRat.d).fD)⟩:TRat)=some (ofQ (yv y i * cf l i j)):=h1'
   rw [dec_lt h,cond_true,if_pos (inb (by omega)),if_pos (inb h),e1,Option.bind_some,h2',Option.bind_some]
   exact h3'
  ·have e:cS l y j (i+1)=cS l y j i:=by rw [cS,cf_ge (by omega)];grind
   rw [e] at h3'
   rw [decide_eq_false (by omega),cond_false]
   exact h3'
theorem rbound_L4 (hl:RowsB l) (hy:LB y 400000) (hyl:y.length=l.length) {out:List TRat}:∀ k i,i+k=l.length→Gv2 (fun N fuel=>g_r01_Combined_L4 N l y out fuel (ofQ (bS l y i)) (i:Int)) (out,ofQ (bS l y l.length))
 | 0,i,hi=>by
  have hi:i=l.length:=by omega
  subst hi
  exact Gv2.succ (fun N g=>g_r01_Combined_L4.eq_2 ..) (Gv2.condF dec_nlt (Gv2.one (Gv.pure _)))
 | k+1,i,hi=>by
  have hlen:=hl.len
  have hin:i < l.length:=by omega
  have hB:RB (bS l y i) 24000181:=(bS_rb hl hy i).le (by omega)
  refine Gv2.succ (fun N g=>g_r01_Combined_L4.eq_2 ..) (Gv2.condT (dec_lt hin) (Gv2.if (inb (by omega)) (Gv2.if (inb hin) ?_)))
  rw [toNat_nat,w64_succ (by omega)]
  exact Gv2.bind ((yv_rq hy i).rmul (hl.row i).brq (by decide)) (Gv2.bind ((hB.rq (by decide)).radd (((yv_rq hy i).rb.mul (hl.row i).brq.rb).rq (by decide)) (by decide)) (rbound_L4 hl hy hyl k (i+1) (by omega)))
theorem rcomb_L1 (hl:RowsB l) (hy:LB y 400000) {n:Nat} (hn:n≤12) (hyl:y.length=l.length):∀ k j,j+k=n→Gv2 (fun N fuel=>g_r01_Combined_L1 N n l y fuel (lf j fun t=>cS l y t l.length) (j:Int)) (lf n fun t=>cS l y t l.length,ofQ (bS l y l.length))
 | 0,j,hj=>by
  have hj:j=n:=by omega
  subst hj
  exact Gv2.succ (fun N g=>g_r01_Combined_L1.eq_2 ..) (Gv2.condF dec_nlt (Gv2.one (rQ0.bind (rbound_L4 hl hy hyl l.length 0 (by omega)).diag)))
 | k+1,j,hj=>by
  refine Gv2.succ (fun N g=>g_r01_Combined_L1.eq_2 ..) (Gv2.condT (dec_lt (by omega)) (Gv2.bind rQ0 ?_))
  obtain ⟨N0,h0⟩:=rcol_L2 hl hy hn (show j < n by omega) hyl (out:=lf j fun t=>cS l y t l.length) (by rw [lf_len];omega) l.length 0 (by omega)
  obtain ⟨N1,h1⟩:=rcomb_L1 hl hy hn hyl k (j+1) (by omega)
  refine ⟨N0+N1,fun N fuel hN hf=>?_⟩
  have:=h0 N N (by omega) (by omega) (g_r01_Combined_L1 N n l y fuel)
  have e:=@lf_push j (fun t=>cS l y t l.length)
  rw [e] at this
  exact this.trans (h1 N fuel (by omega) (by omega))
theorem rCombined_gv (hl:RowsB l) (hy:LB y 400000) {n:Nat} (hn:n≤12) (hyl:y.length=l.length):Gv (fun N=>g_r01_Combined N n l y) (lf n fun t=>cS l y t l.length,ofQ (bS l y l.length)) :=
 (rcomb_L1 hl hy hn hyl n 0 (by omega)).diag
theorem NoneNegative_L1 (hy:LB y 400000):∀ k i,i+k=y.length→Gv2 (fun N fuel=>g_r01_NoneNegative_L1 N y fuel (i:Int)) (!anyNeg y k i)
 | 0,i,hi=>by
  have hi:i=y.length:=by omega
  subst hi
  exact Gv2.succ (fun N g=>g_r01_NoneNegative_L1.eq_2 ..) (Gv2.condF dec_nlt (Gv2.one (Gv.pure _)))
 | k+1,i,hi=>by
  have hlen:=hy.len
  have hin:i < y.length:=by omega
  refine Gv2.succ (fun N g=>g_r01_NoneNegative_L1.eq_2 ..) (Gv2.condT (dec_lt hin) (Gv2.if (inb hin) (Gv2.bind (r:=sgn (yv y i)) (by rw [toNat_nat];exact (yv_rq hy i).rsgn (by decide)) ?_)))
  rw [dec_sgn_neg,anyNeg,w64_succ (by omega)]
  by_cases h:yv y i < 0
  ·rw [if_pos h];exact Gv2.condT (decide_eq_true h) (Gv2.one (Gv.pure _))
  ·rw [if_neg h];exact Gv2.condF (decide_eq_false h) (NoneNegative_L1 hy k (i+1) (by omega))
theorem NoneNegative_gv (hy:LB y 400000):Gv (fun N=>g_r01_NoneNegative N y) (!anyNeg y y.length 0):=(NoneNegative_L1 hy y.length 0 (by omega)).diag
end
end Go.Den
namespace Go.Den
open Go.Ab
def big2 (x:TRat):Bool:=cond (decide (((x.fN.fL.length:Nat):Int) > 2)) true (decide (((x.fD.fL.length:Nat):Int) > 2))
theorem big2_ir {x:TRat} (h:TRat.wf x) (hb:big2 x=false):IR x 2:=by
 unfold big2 at hb
 by_cases h1:x.fN.fL.length≤2
 ·rw [decide_eq_false (by omega),cond_false] at hb
  have h2:=of_decide_eq_false hb
  exact ⟨IB.of_wf h.1 h1,IB.of_wf h.2 (by omega)⟩
 ·rw [decide_eq_true (by omega)] at hb;cases hb
theorem modest_L2 {p:Tw01_Problem} {i:Nat} (hil:i < p.f_L.length) (hco:(p.f_L.getD i TRow.d).f_Coefs.length≤20) (hlen:p.f_L.length≤60) (hw:∀ x∈(p.f_L.getD i TRow.d).f_Coefs,TRat.wf x):∀ k j,j+k=(p.f_L.getD i TRow.d).f_Coefs.length →
  (∀ N fuel K,k < fuel→g_w01_Problem_modest_L2 N p (i:Int) K fuel (j:Int)=some false)∨((∀ N fuel K,k < fuel→g_w01_Problem_modest_L2 N p (i:Int) K fuel (j:Int)=K ((i+1:Nat):Int))∧∀ t,j≤t→IR ((p.f_L.getD i TRow.d).f_Coefs.getD t TRat.d) 2)
 | 0,j,hj=>.inr ⟨fun N fuel K hf=>by
  have hj:j=(p.f_L.getD i TRow.d).f_Coefs.length:=by omega
  subst hj
  obtain ⟨g,rfl⟩:∃ g,fuel=g+1:=⟨fuel - 1,by omega⟩
  rw [g_w01_Problem_modest_L2,if_pos (inb hil),toNat_nat,dec_nlt,cond_false,w64_succ (by omega)],fun t ht=>by rw [getD_geR (by omega)];exact ird⟩
 | k+1,j,hj=>by
  have hjl:j < (p.f_L.getD i TRow.d).f_Coefs.length:=by omega
  have step:∀ N g K,g_w01_Problem_modest_L2 N p (i:Int) K (g+1) (j:Int)=cond (big2 ((p.f_L.getD i TRow.d).f_Coefs.getD j TRat.d)) (some false) (g_w01_Problem_modest_L2 N p (i:Int) K g ((j+1:Nat):Int)):=fun N g K=>by
   rw [g_w01_Problem_modest_L2,if_pos (inb hil),toNat_nat,dec_lt hjl,cond_true,if_pos (inb hjl),if_pos (fun _=>inb hil),if_pos (fun _=>inb hjl),toNat_nat,w64_succ (by omega)]
   rfl
  cases hb:big2 ((p.f_L.getD i TRow.d).f_Coefs.getD j TRat.d) with
  | true =>
   refine .inl fun N fuel K hf=>?_
   obtain ⟨g,rfl⟩:∃ g,fuel=g+1:=⟨fuel - 1,by omega⟩
   rw [step,hb];rfl
  | false =>
   have hir:=big2_ir (getD_wf hw hjl) hb
   rcases modest_L2 hil hco hlen hw k (j+1) (by omega) with h | ⟨h,h2⟩
   ·refine .inl fun N fuel K hf=>?_
    obtain ⟨g,rfl⟩:∃ g,fuel=g+1:=⟨fuel - 1,by omega⟩
    rw [step,hb];exact h N g K (by omega)
   ·refine .inr ⟨fun N fuel K hf=>?_,fun t ht=>?_⟩
    ·obtain ⟨g,rfl⟩:∃ g,fuel=g+1:=⟨fuel - 1,by omega⟩
     rw [step,hb];exact h N g K (by omega)
    ·by_cases htj:t=j
     ·rw [htj];exact hir
     ·exact h2 t (by omega)
theorem modest_L1 {p:Tw01_Problem} (hlen:p.f_L.length≤60) (hw:∀ x∈p.f_L,TRow.wf x):∀ k i,i+k=p.f_L.length →
  Gv2 (fun N fuel=>g_w01_Problem_modest_L1 N p fuel (i:Int)) false∨(Gv2 (fun N fuel=>g_w01_Problem_modest_L1 N p fuel (i:Int)) true∧(∀ t,i≤t→RowB (p.f_L.getD t TRow.d))∧(rowsCode p.f_N p.f_L=0→p.f_N≤4∧p.f_L.length≤7))
 | 0,i,hi=>by
  have hi:i=p.f_L.length:=by omega
  subst hi
  have h:Gv2 (fun N fuel=>g_w01_Problem_modest_L1 N p fuel ((p.f_L.length:Nat):Int)) (cond (rowsCode p.f_N p.f_L != 0) true (cond (decide (p.f_N≤4)) (decide (((p.f_L.length:Nat):Int)≤7)) false)) :=
   Gv2.succ (fun N g=>g_w01_Problem_modest_L1.eq_2 ..) (Gv2.condF dec_nlt (Gv2.one ((rCheckRows_gv _ _).bind (Gv.pure _))))
  cases hr:(cond (rowsCode p.f_N p.f_L != 0) true (cond (decide (p.f_N≤4)) (decide (((p.f_L.length:Nat):Int)≤7)) false)) with
  | false=>rw [hr] at h;exact .inl h
  | true =>
   rw [hr] at h
   refine .inr ⟨h,fun t ht=>by rw [getD_row ht];exact RowB.d,fun hc=>?_⟩
   rw [hc] at hr
   by_cases h4:p.f_N≤4
   ·by_cases h7:p.f_L.length≤7
    ·exact ⟨h4,h7⟩
    ·rw [decide_eq_true h4,decide_eq_false (by omega)] at hr;cases hr
   ·rw [decide_eq_false h4] at hr;cases hr
 | k+1,i,hi=>by
  have hin:i < p.f_L.length:=by omega
  have hrow:TRow.wf (p.f_L.getD i TRow.d):=by
   have e:p.f_L.getD i TRow.d=p.f_L[i]:=by simp [List.getD,hin]
   rw [e];exact hw _ (List.getElem_mem hin)
  by_cases h1:cond (big2 (p.f_L.getD i TRow.d).f_Bound) true (decide ((((p.f_L.getD i TRow.d).f_Coefs.length:Nat):Int) > 20))=true
  ·left
   refine Gv2.succ (fun N g=>g_w01_Problem_modest_L1.eq_2 ..) (Gv2.condT (dec_lt hin) (Gv2.if (inb hin) (Gv2.if (fun _=>inb hin) (Gv2.if (fun _=>inb hin) ?_))))
   rw [toNat_nat]
   exact Gv2.condT h1 (Gv2.one (Gv.pure _))
  ·have h1:cond (big2 (p.f_L.getD i TRow.d).f_Bound) true (decide ((((p.f_L.getD i TRow.d).f_Coefs.length:Nat):Int) > 20))=false:=by simpa using h1
   have hb2:big2 (p.f_L.getD i TRow.d).f_Bound=false:=by
    revert h1;cases big2 (p.f_L.getD i TRow.d).f_Bound<;>simp
   have h3:=h1
   rw [hb2,cond_false] at h3
   have hco:(p.f_L.getD i TRow.d).f_Coefs.length≤20:=by have:=of_decide_eq_false h3;omega
   have open1:∀ r,Gv2 (fun N fuel=>g_w01_Problem_modest_L2 N p (i:Int) (g_w01_Problem_modest_L1 N p fuel) N 0) r→Gv2 (fun N fuel=>g_w01_Problem_modest_L1 N p fuel (i:Int)) r:=fun r hr=>by
    refine Gv2.succ (fun N g=>g_w01_Problem_modest_L1.eq_2 ..) (Gv2.condT (dec_lt hin) (Gv2.if (inb hin) (Gv2.if (fun _=>inb hin) (Gv2.if (fun _=>inb hin) ?_))))
    rw [toNat_nat]
    exact Gv2.condF h1 hr
   rcases modest_L2 hin hco hlen hrow.1.2 _ 0 (Nat.zero_add _) with h | ⟨h,h2⟩
   ·exact .inl (open1 _ ⟨100,fun N fuel hN hf=>h N N _ (by omega)⟩)
   ·have key:∀ r,Gv2 (fun N fuel=>g_w01_Problem_modest_L1 N p fuel ((i+1:Nat):Int)) r→Gv2 (fun N fuel=>g_w01_Problem_modest_L1 N p fuel (i:Int)) r:=fun r hr=>by
     obtain ⟨N0,h0⟩:=hr
     exact open1 _ ⟨N0+100,fun N fuel hN hf=>(h N N _ (by omega)).trans (h0 N fuel (by omega) (by omega))⟩
    rcases modest_L1 hlen hw k (i+1) (by omega) with g | ⟨g,g2,g3⟩
    ·exact .inl (key _ g)
    ·refine .inr ⟨key _ g,fun t ht=>?_,g3⟩
     by_cases hti:t=i
     ·rw [hti]
      exact ⟨hco,fun j=>h2 j (Nat.zero_le _),big2_ir hrow.2 hb2⟩
     ·exact g2 t (by omega)
theorem modest_cases {p:Tw01_Problem} (hp:Tw01_Problem.wf p):Gv (fun N=>g_w01_Problem_modest N p) false∨(Gv (fun N=>g_w01_Problem_modest N p) true∧RowsB p.f_L∧(rowsCode p.f_N p.f_L=0→p.f_N≤4∧p.f_L.length≤7)):=by
 by_cases h:p.f_L.length≤60
 ·rcases modest_L1 h hp.2.2 p.f_L.length 0 (by omega) with g | ⟨g,g2,g3⟩
  ·exact .inl (Gv.condF (decide_eq_false (by omega)) g.diag)
  ·exact .inr ⟨Gv.condF (decide_eq_false (by omega)) g.diag,⟨h,fun i=>g2 i (Nat.zero_le _)⟩,g3⟩
 ·exact .inl (Gv.condT (decide_eq_true (by omega)) (Gv.pure _))
section
variable {l:List TRow} {y:List TRat} {n:Nat}
def anyNZ (f:Nat→Rat):Nat→Nat→Bool
 | 0,_=>false
 | k+1,i=>if f i=0 then anyNZ f k (i+1) else true
theorem bS_b (hl:RowsB l) (hy:LB y 400000):RB (bS l y l.length) 24000181:=(bS_rb hl hy _).le (by have:=hl.len;omega)
theorem cS_b (hl:RowsB l) (hy:LB y 400000) (j:Nat):RB (cS l y j l.length) 24000181:=(cS_rb hl hy j _).le (by have:=hl.len;omega)
def contra (l:List TRow) (y:List TRat) (n:Nat):Bool:=!anyNeg y y.length 0 && decide (bS l y l.length < 0) && !anyNZ (fun j=>cS l y j l.length) n 0
theorem Contradicts_L1 (hl:RowsB l) (hy:LB y 400000) (hn:n≤12):∀ k j,j+k=n→Gv2 (fun N fuel=>g_r01_Contradicts_L1 N n y (lf n fun t=>cS l y t l.length,ofQ (bS l y l.length)) fuel (j:Int)) (!anyNeg y y.length 0 && decide (bS l y l.length < 0) && !anyNZ (fun j=>cS l y j l.length) k j)
 | 0,j,hj=>by
  have hj:j=n:=by omega
  subst hj
  refine Gv2.succ (fun N g=>g_r01_Contradicts_L1.eq_2 ..) (Gv2.condF dec_nlt (Gv2.one ((NoneNegative_gv hy).bind ?_)))
  rw [anyNZ]
  cases anyNeg y y.length 0 with
  | true=>exact Gv.bind (Gv.condF rfl (Gv.pure 0)) (Gv.pure _)
  | false =>
   refine Gv.bind (Gv.condT rfl (((bS_b hl hy).rq (by decide)).rsgn (by decide))) ((Gv.pure _).eq ?_)
   rw [dec_sgn_neg];simp
 | k+1,j,hj=>by
  have hjl:j < (lf n fun t=>cS l y t l.length).length:=by rw [lf_len];omega
  refine Gv2.succ (fun N g=>g_r01_Contradicts_L1.eq_2 ..) (Gv2.condT (dec_lt (by omega)) (Gv2.if (inb hjl) (Gv2.bind (r:=sgn (cS l y j l.length)) ?_ ?_)))
  ·rw [toNat_nat]
   have:Gv (fun N=>g_r01_SignRat N ((lf n fun t=>cS l y t l.length).getD j TRat.d)) (sgn (cS l y j l.length)):=by
    rw [lf_getD (by omega)];exact ((cS_b hl hy j).rq (by decide)).rsgn (by decide)
   exact this
  ·rw [anyNZ]
   by_cases h:cS l y j l.length=0
   ·rw [if_pos h]
    refine Gv2.condF (by rw [h];rfl) ?_
    rw [w64_succ (by omega)];exact Contradicts_L1 hl hy hn k (j+1) (by omega)
   ·rw [if_neg h]
    exact Gv2.condT (by simp;exact fun h'=>h (sgn_zero.1 h')) (Gv2.one ((Gv.pure _).eq (by simp)))
end
end Go.Den
namespace Go.Den
open Go.Ab
theorem tab_push {α:Type} (f:Nat→α) (n:Nat):tab f n ++ [f n]=tab f (n+1):=by
 unfold tab;rw [List.range_succ,List.map_append];rfl
section
variable {n:Nat} {l:List TRow}
abbrev D0 (n:Nat) (l:List TRow):Dic:=Dic.fst n l.length (cf l) (bv l) 0
def TB (n:Nat) (l:List TRow):Ttb :=
 ⟨n,((l.length:Nat):Int),LN (D0 n l).bas l.length,LN (D0 n l).fr (2 * n+1),LA (D0 n l).a l.length (2 * n+1),LQ (bv l) l.length,LQ (D0 n l).g (2 * n+1),ofQ 0,((2 * n+l.length:Nat):Int)⟩
theorem w2n (hn:n≤12):w64 (2 * (n:Int))=((2 * n:Nat):Int):=by rw [w64_eq (by omega) (by omega)];omega
theorem beg_L5 (hn:n≤12) {t t2:List Int} {t3:List (List TRat)} {t4:List TRat} (hl:l.length≤40) (h1:t=LN (fun j=>j) (2 * n)) (h2:t2=LN (D0 n l).bas l.length) (h3:t3=LA (D0 n l).a l.length (2 * n+1)) (h4:t4=LQ (bv l) l.length) :
  ∀ (d x:Nat) (L:List TRat),x+d=2 * n+1→L.length=2 * n+1→(∀ j,j < x→L.getD j TRat.d=ofQ 0) →
  Gv2 (fun N g=>g_e_begin_L5 N (n:Int) l (ofQ 0) t t2 t3 t4 g L (x:Int)) (TB n l)
 | 0,x,L,hx,hL,h0=>by
  refine Gv2.succ (fun N g=>g_e_begin_L5.eq_2 ..) (Gv2.condF (dnl (m:=x) (n:=2 * n+1) (by omega) (by rw [List.length_replicate,w2n hn,w64_succ (by omega)];rfl)) (Gv2.one ((Gv.pure _).eq ?_)))
  have e1:w64 (((2 * n:Nat):Int)+((l.length:Nat):Int))=((2 * n+l.length:Nat):Int):=by rw [w64_eq (by omega) (by omega)];omega
  have e2:L=LQ (D0 n l).g (2 * n+1):=tab_of TRat.d hL fun j hj=>by
   rw [h0 j (by omega)];simp only [Dic.fst];split<;>rfl
  have e3:t ++ [((2 * n+l.length:Nat):Int)]=LN (D0 n l).fr (2 * n+1):=by
   have h:=tab_push (fun j=>(((D0 n l).fr j:Nat):Int)) (2 * n)
   have h5:(D0 n l).fr (2 * n)=2 * n+l.length:=by simp only [Dic.fst];rw [if_neg (by omega)]
   rw [h5] at h
   unfold LN
   rw [← h,h1];unfold LN
   congr 1
   exact tab_congr fun j hj=>by simp only [Dic.fst];rw [if_pos hj]
  rw [w2n hn,e1,e3,h2,h3,h4,e2];rfl
 | d+1,x,L,hx,hL,h0=>by
  have hxk:x < 2 * n+1:=by omega
  refine Gv2.succ (fun N g=>g_e_begin_L5.eq_2 ..) (Gv2.condT (dlt (n:=2 * n+1) hxk (by rw [List.length_replicate,w2n hn,w64_succ (by omega)];rfl)) (Gv2.bind num0_gv (Gv2.if (inl hxk hL) ?_)))
  rw [w64_succ (show x < 9223372036854775807 by omega)]
  refine beg_L5 hn hl h1 h2 h3 h4 d (x+1) _ (by omega) (by rw [List.length_set];exact hL) fun j hj=>?_
  rw [toNat_nat]
  by_cases e:x=j
  ·subst e;exact getD_setE _ _ _ _ (by omega)
  ·rw [getD_setN _ _ _ e];exact h0 j (by omega)
theorem beg_L3 (hn:n≤12) (hl:RowsB l) (hll:l.length≤40) {i:Nat} (hi:i < l.length) (hco:(l.getD i TRow.d).f_Coefs.length≤n) {t t2:List Int} {t3:List (List TRat)} {t4:List TRat} (h3:t3.length=i) (h4:t4.length=i) {rn:TRat}:∀ (d x:Nat) (L:List TRat),x+d=n→L.length=2 * n+1 →
  (∀ j,j < x→L.getD j TRat.d=ofQ (-(cf l i j))∧L.getD (n+j) TRat.d=ofQ (cf l i j)) →
  Ev fun N g=>∀ K,g_e_begin_L3 N (n:Int) l rn t t2 t3 t4 (i:Int) K g L (x:Int)=K (t2 ++ [((2 * n+i:Nat):Int)]) (t3 ++ [LQ ((D0 n l).a i) (2 * n+1)]) (t4 ++ [ofQ (bv l i)]) ((i+1:Nat):Int)
 | 0,x,L,hx,hL,h0=>by
  have hlow:=(hl.row i).brq.low (by decide)
  refine Ev.succ (((number_gv (z:=1) (by decide) (by decide)).ev.and hlow.ev).mono fun N g ⟨q1,q2⟩ K=>?_)
  have e1:w64 (((2 * n:Nat):Int)+(i:Int))=((2 * n+i:Nat):Int):=by rw [w64_eq (by omega) (by omega)];omega
  have hb:g_e_lowest N ⟨((l.getD i TRow.d).f_Bound).fN,((l.getD i TRow.d).f_Bound).fD⟩=some (ofQ (bv l i)):=q2
  have eL:L.set (2 * n) (ofQ ((1:Int):Rat))=LQ ((D0 n l).a i) (2 * n+1):=by
   refine tab_of TRat.d (by rw [List.length_set];exact hL) fun j hj=>?_
   simp only [Dic.fst]
   by_cases e:2 * n=j
   ·rw [← e,getD_setE _ _ _ _ (by omega),if_neg (by omega),if_neg (by omega)];rfl
   ·rw [getD_setN _ _ _ e]
    by_cases h:j < n
    ·rw [if_pos h];exact (h0 j (by omega)).1
    ·rw [if_neg h,if_pos (by omega)]
     have:=(h0 (j - n) (by omega)).2
     rwa [show n+(j - n)=j by omega] at this
  rw [g_e_begin_L3,show decide ((x:Int) < (n:Int))=false from decide_eq_false (by omega),cond_false,q1,Option.bind_some,w2n hn,toNat_nat,toNat_nat,if_pos (inl (show 2 * n < 2 * n+1 by omega) hL),if_pos (by omega),hb,Option.bind_some,if_pos (by omega),e1,eL,w64_succ (by omega)]
 | d+1,x,L,hx,hL,h0=>by
  have hxn:x < n:=by omega
  have e1:w64 ((n:Int)+(x:Int))=((n+x:Nat):Int):=by rw [w64_eq (by omega) (by omega)];omega
  have hC:RB (cf l i x) 2:=⟨(((hl.row i).co x).rb (by decide)).num,(((hl.row i).co x).rb (by decide)).den⟩
  have hneg:Gv (fun N=>g_e_negative N (ofQ (cf l i x))) (ofQ (-(cf l i x))):=by
   have:=negative_gv (hC.q (show 2≤MS by decide)).ir (by decide) (msm (by decide));rwa [qv_ofQ] at this
  have ih:=beg_L3 hn hl hll hi hco h3 h4 (t:=t) (t2:=t2) (rn:=rn) d (x+1) ((L.set x (ofQ (-(cf l i x)))).set (n+x) (ofQ (cf l i x))) (by omega) (by rw [List.length_set,List.length_set];exact hL) fun j hj=>by
   by_cases e:j=x
   ·subst e
    refine ⟨?_,getD_setE _ _ _ _ (by rw [List.length_set];omega)⟩
    rw [getD_setN _ _ _ (by omega),getD_setE _ _ _ _ (by omega)]
   ·rw [getD_setN _ _ _ (show n+x≠j by omega),getD_setN _ _ _ (show x≠j by omega),getD_setN _ _ _ (show n+x≠n+j by omega),getD_setN _ _ _ (show x≠n+j by omega)]
    exact h0 j (by omega)
  have fin:∀ N g K,g_e_negative N (ofQ (cf l i x))=some (ofQ (-(cf l i x)))→(g_e_begin_L3 N (n:Int) l rn t t2 t3 t4 (i:Int) K g ((L.set x (ofQ (-(cf l i x)))).set (n+x) (ofQ (cf l i x))) ((x+1:Nat):Int)=K (t2 ++ [((2 * n+i:Nat):Int)]) (t3 ++ [LQ ((D0 n l).a i) (2 * n+1)]) (t4 ++ [ofQ (bv l i)]) ((i+1:Nat):Int)) →
    g_e_begin_J4 N (n:Int) l rn t t2 t3 t4 (i:Int) L (x:Int) (g_e_begin_L3 N (n:Int) l rn t t2 t3 t4 (i:Int) K g) K (ofQ (cf l i x))=K (t2 ++ [((2 * n+i:Nat):Int)]) (t3 ++ [LQ ((D0 n l).a i) (2 * n+1)]) (t4 ++ [ofQ (bv l i)]) ((i+1:Nat):Int):=fun N g K q1 q2=>by
   unfold g_e_begin_J4
   rw [q1,Option.bind_some,e1,toNat_nat,toNat_nat,if_pos (inl (show x < 2 * n+1 by omega) hL),if_pos (inl (show n+x < 2 * n+1 by omega) hL),w64_succ (by omega)]
   exact q2
  by_cases hc:x < (l.getD i TRow.d).f_Coefs.length
  ·have hlow:=(cf_rq hl i x).low (by decide)
   refine Ev.succ (((num0_gv.ev.and hneg.ev).and (hlow.ev.and ih)).mono fun N g ⟨⟨q1,q2⟩,q3,q4⟩ K=>?_)
   have q3':g_e_lowest N ⟨(((l.getD i TRow.d).f_Coefs).getD x TRat.d).fN,(((l.getD i TRow.d).f_Coefs).getD x TRat.d).fD⟩=some (ofQ (cf l i x)):=q3
   rw [g_e_begin_L3,show decide ((x:Int) < (n:Int))=true from decide_eq_true (by omega),cond_true,q1,Option.bind_some,toNat_nat,toNat_nat,dec_lt hc,cond_true,if_pos (inb hc),q3',Option.bind_some]
   exact fin N g K q2 (q4 K)
  ·have hz:cf l i x=0:=cf_ge (by omega)
   refine Ev.succ (((num0_gv.ev.and hneg.ev).and ih).mono fun N g ⟨⟨q1,q2⟩,q4⟩ K=>?_)
   rw [g_e_begin_L3,show decide ((x:Int) < (n:Int))=true from decide_eq_true (by omega),cond_true,q1,Option.bind_some,toNat_nat,decide_eq_false (by omega),cond_false,← hz]
   exact fin N g K q2 (q4 K)
theorem beg_L2 (hn:n≤12) (hl:RowsB l) (hll:l.length≤40) (hco:∀ i,i < l.length→(l.getD i TRow.d).f_Coefs.length≤n):∀ d x,x+d=l.length →
  Gv2 (fun N g=>g_e_begin_L2 N (n:Int) l (ofQ 0) (LN (fun j=>j) (2 * n)) g (LN (D0 n l).bas x) (LA (D0 n l).a x (2 * n+1)) (LQ (bv l) x) (x:Int)) (TB n l)
 | 0,x,hx=>by
  have hx:x=l.length:=by omega
  subst hx
  refine Gv2.succ (fun N g=>g_e_begin_L2.eq_2 ..) (Gv2.condF dec_nlt ?_)
  have ew:w64 (w64 (2 * (n:Int))+1)=((2 * n+1:Nat):Int):=by rw [w2n hn,w64_succ (by omega)]
  rw [ew,toNat_nat]
  refine Gv2.if (by omega) (Gv2.one ?_)
  exact (beg_L5 hn hll rfl rfl rfl rfl (2 * n+1) 0 (List.replicate (2 * n+1) TRat.d) (by omega) List.length_replicate fun j hj=>absurd hj (Nat.not_lt_zero _)).diag
 | d+1,x,hx=>by
  have hxl:x < l.length:=by omega
  have ew:w64 (w64 (2 * (n:Int))+1)=((2 * n+1:Nat):Int):=by rw [w2n hn,w64_succ (by omega)]
  obtain ⟨N1,h1⟩:=(beg_L3 hn hl hll hxl (hco x hxl) (t:=LN (fun j=>j) (2 * n)) (t2:=LN (D0 n l).bas x) (LA_len (D0 n l).a x (2 * n+1)) (LQ_len (bv l) x) (rn:=ofQ 0) n 0 (List.replicate (2 * n+1) TRat.d) (by omega) List.length_replicate fun j hj=>absurd hj (Nat.not_lt_zero _))
  obtain ⟨N2,h2⟩:=beg_L2 hn hl hll hco d (x+1) (by omega)
  refine Gv2.succ (fun N g=>g_e_begin_L2.eq_2 ..) (Gv2.condT (dec_lt hxl) (Gv2.if (inb hxl) (Gv2.if (by rw [LN_len];omega) ?_)))
  rw [ew,toNat_nat]
  refine Gv2.if (by omega) ⟨N1+N2,fun N g hN hg=>?_⟩
  have e1:=tab_push (fun i=>(((D0 n l).bas i:Nat):Int)) x
  have e2:=tab_push (fun i=>LQ ((D0 n l).a i) (2 * n+1)) x
  have e3:=tab_push (fun i=>ofQ (bv l i)) x
  have h1':=h1 N N (by omega) (by omega) (g_e_begin_L2 N (n:Int) l (ofQ 0) (LN (fun j=>j) (2 * n)) g)
  refine h1'.trans ?_
  have h2':=h2 N g (by omega) (by omega)
  unfold LN LA LQ at h2' ⊢
  unfold LQ at e2
  rw [← e1,← e2,← e3] at h2'
  exact h2'
theorem beg_L1 (hn:n≤12) (hl:RowsB l) (hll:l.length≤40) (hco:∀ i,i < l.length→(l.getD i TRow.d).f_Coefs.length≤n):∀ d x,x+d=2 * n →
  Gv2 (fun N g=>g_e_begin_L1 N (n:Int) l (ofQ 0) g (LN (fun j=>j) x) (x:Int)) (TB n l)
 | 0,x,hx=>by
  have hx:x=2 * n:=by omega
  subst hx
  refine Gv2.succ (fun N g=>g_e_begin_L1.eq_2 ..) (Gv2.condF (by rw [w2n hn];exact decide_eq_false (by omega)) (Gv2.if (by rw [LN_len];omega) (Gv2.one ?_)))
  exact (beg_L2 hn hl hll hco l.length 0 (by omega)).diag
 | d+1,x,hx=>by
  refine Gv2.succ (fun N g=>g_e_begin_L1.eq_2 ..) (Gv2.condT (by rw [w2n hn];exact decide_eq_true (by omega)) (Gv2.if (by rw [LN_len];omega) ?_))
  have e1:=tab_push (fun i=>((i:Nat):Int)) x
  have ih:=beg_L1 hn hl hll hco d (x+1) (by omega)
  rw [w64_succ (by omega)]
  unfold LN at ih ⊢
  rw [← e1] at ih
  exact ih
theorem begin_gv (hn:n≤12) (hl:RowsB l) (hll:l.length≤40) (hco:∀ i,i < l.length→(l.getD i TRow.d).f_Coefs.length≤n):Gv (fun N=>g_e_begin N (n:Int) l) (TB n l) :=
 num0_gv.bind (beg_L1 hn hl hll hco (2 * n) 0 (by omega)).diag
theorem D0_rbs (hl:RowsB l):(D0 n l).RBs l.length (2 * n+1) 2:=by
 have hC:∀ i j,RB (cf l i j) 2:=fun i j=>(cf_rq hl i j).rb
 refine ⟨fun i j _ _=>?_,fun i _=>(hl.row i).brq.rb,fun j _=>?_,RB.zero.le (by decide)⟩
 ·simp only [Dic.fst]
  split
  ·exact (hC i j).neg
  ·split
   ·exact hC i _
   ·exact Dic.RB1.le (by decide)
 ·simp only [Dic.fst];split<;>exact RB.zero.le (by decide)
end
section
variable {n m k h s:Nat} {D:Dic}
theorem mult_L1 (hm:m≤1000) (hn:n≤400) (hk:k≤1000) (hs:s≤MS) (hw:D.WF m k) (hg:∀ j,j < k→RB (D.g j) s):∀ (d x:Nat) (L:List TRat),x+d=m→L.length=m→(∀ i,i < x→L.getD i TRat.d=ofQ (-(D.gc k (2 * n+i)))) →
  Gv2 (fun N g=>g_e_tableau_multipliers_L1 N (n:Int) (m:Int) (ofQ D.v).fN.fG (ofQ D.v).fN.fL (ofQ D.v).fD.fG (ofQ D.v).fD.fL (h:Int) (LN D.bas m) (LN D.fr k) (LA D.a m k) (LQ D.b m) (LQ D.g k) g L (x:Int)) (LQ (fun i=>-(D.gc k (2 * n+i))) m)
 | 0,x,L,hx,hL,h0=>Gv2.succ (fun N g=>g_e_tableau_multipliers_L1.eq_2 ..) (Gv2.condF (dnl (m:=x) (n:=m) (by omega) (by rw [List.length_replicate];rfl)) (Gv2.one ((Gv.pure _).eq (tab_of TRat.d hL fun i hi=>h0 i (by omega)))))
 | d+1,x,L,hx,hL,h0=>by
  have hxm:x < m:=by omega
  have ew:w64 (w64 (2 * (n:Int))+(x:Int))=((2 * n+x:Nat):Int):=by
   rw [show w64 (2 * (n:Int))=((2 * n:Nat):Int) by rw [w64_eq (by omega) (by omega)];omega,w64_eq (by omega) (by omega)];omega
  obtain ⟨r,q1,q2⟩:=idx_gv (f:=D.fr) (k:=k) (v:=2 * n+x) hk
  have nx:∀ (y:TRat),y=ofQ (-(D.gc k (2 * n+x)))→∀ L2:List TRat,L2=L.set x y→Gv2 (fun N g=>g_e_tableau_multipliers_L1 N (n:Int) (m:Int) (ofQ D.v).fN.fG (ofQ D.v).fN.fL (ofQ D.v).fD.fG (ofQ D.v).fD.fL (h:Int) (LN D.bas m) (LN D.fr k) (LA D.a m k) (LQ D.b m) (LQ D.g k) g L2 ((x+1:Nat):Int)) (LQ (fun i=>-(D.gc k (2 * n+i))) m):=fun y hy L2 e2=>by
   subst e2
   refine mult_L1 hm hn hk hs hw hg d (x+1) _ (by omega) (by rw [List.length_set];exact hL) fun i hi=>?_
   by_cases e:x=i
   ·subst e;rw [getD_setE _ _ _ _ (by omega)];exact hy
   ·rw [getD_setN _ _ _ e];exact h0 i (by omega)
  refine Gv2.succ (fun N g=>g_e_tableau_multipliers_L1.eq_2 ..) (Gv2.condT (dlt (n:=m) hxm (by rw [List.length_replicate];rfl)) (Gv2.bind num0_gv (Gv2.if (inl hxm hL) ?_)))
  rw [ew]
  refine Gv2.bind q1 ?_
  simp only [g_e_tableau_multipliers_J2,toNat_nat,w64_succ (show x < 9223372036854775807 by omega)]
  rcases q2 with ⟨rfl,q2⟩ | ⟨j,rfl,hj,q2⟩
  ·exact Gv2.condF (by decide) (nx _ (by rw [Dic.gc_none q2];rfl) _ rfl)
  ·have hgj:=hg j hj
   refine Gv2.condT (by simp) (Gv2.if (inl hj (LQ_len _ _)) ?_)
   simp only [LQ_get _ _ hj,toNat_nat,List.set_set]
   refine Gv2.bind (r:=ofQ (-(D.g j))) (by have:=negative_gv (hgj.q hs).ir (by decide) (msm (by decide));rwa [qv_ofQ] at this) (Gv2.if (inl hxm (by rw [List.length_set];exact hL)) ?_)
   exact nx _ (by rw [← q2,Dic.gc_fr hw hj]) _ rfl
theorem mult_gv (hm:m≤1000) (hn:n≤400) (hk:k≤1000) (hs:s≤MS) (hw:D.WF m k) (hg:∀ j,j < k→RB (D.g j) s) :
  Gv (fun N=>g_e_tableau_multipliers N (n:Int) (m:Int) (ofQ D.v).fN.fG (ofQ D.v).fN.fL (ofQ D.v).fD.fG (ofQ D.v).fD.fL (h:Int) (LN D.bas m) (LN D.fr k) (LA D.a m k) (LQ D.b m) (LQ D.g k)) (LQ (fun i=>-(D.gc k (2 * n+i))) m) :=
 Gv.if (by omega) (mult_L1 hm hn hk hs hw hg m 0 (List.replicate m TRat.d) (by omega) List.length_replicate fun i hi=>absurd hi (Nat.not_lt_zero _)).diag
def pt0 (D:Dic) (m u:Nat):Rat:=match D.rix m u with
 | some i=>D.b i
 | none=>0
theorem pt0_ext (D:Dic) (m k u:Nat):pt0 D m u=D.ext m k Dic.zer u:=by
 unfold pt0 Dic.ext
 cases D.rix m u with
 | none=>rfl
 | some i=>simp only [Dic.row_zer]
theorem at_gv (hm:m≤1000) (hw:∀ i i',i < m→i' < m→D.bas i=D.bas i'→i=i') (u:Nat) :
  Gv (fun N=>g_e_tableau_at N (u:Int) (n:Int) (m:Int) (ofQ D.v).fN.fG (ofQ D.v).fN.fL (ofQ D.v).fD.fG (ofQ D.v).fD.fL (h:Int) (LN D.bas m) (LN D.fr k) (LA D.a m k) (LQ D.b m) (LQ D.g k)) (ofQ (pt0 D m u)):=by
 obtain ⟨r,q1,q2⟩:=idx_gv (f:=D.bas) (k:=m) (v:=u) hm
 refine Gv.bind q1 ?_
 rcases q2 with ⟨rfl,q2⟩ | ⟨i,rfl,hi,q2⟩
 ·refine Gv.condF (by decide) (num0_gv.bind ((Gv.pure _).eq ?_))
  unfold pt0;rw [Dic.rix_none q2]
 ·refine Gv.condT (by simp) (Gv.if (inl hi (LQ_len _ _)) ((Gv.pure _).eq ?_))
  simp only [toNat_nat,LQ_get _ _ hi]
  unfold pt0;rw [← q2,Dic.rix_bas hw hi]
theorem point_L1 (hm:m≤1000) (hn:n≤400) (hs:2 * s+1≤MS) (hw:∀ i i',i < m→i' < m→D.bas i=D.bas i'→i=i') (hp:∀ u,RB (pt0 D m u) s):∀ (d x:Nat) (L:List TRat),x+d=n→L.length=n→(∀ i,i < x→L.getD i TRat.d=ofQ (pt0 D m i - pt0 D m (n+i))) →
  Gv2 (fun N g=>g_e_tableau_point_L1 N (n:Int) (m:Int) (ofQ D.v).fN.fG (ofQ D.v).fN.fL (ofQ D.v).fD.fG (ofQ D.v).fD.fL (h:Int) (LN D.bas m) (LN D.fr k) (LA D.a m k) (LQ D.b m) (LQ D.g k) g L (x:Int)) (LQ (fun i=>pt0 D m i - pt0 D m (n+i)) n)
 | 0,x,L,hx,hL,h0=>Gv2.succ (fun N g=>g_e_tableau_point_L1.eq_2 ..) (Gv2.condF (dnl (m:=x) (n:=n) (by omega) (by rw [List.length_replicate];rfl)) (Gv2.one ((Gv.pure _).eq (tab_of TRat.d hL fun i hi=>h0 i (by omega)))))
 | d+1,x,L,hx,hL,h0=>by
  have hxn:x < n:=by omega
  have ew:w64 ((n:Int)+(x:Int))=((n+x:Nat):Int):=by rw [w64_eq (by omega) (by omega)];omega
  have r1:=(hp x).q (show s≤MS by omega)
  have r2:=(hp (n+x)).q (show s≤MS by omega)
  refine Gv2.succ (fun N g=>g_e_tableau_point_L1.eq_2 ..) (Gv2.condT (dlt (n:=n) hxn (by rw [List.length_replicate];rfl)) (Gv2.bind (at_gv hm hw x) ?_))
  rw [ew]
  refine Gv2.bind (at_gv hm hw (n+x)) (Gv2.bind (r1.sub r2 (msm (by decide))) (Gv2.if (inl hxn hL) ?_))
  rw [w64_succ (show x < 9223372036854775807 by omega),toNat_nat]
  refine point_L1 hm hn hs hw hp d (x+1) _ (by omega) (by rw [List.length_set];exact hL) fun i hi=>?_
  by_cases e:x=i
  ·subst e;exact getD_setE _ _ _ _ (by omega)
  ·rw [getD_setN _ _ _ e];exact h0 i (by omega)
theorem point_gv (hm:m≤1000) (hn:n≤400) (hs:2 * s+1≤MS) (hw:∀ i i',i < m→i' < m→D.bas i=D.bas i'→i=i') (hp:∀ u,RB (pt0 D m u) s) :
  Gv (fun N=>g_e_tableau_point N (n:Int) (m:Int) (ofQ D.v).fN.fG (ofQ D.v).fN.fL (ofQ D.v).fD.fG (ofQ D.v).fD.fL (h:Int) (LN D.bas m) (LN D.fr k) (LA D.a m k) (LQ D.b m) (LQ D.g k)) (LQ (fun i=>pt0 D m i - pt0 D m (n+i)) n) :=
 Gv.if (by omega) (point_L1 hm hn hs hw hp n 0 (List.replicate n TRat.d) (by omega) List.length_replicate fun i hi=>absurd hi (Nat.not_lt_zero _)).diag
end
end Go.Den
namespace Go.Den
open Go.Ab
section
variable {n:Nat} {l:List TRow}
structure Mult (n:Nat) (l:List TRow) (y:Nat→Rat):Prop where
 nn:∀ i,i < l.length→0≤y i
 col:∀ j,j < n→sumN l.length (fun i=>y i * cf l i j)=0
 neg:sumN l.length (fun i=>y i * bv l i) < 0
 rb:∀ i,i < l.length→RB (y i) 400000
structure Poi (n:Nat) (l:List TRow) (x:Nat→Rat):Prop where
 ok:∀ i,i < l.length→Dic.dotN n (cf l) x i≤bv l i
 rb:∀ j,j < n→RB (x j) 400000
theorem pow5 {m:Nat} (hm:m≤7):5 ^ m * 2≤156250:=by
 have:5 ^ m≤5 ^ 7:=Nat.pow_le_pow_right (by decide) hm
 have e:(5:Nat) ^ 7=78125:=by decide
 omega
theorem refused_mult {D:Dic} (hl:RowsB l) (h7:l.length≤7) (h:Refused n l.length (cf l) (bv l) D):Mult n l (fun i=>-(D.gc (2 * n+1) (2 * n+i)))∧∀ j,j < 2 * n+1→RB (D.g j) 156250:=by
 obtain ⟨q1,q2,q3⟩:=Dic.mults h.wf h.eqv h.g
 have hr:=Dic.size h.wf (Dic.fst_wf n l.length (cf l) (bv l) (-1)) h.eqv (fst_rbs (-1) (Dic.RB1.neg.le (by decide)) (D0_rbs hl)) (by decide:1≤2)
 have hp:=pow5 h7
 refine ⟨⟨fun i _=>by have:=q1 (2 * n+i);grind,q2,by rw [q3];exact h.v,fun i _=>?_⟩,fun j hj=>(hr.g j hj).le hp⟩
 by_cases e:∃ j,j < 2 * n+1∧D.fr j=2 * n+i
 ·obtain ⟨j,hj,e⟩:=e
  rw [← e,Dic.gc_fr h.wf hj];exact (hr.g j hj).neg.le (by omega)
 ·rw [Dic.gc_none fun j hj q=>e ⟨j,hj,q⟩];exact RB.zero.neg.le (by decide)
theorem settled_point {D:Dic} {c:Nat} (hl:RowsB l) (h7:l.length≤7) (h:Settled n l.length (cf l) (bv l) D c):Poi n l (fun j=>pt0 D l.length j - pt0 D l.length (n+j))∧∀ u,RB (pt0 D l.length u) 156250:=by
 obtain ⟨z,he⟩:=h.eqv
 -- the goal does not matter
 have hr:∀ i,i < l.length→RB (D.b i) 156250:=fun i hi=>by
  have e0:Dic.Eqv l.length (2 * n+1) (Dic.fst n l.length (cf l) (bv l) 0) { D with g:=fun j=>if D.fr j=2 * n+l.length then 0 else 0,v:=0 }:=⟨fun x=>by
   rw [← Dic.fst_eqv0 n l.length (cf l) (bv l) z D x he];exact Iff.rfl,fun x _=>by
   rw [Dic.fst_gv];unfold Dic.gv
   rw [sumN_congr (g:=fun _=>0) fun j _=>by simp,sumN_zero];grind⟩
  have hw:Dic.WF { D with g:=fun j=>if D.fr j=2 * n+l.length then 0 else 0,v:=0 } l.length (2 * n+1):=⟨h.wf.bi,h.wf.fi,h.wf.bf,h.wf.bl,h.wf.fl,h.wf.al⟩
  exact ((Dic.size hw (Dic.fst_wf n l.length (cf l) (bv l) 0) e0 (D0_rbs hl) (by decide:1≤2)).b i hi).le (pow5 h7)
 have hp:∀ u,RB (pt0 D l.length u) 156250:=fun u=>by
  by_cases e:∃ i,i < l.length∧D.bas i=u
  ·obtain ⟨i,hi,e⟩:=e
   unfold pt0;rw [← e,Dic.rix_bas h.wf.bi hi];exact hr i hi
  ·unfold pt0;rw [Dic.rix_none fun i hi q=>e ⟨i,hi,q⟩];exact RB.zero.le (by decide)
 refine ⟨⟨fun i hi=>?_,fun j _=>((hp j).sub (hp (n+j))).le (by omega)⟩,hp⟩
 have hs:=(Dic.fst_eqv0 n l.length (cf l) (bv l) z D _ he).1 (Dic.ext_sol h.wf Dic.zer)
 have hs:=(Dic.fst_sol n l.length (cf l) (bv l) 0 _).1 hs i hi
 have h0:D.ext l.length (2 * n+1) Dic.zer (2 * n+l.length)=0:=by rw [← h.fr,Dic.ext_fr h.wf h.lt];rfl
 have hnn:=Dic.p0_nonneg h.wf h.fea (2 * n+i) (by omega)
 rw [h0] at hs
 have e:(fun j=>pt0 D l.length j - pt0 D l.length (n+j))=fun j=>D.ext l.length (2 * n+1) Dic.zer j - D.ext l.length (2 * n+1) Dic.zer (n+j):=by
  funext j;rw [pt0_ext D _ (2 * n+1),pt0_ext D _ (2 * n+1)]
 rw [e]
 grind
theorem pt0_del (D:Dic) (c m u:Nat):pt0 (D.del c) m u=pt0 D m u:=by
 have e:∀ m,Dic.rix (D.del c) m u=Dic.rix D m u:=fun m=>by
  induction m with
  | zero=>rfl
  | succ m ih=>rw [Dic.rix,Dic.rix,ih];rfl
 unfold pt0;rw [e];rfl
theorem Feasible_gv (hn:n≤4) (hl:RowsB l) (h7:l.length≤7) (hc:rowsCode n l=0) :
  (∃ y,Mult n l y∧Gv (fun N=>g_e_Feasible N (n:Int) l) ([],LQ y l.length,29))∨∃ x,Poi n l x∧Gv (fun N=>g_e_Feasible N (n:Int) l) (LQ x n,[],0):=by
 obtain ⟨_,ok⟩:=rowsOk hc
 rw [toNat_nat] at ok
 have hb:=begin_gv (n:=n) (by omega) hl (by omega) ok.co
 obtain ⟨r,q1,q2⟩:=settle_gv (n:=n) (m:=l.length) (C:=cf l) (B:=bv l) (s:=2) (by omega) (by omega) (D0_rbs hl) (by decide) (by have:=pow5 h7;show 5 * (5 ^ l.length * 2)≤100000000;omega)
 have hc0:(rowsCode (n:Int) l != 0)=false:=by rw [hc];rfl
 rcases q2 with ⟨D,q2,rfl⟩ | ⟨D,c,q2,rfl⟩
 ·obtain ⟨g1,g2⟩:=refused_mult hl h7 q2
  refine .inl ⟨_,g1,(CheckRows_gv _ _).bind (Gv.condF hc0 (hb.bind (q1.bind ?_)))⟩
  simp only [RS,TB,LN_len,LA_len,LQ_len]
  refine Gv.if trivial (Gv.if trivial (Gv.if trivial (Gv.condT rfl ((mult_gv (by omega) (by omega) (by omega) (by decide:156250≤MS) q2.wf g2).bind (Gv.pure _)))))
 ·obtain ⟨g1,g2⟩:=settled_point hl h7 q2
  refine .inr ⟨_,g1,(CheckRows_gv _ _).bind (Gv.condF hc0 (hb.bind (q1.bind ?_)))⟩
  simp only [RS,TB,LN_len,LA_len,LQ_len]
  have:=point_gv (n:=n) (k:=2 * n) (h:=2 * n+l.length) (D:=D.del c) (m:=l.length) (by omega) (by omega) (s:=156250) (by decide) q2.wf.bi (fun u=>by rw [pt0_del];exact g2 u)
  have e:LQ (fun j=>pt0 (D.del c) l.length j - pt0 (D.del c) l.length (n+j)) n=LQ (fun j=>pt0 D l.length j - pt0 D l.length (n+j)) n:=LQ_congr fun j _=>by rw [pt0_del,pt0_del]
  rw [e] at this
  exact Gv.if trivial (Gv.if trivial (Gv.if trivial (Gv.condF rfl (this.bind (Gv.pure _)))))
theorem LQ_lb {f:Nat→Rat} {m:Nat} (hm:m≤60) (hf:∀ i,i < m→RB (f i) 400000):LB (LQ f m) 400000:=⟨by rw [LQ_len];exact hm,fun i=>by
 by_cases h:i < m
 ·rw [LQ_get _ _ h];exact (hf i h).ir
 ·rw [getD_geR (by rw [LQ_len];omega)];exact ird⟩
theorem yv_LQ {f:Nat→Rat} {m i:Nat} (h:i < m):yv (LQ f m) i=f i:=by unfold yv;rw [LQ_get _ _ h,qv_ofQ]
theorem cS_sum {y:List TRat} (j:Nat):∀ m,cS l y j m=sumN m fun i=>yv y i * cf l i j
 | 0=>rfl
 | m+1=>by rw [cS,sumN,cS_sum j m]
theorem bS_sum {y:List TRat}:∀ m,bS l y m=sumN m fun i=>yv y i * bv l i
 | 0=>rfl
 | m+1=>by rw [bS,sumN,bS_sum m]
theorem anyNeg_iff {y:List TRat}:∀ {k i:Nat},(∀ a,i≤a→a < i+k→0≤yv y a)→anyNeg y k i=false
 | 0,_,_=>rfl
 | k+1,i,h=>by
  rw [anyNeg,if_neg (Rat.not_lt.2 (h i (Nat.le_refl _) (by omega)))]
  exact anyNeg_iff fun a h1 h2=>h a (by omega) (by omega)
theorem anyNZ_false {f:Nat→Rat}:∀ {k i:Nat},(∀ a,i≤a→a < i+k→f a=0)→anyNZ f k i=false
 | 0,_,_=>rfl
 | k+1,i,h=>by
  rw [anyNZ,if_pos (h i (Nat.le_refl _) (by omega))]
  exact anyNZ_false fun a h1 h2=>h a (by omega) (by omega)
theorem anyBad_false {x:List TRat}:∀ {k i:Nat},(∀ a,i≤a→a < i+k→¬ rowBad l x a)→anyBad l x k i=false
 | 0,_,_=>rfl
 | k+1,i,h=>by
  rw [anyBad,if_neg (h i (Nat.le_refl _) (by omega))]
  exact anyBad_false fun a h1 h2=>h a (by omega) (by omega)
theorem mult_contra {y:Nat→Rat} (h:Mult n l y):contra l (LQ y l.length) n=true:=by
 have hy:∀ i,i < l.length→yv (LQ y l.length) i=y i:=fun i hi=>yv_LQ hi
 unfold contra
 rw [anyNeg_iff fun a _ h2=>by rw [LQ_len] at h2;rw [hy a (by omega)];exact h.nn a (by omega),bS_sum,sumN_congr (g:=fun i=>y i * bv l i) fun i hi=>by rw [hy i hi],decide_eq_true h.neg,
  anyNZ_false fun a _ h2=>by rw [cS_sum,sumN_congr (g:=fun i=>y i * cf l i a) fun i hi=>by rw [hy i hi]];exact h.col a (by omega)]
 rfl
theorem Contradicts_gv (hl:RowsB l) {y:List TRat} (hy:LB y 400000) (hn:n≤12) (hyl:y.length=l.length):Gv (fun N=>g_r01_Contradicts N (n:Int) l y) (contra l y n) :=
 (rCombined_gv hl hy hn hyl).bind (Contradicts_L1 hl hy hn n 0 (by omega)).diag
theorem dF_sum {c x:List TRat}:∀ (k i:Nat) (a:Rat),dF c x k i a=a+sumN k fun j=>qv (c.getD (i+j) TRat.d) * qv (x.getD (i+j) TRat.d)
 | 0,i,a=>by show a=a+0;grind
 | k+1,i,a=>by
  rw [dF,dF_sum k (i+1),show k+1=1+k by omega,sumN_append]
  have e:sumN 1 (fun j=>qv (c.getD (i+j) TRat.d) * qv (x.getD (i+j) TRat.d))=qv (c.getD i TRat.d) * qv (x.getD i TRat.d):=by show 0+qv (c.getD (i+0) TRat.d) * qv (x.getD (i+0) TRat.d)=_;rw [Nat.add_zero];grind
  have e2:sumN k (fun j=>qv (c.getD (i+(1+j)) TRat.d) * qv (x.getD (i+(1+j)) TRat.d))=sumN k fun j=>qv (c.getD (i+1+j) TRat.d) * qv (x.getD (i+1+j) TRat.d):=sumN_congr fun j _=>by rw [show i+(1+j)=i+1+j by omega]
  rw [e,e2]
  grind
theorem dotV_sum {c x:List TRat} {n:Nat} (h:c.length≤n):dotV c x=sumN n fun j=>qv (c.getD j TRat.d) * qv (x.getD j TRat.d):=by
 unfold dotV
 rw [dF_sum,show n=c.length+(n - c.length) by omega,sumN_append]
 rw [sumN_congr (n:=n - c.length) (g:=fun _=>0) fun j _=>by rw [getD_geR (show c.length≤c.length+j by omega),qv_d];grind,sumN_zero,sumN_congr (n:=c.length) (g:=fun j=>qv (c.getD j TRat.d) * qv (x.getD j TRat.d)) fun j _=>by rw [Nat.zero_add]]
 grind
theorem poi_holds (ok:RowsOk n l) {x:Nat→Rat} (h:Poi n l x):anyBad l (LQ x n) l.length 0=false:=anyBad_false fun i _ hi=>by
 unfold rowBad
 rw [dotV_sum (ok.co i (by omega)),sumN_congr (g:=fun j=>cf l i j * x j) fun j hj=>by rw [LQ_get _ _ hj,qv_ofQ];rfl]
 have:=h.ok i (by omega)
 unfold Dic.dotN at this
 show ¬ 0 < _ - bv l i
 grind
end
end Go.Den
namespace Go.Den
open Go.Ab
section
variable {n:Nat} {l:List TRow}
theorem Gv.det {α:Type} {f:Nat→Option α} {r s:α} (h:Gv f r) (k:Gv f s):r=s:=by
 obtain ⟨a,ha⟩:=h;obtain ⟨b,hb⟩:=k
 have:=(ha (a+b) (by omega)).symm.trans (hb (a+b) (by omega))
 exact Option.some.inj this
theorem mult_poi {y x:Nat→Rat} (h:Mult n l y) (k:Poi n l x):False:=by
 have h1:sumN l.length (fun i=>y i * Dic.dotN n (cf l) x i)=0:=by
  have e:(fun i=>y i * Dic.dotN n (cf l) x i)=fun i=>sumN n fun j=>x j * (y i * cf l i j):=by
   funext i;unfold Dic.dotN;rw [← sumN_mul];exact sumN_congr fun j _=>by grind
  rw [e,sumN_swap,sumN_congr (g:=fun _=>0) fun j hj=>by rw [sumN_mul,h.col j hj];grind,sumN_zero]
 have h2:∀ m,m≤l.length→sumN m (fun i=>y i * Dic.dotN n (cf l) x i)≤sumN m fun i=>y i * bv l i:=fun m=>by
  induction m with
  | zero=>intro _;exact Rat.le_refl
  | succ m ih =>
   intro hm
   have i1:=ih (by omega)
   have i2:=Rat.mul_le_mul_of_nonneg_left (k.ok m (by omega)) (h.nn m (by omega))
   rw [sumN,sumN];grind
 have:=h2 _ (Nat.le_refl _)
 have:=h.neg
 grind
open Classical in
noncomputable def cB (n:Nat) (l:List TRow):Bool:=if Gv (fun N=>g_e_contradictory N (n:Int) l) true then true else false
structure Sml (n:Nat) (l:List TRow):Prop where
 n4:n≤4
 rb:RowsB l
 l7:l.length≤7
 co:∀ i,i < l.length→(l.getD i TRow.d).f_Coefs.length≤n
theorem anyLong_no {n:Int}:∀ {k i:Nat},(∀ j,i≤j→j < i+k→¬ rowLong l n j)→anyLong l n k i=false
 | 0,_,_=>rfl
 | k+1,i,h=>by
  rw [anyLong,if_neg (h i (Nat.le_refl _) (by omega))]
  exact anyLong_no fun j h1 h2=>h j (by omega) (by omega)
theorem Sml.code (h:Sml n l):rowsCode (n:Int) l=0:=by
 have h4:=h.n4;have h7:=h.l7
 unfold rowsCode
 rw [if_neg (by omega),if_neg (by omega),anyLong_no fun j _ hj=>by have:=h.co j (by omega);unfold rowLong;omega];rfl
theorem cB_cases (h:Sml n l):Gv (fun N=>g_e_contradictory N (n:Int) l) (cB n l)∧Gv (fun N=>g_w01_contradictory N (n:Int) l) (cB n l,true)∧((cB n l=true∧∃ y,Mult n l y)∨(cB n l=false∧∃ x,Poi n l x)):=by
 have h4:=h.n4;have h7:=h.l7
 have hb:=begin_gv (n:=n) (by omega) h.rb (by omega) h.co
 obtain ⟨r,q1,q2⟩:=settle_gv (n:=n) (m:=l.length) (C:=cf l) (B:=bv l) (s:=2) (by omega) (by omega) (D0_rbs h.rb) (by decide) (by have:=pow5 h7;show 5 * (5 ^ l.length * 2)≤100000000;omega)
 have hF:=Feasible_gv h4 h.rb h7 h.code
 have ex:∀ ok k D,r=RS ok n l.length k (2 * n+l.length) D→Gv (fun N=>g_e_contradictory N (n:Int) l) (!ok):=fun ok k D e=>by
  subst e
  refine hb.bind (q1.bind ?_)
  simp only [RS,TB,LN_len,LA_len,LQ_len]
  exact Gv.if trivial (Gv.if trivial (Gv.if trivial (Gv.pure _)))
 have ok:=(rowsOk h.code).2
 rw [toNat_nat] at ok
 have law1:∀ y,Mult n l y→Gv (fun N=>g_e_Feasible N (n:Int) l) ([],LQ y l.length,29)→Gv (fun N=>g_w01_contradictory N (n:Int) l) (true,true):=fun y g1 g2=>by
  have hlb:=LQ_lb (f:=y) (m:=l.length) (by omega) g1.rb
  have e1:((((LQ y l.length).length:Nat):Int) == ((l.length:Nat):Int))=true:=by rw [LQ_len];simp
  exact g2.bind (Gv.condT rfl (Gv.bind (r:=true) (Gv.condT e1 ((Contradicts_gv h.rb hlb (by omega) (LQ_len _ _)).eq (mult_contra g1))) ((Gv.pure _).eq (by rw [e1];rfl))))
 have law2:∀ x,Poi n l x→Gv (fun N=>g_e_Feasible N (n:Int) l) (LQ x n,[],0)→Gv (fun N=>g_w01_contradictory N (n:Int) l) (false,true):=fun x g1 g2=>by
  have hlb:=LQ_lb (f:=x) (m:=n) (by omega) g1.rb
  have e1:cond ((0:Int) == 0) ((((LQ x n).length:Nat):Int) == (n:Int)) false=true:=by rw [LQ_len];simp
  exact g2.bind (Gv.condF rfl (Gv.bind (r:=true) (Gv.condT e1 ((Holds_gv h.rb hlb (fun i hi=>by rw [LQ_len];exact ok.co i hi)).eq (by rw [poi_holds ok g1];rfl))) ((Gv.pure _).eq (by rw [e1];rfl))))
 rcases q2 with ⟨D,q2,e⟩ | ⟨D,c,q2,e⟩
 ·have h1:Gv (fun N=>g_e_contradictory N (n:Int) l) true:=ex _ _ _ e
  have hc:cB n l=true:=by unfold cB;rw [if_pos h1]
  rw [hc]
  refine ⟨h1,?_,.inl ⟨rfl,_,(refused_mult h.rb h7 q2).1⟩⟩
  rcases hF with ⟨y,g1,g2⟩ | ⟨x,g1,g2⟩
  ·exact law1 y g1 g2
  ·exact (mult_poi (refused_mult h.rb h7 q2).1 g1).elim
 ·have h1:Gv (fun N=>g_e_contradictory N (n:Int) l) false:=ex _ _ _ e
  have hc:cB n l=false:=by unfold cB;rw [if_neg fun q=>by have:=q.det h1;cases this]
  rw [hc]
  refine ⟨h1,?_,.inr ⟨rfl,_,(settled_point h.rb h7 q2).1⟩⟩
  rcases hF with ⟨y,g1,g2⟩ | ⟨x,g1,g2⟩
  ·exact (mult_poi g1 (settled_point h.rb h7 q2).1).elim
  ·exact law2 x g1 g2
def rowsAt (l:List TRow) (K:List Nat):List TRow:=K.map fun i=>l.getD i TRow.d
theorem rowsAt_get {K:List Nat} {i:Nat} (h:i < K.length):(rowsAt l K).getD i TRow.d=l.getD (K.getD i 0) TRow.d:=by
 simp [rowsAt,List.getD_eq_getElem?_getD,h]
theorem Sml.at (h:Sml n l) {K:List Nat} (hk:K.length≤7) (hK:∀ i∈K,i < l.length):Sml n (rowsAt l K):=by
 have hlen:(rowsAt l K).length=K.length:=by simp [rowsAt]
 refine ⟨h.n4,⟨by omega,fun i=>?_⟩,by omega,fun i hi=>?_⟩
 ·by_cases hi:i < K.length
  ·rw [rowsAt_get hi];exact h.rb.row _
  ·rw [getD_row (by omega)];exact RowB.d
 ·have hi:i < K.length:=by omega
  rw [rowsAt_get hi]
  refine h.co _ (hK _ ?_)
  simp [List.getD_eq_getElem?_getD,hi]
theorem poi_sub {K K':List Nat} (hs:∀ i∈K,i∈K') {x:Nat→Rat} (h:Poi n (rowsAt l K') x):Poi n (rowsAt l K) x:=by
 refine ⟨fun i hi=>?_,h.rb⟩
 have hi':i < K.length:=by simpa [rowsAt] using hi
 have hm:K.getD i 0∈K':=hs _ (by simp [List.getD_eq_getElem?_getD,hi'])
 obtain ⟨i',h1⟩:=List.getElem?_of_mem hm
 have h2:i' < K'.length:=(List.getElem?_eq_some_iff.1 h1).1
 have e:K'.getD i' 0=K.getD i 0:=by rw [List.getD_eq_getElem?_getD,h1];rfl
 have:=h.ok i' (by simpa [rowsAt] using h2)
 have er:(rowsAt l K').getD i' TRow.d=(rowsAt l K).getD i TRow.d:=by rw [rowsAt_get h2,rowsAt_get hi',e]
 unfold Dic.dotN cf bv at this ⊢
 rw [er] at this;exact this
theorem cB_sub (h:Sml n l) {K K':List Nat} (hk:K.length≤7) (hk':K'.length≤7) (hK:∀ i∈K',i < l.length) (hs:∀ i∈K,i∈K') (hc:cB n (rowsAt l K')=false):cB n (rowsAt l K)=false:=by
 rcases (cB_cases (h.at hk' hK)).2.2 with ⟨e,_⟩ | ⟨_,x,hx⟩
 ·rw [hc] at e;cases e
 ·rcases (cB_cases (h.at hk fun i hi=>hK i (hs i hi))).2.2 with ⟨_,y,hy⟩ | ⟨e,_⟩
  ·exact (mult_poi hy (poi_sub hs hx)).elim
  ·exact e
end
end Go.Den
namespace Go.Den
open Go.Ab
def KI (K:List Nat):List Int:=K.map fun i:Nat=>((i:Nat):Int)
theorem KI_len (K:List Nat):(KI K).length=K.length:=by simp [KI]
theorem KI_get {K:List Nat} {i:Nat} (d:Int) (h:i < K.length):(KI K).getD i d=((K.getD i 0:Nat):Int):=by simp [KI,List.getD_eq_getElem?_getD,h]
theorem KI_tab (K:List Nat):KI K=tab (fun a=>((K.getD a 0:Nat):Int)) K.length:=tab_of 0 (KI_len K) fun i hi=>KI_get 0 hi
def tl (m x:Nat):List Nat:=List.range' x (m - x)
theorem tl_cons {m x:Nat} (h:x < m):tl m x=x :: tl m (x+1):=by
 unfold tl;rw [show m - x=(m - (x+1))+1 by omega,List.range'_succ]
theorem tl_nil {m x:Nat} (h:m≤x):tl m x=[]:=by unfold tl;rw [show m - x=0 by omega];rfl
theorem tl_mem {m x i:Nat}:i∈tl m x↔x≤i∧i < m:=by
 unfold tl;rw [List.mem_range'_1];omega
theorem tl_len (m x:Nat):(tl m x).length=m - x:=by simp [tl]
section
variable {A B:List Nat} {x:Nat}
theorem getD_mid (a:Nat) (h:A.length≤a):(A ++ x :: B).getD (a+1) 0=(A ++ B).getD a 0:=by
 rw [List.getD_eq_getElem?_getD,List.getD_eq_getElem?_getD,List.getElem?_append_right (by omega),List.getElem?_append_right h,show a+1 - A.length=(a - A.length)+1 by omega,List.getElem?_cons_succ]
theorem getD_fst (a:Nat) (h:a < A.length) (C:List Nat):(A ++ C).getD a 0=A.getD a 0:=by
 rw [List.getD_eq_getElem?_getD,List.getD_eq_getElem?_getD,List.getElem?_append_left h]
theorem getD_memA {K:List Nat} {a:Nat} (h:a < K.length):K.getD a 0∈K:=by simp [List.getD_eq_getElem?_getD,h]
theorem dfun_L1 (hl:(A ++ B).length≤100) (hB:x ∉ B):∀ (d i:Nat) (L:List Int),i+d=(A ++ B).length→A.length≤i→L.length=(A ++ B).length+1→(∀ a,a < i→L.getD a 0=(((A ++ B).getD a 0:Nat):Int))→(∀ a,i≤a→a < (A ++ B).length→L.getD (a+1) 0=(((A ++ B).getD a 0:Nat):Int)) →
  Gv2 (fun N g=>g_slices_DeleteFunc_int_int_L1 N (x:Int) g L (i:Int) ((i+1:Nat):Int)) (KI (A ++ B),KI (A ++ B))
 | 0,i,L,hi,hA,hL,h1,h2=>by
  have e:L.take i=KI (A ++ B):=by
   rw [KI_tab]
   refine tab_of 0 (by rw [List.length_take];omega) fun a ha=>?_
   rw [List.getD_eq_getElem?_getD,List.getElem?_take,if_pos (by omega),← List.getD_eq_getElem?_getD]
   exact h1 a (by omega)
  refine Gv2.succ (fun N g=>g_slices_DeleteFunc_int_int_L1.eq_2 ..) (Gv2.condF (dnl (m:=i+1) (n:=(A ++ B).length+1) (by omega) hL) ?_)
  simp only [toNat_nat]
  refine Gv2.if (by omega) (Gv2.if (by omega) (Gv2.if (by omega) (Gv2.if (by omega) (Gv2.one ((Gv.pure _).eq ?_)))))
  rw [e]
 | d+1,i,L,hi,hA,hL,h1,h2=>by
  have hil:i < (A ++ B).length:=by omega
  have ev:=h2 i (Nat.le_refl _) hil
  have hne:(A ++ B).getD i 0≠x:=fun q=>by
   have:(A ++ B).getD i 0∈B:=by
    rw [List.getD_eq_getElem?_getD,List.getElem?_append_right hA]
    have hb:i - A.length < B.length:=by rw [List.length_append] at hil;omega
    rw [List.getElem?_eq_getElem hb];exact List.getElem_mem hb
   rw [q] at this;exact hB this
  refine Gv2.succ (fun N g=>g_slices_DeleteFunc_int_int_L1.eq_2 ..) (Gv2.condT (dlt (m:=i+1) (n:=(A ++ B).length+1) (by omega) hL) (Gv2.if (inl (m:=i+1) (n:=(A ++ B).length+1) (by omega) hL) ?_))
  simp only [toNat_nat,ev,g_slices_DeleteFunc_int_int_J2,w64_succ (show i < 9223372036854775807 by omega),w64_succ (show i+1 < 9223372036854775807 by omega)]
  refine Gv2.bind (r:=false) ((Gv.pure _).eq (by rw [beq_eq_false_iff_ne];omega)) (Gv2.condT rfl (Gv2.if (inl (m:=i) (n:=(A ++ B).length+1) (by omega) hL) ?_))
  refine dfun_L1 hl hB d (i+1) _ (by omega) (by omega) (by rw [List.length_set];exact hL) (fun a ha=>?_) fun a ha1 ha2=>?_
  ·by_cases e:i=a
   ·subst e;exact getD_setE _ _ _ _ (by omega)
   ·rw [getD_setN _ _ _ e];exact h1 a (by omega)
  ·rw [getD_setN _ _ _ (show i≠a+1 by omega)];exact h2 a (by omega) ha2
theorem ifun_L1 (hl:(A ++ x :: B).length≤100) (hA:x ∉ A):∀ d i,i+d=A.length→Gv2 (fun N g=>g_slices_IndexFunc_int_int_L1 N (KI (A ++ x :: B)) (x:Int) g (i:Int)) ((A.length:Nat):Int)
 | 0,i,hi=>by
  have hi:i=A.length:=by omega
  subst hi
  have hlt:A.length < (A ++ x :: B).length:=by simp
  refine Gv2.succ (fun N g=>g_slices_IndexFunc_int_int_L1.eq_2 ..) (Gv2.condT (dlt hlt (KI_len _)) (Gv2.if (inl hlt (KI_len _)) ?_))
  rw [toNat_nat,KI_get _ hlt]
  have e:(A ++ x :: B).getD A.length 0=x:=by rw [List.getD_eq_getElem?_getD,List.getElem?_append_right (Nat.le_refl _),Nat.sub_self];rfl
  rw [e]
  exact Gv2.bind (r:=true) ((Gv.pure _).eq (by simp)) (Gv2.condT rfl (Gv2.one (Gv.pure _)))
 | d+1,i,hi=>by
  have hiA:i < A.length:=by omega
  have hlt:i < (A ++ x :: B).length:=by simp;omega
  have hne:A.getD i 0≠x:=fun q=>hA (q ▸ getD_memA hiA)
  refine Gv2.succ (fun N g=>g_slices_IndexFunc_int_int_L1.eq_2 ..) (Gv2.condT (dlt hlt (KI_len _)) (Gv2.if (inl hlt (KI_len _)) ?_))
  rw [toNat_nat,KI_get _ hlt,getD_fst i hiA,w64_succ (by omega)]
  exact Gv2.bind (r:=false) ((Gv.pure _).eq (by rw [beq_eq_false_iff_ne];omega)) (Gv2.condF rfl (ifun_L1 hl hA d (i+1) (by omega)))
theorem dfun_gv (hl:(A ++ x :: B).length≤100) (hA:x ∉ A) (hB:x ∉ B):Gv (fun N=>g_slices_DeleteFunc_int_int N (KI (A ++ x :: B)) (x:Int)) (KI (A ++ B),KI (A ++ B)):=by
 have hl2:(A ++ B).length+1=(A ++ x :: B).length:=by simp only [List.length_append,List.length_cons];omega
 refine Gv.bind (r:=((A.length:Nat):Int)) (ifun_L1 hl hA A.length 0 (by omega)).diag (Gv.condF (by rw [beq_eq_false_iff_ne];omega) ?_)
 have hA2:A.length≤(A ++ B).length:=by simp
 rw [w64_succ (by omega)]
 refine (dfun_L1 (A:=A) (B:=B) (by omega) hB ((A ++ B).length - A.length) A.length _ (by omega) (Nat.le_refl _) (by rw [KI_len];omega) (fun a ha=>?_) fun a h1 h2=>?_).diag
 ·rw [KI_get _ (by omega),getD_fst a ha,getD_fst a ha]
 ·rw [KI_get _ (by omega),getD_mid a h1]
end
section
variable {n:Nat} {l:List TRow}
noncomputable def coreF (n:Nat) (l:List TRow):Nat→Nat→List Nat→List Nat
 | 0,_,K=>K
 | d+1,x,K=>if cB n (rowsAt l (K ++ tl l.length (x+1)))=true then coreF n l d (x+1) K else coreF n l d (x+1) (K ++ [x])
structure Lft (m x:Nat) (K:List Nat):Prop where
 lt:∀ i∈K,i < x
 len:K.length≤x
 nd:K.Pairwise (· < ·)
theorem Lft.up {m x:Nat} {K:List Nat} (h:Lft m x K):Lft m (x+1) K:=⟨fun i hi=>by have:=h.lt i hi;omega,by have:=h.len;omega,h.nd⟩
theorem Lft.push {m x:Nat} {K:List Nat} (h:Lft m x K):Lft m (x+1) (K ++ [x]):=by
 refine ⟨fun i hi=>?_,by have:=h.len;simp;omega,?_⟩
 ·rcases List.mem_append.1 hi with hi | hi
  ·have:=h.lt i hi;omega
  ·simp at hi;omega
 ·rw [List.pairwise_append]
  exact ⟨h.nd,by simp,fun a ha b hb=>by simp at hb;rw [hb];exact h.lt a ha⟩
theorem rowsAt_len (K:List Nat):(rowsAt l K).length=K.length:=by simp [rowsAt]
theorem rowsAt_push (K:List Nat) (i:Nat):rowsAt l K ++ [l.getD i TRow.d]=rowsAt l (K ++ [i]):=by simp [rowsAt]
theorem Sml.sub (h:Sml n l) {x:Nat} {K:List Nat} (hK:Lft l.length x K) (hx:x≤l.length):Sml n (rowsAt l (K ++ tl l.length x)):=by
 have h1:=hK.len;have h2:=h.l7;have h3:=tl_len l.length x
 refine h.at (by rw [List.length_append];omega) fun i hi=>?_
 rcases List.mem_append.1 hi with hi | hi
 ·have:=hK.lt i hi;omega
 ·exact (tl_mem.1 hi).2
theorem core_L3 (h:Sml n l) {R:List Nat} (hR:∀ i∈R,i < l.length) (hS:Sml n (rowsAt l R)) {kept:List Int} {x:Nat} (hx:x < l.length):∀ d t,t+d=R.length →
  Ev fun N g=>∀ K,g_e_Core_L3 N (n:Int) l kept (x:Int) (KI R,KI R) K g (rowsAt l (R.take t)) (t:Int)=K (cond (cB n (rowsAt l R)) (KI R) kept) ((x+1:Nat):Int)
 | 0,t,ht=>by
  have h7:=h.l7
  refine Ev.succ ((cB_cases hS).1.ev.mono fun N g q K=>?_)
  rw [g_e_Core_L3,dnl (m:=t) (n:=R.length) (by omega) (KI_len R),cond_false,List.take_of_length_le (by omega),q,Option.bind_some]
  unfold g_e_Core_J4
  rw [w64_succ (by omega)]
  cases cB n (rowsAt l R)<;>rfl
 | d+1,t,ht=>by
  have h7:=hS.l7
  rw [rowsAt_len] at h7
  have htR:t < R.length:=by omega
  have hr:=hR _ (getD_memA htR)
  have ih:=core_L3 h hR hS (kept:=kept) hx d (t+1) (by omega)
  refine Ev.succ (ih.mono fun N g q K=>?_)
  rw [g_e_Core_L3,dlt htR (KI_len R),cond_true,if_pos (inl htR (KI_len R))]
  simp only [toNat_nat,KI_get 0 htR]
  rw [if_pos (inb hr),if_pos (by rw [rowsAt_len,List.length_take];omega),rowsAt_push,w64_succ (by omega)]
  have e:R.take t ++ [R.getD t 0]=R.take (t+1):=by
   rw [List.take_add_one,List.getD_eq_getElem?_getD,List.getElem?_eq_getElem htR];rfl
  rw [e]
  exact q K
theorem core_L2 (h:Sml n l):∀ d x (K:List Nat),x+d=l.length→Lft l.length x K→Gv2 (fun N g=>g_e_Core_L2 N (n:Int) l g (KI (K ++ tl l.length x)) (x:Int)) (KI (coreF n l d x K),0)
 | 0,x,K,hx,hK=>by
  rw [tl_nil (by omega),List.append_nil]
  exact Gv2.succ (fun N g=>g_e_Core_L2.eq_2 ..) (Gv2.condF (decide_eq_false (by omega)) (Gv2.one (Gv.pure _)))
 | d+1,x,K,hx,hK=>by
  have hxl:x < l.length:=by omega
  have h7:=h.l7
  have hlen:=hK.len
  have hS:=h.sub hK.up (show x+1≤l.length by omega)
  have hxK:x ∉ K:=fun q=>by have:=hK.lt x q;omega
  have hxt:x ∉ tl l.length (x+1):=fun q=>by have:=(tl_mem.1 q).1;omega
  have h3:=tl_len l.length (x+1)
  have hd:=dfun_gv (A:=K) (x:=x) (B:=tl l.length (x+1)) (by simp;omega) hxK hxt
  obtain ⟨N1,q1⟩:=core_L3 h (R:=K ++ tl l.length (x+1)) (fun i hi=>by
   rcases List.mem_append.1 hi with hi | hi
   ·have:=hK.lt i hi;omega
   ·exact (tl_mem.1 hi).2) hS (kept:=KI (K ++ tl l.length x)) hxl _ 0 (Nat.zero_add _)
  have hcl:Gv (fun N=>g_slices_Clone_int_int N (KI (K ++ tl l.length x))) ([] ++ KI (K ++ tl l.length x)):=Gv.if (by rw [KI_len,List.length_append,tl_len];omega) (Gv.pure _)
  refine Gv2.succ (fun N g=>g_e_Core_L2.eq_2 ..) (Gv2.condT (dec_lt hxl) (Gv2.bind hcl ?_))
  rw [List.nil_append]
  rw [← tl_cons hxl] at hd
  refine Gv2.bind hd ?_
  have ih:Gv2 (fun N g=>g_e_Core_L2 N (n:Int) l g (cond (cB n (rowsAt l (K ++ tl l.length (x+1)))) (KI (K ++ tl l.length (x+1))) (KI (K ++ tl l.length x))) ((x+1:Nat):Int)) (KI (coreF n l (d+1) x K),0):=by
   rw [coreF]
   cases cB n (rowsAt l (K ++ tl l.length (x+1))) with
   | true=>exact core_L2 h d (x+1) K (by omega) hK.up
   | false =>
    have:=core_L2 h d (x+1) (K ++ [x]) (by omega) hK.push
    rw [List.append_assoc,List.singleton_append,← tl_cons hxl] at this
    exact this
  obtain ⟨N2,q2⟩:=ih
  refine ⟨N1+N2,fun N g hN hg=>?_⟩
  exact (q1 N N (by omega) (by omega) _).trans (q2 N g (by omega) (by omega))
theorem core_L1 (h:Sml n l):∀ d x,x+d=l.length→Gv2 (fun N g=>g_e_Core_L1 N (n:Int) l g (KI (List.range x)) (x:Int)) (KI (coreF n l l.length 0 []),0)
 | 0,x,hx=>by
  have hx:x=l.length:=by omega
  subst hx
  have:=(core_L2 h l.length 0 [] (by omega) ⟨fun i hi=>by simp at hi,Nat.le_refl _,.nil⟩).diag
  rw [List.nil_append,show tl l.length 0=List.range l.length by unfold tl;rw [Nat.sub_zero,List.range_eq_range']] at this
  exact Gv2.succ (fun N g=>g_e_Core_L1.eq_2 ..) (Gv2.condF dec_nlt (Gv2.one this))
 | d+1,x,hx=>by
  have h7:=h.l7
  have ih:=core_L1 h d (x+1) (by omega)
  refine Gv2.succ (fun N g=>g_e_Core_L1.eq_2 ..) (Gv2.condT (dec_lt (by omega)) (Gv2.if (by rw [KI_len,List.length_range];omega) ?_))
  rw [w64_succ (by omega),show KI (List.range x) ++ [(x:Int)]=KI (List.range (x+1)) by unfold KI;rw [List.range_succ,List.map_append];rfl]
  exact ih
theorem Core_gv (h:Sml n l):Gv (fun N=>g_e_Core N (n:Int) l) (if cB n l=true then (KI (coreF n l l.length 0 []),0) else ([],29)):=by
 have hc0:(rowsCode (n:Int) l != 0)=false:=by rw [h.code];rfl
 refine (CheckRows_gv _ _).bind (Gv.condF hc0 ((cB_cases h).1.bind ?_))
 cases cB n l with
 | true=>exact Gv.condF rfl (by rw [if_pos rfl];exact (core_L1 h l.length 0 (by omega)).diag)
 | false=>exact Gv.condT rfl (Gv.pure _)
end
end Go.Den
namespace Go.Den
open Go.Ab
section
variable {n:Nat} {l:List TRow}
theorem without_eq {A B:List TRow} {r:TRow}:(([]:List TRow) ++ (((A ++ r :: B).take A.length).drop 0)) ++ (((A ++ r :: B).take (A ++ r :: B).length).drop (A.length+1))=A ++ B:=by
 rw [List.take_length,List.nil_append,List.drop_zero,List.take_left',show A ++ r :: B=(A ++ [r]) ++ B by simp,List.drop_left' (by simp)]
 rfl
theorem coreF_lft:∀ d x (K:List Nat),x+d=l.length→Lft l.length x K→Lft l.length l.length (coreF n l d x K)
 | 0,x,K,hx,hK=>by rw [coreF,show l.length=x by omega];exact ⟨hK.lt,hK.len,hK.nd⟩
 | d+1,x,K,hx,hK=>by
  rw [coreF]
  split
  ·exact coreF_lft d (x+1) K (by omega) hK.up
  ·exact coreF_lft d (x+1) _ (by omega) hK.push
theorem lft0:Lft l.length 0 []:=⟨fun i hi=>by simp at hi,Nat.le_refl _,.nil⟩
theorem rowsAt_all:rowsAt l (tl l.length 0)=l:=by
 refine List.ext_getElem (by rw [rowsAt_len,tl_len];rfl) fun i h1 h2=>?_
 have:(tl l.length 0)[i]?=some i:=by
  unfold tl;rw [List.getElem?_range' (by omega)];simp
 simp [rowsAt,tl,h2]
end
end Go.Den
namespace Go.Den
open Go.Ab
section
variable {n:Nat} {l:List TRow}
theorem withoutI_gv {A B:List Nat} {x:Nat} (h:(A ++ x :: B).length≤100):Gv (fun N=>g_w01_without N ((A.length:Nat):Int) (rowsAt l (A ++ x :: B))) (rowsAt l (A ++ B)):=by
 have hl:=rowsAt_len (l:=l) (A ++ x :: B)
 have h1:A.length < (A ++ x :: B).length:=by simp
 have e:=without_eq (A:=rowsAt l A) (B:=rowsAt l B) (r:=l.getD x TRow.d)
 rw [rowsAt_len] at e
 have e2:rowsAt l A ++ l.getD x TRow.d :: rowsAt l B=rowsAt l (A ++ x :: B):=by simp [rowsAt]
 have e3:rowsAt l A ++ rowsAt l B=rowsAt l (A ++ B):=by simp [rowsAt]
 rw [e2,e3] at e
 have ew:w64 (((A.length:Nat):Int)+1)=((A.length+1:Nat):Int):=w64_succ (by omega)
 unfold g_w01_without
 simp only [toNat_nat,ew]
 exact Gv.if (by omega) (Gv.if (by omega) (Gv.if (by omega) (Gv.if (by omega) (Gv.if (by omega) (Gv.if (by omega) ((Gv.pure _).eq e))))))
theorem coreF_irr (h:Sml n l):∀ d x (K:List Nat),x+d=l.length→Lft l.length x K→cB n (rowsAt l (K ++ tl l.length x))=true→(∀ A y B,K=A ++ y :: B→cB n (rowsAt l (A ++ B ++ tl l.length x))=false) →
  cB n (rowsAt l (coreF n l d x K))=true∧∀ A y B,coreF n l d x K=A ++ y :: B→cB n (rowsAt l (A ++ B))=false
 | 0,x,K,hx,hK,h1,h2=>by
  rw [tl_nil (by omega),List.append_nil] at h1
  refine ⟨h1,fun A y B e=>?_⟩
  have:=h2 A y B e
  rwa [tl_nil (by omega),List.append_nil] at this
 | d+1,x,K,hx,hK,h1,h2=>by
  have hxl:x < l.length:=by omega
  have h7:=h.l7
  have hlen:=hK.len
  have h3:=tl_len l.length (x+1)
  have h30:=tl_len l.length x
  have lt:∀ i∈K ++ tl l.length x,i < l.length:=fun i hi=>by
   rcases List.mem_append.1 hi with hi | hi
   ·have:=hK.lt i hi;omega
   ·exact (tl_mem.1 hi).2
  rw [coreF]
  cases hb:cB n (rowsAt l (K ++ tl l.length (x+1))) with
  | true =>
   rw [if_pos rfl]
   refine coreF_irr h d (x+1) K (by omega) hK.up hb fun A y B e=>?_
   have hAB:A.length+B.length+1=K.length:=by rw [e];simp;omega
   refine cB_sub h (K':=A ++ B ++ tl l.length x) (by simp;omega) (by simp;omega) (fun i hi=>lt i ?_) (fun i hi=>?_) (h2 A y B e)
   ·rw [e];simp at hi ⊢;rcases hi with hi | hi | hi<;>simp [hi]
   ·rw [tl_cons hxl];simp at hi ⊢;rcases hi with hi | hi | hi<;>simp [hi]
  | false =>
   rw [if_neg (by decide)]
   refine coreF_irr h d (x+1) (K ++ [x]) (by omega) hK.push (by rw [List.append_assoc,List.singleton_append,← tl_cons hxl];exact h1) fun A y B e=>?_
   rcases List.append_eq_append_iff.1 e with ⟨A',e1,e2⟩ | ⟨C',e1,e2⟩
   · -- y comes out of [x]
    cases A' with
    | nil =>
     simp only [List.append_nil,List.nil_append,List.cons.injEq] at e1 e2
     obtain ⟨rfl,rfl⟩:=e2
     rw [e1,List.append_nil];exact hb
    | cons a A' =>
     simp only [List.cons_append,List.cons.injEq] at e2
     have:=e2.2
     simp at this
   ·cases C' with
    | nil =>
     simp only [List.append_nil,List.nil_append] at e1 e2
     rw [List.cons.injEq] at e2
     obtain ⟨rfl,e3⟩:=e2
     rw [← e1,e3,List.append_nil];exact hb
    | cons a C' =>
     simp only [List.cons_append,List.cons.injEq] at e2
     obtain ⟨rfl,rfl⟩:=e2
     have:=h2 A y C' e1
     rw [tl_cons hxl] at this
     rw [show A ++ (C' ++ [x]) ++ tl l.length (x+1)=A ++ C' ++ x :: tl l.length (x+1) by simp]
     exact this
theorem irr_L2 (h:Sml n l) {F:List Nat} (hF:F.length≤7) (hlt:∀ i∈F,i < l.length) (hirr:∀ A y B,F=A ++ y :: B→cB n (rowsAt l (A ++ B))=false):∀ d t,t+d=F.length →
  Gv2 (fun N g=>g_w01_ExactIrreducible_L2 N ⟨n,l⟩ (rowsAt l F) g (t:Int)) true
 | 0,t,ht=>Gv2.succ (fun N g=>g_w01_ExactIrreducible_L2.eq_2 ..) (Gv2.condF (dnl (m:=t) (n:=F.length) (by omega) (rowsAt_len F)) (Gv2.one (awake_gv.bind (Gv.pure _))))
 | d+1,t,ht=>by
  have htF:t < F.length:=by omega
  have ef:F=F.take t ++ F.getD t 0 :: F.drop (t+1):=by
   have:F.getD t 0=F[t]:=by simp [List.getD_eq_getElem?_getD,htF]
   rw [this,List.getElem_cons_drop,List.take_append_drop]
  have hl:(F.take t).length=t:=by rw [List.length_take];omega
  have hw:=withoutI_gv (l:=l) (A:=F.take t) (x:=F.getD t 0) (B:=F.drop (t+1)) (by rw [← ef];omega)
  rw [← ef,hl] at hw
  have hS:Sml n (rowsAt l (F.take t ++ F.drop (t+1))):=h.at (by simp;omega) fun i hi=>by
   rcases List.mem_append.1 hi with hi | hi
   ·exact hlt i (List.mem_of_mem_take hi)
   ·exact hlt i (List.mem_of_mem_drop hi)
  have hc:=(cB_cases hS).2.1
  rw [hirr _ _ _ ef] at hc
  refine Gv2.succ (fun N g=>g_w01_ExactIrreducible_L2.eq_2 ..) (Gv2.condT (dlt htF (rowsAt_len F)) (Gv2.bind hw (Gv2.bind hc (Gv2.condF rfl ?_))))
  rw [w64_succ (by omega)]
  exact irr_L2 h hF hlt hirr d (t+1) (by omega)
theorem irr_L1 (h:Sml n l) {F:List Nat} (hF:Lft l.length l.length F) (hb:cB n (rowsAt l F)=true) (hirr:∀ A y B,F=A ++ y :: B→cB n (rowsAt l (A ++ B))=false):∀ d t,t+d=F.length →
  Gv2 (fun N g=>g_w01_ExactIrreducible_L1 N ⟨n,l⟩ (KI F,0) g (rowsAt l (F.take t)) (t:Int)) true
 | 0,t,ht=>by
  have h7:=h.l7
  have hl:=hF.len
  have hS:Sml n (rowsAt l F):=h.at (by omega) hF.lt
  have hc:=(cB_cases hS).2.1
  rw [hb] at hc
  refine Gv2.succ (fun N g=>g_w01_ExactIrreducible_L1.eq_2 ..) (Gv2.condF (dnl (m:=t) (n:=F.length) (by omega) (KI_len F)) ?_)
  rw [List.take_of_length_le (by omega)]
  exact Gv2.bind hc (Gv2.condF rfl (Gv2.one (irr_L2 h (by omega) hF.lt hirr F.length 0 (by omega)).diag))
 | d+1,t,ht=>by
  have h7:=h.l7
  have hl:=hF.len
  have htF:t < F.length:=by omega
  have hr:=hF.lt _ (getD_memA htF)
  have ih:=irr_L1 h hF hb hirr d (t+1) (by omega)
  have e:F.take t ++ [F.getD t 0]=F.take (t+1):=by
   rw [List.take_add_one,List.getD_eq_getElem?_getD,List.getElem?_eq_getElem htF];rfl
  have hcond:cond (cond (decide (((F.getD t 0:Nat):Int) < 0)) true (decide (((F.getD t 0:Nat):Int)≥((l.length:Nat):Int)))) true (cond (decide ((t:Int) > 0)) (decide (((F.getD t 0:Nat):Int)≤(KI F).getD (w64 ((t:Int) - 1)).toNat 0)) false)=false:=by
   rw [decide_eq_false (show ¬ ((F.getD t 0:Nat):Int) < 0 by omega),decide_eq_false (show ¬ ((F.getD t 0:Nat):Int)≥((l.length:Nat):Int) by omega)]
   by_cases h0:t=0
   ·subst h0;rfl
   ·have e1:w64 ((t:Int) - 1)=((t - 1:Nat):Int):=by rw [w64_eq (by omega) (by omega)];omega
    have hlt:F.getD (t - 1) 0 < F.getD t 0:=by
     have:=List.pairwise_iff_getElem.1 hF.nd (t - 1) t (by omega) htF (by omega)
     simpa [List.getD_eq_getElem?_getD,htF,show t - 1 < F.length by omega] using this
    rw [e1,toNat_nat,KI_get 0 (show t - 1 < F.length by omega),decide_eq_true (show (t:Int) > 0 by omega),decide_eq_false (show ¬ ((F.getD t 0:Nat):Int)≤((F.getD (t - 1) 0:Nat):Int) by omega)]
    rfl
  refine Gv2.succ (fun N g=>g_w01_ExactIrreducible_L1.eq_2 ..) (Gv2.condT (dlt htF (KI_len F)) (Gv2.if (inl htF (KI_len F)) ?_))
  simp only [toNat_nat,KI_get 0 htF,w64_succ (show t < 9223372036854775807 by omega)]
  refine Gv2.if (fun _=>inl htF (KI_len F)) (Gv2.if (fun _=>inl htF (KI_len F)) (Gv2.if (fun q=>?_) (Gv2.condF hcond (Gv2.if (inb hr) (Gv2.if (by rw [rowsAt_len,List.length_take];omega) ?_)))))
  ·simp at q
   rw [w64_eq (by omega) (by omega),KI_len];omega
  ·rw [rowsAt_push,e];exact ih
end
theorem exactIrreducible_plain (y0:Tw01_Problem) (h0:Tw01_Problem.wf y0):∃ N,g_w01_ExactIrreducible N y0=some true:=by
 refine Gv.ex ?_
 have awk:Gv (fun N=>(g_w01_awake N).bind fun r=>some r) true:=Gv.bind awake_gv (Gv.pure _)
 unfold g_w01_ExactIrreducible
 rcases modest_cases h0 with w | ⟨w,hl,hsm⟩
 ·exact Gv.bind w (Gv.bind (r:=0) (Gv.condF rfl (Gv.pure 0)) (Gv.condT rfl awk))
 ·refine Gv.bind w (Gv.bind (Gv.condT rfl (rCheckRows_gv _ _)) ?_)
  obtain ⟨n,l⟩:=y0
  simp only at hl hsm ⊢
  by_cases hc:rowsCode n l=0
  ·obtain ⟨h4,h7⟩:=hsm hc
   have hn0:=(rowsOk hc).1
   obtain ⟨n,rfl⟩:∃ m:Nat,n=m:=⟨n.toNat,by omega⟩
   have ok:=(rowsOk hc).2
   rw [toNat_nat] at ok
   have h:Sml n l:=⟨by omega,hl,h7,ok.co⟩
   have e0:cond (!true) true (rowsCode (n:Int) l != 0)=false:=by rw [hc];rfl
   have hC:=Core_gv h
   refine Gv.condF e0 ?_
   cases hb:cB n l with
   | true =>
    rw [hb,if_pos rfl] at hC
    have hF:=coreF_lft (n:=n) (l:=l) l.length 0 [] (by omega) lft0
    obtain ⟨c1,c2⟩:=coreF_irr h l.length 0 [] (by omega) lft0 (by rw [List.nil_append,rowsAt_all];exact hb) fun A y B e=>by simp at e
    exact Gv.bind hC (Gv.condF rfl (irr_L1 h hF c1 c2 _ 0 (Nat.zero_add _)).diag)
   | false =>
    rw [hb,if_neg (by decide)] at hC
    exact Gv.bind hC (Gv.condT rfl (Gv.bind (r:=true) (Gv.condT rfl awake_gv) (Gv.pure _)))
  ·have e0:cond (!true) true (rowsCode n l != 0)=true:=by
    show (rowsCode n l != 0)=true
    simpa using hc
   exact Gv.condT e0 awk
end Go.Den
