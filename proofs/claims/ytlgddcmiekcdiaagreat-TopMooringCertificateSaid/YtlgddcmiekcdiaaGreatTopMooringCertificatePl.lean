/- The plain law: the Lean function of the law returns true for every input, and what it needs. No conditions. -/
import Derived.Test.YtlgddcmiekcdiaaGreatTopMooringCertificatePk
set_option linter.unusedVariables false
set_option linter.unusedSimpArgs false
namespace Go.Den
open Go.Ab
theorem IK (m n:Nat) (f:Nat→Nat→Rat):bG m (fun i=>bG n fun j=>f i j)=bG n fun j=>bG m fun i=>f i j:=by
 induction m with
 | zero=>show (0:Rat)=_;rw [show (fun j=>bG 0 fun i=>f i j)=fun _=>(0:Rat) from rfl,kY]
 | succ m ih=>simp only [bG];rw [ih,← rI]
theorem uH (m n:Nat) (f:Nat→Rat):bG (m+n) f=bG m f+bG n fun i=>f (m+i):=by
 induction n with
 | zero=>show bG m f=bG m f+0;grind
 | succ n ih=>rw [show m+(n+1)=m+n+1 by omega,bG,bG,ih];grind
theorem Rx (n:Nat) (f g:Nat→Rat):bG n (fun i=>f i - g i)=bG n f - bG n g:=by
 have e:(fun i=>f i - g i)=fun i=>f i+(-1) * g i:=by funext i;grind
 rw [e,rI,jP];grind
namespace bJ
def sc (t:Rat) (u:Nat):Nat→Rat:=fun w=>if w=u then t else 0
theorem Wh {D:bJ} {m k j:Nat} (h:D.WF m k) (hj:j < k) (t:Rat) (i:Nat):D.row k (sc t (D.fr j)) i=D.b i+D.a i j * t:=by
 unfold row sc
 rw [iV hj _ fun c hc fx=>by rw [if_neg fun e=>fx (h.fi _ _ hc hj e)];grind]
 rw [if_pos rfl]
theorem Yg {D:bJ} {m k j:Nat} (h:D.WF m k) (hj:j < k) (t:Rat):D.gv k (sc t (D.fr j))=D.v+D.g j * t:=by
 unfold gv sc
 rw [iV hj _ fun c hc fx=>by rw [if_neg fun e=>fx (h.fi _ _ hc hj e)];grind]
 rw [if_pos rfl]
def gc (D:bJ) (k u:Nat):Rat:=bG k fun j=>if D.fr j=u then D.g j else 0
theorem Ry {D:bJ} {m k j:Nat} (h:D.WF m k) (hj:j < k):D.gc k (D.fr j)=D.g j:=by
 unfold gc
 rw [iV hj _ fun c hc fx=>if_neg fun e=>fx (h.fi _ _ hc hj e),if_pos rfl]
theorem JQ {D:bJ} {k u:Nat} (h:∀ j,j < k→D.fr j≠u):D.gc k u=0:=by
 unfold gc
 rw [aY (g:=fun _=>0) fun j hj=>if_neg (h j hj),kY]
theorem Wi {D:bJ} {m k:Nat} (h:D.WF m k) (x:Nat→Rat):D.gv k x=D.v+bG (m+k) fun u=>D.gc k u * x u:=by
 unfold gv;congr 1
 have e:(fun u=>D.gc k u * x u)=fun u=>bG k fun j=>x u * (if D.fr j=u then D.g j else 0):=by
  funext u;rw [jP];unfold gc;grind
 rw [e,IK]
 refine aY fun j hj=>?_
 rw [iV (h.fl j hj) _ fun u _ hu=>by rw [if_neg fun q=>hu q.symm];grind]
 rw [if_pos rfl];grind
section
variable (n m:Nat) (C:Nat→Nat→Rat) (B:Nat→Rat)
def fst (z:Rat):bJ where
 iy:=fun i=>2 * n+i
 fr:=fun j=>if j < 2 * n then j else 2 * n+m
 a:=fun i j=>if j < n then -(C i j) else if j < 2 * n then C i (j - n) else 1
 b:=B
 g:=fun j=>if j < 2 * n then 0 else z
 v:=0
theorem GV (z:Rat):(fst n m C B z).WF m (2 * n+1):=by
 refine ⟨fun i i' _ _ e=>?_,fun j j' hj zk e=>?_,fun i j hi hj e=>?_,fun i hi=>?_,fun j hj=>?_,fun u hu=>?_⟩
 ·simp only [fst] at e;omega
 ·simp only [fst] at e;split at e<;>split at e<;>omega
 ·simp only [fst] at e;split at e<;>omega
 ·simp only [fst];omega
 ·simp only [fst];split<;>omega
 ·by_cases h:u < 2 * n
  ·exact .inr ⟨u,by omega,by simp only [fst];rw [if_pos h]⟩
  ·by_cases h2:u=2 * n+m
   ·exact .inr ⟨2 * n,by omega,by simp only [fst];rw [if_neg (by omega)];exact h2.symm⟩
   ·exact .inl ⟨u - 2 * n,by omega,by simp only [fst];omega⟩
def x6 (p:Nat→Rat) (i:Nat):Rat:=bG n fun j=>C i j * p j
theorem N5 (z:Rat) (x:Nat→Rat) (i:Nat):(fst n m C B z).row (2 * n+1) x i=B i - x6 n C (fun j=>x j - x (n+j)) i+x (2 * n+m):=by
 unfold row x6
 have e2:bG (2 * n) (fun j=>(fst n m C B z).a i j * x ((fst n m C B z).fr j)) = - bG n fun j=>C i j * (x j - x (n+j)):=by
  rw [show 2 * n=n+n by omega,uH]
  have e3:bG n (fun j=>(fst n m C B z).a i j * x ((fst n m C B z).fr j))=bG n fun j=>(-1) * (C i j * x j):=aY fun j hj=>by
   simp only [fst];rw [if_pos hj,if_pos (by omega)];grind
  have e4:bG n (fun j=>(fst n m C B z).a i (n+j) * x ((fst n m C B z).fr (n+j)))=bG n fun j=>C i j * x (n+j):=aY fun j hj=>by
   simp only [fst];rw [if_neg (by omega),if_pos (by omega),if_pos (by omega),show n+j - n=j by omega]
  rw [e3,e4,jP,show (fun j=>C i j * (x j - x (n+j)))=fun j=>C i j * x j - C i j * x (n+j) by funext j;grind,Rx]
  grind
 rw [bG,e2]
 have e5:(fst n m C B z).a i (2 * n)=1:=by simp only [fst];rw [if_neg (by omega),if_neg (by omega)]
 have e6:(fst n m C B z).fr (2 * n)=2 * n+m:=by simp only [fst];rw [if_neg (by omega)]
 have e7:(fst n m C B z).b i=B i:=rfl
 rw [e5,e6,e7];grind
theorem Rz (z:Rat) (x:Nat→Rat):(fst n m C B z).gv (2 * n+1) x=z * x (2 * n+m):=by
 unfold gv
 rw [iV (j:=2 * n) (by omega) _ fun j hj fx=>by simp only [fst];rw [if_pos (by omega)];grind]
 have e5:(fst n m C B z).g (2 * n)=z:=by simp only [fst];rw [if_neg (by omega)]
 have e6:(fst n m C B z).fr (2 * n)=2 * n+m:=by simp only [fst];rw [if_neg (by omega)]
 have e7:(fst n m C B z).v=0:=rfl
 rw [e5,e6,e7];grind
theorem E3 (z:Rat) (x:Nat→Rat):(fst n m C B z).J9 m (2 * n+1) x↔∀ i,i < m→x (2 * n+i)=B i - x6 n C (fun j=>x j - x (n+j)) i+x (2 * n+m):=by
 unfold J9
 constructor
 ·intro h i hi;rw [← N5 n m C B z];exact h i hi
 ·intro h i hi;rw [N5];exact h i hi
theorem Ly (z:Rat) (D:bJ) (x:Nat→Rat) (h:Ct m (2 * n+1) (fst n m C B z) D):D.J9 m (2 * n+1) x↔(fst n m C B 0).J9 m (2 * n+1) x:=by
 rw [← h.N3,E3,E3]
def za (y:Nat→Rat) (u:Nat):Rat:=if 2 * n≤u∧u < 2 * n+m then B (u - 2 * n) - x6 n C (fun j=>y j - y (n+j)) (u - 2 * n)+y (2 * n+m) else y u
theorem GW (z:Rat) (y:Nat→Rat):(fst n m C B z).J9 m (2 * n+1) (za n m C B y):=(E3 n m C B z _).2 fun i hi=>by
 have e1:za n m C B y (2 * n+i)=B i - x6 n C (fun j=>y j - y (n+j)) i+y (2 * n+m):=by
  unfold za;rw [if_pos ⟨by omega,by omega⟩,show 2 * n+i - 2 * n=i by omega]
 have e2:za n m C B y (2 * n+m)=y (2 * n+m):=by unfold za;rw [if_neg (by omega)]
 have e3:x6 n C (fun j=>za n m C B y j - za n m C B y (n+j)) i=x6 n C (fun j=>y j - y (n+j)) i:=by
  unfold x6
  refine aY fun j hj=>?_
  show C i j * (za n m C B y j - za n m C B y (n+j))=C i j * (y j - y (n+j))
  unfold za;rw [if_neg (by omega),if_neg (by omega)]
 rw [e1,e2,e3]
theorem O5 {low:Nat} (hl:low < m) (Bb:B low < 0) (ue:∀ r,r < m→B low≤B r):((fst n m C B (-1)).jQ low (2 * n)).Lp m:=fun r hr=>by
 have e5:∀ r,(fst n m C B (-1)).a r (2 * n)=1:=fun r=>by simp only [fst];rw [if_neg (by omega),if_neg (by omega)]
 have e7:∀ r,(fst n m C B (-1)).b r=B r:=fun _=>rfl
 simp only [bJ.jQ,pb,e5,e7]
 have:=ue r hr
 split<;>grind
variable {n m C B} {D:bJ} (hw:D.WF m (2 * n+1)) (he:Ct m (2 * n+1) (fst n m C B (-1)) D)
include hw he in
theorem MW {x:Nat→Rat} (hx:D.J9 m (2 * n+1) x):D.gv (2 * n+1) x = -(x (2 * n+m)):=by
 have:=hw
 rw [← he.gv x ((he.N3 x).2 hx),Rz];grind
theorem GX {m k:Nat} (hw:D.WF m k) {y:Nat→Rat} (hr:∀ i,i < m→0≤D.row k y i) (hy:∀ u,0≤y u) (u:Nat) (hu:u < m+k):0≤D.ext m k y u:=by
 rcases hw.al u hu with ⟨i,hi,e⟩ | ⟨j,hj,e⟩
 ·rw [← e,uG hw hi];exact hr i hi
 ·rw [← e,vp hw hj];exact hy _
theorem DA {m k:Nat} (hw:D.WF m k) (hf:D.Lp m) (u:Nat) (hu:u < m+k):0≤D.ext m k uq u :=
 GX hw (y:=uq) (fun i hi=>by rw [s6];exact hf i hi) (fun _=>Rat.le_refl) u hu
include hw he in
theorem GY:D.v = -(D.ext m (2 * n+1) uq (2 * n+m)):=by
 rw [← MW hw he (sZ hw uq),GQ hw,JL]
include hw he in
theorem TX (hf:D.Lp m) (Yh:(∀ j,j < 2 * n+1→D.g j≤0)∨∃ j,D.E2 (2 * n+1) j∧∀ i,i < m→0≤D.a i j):∀ j,j < 2 * n+1→D.g j≤0:=by
 rcases Yh with h | ⟨j,hj,ha⟩
 ·exact h
 ·exfalso
  have hv:D.v≤0:=by rw [GY hw he];have:=DA hw hf (2 * n+m) (by omega);grind
  have hp:=hj.pos
  have ht:0≤(1 - D.v) / D.g j:=GR hp (by grind)
  have hs:=sZ hw (sc ((1 - D.v) / D.g j) (D.fr j))
  have h1:=MW hw he hs
  rw [GQ hw,Yg hw hj.lt] at h1
  have h2:=GX hw (y:=sc ((1 - D.v) / D.g j) (D.fr j)) (fun i hi=>by
   rw [Wh hw hj.lt]
   have:=Rat.mul_nonneg (ha i hi) ht
   have:=hf i hi
   grind) (fun u=>by unfold sc;split<;>grind) (2 * n+m) (by omega)
  have h3:D.g j * ((1 - D.v) / D.g j)=1 - D.v:=by grind
  rw [h3] at h1
  grind
include hw he in
theorem Yi (hg:∀ j,j < 2 * n+1→D.g j≤0):(∀ u,D.gc (2 * n+1) u≤0)∧(∀ j,j < n→bG m (fun i=>-(D.gc (2 * n+1) (2 * n+i)) * C i j)=0)∧bG m (fun i=>-(D.gc (2 * n+1) (2 * n+i)) * B i)=D.v:=by
 have Zd:∀ u,D.gc (2 * n+1) u≤0:=fun u=>by
  by_cases h:∃ j,j < 2 * n+1∧D.fr j=u
  ·obtain ⟨j,hj,rfl⟩:=h
   rw [Ry hw hj];exact hg j hj
  ·rw [JQ fun j hj e=>h ⟨j,hj,e⟩];exact Rat.le_refl
 generalize hG:D.gc (2 * n+1)=G at Zd ⊢
 have key:∀ y:Nat→Rat,-(y (2 * n+m))=D.v+(bG (2 * n) (fun u=>G u * y u)+bG m (fun i=>G (2 * n+i) * (B i - x6 n C (fun j=>y j - y (n+j)) i+y (2 * n+m)))+G (2 * n+m) * y (2 * n+m)):=fun y=>by
  have h1:=MW hw he ((he.N3 _).1 (GW n m C B (-1) y))
  rw [Wi hw,hG,show m+(2 * n+1)=(2 * n+m)+1 by omega,bG,uH] at h1
  have e1:∀ u,u < 2 * n→za n m C B y u=y u:=fun u hu=>by unfold za;rw [if_neg (by omega)]
  have e2:za n m C B y (2 * n+m)=y (2 * n+m):=by unfold za;rw [if_neg (by omega)]
  have e3:∀ i,i < m→za n m C B y (2 * n+i)=B i - x6 n C (fun j=>y j - y (n+j)) i+y (2 * n+m):=fun i hi=>by
   unfold za;rw [if_pos ⟨by omega,by omega⟩,show 2 * n+i - 2 * n=i by omega]
  rw [aY (n:=2 * n) (g:=fun u=>G u * y u) fun u hu=>by rw [e1 u hu],aY (n:=m) (g:=fun i=>G (2 * n+i) * (B i - x6 n C (fun j=>y j - y (n+j)) i+y (2 * n+m))) fun i hi=>by rw [e3 i hi],e2] at h1
  exact h1.symm
 have k0:=key uq
 have d0:∀ i,x6 n C (fun j=>uq j - uq (n+j)) i=0:=fun i=>by
  unfold x6 uq
  rw [aY (g:=fun _=>0) fun j _=>by grind,kY]
 have z0:bG m (fun i=>G (2 * n+i) * (B i - x6 n C (fun j=>uq j - uq (n+j)) i+uq (2 * n+m)))=bG m fun i=>G (2 * n+i) * B i:=aY fun i _=>by
  rw [d0];unfold uq;grind
 rw [z0,aY (n:=2 * n) (g:=fun _=>0) fun u _=>by unfold uq;grind,kY] at k0
 have k0:bG m (fun i=>G (2 * n+i) * B i) = -D.v:=by unfold uq at k0;grind
 have un:∀ (u:Nat) (s:Rat),u < 2 * n→(∀ i,i < m→x6 n C (fun j=>one u j - one u (n+j)) i=s * C i (if u < n then u else u - n))→G u=s * bG m fun i=>G (2 * n+i) * C i (if u < n then u else u - n):=fun u s hu hd=>by
  have k1:=key (one u)
  have z1:one u (2 * n+m)=0:=if_neg (by omega)
  rw [z1,iV hu (fun w=>G w * one u w) fun w _ fx=>by unfold one;rw [if_neg fx];grind] at k1
  rw [aY (n:=m) (g:=fun i=>G (2 * n+i) * B i+(-s) * (G (2 * n+i) * C i (if u < n then u else u - n))) fun i hi=>by rw [hd i hi];grind,rI,jP,k0] at k1
  have:one u u=1:=if_pos rfl
  rw [this] at k1
  grind
 have Bb:∀ f:Nat→Rat,bG m (fun i=>-(G (2 * n+i)) * f i) = -(bG m fun i=>G (2 * n+i) * f i):=fun f=>by
  rw [show (fun i=>-(G (2 * n+i)) * f i)=fun i=>(-1) * (G (2 * n+i) * f i) by funext i;grind,jP];grind
 refine ⟨Zd,fun j hj=>?_,by rw [Bb,k0];grind⟩
 have a1:=un j 1 (by omega) fun i hi=>by
  unfold x6
  rw [iV hj _ fun c hc fx=>by show C i c * (one j c - one j (n+c))=0;unfold one;rw [if_neg fx,if_neg (by omega)];grind]
  show C i j * (one j j - one j (n+j))=_
  unfold one;rw [if_pos rfl,if_neg (by omega),if_pos hj];grind
 have a2:=un (n+j) (-1) (by omega) fun i hi=>by
  unfold x6
  rw [iV hj _ fun c hc fx=>by show C i c * (one (n+j) c - one (n+j) (n+c))=0;unfold one;rw [if_neg (by omega),if_neg (by omega)];grind]
  show C i j * (one (n+j) j - one (n+j) (n+j))=_
  unfold one;rw [if_pos rfl,if_neg (by omega),if_neg (by omega),show n+j - n=j by omega];grind
 rw [if_pos hj] at a1
 rw [if_neg (by omega),show n+j - n=j by omega] at a2
 have b1:=Zd j
 have b2:=Zd (n+j)
 rw [Bb]
 grind
include hw he in
include hw he in
theorem MY {i:Nat} (hi:i < m) (hb:D.iy i=2 * n+m):∃ j,j < 2 * n+1∧D.a i j≠0:=pU fun hn=>by
 have hz:∀ j,j < 2 * n+1→D.a i j=0:=fun j hj=>pU fun q=>hn ⟨j,hj,q⟩
 have hc:∀ x,D.J9 m (2 * n+1) x→x (2 * n+m)=D.b i:=fun x hx=>by
  rw [← hb,hx i hi];unfold row
  rw [aY (g:=fun _=>0) fun j hj=>by rw [hz j hj];grind,kY];grind
 have c0:=hc _ ((he.N3 _).1 (GW n m C B (-1) uq))
 have c1:=hc _ ((he.N3 _).1 (GW n m C B (-1) (one (2 * n+m))))
 have:=hw
 unfold za at c0 c1
 rw [if_neg (by omega)] at c0 c1
 unfold uq at c0
 unfold one at c1
 rw [if_pos rfl] at c1
 rw [← c0] at c1
 exact absurd c1 (by decide)
theorem RA {m i j:Nat} (hf:D.Lp m) (h0:D.b i=0):(D.jQ i j).Lp m:=fun r hr=>by
 have hp:D.pb i j=0:=by unfold pb;rw [h0,Rat.div_def,Rat.zero_mul];rfl
 simp only [bJ.jQ,hp]
 have:=hf r hr
 split
 ·exact Rat.le_refl
 ·grind
end
end bJ
end Go.Den
namespace Go.Den
open Go.Ab
section
variable {α:Type}
def Bc (f:Nat→α) (n:Nat):List α:=(List.range n).map f
theorem qq (f:Nat→α) (n:Nat):(Bc f n).length=n:=by simp [Bc]
theorem E4 (f:Nat→α) {n i:Nat} (d:α) (h:i < n):(Bc f n).getD i d=f i:=by simp [Bc,h]
theorem qP {f g:Nat→α} {n:Nat} (h:∀ i,i < n→f i=g i):Bc f n=Bc g n:=by
 unfold Bc;exact List.map_congr_left fun i hi=>h i (wF.1 hi)
theorem GZ {l:List α} {f:Nat→α} {n:Nat} (d:α) (hl:l.length=n) (h:∀ i,i < n→l.getD i d=f i):l=Bc f n:=by
 refine List.ext_getElem (by rw [hl,qq]) fun i h1 h2=>?_
 have:=h i (by omega)
 rw [fB,pT h1,Option.getD_some] at this
 rw [this];simp [Bc]
theorem E5 (f:Nat→α) (n i:Nat) (v:α):(Bc f n).set i v=Bc (fun a=>if a=i then v else f a) n:=by
 refine List.ext_getElem (by simp [Bc]) fun a h1 h2=>?_
 rw [List.getElem_set]
 by_cases e:i=a
 ·subst e;simp [Bc]
 ·rw [if_neg e];simp [Bc];intro q;exact absurd q.symm e
end
def LQ (f:Nat→Rat) (n:Nat):List aa:=Bc (fun i=>bA (f i)) n
def LN (f:Nat→Nat) (n:Nat):List Int:=Bc (fun i=>(f i:Int)) n
def LA (a:Nat→Nat→Rat) (m k:Nat):List (List aa):=Bc (fun i=>LQ (a i) k) m
theorem bK (f:Nat→Rat) (n:Nat):(LQ f n).length=n:=qq _ _
theorem fm (f:Nat→Nat) (n:Nat):(LN f n).length=n:=qq _ _
theorem lM (a:Nat→Nat→Rat) (m k:Nat):(LA a m k).length=m:=qq _ _
theorem fF (f:Nat→Rat) {n i:Nat} (d:aa) (h:i < n):(LQ f n).getD i d=bA (f i):=E4 _ _ h
theorem sj (f:Nat→Nat) {n i:Nat} (d:Int) (h:i < n):(LN f n).getD i d=(f i:Int):=E4 _ _ h
theorem xr (a:Nat→Nat→Rat) {m k i:Nat} (d:List aa) (h:i < m):(LA a m k).getD i d=LQ (a i) k:=E4 _ _ h
theorem rJ {f g:Nat→Rat} {n:Nat} (h:∀ i,i < n→f i=g i):LQ f n=LQ g n:=qP fun i hi=>by rw [h i hi]
theorem RC {a b:Nat→Nat→Rat} {m k:Nat} (h:∀ i j,i < m→j < k→a i j=b i j):LA a m k=LA b m k:=qP fun i hi=>rJ fun j hj=>h i j hi hj
theorem Bd (f:Nat→Rat) (n i:Nat) (q:Rat):(LQ f n).set i (bA q)=LQ (fun a=>if a=i then q else f a) n:=by
 unfold LQ;rw [E5];exact qP fun a _=>by by_cases e:a=i<;>simp [e]
theorem Wj (f:Nat→Nat) (n i q:Nat):(LN f n).set i (q:Int)=LN (fun a=>if a=i then q else f a) n:=by
 unfold LN;rw [E5];exact qP fun a _=>by by_cases e:a=i<;>simp [e]
theorem RE (a:Nat→Nat→Rat) (m k i:Nat) (r:Nat→Rat):(LA a m k).set i (LQ r k)=LA (fun x=>if x=i then r else a x) m k:=by
 unfold LA;rw [E5];exact qP fun a _=>by by_cases e:a=i<;>simp [e]
theorem RB.q {p:Rat} {s:Nat} (h:RB p s) (hs:s≤MS):RQ (bA p) p MS:=(h.le hs).rq (by decide)
section
variable {k j s:Nat} {f:Rat} {F R:Nat→Rat}
theorem JR (hk:k≤1000) (hs:5 * s≤MS) (h1:1≤s) (hf:RB f s) (hF:∀ c,c < k→RB (F c) s) (hR:∀ c,c < k→RB (R c) (2 * s)) {c0:List aa} (h0:c0.length=k):∀ (d x:Nat) (G:Nat→Rat),x+d=k →
  (∀ c,c < k→G c=if c < x then if c=j then f * R j else F c+f * R c else F c) →
  aF (fun N g=>cL N (j:Int) (bA f) c0 (LQ R k) g (LQ G k) (x:Int)) (LQ (fun c=>if c=j then f * R j else F c+f * R c) k)
 | 0,x,G,hx,hG=>aF.succ (fun N g=>cL.eq_2 ..) (aF.bh (NZ (m:=x) (n:=k) (by omega) h0) ((aF.one (Gv.pure _)).eq (rJ fun c hc=>by rw [hG c hc,if_pos (by omega)])))
 | d+1,x,G,hx,hG=>by
  have s7:x < k:=by omega
  have hm:RB (f * R x) (3 * s):=(hf.mul (hR x s7)).le (by omega)
  have Y0:=(hf.q (by omega)).mul ((hR x s7).q (by omega)) (J8 (by decide))
  have eG:G x=F x:=by rw [hG x s7,if_neg (wE x)]
  refine aF.succ (fun N g=>cL.eq_2 ..) (aF.aR (MQ (n:=k) s7 h0) ?_)
  simp only [ao,fF _ _ s7,eG,aN (show x < 9223372036854775807 by omega),fV,Bd]
  by_cases e:x=j
  ·refine aF.aR (by simp [e]) (aF.if (inl s7 (bK _ _)) (aF.bind Y0 (aF.if (inl s7 (bK _ _)) ?_)))
   simp only [Bd]
   refine JR hk hs h1 hf hF hR h0 d (x+1) _ (by omega) fun c hc=>?_
   by_cases q:c=x
   ·rw [if_pos q,if_pos (by omega),if_pos (q.trans e),e]
   ·rw [if_neg q,hG c hc]
    by_cases q2:c < x
    ·simp only [q2,show c < x+1 by omega,if_true]
    ·rw [if_neg q2,if_neg (by omega)]
  ·refine aF.bh (by simp;omega) (aF.if (inl s7 (bK _ _)) (aF.bind (((hR x s7).q (by omega)).zero (by decide)) ?_))
   by_cases z:R x=0
   ·refine aF.bh (by simp [z]) (JR hk hs h1 hf hF hR h0 d (x+1) _ (by omega) fun c hc=>?_)
    rw [hG c hc]
    by_cases q2:c < x
    ·simp only [q2,show c < x+1 by omega,if_true]
    ·rw [if_neg q2]
     by_cases q:c=x
     ·rw [if_pos (by omega),if_neg (by omega),q,z];grind
     ·rw [if_neg (by omega)]
   ·refine aF.aR (by simp [z]) (aF.if (inl s7 (bK _ _)) (aF.bind Y0 (aF.bind (((hF x s7).q (by omega)).add (hm.q (by omega)) (J8 (by decide))) ?_)))
    simp only [Bd]
    refine JR hk hs h1 hf hF hR h0 d (x+1) _ (by omega) fun c hc=>?_
    by_cases q:c=x
    ·rw [if_pos q,if_pos (by omega),if_neg (by omega),q]
    ·rw [if_neg q,hG c hc]
     by_cases q2:c < x
     ·simp only [q2,show c < x+1 by omega,if_true]
     ·rw [if_neg q2,if_neg (by omega)]
theorem RF (hk:k≤1000) (hs:5 * s≤MS) (h1:1≤s) (hf:RB f s) (hF:∀ c,c < k→RB (F c) s) (hR:∀ c,c < k→RB (R c) (2 * s)) :
  Gv (fun N=>iZ N (j:Int) (bA f) (LQ F k) (LQ R k)) (LQ (fun c=>if c=j then f * R j else F c+f * R c) k) :=
 (JR hk hs h1 hf hF hR (bK F k) k 0 F (by omega) fun c _=>(if_neg (dT c)).symm).diag
end
def RT (n m k h:Nat) (D:bJ):l7×List Int×List Int×List (List aa)×List aa×List aa :=
 (⟨n,m,LN D.iy m,LN D.fr k,LA D.a m k,LQ D.b m,LQ D.g k,bA D.v,h⟩,LN D.iy m,LN D.fr k,LA D.a m k,LQ D.b m,LQ D.g k)
section
variable {n m k h i j s:Nat} {D:bJ}
theorem Lz (hi:i < m) (hj:j < k) {A:Nat→Nat→Rat} {b:Nat→Rat} (hA:∀ r c,r < m→c < k→r≠i→A r c=(D.jQ i j).a r c) (hb:∀ r,r < m→b r=(D.jQ i j).b r) {G:Nat→Rat} (hG:∀ c,c < k→G c=(D.jQ i j).g c) {v:Rat} (hv:v=(D.jQ i j).v) (N:Nat) :
  gF N (i:Int) (j:Int) (n:Int) (m:Int) (h:Int) (LN D.iy m) (LN D.fr k) (LA A m k) (LQ (D.ou i j) k) (LQ b m) (LQ G k) (bA v).fN.fG (bA v).fN.fL (bA v).fD.fG (bA v).fD.fL=some (RT n m k h (D.jQ i j)):=by
 unfold gF
 rw [if_pos (inl hj (fm _ _)),if_pos (inl hi (fm _ _))]
 simp only [ao,sj _ _ hi,sj _ _ hj,Wj,RE]
 have e1:=RC (a:=fun x=>if x=i then D.ou i j else A x) (b:=(D.jQ i j).a) (m:=m) (k:=k) fun r c Bl hc=>by
  by_cases q:r=i
  ·simp only [q,if_true,bJ.jQ]
  ·simp only [q,if_false];exact hA r c Bl hc q
 rw [e1,rJ hb,rJ hG,hv]
 rfl
theorem Cj (hm:m≤1000) (hk:k≤1000) (hi:i < m) (hj:j < k) (hs:5 * s≤MS) (h1:1≤s) (hr:D.EJ m k s) (h0:D.a i j≠0):∀ (d x:Nat) (A:Nat→Nat→Rat) (b:Nat→Rat),x+d=m →
  (∀ r c,r < m→c < k→A r c=if r < x∧r≠i then (D.jQ i j).a r c else D.a r c)→(∀ r,r < m→b r=if r=i∨r < x then (D.jQ i j).b r else D.b r) →
  aF (fun N g=>cn N (i:Int) (j:Int) (n:Int) (m:Int) (bA D.v).fN.fG (bA D.v).fN.fL (bA D.v).fD.fG (bA D.v).fD.fL (h:Int) (LN D.iy m) (LN D.fr k) (LA D.a m k) (LQ D.g k)
   g (LA A m k) (LQ (D.ou i j) k) (LQ b m) (x:Int)) (RT n m k h (D.jQ i j))
 | 0,x,A,b,hx,hA,hb=>by
  have hp:RB (D.pb i j) (2 * s):=((hr.b i hi).div (hr.a i j hi hj) h0).neg.le (by omega)
  have ebi:b i=D.pb i j:=by rw [hb i hi,if_pos (.inl rfl)];simp [bJ.jQ]
  have VU:∀ r c,r < m→c < k→r≠i→A r c=(D.jQ i j).a r c:=fun r c Bl hc q=>by rw [hA r c Bl hc,if_pos ⟨by omega,q⟩]
  have pB:∀ r,r < m→b r=(D.jQ i j).b r:=fun r Bl=>by rw [hb r Bl,if_pos (.inr (by omega))]
  refine aF.succ (fun N g=>cn.eq_2 ..) (aF.bh (NZ (m:=x) (n:=m) (by omega) (lM _ _ _)) ?_)
  simp only [ao,fF _ _ hj,fF _ _ hi,ebi]
  refine aF.if (inl hj (bK _ _)) (aF.bind (((hr.g j hj).q (by omega)).zero (by decide)) ?_)
  by_cases z:D.g j=0
  ·refine aF.bh (by simp [z]) (aF.if (by rw [lM];exact hi) (aF.one ⟨0,fun N _=>Lz hi hj VU pB (fun c _=>?_) ?_ N⟩))
   ·simp only [bJ.jQ,z]
    by_cases q:c=j
    ·rw [if_pos q,q,z];grind
    ·rw [if_neg q];grind
   ·simp only [bJ.jQ,z];grind
  ·refine aF.aR (by simp [z]) (aF.if (inl hi (bK _ _)) (aF.bind (((hr.g j hj).q (by omega)).mul (hp.q (by omega)) (J8 (by decide))) (aF.bind ((hr.v.q (by omega)).add ((((hr.g j hj).mul hp).le (az _)).q (by omega)) (J8 (by decide)))
    (aF.bind (RF hk hs h1 (hr.g j hj) (fun c hc=>hr.g c hc) (fun c hc=>hr.ou h1 hi hj h0 hc)) (aF.if (by rw [bK,bK]) (aF.if (by rw [lM];exact hi) (aF.one ⟨0,fun N _=>Lz hi hj VU pB (fun c _=>?_) rfl N⟩)))))))
   simp only [bJ.jQ]
   by_cases q:c=j
   ·rw [if_pos q,if_pos q,q]
   ·rw [if_neg q,if_neg q]
 | d+1,x,A,b,hx,hA,hb=>by
  have tl:x < m:=by omega
  have hp:RB (D.pb i j) (2 * s):=((hr.b i hi).div (hr.a i j hi hj) h0).neg.le (by omega)
  have ebi:b i=D.pb i j:=by rw [hb i hi,if_pos (.inl rfl)];simp [bJ.jQ]
  refine aF.succ (fun N g=>cn.eq_2 ..) (aF.aR (MQ (n:=m) tl (lM _ _ _)) ?_)
  by_cases e:x=i
  ·simp only [ao,aN (show x < 9223372036854775807 by omega),dH]
   refine aF.aR (by simp [e]) (aF.if (inl tl (lM _ _ _)) (aF.if (inl hj (bK _ _)) (aF.bind (Gv.bh (by simp [e]) (Gv.pure false)) (aF.bh (by simp [e]) (Cj hm hk hi hj hs h1 hr h0 d (x+1) A b (by omega) (fun r c Bl hc=>?_) fun r Bl=>?_)))))
   ·rw [hA r c Bl hc]
    by_cases q:r < x∧r≠i
    ·rw [if_pos q,if_pos ⟨by omega,q.2⟩]
    ·rw [if_neg q,if_neg (by omega)]
   ·rw [hb r Bl]
    by_cases q:r=i∨r < x
    ·rw [if_pos q,if_pos (by omega)]
    ·rw [if_neg q,if_neg (by omega)]
  ·have abu:LQ (A x) k=LQ (D.a x) k:=rJ fun c hc=>by rw [hA x c tl hc,if_neg (by omega)]
   have ebx:b x=D.b x:=by rw [hb x tl,if_neg (by omega)]
   simp only [ao,aN (show x < 9223372036854775807 by omega),dH,xr _ _ tl,abu,fF _ _ tl,fF _ _ hi,ebi,ebx,fF _ _ hj]
   have fx:((x:Int) != (i:Int))=true:=by simp;omega
   refine aF.bh (by simp;omega) (aF.if (by rw [lM];exact tl) (aF.if (inl tl (lM _ _ _)) (aF.if (inl hj (bK _ _)) (aF.bind (Gv.aR fx (((hr.a x j tl hj).q (by omega)).zero (by decide))) ?_))))
   by_cases z:D.a x j=0
   ·refine aF.bh (by simp [z]) (Cj hm hk hi hj hs h1 hr h0 d (x+1) A b (by omega) (fun r c Bl hc=>?_) fun r Bl=>?_)
    ·rw [hA r c Bl hc]
     by_cases q:r < x∧r≠i
     ·rw [if_pos q,if_pos ⟨by omega,q.2⟩]
     ·rw [if_neg q]
      by_cases q2:r=x
      ·rw [if_pos ⟨by omega,by omega⟩,q2]
       simp only [bJ.jQ,if_neg e,z]
       split
       ·rename_i q3;rw [q3,z];grind
       ·grind
      ·rw [if_neg (by omega)]
    ·rw [hb r Bl]
     by_cases q:r=i∨r < x
     ·rw [if_pos q,if_pos (by omega)]
     ·rw [if_neg q]
      by_cases q2:r=x
      ·rw [if_pos (by omega),q2]
       simp only [bJ.jQ,if_neg e,z];grind
      ·rw [if_neg (by omega)]
   ·refine aF.aR (by rw [fx];simp [z]) (aF.if (inl tl (bK _ _)) (aF.if (inl hi (bK _ _)) (aF.bind (((hr.a x j tl hj).q (by omega)).mul (hp.q (by omega)) (J8 (by decide)))
     (aF.bind (((hr.b x tl).q (by omega)).add ((((hr.a x j tl hj).mul hp).le (az _)).q (by omega)) (J8 (by decide)))
     (aF.bind (RF hk hs h1 (hr.a x j tl hj) (fun c hc=>hr.a x c tl hc) (fun c hc=>hr.ou h1 hi hj h0 hc)) (aF.if (by rw [bK,bK]) ?_))))))
    simp only [RE,Bd]
    refine Cj hm hk hi hj hs h1 hr h0 d (x+1) _ _ (by omega) (fun r c Bl hc=>?_) fun r Bl=>?_
    ·by_cases q2:r=x
     ·have q4:x < x+1∧x≠i:=⟨by omega,e⟩
      simp only [q2,q4,if_true,if_false,bJ.jQ,and_self,ne_eq,not_false_eq_true]
      by_cases q3:c=j
      ·simp only [q3,if_true]
      ·simp only [q3,if_false]
     ·simp only [q2,if_false]
      rw [hA r c Bl hc]
      by_cases q:r < x∧r≠i
      ·rw [if_pos q,if_pos ⟨by omega,q.2⟩]
      ·rw [if_neg q,if_neg (by omega)]
    ·by_cases q2:r=x
     ·rw [if_pos q2,if_pos (by omega),q2]
      simp only [bJ.jQ,if_neg e]
     ·rw [if_neg q2,hb r Bl]
      by_cases q:r=i∨r < x
      ·rw [if_pos q,if_pos (by omega)]
      ·rw [if_neg q,if_neg (by omega)]
theorem G0 (hm:m≤1000) (hk:k≤1000) (hi:i < m) (hj:j < k) (hs:5 * s≤MS) (h1:1≤s) (hr:D.EJ m k s) (h0:D.a i j≠0):∀ (d x:Nat) (R:Nat→Rat),x+d=k→(∀ c,c < k→R c=if c < x∧c≠j then D.ou i j c else D.a i c) →
  aF (fun N g=>dI N (i:Int) (j:Int) (n:Int) (m:Int) (bA D.v).fN.fG (bA D.v).fN.fL (bA D.v).fD.fG (bA D.v).fD.fL (h:Int) (LN D.iy m) (LN D.fr k) (LA D.a m k) (LQ D.b m) (LQ D.g k)
   g (LQ R k) (x:Int)) (RT n m k h (D.jQ i j))
 | 0,x,R,hx,hR=>by
  have hp:RB (D.b i / D.a i j) (2 * s):=((hr.b i hi).div (hr.a i j hi hj) h0).le (by omega)
  have hc:=(hr.a i j hi hj).q (show s≤MS by omega)
  refine aF.succ (fun N g=>dI.eq_2 ..) (aF.bh (NZ (m:=x) (n:=k) (by omega) (by simp only [ao,xr _ _ hi,bK])) ?_)
  simp only [ao,xr _ _ hi,fF _ _ hi,fF _ _ hj]
  refine aF.bind (zP (z:=1) (by decide) (by decide)) (aF.bind ((bJ.Yf.q (by decide)).TQ hc h0 (J8 (by decide))) (aF.if (inl hj (bK _ _)) (aF.if (inl hi (bK _ _))
   (aF.bind (((hr.b i hi).q (by omega)).TQ hc h0 (J8 (by decide))) (aF.bind (by have:=pR (hp.q (show 2 * s≤MS by omega)).ir (by decide) (J8 (by decide));rwa [eJ] at this) ?_)))))
  simp only [Bd]
  have e1:=rJ (f:=fun a=>if a=j then (1:Rat) / D.a i j else R a) (g:=D.ou i j) (n:=k) fun c hc=>by
   by_cases q:c=j
   ·rw [if_pos q];unfold bJ.ou;rw [if_pos q]
   ·rw [if_neg q,hR c hc,if_pos ⟨by omega,q⟩]
  have:=(Cj hm hk hi hj hs h1 hr h0 m 0 D.a (fun a=>if a=i then -(D.b i / D.a i j) else D.b a) (by omega) (fun r c _ _=>by rw [if_neg (by omega)]) (fun r Bl=>by
   by_cases q:r=i
   ·rw [if_pos q,if_pos (.inl q)];simp only [bJ.jQ,if_pos q];rfl
   ·rw [if_neg q,if_neg (by omega)]) (n:=n) (h:=h)).diag
  rw [← e1] at this
  exact aF.one this
 | d+1,x,R,hx,hR=>by
  have s7:x < k:=by omega
  have hc:=(hr.a i j hi hj).q (show s≤MS by omega)
  have hd:RB (D.a i x / D.a i j) (2 * s):=((hr.a i x hi s7).div (hr.a i j hi hj) h0).le (by omega)
  have ex:R x=D.a i x:=by rw [hR x s7,if_neg (by omega)]
  refine aF.succ (fun N g=>dI.eq_2 ..) (aF.aR (MQ (n:=k) s7 (by simp only [ao,xr _ _ hi,bK])) ?_)
  simp only [ao,xr _ _ hi,fF _ _ s7,ex,fF _ _ hj,aN (show x < 9223372036854775807 by omega),jt]
  by_cases e:x=j
  ·refine aF.bh (by simp;omega) (G0 hm hk hi hj hs h1 hr h0 d (x+1) R (by omega) fun c hc=>?_)
   rw [hR c hc]
   by_cases q:c < x∧c≠j
   ·rw [if_pos q,if_pos ⟨by omega,q.2⟩]
   ·rw [if_neg q,if_neg (by omega)]
  ·refine aF.aR (by simp;omega) (aF.if (inl s7 (bK _ _)) (aF.bind (((hr.a i x hi s7).q (by omega)).TQ hc h0 (J8 (by decide))) (aF.bind (by have:=pR (hd.q (show 2 * s≤MS by omega)).ir (by decide) (J8 (by decide));rwa [eJ] at this) ?_)))
   simp only [Bd]
   refine G0 hm hk hi hj hs h1 hr h0 d (x+1) _ (by omega) fun c hc=>?_
   by_cases q2:c=x
   ·rw [if_pos q2,if_pos ⟨by omega,by omega⟩,q2];unfold bJ.ou;rw [if_neg e]
   ·rw [if_neg q2,hR c hc]
    by_cases q:c < x∧c≠j
    ·rw [if_pos q,if_pos ⟨by omega,q.2⟩]
    ·rw [if_neg q,if_neg (by omega)]
theorem G1 (hm:m≤1000) (hk:k≤1000) (hi:i < m) (hj:j < k) (hs:5 * s≤MS) (h1:1≤s) (hr:D.EJ m k s) (h0:D.a i j≠0) :
  Gv (fun N=>jB N (i:Int) (j:Int) (n:Int) (m:Int) (bA D.v).fN.fG (bA D.v).fN.fL (bA D.v).fD.fG (bA D.v).fD.fL (h:Int) (LN D.iy m) (LN D.fr k) (LA D.a m k) (LQ D.b m) (LQ D.g k)) (RT n m k h (D.jQ i j)):=by
 have:=(G0 hm hk hi hj hs h1 hr h0 k 0 (D.a i) (by omega) (fun c _=>by rw [if_neg (by omega)]) (n:=n) (h:=h)).diag
 refine Gv.if (by rw [lM];exact hi) (Gv.if (inl hi (lM _ _ _)) (Gv.if (inl hj (by simp only [ao,xr _ _ hi,bK])) ?_))
 simp only [ao,xr _ _ hi]
 exact this
end
end Go.Den
namespace Go.Den
open Go.Ab
section
variable {n m k h j s:Nat} {D:bJ}
def O6 (D:bJ) (x:Nat) (dN:Int):Prop:=(dN = -1∧∀ j,j < x→D.g j≤0)∨∃ b:Nat,dN=b∧b < x∧0 < D.g b∧∀ j',j' < x→0 < D.g j'→D.fr b≤D.fr j'
theorem RG (hk:k≤1000) (hs:s≤MS) (hr:D.EJ m k s):∀ (d x:Nat) (dN:Int),x+d=k→O6 D x dN →
  ∃ r,aF (fun N g=>bL N (n:Int) (m:Int) (bA D.v).fN.fG (bA D.v).fN.fL (bA D.v).fD.fG (bA D.v).fD.fL (h:Int) (LN D.iy m) (LN D.fr k) (LA D.a m k) (LQ D.b m) (LQ D.g k) g dN (x:Int)) r∧O6 D k r
 | 0,x,dN,hx,hI=>⟨dN,aF.succ (fun N g=>bL.eq_2 ..) (aF.bh (NZ (m:=x) (n:=k) (by omega) (fm _ _)) (aF.one (Gv.pure _))),by rw [show k=x by omega];exact hI⟩
 | d+1,x,dN,hx,hI=>by
  have s7:x < k:=by omega
  have hsg:=((hr.g x s7).q hs).o9 (by decide)
  have nx:∀ rK:Int,O6 D (x+1) rK→(cond (cond (decide (o9 (D.g x) > 0)) (cond (decide (dN < 0)) true (decide ((LN D.fr k).getD x 0 < (LN D.fr k).getD dN.toNat 0))) false) (x:Int) dN)=rK →
    ∃ r,aF (fun N g=>bL N (n:Int) (m:Int) (bA D.v).fN.fG (bA D.v).fN.fL (bA D.v).fD.fG (bA D.v).fD.fL (h:Int) (LN D.iy m) (LN D.fr k) (LA D.a m k) (LQ D.b m) (LQ D.g k) (g+1) dN (x:Int)) r∧O6 D k r:=fun rK h1 h2=>by
   obtain ⟨r,h3,h4⟩:=RG hk hs hr d (x+1) rK (by omega) h1
   refine ⟨r,?_,h4⟩
   have hb:0≤dN→dN < ((k:Nat):Int):=fun h0=>by
    rcases hI with ⟨e,_⟩ | ⟨b,e,hb,_⟩<;>omega
   have:aF (fun N g=>bL N (n:Int) (m:Int) (bA D.v).fN.fG (bA D.v).fN.fL (bA D.v).fD.fG (bA D.v).fD.fL (h:Int) (LN D.iy m) (LN D.fr k) (LA D.a m k) (LQ D.b m) (LQ D.g k) (g+1) dN (x:Int)) r:=by
    simp only [bL]
    refine aF.aR (MQ (n:=k) s7 (fm _ _)) (aF.if (inl s7 (bK _ _)) ?_)
    simp only [ao,fF _ _ s7,gH,aN (show x < 9223372036854775807 by omega)]
    refine aF.bind hsg (aF.if (fun _=>inl s7 (fm _ _)) (aF.if (fun q=>?_) ?_))
    ·simp at q
     rw [fm];exact ⟨by omega,hb (by omega)⟩
    ·revert h2
     cases (cond (decide (o9 (D.g x) > 0)) (cond (decide (dN < 0)) true (decide ((LN D.fr k).getD x 0 < (LN D.fr k).getD dN.toNat 0))) false) with
     | true=>intro h2;refine aF.aR rfl ?_;simp only [cond_true] at h2;rw [h2];exact h3
     | false=>intro h2;refine aF.bh rfl ?_;simp only [cond_false] at h2;rw [h2];exact h3
   exact this
  have fin:∀ {rK:Int},O6 D (x+1) rK→(cond (cond (decide (o9 (D.g x) > 0)) (cond (decide (dN < 0)) true (decide ((LN D.fr k).getD x 0 < (LN D.fr k).getD dN.toNat 0))) false) (x:Int) dN)=rK →
    ∃ r,aF (fun N g=>bL N (n:Int) (m:Int) (bA D.v).fN.fG (bA D.v).fN.fL (bA D.v).fD.fG (bA D.v).fD.fL (h:Int) (LN D.iy m) (LN D.fr k) (LA D.a m k) (LQ D.b m) (LQ D.g k) g dN (x:Int)) r∧O6 D k r:=fun h1 h2=>by
   obtain ⟨r,h3,h4⟩:=nx _ h1 h2
   exact ⟨r,aF.succ (fun _ _=>rfl) h3,h4⟩
  by_cases hp:0 < D.g x
  ·have e1:decide (o9 (D.g x) > 0)=true:=decide_eq_true (Ce.2 hp)
   rcases hI with ⟨rfl,hb⟩ | ⟨b,rfl,hb,hg,ue⟩
   ·refine fin (rK:=x) (.inr ⟨x,rfl,by omega,hp,fun j' h1 h2=>?_⟩) (by rw [e1];rfl)
    by_cases e:j'=x
    ·rw [e];exact az _
    ·exact absurd h2 (Rat.not_lt.2 (hb j' (by omega)))
   ·have e2:decide (((b:Nat):Int) < 0)=false:=by simp
    by_cases gY:D.fr x < D.fr b
    ·refine fin (rK:=x) (.inr ⟨x,rfl,by omega,hp,fun j' h1 h2=>?_⟩) (by
      rw [e1,e2,sj _ _ s7,ao,sj _ _ (show b < k by omega),decide_eq_true (show ((D.fr x:Nat):Int) < ((D.fr b:Nat):Int) by omega)];rfl)
     by_cases e:j'=x
     ·rw [e];exact az _
     ·have:=ue j' (by omega) h2;omega
    ·refine fin (rK:=b) (.inr ⟨b,rfl,by omega,hg,fun j' h1 h2=>?_⟩) (by
      rw [e1,e2,sj _ _ s7,ao,sj _ _ (show b < k by omega),decide_eq_false (show ¬ ((D.fr x:Nat):Int) < ((D.fr b:Nat):Int) by omega)];rfl)
     by_cases e:j'=x
     ·rw [e];omega
     ·exact ue j' (by omega) h2
  ·have e1:decide (o9 (D.g x) > 0)=false:=decide_eq_false fun q=>hp (Ce.1 q)
   refine fin (rK:=dN) ?_ (by rw [e1];rfl)
   rcases hI with ⟨e,hb⟩ | ⟨b,e,hb,hg,ue⟩
   ·refine .inl ⟨e,fun j' h1=>?_⟩
    by_cases e2:j'=x
    ·rw [e2];exact Rat.not_lt.1 hp
    ·exact hb j' (by omega)
   ·refine .inr ⟨b,e,by omega,hg,fun j' h1 h2=>?_⟩
    by_cases e2:j'=x
    ·rw [e2] at h2;exact absurd h2 hp
    ·exact ue j' (by omega) h2
theorem Wk (hk:k≤1000) (hs:s≤MS) (hr:D.EJ m k s):∃ r,Gv (fun N=>lp N (n:Int) (m:Int) (bA D.v).fN.fG (bA D.v).fN.fL (bA D.v).fD.fG (bA D.v).fD.fL (h:Int) (LN D.iy m) (LN D.fr k) (LA D.a m k) (LQ D.b m) (LQ D.g k)) r ∧
  ((r = -1∧∀ j,j < k→D.g j≤0)∨∃ j:Nat,r=j∧D.E2 k j):=by
 obtain ⟨r,h1,h2⟩:=RG hk hs hr k 0 (-1) (by omega) (.inl ⟨rfl,fun j hj=>absurd hj (dT _)⟩) (n:=n) (h:=h)
 refine ⟨r,h1.diag,?_⟩
 rcases h2 with h | ⟨b,e,q1,q2,q3⟩
 ·exact .inl h
 ·exact .inr ⟨b,e,q1,q2,q3⟩
def TY (D:bJ) (j x:Nat) (dN:Int) (least:aa):Prop:=(dN = -1∧∀ i,i < x→0≤D.a i j)∨∃ b:Nat,dN=b∧b < x∧D.a b j < 0∧least=bA (D.ratio j b) ∧
 ∀ i',i' < x→D.a i' j < 0→D.ratio j b < D.ratio j i'∨D.ratio j b=D.ratio j i'∧D.iy b≤D.iy i'
theorem RH (hm:m≤1000) (hj:j < k) (hs:2 * s≤MS) (hr:D.EJ m k s):∀ (d x:Nat) (dN:Int) (least:aa),x+d=m→TY D j x dN least →
  ∃ r l,aF (fun N g=>bT N (j:Int) (n:Int) (m:Int) (bA D.v).fN.fG (bA D.v).fN.fL (bA D.v).fD.fG (bA D.v).fD.fL (h:Int) (LN D.iy m) (LN D.fr k) (LA D.a m k) (LQ D.b m) (LQ D.g k) g dN least (x:Int)) r∧TY D j m r l
 | 0,x,dN,least,hx,hI=>⟨dN,least,aF.succ (fun N g=>bT.eq_2 ..) (aF.bh (NZ (m:=x) (n:=m) (by omega) (fm _ _)) (aF.one (Gv.pure _))),by rw [show m=x by omega];exact hI⟩
 | d+1,x,dN,least,hx,hI=>by
  have tl:x < m:=by omega
  have ha:=(hr.a x j tl hj).q (show s≤MS by omega)
  have hsg:=ha.o9 (by decide)
  have ng:Gv (fun N=>gk N (bA (D.a x j))) (bA (-(D.a x j))):=by have:=pR ha.ir (by decide) (J8 (by decide));rwa [eJ] at this
  have nx:∀ (rK:Int) (G2:aa),TY D j (x+1) rK G2→(0≤D.a x j→rK=dN∧G2=least) →
    (D.a x j < 0→∀ c7:Int,(dN < 0∧c7 = -1∨∃ b:Nat,dN=b∧b < m∧c7=o9 (D.ratio j x - D.ratio j b)) →
     cond (cond (decide (c7 < 0)) true (cond (c7 == 0) (decide ((LN D.iy m).getD x 0 < (LN D.iy m).getD dN.toNat 0)) false)) ((x:Int),bA (D.ratio j x)) (dN,least)=(rK,G2)) →
    ∃ r l,aF (fun N g=>bT N (j:Int) (n:Int) (m:Int) (bA D.v).fN.fG (bA D.v).fN.fL (bA D.v).fD.fG (bA D.v).fD.fL (h:Int) (LN D.iy m) (LN D.fr k) (LA D.a m k) (LQ D.b m) (LQ D.g k) g dN least (x:Int)) r∧TY D j m r l:=fun rK G2 h1 h2 h5=>by
   obtain ⟨r,l,h3,h4⟩:=RH hm hj hs hr d (x+1) rK G2 (by omega) h1
   refine ⟨r,l,aF.succ (fun N g=>bT.eq_2 ..) (aF.aR (MQ (n:=m) tl (fm _ _)) ?_),h4⟩
   simp only [ao,xr _ _ tl,fF _ _ hj,fF _ _ tl,bK,lM,eE,aN (show x < 9223372036854775807 by omega)]
   refine aF.if tl (aF.if (pS tl) (aF.if (pS hj) (aF.bind hsg ?_)))
   by_cases hz:0≤D.a x j
   ·have e:decide (o9 (D.a x j)≥0)=true:=decide_eq_true (Int.not_lt.1 fun q=>by have:=pe.1 q;grind)
    obtain ⟨e1,e2⟩:=h2 hz
    refine aF.aR e ?_
    rw [e1,e2] at h3;exact h3
   ·have Bb:D.a x j < 0:=Rat.not_le.1 hz
    have e:decide (o9 (D.a x j)≥0)=false:=decide_eq_false fun q=>by have:=pe.2 Bb;omega
    have h0:-(D.a x j)≠0:=by grind
    have hov:=((hr.b x tl).q (show s≤MS by omega)).TQ (((hr.a x j tl hj).neg).q (show s≤MS by omega)) h0 (J8 (by decide))
    refine aF.bh e (aF.if (pS tl) (aF.bind ng (aF.bind hov ?_)))
    have hJ3:∀ c7:Int,(dN < 0∧c7 = -1∨∃ b:Nat,dN=b∧b < m∧c7=o9 (D.ratio j x - D.ratio j b))→aF (fun N g=>fE N (j:Int) (n:Int) (m:Int) (bA D.v).fN.fG (bA D.v).fN.fL (bA D.v).fD.fG (bA D.v).fD.fL (h:Int) (LN D.iy m) (LN D.fr k) (LA D.a m k) (LQ D.b m) (LQ D.g k) dN least (x:Int) (bA (D.b x / -(D.a x j)))
      (bT N (j:Int) (n:Int) (m:Int) (bA D.v).fN.fG (bA D.v).fN.fL (bA D.v).fD.fG (bA D.v).fD.fL (h:Int) (LN D.iy m) (LN D.fr k) (LA D.a m k) (LQ D.b m) (LQ D.g k) g) c7) r:=fun c7 hc=>by
     have h6:=h5 Bb c7 hc
     simp only [fE,eE,ao,aN (show x < 9223372036854775807 by omega)]
     refine aF.if (fun _=>inl tl (fm _ _)) (aF.if (fun q=>?_) ?_)
     ·rw [fm]
      rcases hc with ⟨_,e⟩ | ⟨b,e,hb,_⟩
      ·simp [e] at q
      ·omega
     ·revert h6
      cases (cond (decide (c7 < 0)) true (cond (c7 == 0) (decide ((LN D.iy m).getD x 0 < (LN D.iy m).getD dN.toNat 0)) false)) with
      | true=>intro h6;simp only [cond_true,aA] at h6;refine aF.aR rfl ?_;rw [← h6.1,← h6.2] at h3;exact h3
      | false=>intro h6;simp only [cond_false,aA] at h6;refine aF.bh rfl ?_;rw [← h6.1,← h6.2] at h3;exact h3
    rcases hI with ⟨e1,_⟩ | ⟨b,e1,hb,hbn,e2,_⟩
    ·exact aF.bh (by simp [e1]) (hJ3 (-1) (.inl ⟨by omega,rfl⟩))
    ·have WR:b < m:=by omega
     have q1:RB (D.ratio j x) (2 * s):=by unfold bJ.ratio;exact ((hr.b x tl).div (hr.a x j tl hj).neg h0).le (by omega)
     have q2:RB (D.ratio j b) (2 * s):=by unfold bJ.ratio;exact ((hr.b b WR).div (hr.a b j WR hj).neg (by grind)).le (by omega)
     refine aF.aR (by simp [e1]) (aF.bind (r:=o9 (D.ratio j x - D.ratio j b)) ?_ (hJ3 _ (.inr ⟨b,e1,WR,rfl⟩)))
     rw [e2]
     exact (q1.q hs).cmp (q2.q hs) (J8 (by decide))
  by_cases hz:0≤D.a x j
  ·refine nx dN least ?_ (fun _=>⟨rfl,rfl⟩) fun q=>by grind
   rcases hI with ⟨e,hb⟩ | ⟨b,e,hb,hg,e3,ue⟩
   ·refine .inl ⟨e,fun j' h1=>?_⟩
    by_cases e2:j'=x
    ·rw [e2];exact hz
    ·exact hb j' (by omega)
   ·refine .inr ⟨b,e,by omega,hg,e3,fun j' h1 h2=>?_⟩
    by_cases e2:j'=x
    ·rw [e2] at h2;grind
    ·exact ue j' (by omega) h2
  ·have Bb:D.a x j < 0:=Rat.not_le.1 hz
   rcases hI with ⟨rfl,hb⟩ | ⟨b,rfl,hb,hg,rfl,ue⟩
   ·refine nx x (bA (D.ratio j x)) (.inr ⟨x,rfl,by omega,Bb,rfl,fun j' h1 h2=>?_⟩) (fun q=>by grind) fun _ c7 hc=>?_
    ·by_cases e:j'=x
     ·rw [e];exact .inr ⟨rfl,az _⟩
     ·have:=hb j' (by omega);grind
    ·rcases hc with ⟨_,e⟩ | ⟨b,e,_⟩
     ·rw [e];rfl
     ·omega
   ·have Ze:∀ c7:Int,(((b:Nat):Int) < 0∧c7 = -1∨∃ b':Nat,((b:Nat):Int)=b'∧b' < m∧c7=o9 (D.ratio j x - D.ratio j b'))→c7=o9 (D.ratio j x - D.ratio j b):=fun c7 hc=>by
     rcases hc with ⟨e,_⟩ | ⟨b',e,_,e2⟩
     ·omega
     ·rw [e2,show b'=b by omega]
    have WR:b < m:=by omega
    by_cases h1:D.ratio j x < D.ratio j b
    ·refine nx x (bA (D.ratio j x)) (.inr ⟨x,rfl,by omega,Bb,rfl,fun j' q1 q2=>?_⟩) (fun q=>by grind) fun _ c7 hc=>?_
     ·by_cases e:j'=x
      ·rw [e];exact .inr ⟨rfl,az _⟩
      ·rcases ue j' (by omega) q2 with q3 | ⟨q3,_⟩
       ·exact .inl (by grind)
       ·exact .inl (by grind)
     ·rw [Ze c7 hc,decide_eq_true (pe.2 (show D.ratio j x - D.ratio j b < 0 by grind))];rfl
    ·have P2:decide (o9 (D.ratio j x - D.ratio j b) < 0)=false:=decide_eq_false fun q=>by have:=pe.1 q;grind
     by_cases h2:D.ratio j x=D.ratio j b
     ·have Pn:(o9 (D.ratio j x - D.ratio j b) == 0)=true:=by rw [beq_iff_eq];exact GO.2 (by grind)
      by_cases h3:D.iy x < D.iy b
      ·refine nx x (bA (D.ratio j x)) (.inr ⟨x,rfl,by omega,Bb,rfl,fun j' q1 q2=>?_⟩) (fun q=>by grind) fun _ c7 hc=>?_
       ·by_cases e:j'=x
        ·rw [e];exact .inr ⟨rfl,az _⟩
        ·rcases ue j' (by omega) q2 with q3 | ⟨q3,q4⟩
         ·exact .inl (by grind)
         ·exact .inr ⟨by grind,by omega⟩
       ·rw [Ze c7 hc,P2,Pn,sj _ _ tl,ao,sj _ _ WR,decide_eq_true (show ((D.iy x:Nat):Int) < ((D.iy b:Nat):Int) by omega)];rfl
      ·refine nx b (bA (D.ratio j b)) (.inr ⟨b,rfl,by omega,hg,rfl,fun j' q1 q2=>?_⟩) (fun q=>by grind) fun _ c7 hc=>?_
       ·by_cases e:j'=x
        ·rw [e];exact .inr ⟨h2.symm,by omega⟩
        ·exact ue j' (by omega) q2
       ·rw [Ze c7 hc,P2,Pn,sj _ _ tl,ao,sj _ _ WR,decide_eq_false (show ¬ ((D.iy x:Nat):Int) < ((D.iy b:Nat):Int) by omega)];rfl
     ·have Pn:(o9 (D.ratio j x - D.ratio j b) == 0)=false:=by
       rw [beq_eq_false_iff_ne];intro q;have:=GO.1 q;grind
      refine nx b (bA (D.ratio j b)) (.inr ⟨b,rfl,by omega,hg,rfl,fun j' q1 q2=>?_⟩) (fun q=>by grind) fun _ c7 hc=>?_
      ·by_cases e:j'=x
       ·rw [e];exact .inl (by grind)
       ·exact ue j' (by omega) q2
      ·rw [Ze c7 hc,P2,Pn];rfl
theorem Wl (hm:m≤1000) (hj:j < k) (hs:2 * s≤MS) (hr:D.EJ m k s):∃ r,Gv (fun N=>lQ N (j:Int) (n:Int) (m:Int) (bA D.v).fN.fG (bA D.v).fN.fL (bA D.v).fD.fG (bA D.v).fD.fL (h:Int) (LN D.iy m) (LN D.fr k) (LA D.a m k) (LQ D.b m) (LQ D.g k)) r ∧
  ((r = -1∧∀ i,i < m→0≤D.a i j)∨∃ i:Nat,r=i∧D.Ci m j i):=by
 obtain ⟨r,l,h1,h2⟩:=RH hm hj hs hr m 0 (-1) _ (by omega) (.inl ⟨rfl,fun j hj=>absurd hj (dT _)⟩) (n:=n) (h:=h)
 refine ⟨r,h1.diag,?_⟩
 rcases h2 with h | ⟨b,e,q1,q2,_,q3⟩
 ·exact .inl h
 ·exact .inr ⟨b,e,q1,q2,q3⟩
def Stop (D:bJ) (m k:Nat) (r:Int):Prop:=(r = -1∧∀ j,j < k→D.g j≤0)∨∃ j:Nat,r=j∧D.E2 k j∧∀ i,i < m→0≤D.a i j
theorem RI {e5:Nat} (h5:m≤e5∨k≤e5) (hm:m≤1000) (hk:k≤1000) {D0:bJ} (h0:D0.WF m k) (JI:D0.EJ m k s) (h1:1≤s) (hs:5 * (5 ^ e5 * s)≤MS) (hw:D.WF m k) (hf:D.Lp m) (he:bJ.Ct m k D0 D) :
  ∃ D' r,D'.WF m k∧D'.Lp m∧bJ.Ct m k D0 D'∧Stop D' m k r∧aF (fun N g=>dJ N g (n:Int) (m:Int) (LN D.iy m) (LN D.fr k) (LA D.a m k) (LQ D.b m) (LQ D.g k) (bA D.v).fN.fG (bA D.v).fN.fL (bA D.v).fD.fG (bA D.v).fD.fL (h:Int)) (r,RT n m k h D'):=by
 induction bJ.Ru hw hf with
 | intro D _ ih =>
  have hr:=bJ.Lx h5 hw h0 he JI h1
  have Ov:1≤5 ^ e5 * s:=eZ h1 (Nat.le_mul_of_pos_left _ (Nat.pow_pos (by decide)))
  obtain ⟨r,e1,e2⟩:=Wk hk (by omega) hr (n:=n) (h:=h)
  rcases e2 with ⟨rfl,e2⟩ | ⟨j,rfl,e2⟩
  ·exact ⟨D,-1,hw,hf,he,.inl ⟨rfl,e2⟩,aF.succ (fun N g=>dJ.eq_2 ..) (aF.bind e1 (aF.aR (by decide) (aF.one (Gv.pure _))))⟩
  ·obtain ⟨r,e3,e4⟩:=Wl hm e2.lt (by omega) hr (n:=n) (h:=h)
   rcases e4 with ⟨rfl,e4⟩ | ⟨i,rfl,e4⟩
   ·exact ⟨D,j,hw,hf,he,.inr ⟨j,rfl,e2,e4⟩,aF.succ (fun N g=>dJ.eq_2 ..) (aF.bind e1 (aF.bh (by simp) (aF.bind e3 (aF.aR (by decide) (aF.one (Gv.pure _))))))⟩
   ·have fx:D.a i j≠0:=by have:=e4.neg;grind
    obtain ⟨D',r,q1,q2,q3,q4,q5⟩:=ih (D.jQ i j) ⟨j,i,e2,e4,rfl⟩ (hw.jQ e4.lt e2.lt) (hf.jQ e4) (he.trans (.jQ e4.lt e2.lt fx))
    refine ⟨D',r,q1,q2,q3,q4,aF.succ (fun N g=>dJ.eq_2 ..) (aF.bind e1 (aF.bh (by simp) (aF.bind e3 (aF.bh (by simp) (aF.bind (G1 hm hk e4.lt e2.lt hs Ov hr fx) ?_)))))⟩
    simp only [RT,fm,lM,bK]
    exact aF.if trivial (aF.if trivial (aF.if trivial (aF.if trivial (aF.if trivial q5))))
end
end Go.Den
namespace Go.Den
open Go.Ab
theorem RJ {f:Nat→Nat} {k v:Nat} (hk:k≤1000):∀ d x,x+d=k→(∀ j,j < x→f j≠v)→∃ r,aF (fun N g=>cw N (LN f k) (v:Int) g (x:Int)) r∧((r = -1∧∀ j,j < k→f j≠v)∨∃ j:Nat,r=j∧j < k∧f j=v)
 | 0,x,hx,h=>⟨-1,aF.succ (fun N g=>cw.eq_2 ..) (aF.bh (NZ (m:=x) (n:=k) (by omega) (fm _ _)) (aF.one (Gv.pure _))),.inl ⟨rfl,fun j hj=>h j (by omega)⟩⟩
 | d+1,x,hx,h=>by
  have s7:x < k:=by omega
  by_cases e:f x=v
  ·refine ⟨x,aF.succ (fun N g=>cw.eq_2 ..) (aF.aR (MQ (n:=k) s7 (fm _ _)) (aF.if (inl s7 (fm _ _)) (aF.aR ?_ (aF.one (Gv.pure _))))),.inr ⟨x,rfl,s7,e⟩⟩
   rw [ao,sj _ _ s7,e];simp
  ·obtain ⟨r,h1,h2⟩:=RJ (f:=f) (v:=v) hk d (x+1) (by omega) fun j hj=>by
    by_cases q:j=x
    ·rw [q];exact e
    ·exact h j (by omega)
   refine ⟨r,aF.succ (fun N g=>cw.eq_2 ..) (aF.aR (MQ (n:=k) s7 (fm _ _)) (aF.if (inl s7 (fm _ _)) (aF.bh ?_ ?_))),h2⟩
   ·rw [ao,sj _ _ s7];simp;omega
   ·rw [aN (show x < 9223372036854775807 by omega)];exact h1
theorem JS {f:Nat→Nat} {k v:Nat} (hk:k≤1000):∃ r,Gv (fun N=>eF N (LN f k) (v:Int)) r∧((r = -1∧∀ j,j < k→f j≠v)∨∃ j:Nat,r=j∧j < k∧f j=v):=by
 obtain ⟨r,h1,h2⟩:=RJ (f:=f) (v:=v) hk k 0 (by omega) fun j hj=>absurd hj (dT _)
 exact ⟨r,h1.diag,h2⟩
theorem RK {f:Nat→Rat} {k s:Nat} (hk:k≤1000) (hs:s≤MS) (hf:∀ j,j < k→RB (f j) s):∀ d x,x+d=k→(∀ j,j < x→f j=0) →
  ∃ r,aF (fun N g=>cx N (LQ f k) g (x:Int)) r∧((r = -1∧∀ j,j < k→f j=0)∨∃ j:Nat,r=j∧j < k∧f j≠0)
 | 0,x,hx,h=>⟨-1,aF.succ (fun N g=>cx.eq_2 ..) (aF.bh (NZ (m:=x) (n:=k) (by omega) (bK _ _)) (aF.one (Gv.pure _))),.inl ⟨rfl,fun j hj=>h j (by omega)⟩⟩
 | d+1,x,hx,h=>by
  have s7:x < k:=by omega
  have hz:Gv (fun N=>lq N (bA (f x))) (!decide (f x=0)):=Gv.bind (((hf x s7).q hs).zero (by decide)) (Gv.pure _)
  by_cases e:f x=0
  ·obtain ⟨r,h1,h2⟩:=RK hk hs hf d (x+1) (by omega) fun j hj=>by
    by_cases q:j=x
    ·rw [q];exact e
    ·exact h j (by omega)
   refine ⟨r,aF.succ (fun N g=>cx.eq_2 ..) (aF.aR (MQ (n:=k) s7 (bK _ _)) (aF.if (inl s7 (bK _ _)) ?_)),h2⟩
   simp only [ao,fF _ _ s7,aN (show x < 9223372036854775807 by omega)]
   exact aF.bind hz (aF.bh (by simp [e]) h1)
  ·refine ⟨x,aF.succ (fun N g=>cx.eq_2 ..) (aF.aR (MQ (n:=k) s7 (bK _ _)) (aF.if (inl s7 (bK _ _)) ?_)),.inr ⟨x,rfl,s7,e⟩⟩
   simp only [ao,fF _ _ s7]
   exact aF.bind hz (aF.aR (by simp [e]) (aF.one (Gv.pure _)))
theorem Wm {f:Nat→Rat} {k s:Nat} (hk:k≤1000) (hs:s≤MS) (hf:∀ j,j < k→RB (f j) s) :
  ∃ r,Gv (fun N=>jZ N (LQ f k)) r∧((r = -1∧∀ j,j < k→f j=0)∨∃ j:Nat,r=j∧j < k∧f j≠0):=by
 obtain ⟨r,h1,h2⟩:=RK hk hs hf k 0 (by omega) fun j hj=>absurd hj (dT _)
 exact ⟨r,h1.diag,h2⟩
def sk (c j:Nat):Nat:=if j < c then j else j+1
section
variable {α:Type}
theorem N6 (f:Nat→α) {k c:Nat} (hc:c≤k):(k8 (Bc f (k+1)) c (c+1)).take ((c - 0)+((Bc f (k+1)).length - (c+1)))=Bc (fun j=>f (sk c j)) k:=by
 refine List.ext_getElem? fun j=>?_
 have e1:((Bc f (k+1)).take c).length=c:=by rw [oQ,qq];omega
 have e3:∀ {n i:Nat} (g:Nat→α),(Bc g n)[i]?=if i < n then some (g i) else none:=fun {n i} g=>by
  unfold Bc
  by_cases h:i < n<;>simp [h]
 rw [pW,qq,e3]
 unfold k8
 by_cases h:j < c
 ·rw [if_pos (by omega),if_pos (by omega),wD,iH (by omega),pW,if_pos h,e3,if_pos (by omega)]
  unfold sk;rw [if_pos h]
 ·by_cases h2:j < k
  ·have e2:((Bc f (k+1)).drop (c+1)).length=k - c:=by rw [List.length_drop,qq];omega
   rw [if_pos (by omega),if_pos h2,wD,jS (by omega),e1,iH (by omega),oS,e3,if_pos (by omega)]
   unfold sk;rw [if_neg h,show c+1+(j - c)=j+1 by omega]
  ·rw [if_neg (by omega),if_neg h2]
theorem N7 (f:Nat→α) {k c:Nat} (hc:c≤k):(k8 (Bc f (k+1)) c (c+1)).length=k+1:=by
 rw [← EW ⟨by omega,by rw [qq];omega⟩,qq]
end
theorem TZ (f:Nat→Nat) {k c:Nat} (hc:c≤k) (hk:k≤1000):Gv (fun N=>jC N (c:Int) (ai ((c:Int)+1)) (LN f (k+1))) (LN (fun j=>f (sk c j)) k,LN (fun j=>f (sk c j)) k):=by
 rw [aN (by omega)]
 have e:=N7 (fun i=>((f i:Nat):Int)) hc
 have e2:=N6 (fun i=>((f i:Nat):Int)) hc
 refine Gv.if (by rw [fm];omega) (Gv.bh (by simp;omega) ?_)
 simp only [ao]
 refine Gv.if (by rw [fm];omega) (Gv.if (by omega) (Gv.if (by rw [fm];omega) (Gv.if (by omega) (Gv.if (by rw [fm];omega) (Gv.if (by rw [fm];omega) (Gv.if ?_ (Gv.if ?_ ((Gv.pure _).eq ?_))))))))
 ·rw [fm];unfold LN;rw [e];omega
 ·rw [fm];unfold LN;rw [e];omega
 ·unfold LN;rw [e2]
theorem T0 (f:Nat→Rat) {k c:Nat} (hc:c≤k) (hk:k≤1000):Gv (fun N=>lR N (c:Int) (ai ((c:Int)+1)) (LQ f (k+1))) (LQ (fun j=>f (sk c j)) k,LQ (fun j=>f (sk c j)) k):=by
 rw [aN (by omega)]
 have e:=N7 (fun i=>bA (f i)) hc
 have e2:=N6 (fun i=>bA (f i)) hc
 refine Gv.if (by rw [bK];omega) (Gv.bh (by simp;omega) ?_)
 simp only [ao]
 refine Gv.if (by rw [bK];omega) (Gv.if (by omega) (Gv.if (by rw [bK];omega) (Gv.if (by omega) (Gv.if (by rw [bK];omega) (Gv.if (by rw [bK];omega) (Gv.if ?_ (Gv.if ?_ ((Gv.pure _).eq ?_))))))))
 ·rw [bK];unfold LQ;rw [e];omega
 ·rw [bK];unfold LQ;rw [e];omega
 ·unfold LQ;rw [e2]
def bJ.del (D:bJ) (c:Nat):bJ where
 iy:=D.iy
 fr:=fun j=>D.fr (sk c j)
 a:=fun i j=>D.a i (sk c j)
 b:=D.b
 g:=fun _=>0
 v:=0
def RS (ok:Bool) (n m k h:Nat) (D:bJ):Bool×l7×List Int×List Int×List (List aa)×List aa :=
 (ok,⟨n,m,LN D.iy m,LN D.fr k,LA D.a m k,LQ D.b m,LQ D.g k,bA D.v,h⟩,LN D.iy m,LN D.fr k,LA D.a m k,LQ D.b m)
section
variable {n m k h c s:Nat} {D:bJ}
theorem Wn (z:Int) (h1:-1000≤z) (h2:z≤1000):Gv (fun N=>gx N z) (bA (z:Rat)):=zP (by omega) (by omega)
theorem uI:Gv (fun N=>gx N 0) (bA 0):=zP (z:=0) (by decide) (by decide)
theorem RM (hk:k≤1000) {v1 v3:Bool} {v2 v4:List Int}:∀ (d x:Nat) (L:List aa),x+d=k→L.length=k→(∀ j,j < x→L.getD j aa.d=bA 0) →
  aF (fun N g=>dV N (n:Int) (m:Int) (LN D.iy m) (LQ D.b m) v1 v2 v3 v4 (h:Int) (LN (fun j=>D.fr (sk c j)) k,LN (fun j=>D.fr (sk c j)) k) (LA (fun i j=>D.a i (sk c j)) m k) g L (x:Int)) (RS true n m k h (D.del c))
 | 0,x,L,hx,hl,h0=>by
  refine aF.succ (fun N g=>dV.eq_2 ..) (aF.bh (NZ (m:=x) (n:=k) (by omega) (by rw [cN,fm])) (aF.bind uI (aF.one ((Gv.pure _).eq ?_))))
  rw [show L=LQ (fun _=>0) k from GZ aa.d hl fun j hj=>h0 j (by omega)]
  rfl
 | d+1,x,L,hx,hl,h0=>by
  have s7:x < k:=by omega
  refine aF.succ (fun N g=>dV.eq_2 ..) (aF.aR (MQ (n:=k) s7 (by rw [cN,fm])) (aF.bind uI (aF.if (inl s7 hl) ?_)))
  rw [aN (show x < 9223372036854775807 by omega)]
  refine RM hk d (x+1) _ (by omega) (by rw [List.length_set];exact hl) fun j hj=>?_
  rw [ao]
  by_cases e:x=j
  ·subst e;exact kX _ _ _ _ (by omega)
  ·rw [iw _ _ _ e];exact h0 j (by omega)
theorem RN (hm:m≤1000) (hk:k≤1000) (hc:c≤k) {g0:List aa} {v1 v3:Bool} {v2 v4:List Int}:∀ (d x:Nat) (G:Nat→List aa),x+d=m→(∀ r,r < m→G r=if r < x then LQ (fun j=>D.a r (sk c j)) k else LQ (D.a r) (k+1)) →
  aF (fun N g=>dW N (n:Int) (m:Int) (LN D.iy m) (LA D.a m (k+1)) (LQ D.b m) g0 v1 v2 v3 v4 (h:Int) (c:Int) (LN (fun j=>D.fr (sk c j)) k,LN (fun j=>D.fr (sk c j)) k) g (Bc G m) (x:Int)) (RS true n m k h (D.del c))
 | 0,x,G,hx,hG=>by
  refine aF.succ (fun N g=>dW.eq_2 ..) (aF.bh (NZ (m:=x) (n:=m) (by omega) (lM _ _ _)) ?_)
  simp only [fm]
  refine aF.if (by omega) ?_
  rw [show Bc G m=LA (fun i j=>D.a i (sk c j)) m k from qP fun r hr=>by rw [hG r hr,if_pos (by omega)]]
  have:=(RM hk (n:=n) (m:=m) (h:=h) (c:=c) (D:=D) (v1:=v1) (v2:=v2) (v3:=v3) (v4:=v4) k 0 (List.replicate k aa.d) (by omega) cN fun j hj=>absurd hj (dT _)).diag
  exact aF.one this
 | d+1,x,G,hx,hG=>by
  have tl:x < m:=by omega
  have e:G x=LQ (D.a x) (k+1):=by rw [hG x tl,if_neg (by omega)]
  refine aF.succ (fun N g=>dW.eq_2 ..) (aF.aR (MQ (n:=m) tl (lM _ _ _)) (aF.if (by rw [qq];exact tl) (aF.if (inl tl (qq _ _)) ?_)))
  simp only [ao,E4 _ _ tl,e]
  refine aF.bind (T0 (D.a x) hc hk) ?_
  rw [aN (show x < 9223372036854775807 by omega),E5]
  refine RN hm hk hc d (x+1) _ (by omega) fun r hr=>?_
  by_cases q:r=x
  ·rw [if_pos q,if_pos (by omega),q]
  ·rw [if_neg q,hG r hr]
   by_cases q2:r < x
   ·rw [if_pos q2,if_pos (by omega)]
   ·rw [if_neg q2,if_neg (by omega)]
theorem RO (hm:m≤1000) (hk:k≤999) (hw:D.WF m (k+1)) (hc:c < k+1) (hh:D.fr c=h) :
  Gv (fun N=>iS N (n:Int) (m:Int) (LN D.iy m) (LN D.fr (k+1)) (LA D.a m (k+1)) (LQ D.b m) (LQ D.g (k+1)) (bA D.v).fN.fG (bA D.v).fN.fL (bA D.v).fD.fG (bA D.v).fD.fL (h:Int)) (RS true n m k h (D.del c)):=by
 obtain ⟨r,h1,h2⟩:=JS (f:=D.fr) (k:=k+1) (v:=h) (by omega)
 rcases h2 with ⟨_,h2⟩ | ⟨j,rfl,hj,h2⟩
 ·exact absurd hh (h2 c hc)
 ·obtain rfl:j=c:=hw.fi j c hj hc (h2.trans hh.symm)
  refine Gv.bind h1 (Gv.bind (TZ D.fr (by omega) (by omega)) ?_)
  have:=(RN hm (show k≤1000 by omega) (show j≤k by omega) (n:=n) (h:=h) (D:=D) (g0:=LQ D.g (k+1)) (v1:=(bA D.v).fN.fG) (v2:=(bA D.v).fN.fL) (v3:=(bA D.v).fD.fG) (v4:=(bA D.v).fD.fL) m 0 (fun r=>LQ (D.a r) (k+1)) (by omega) fun r _=>by rw [if_neg (dT _)]).diag
  exact this
structure Ck (n m:Nat) (C:Nat→Nat→Rat) (B:Nat→Rat) (D:bJ) (c:Nat):Prop where
 wf:D.WF m (2 * n+1)
 fea:D.Lp m
 eqv:(∃ z,bJ.Ct m (2 * n+1) (bJ.fst n m C B z) D)
 lt:c < 2 * n+1
 fr:D.fr c=2 * n+m
variable {C:Nat→Nat→Rat} {B:Nat→Rat}
theorem RP {e5:Nat} (h5:m≤e5∨2 * n+1≤e5) (hm:m≤1000) (hn:2 * n≤998) {z:Rat} (JI:(bJ.fst n m C B z).EJ m (2 * n+1) s) (h1:1≤s) (hs:5 * (5 ^ e5 * s)≤MS) (hw:D.WF m (2 * n+1)) (hf:D.Lp m) (he:bJ.Ct m (2 * n+1) (bJ.fst n m C B z) D)
  (Wg:∀ i,i < m→D.iy i=2 * n+m→D.b i=0∧∃ j,j < 2 * n+1∧D.a i j≠0) :
  ∃ D' c,Ck n m C B D' c∧Gv (fun N=>fW N (n:Int) (m:Int) (LN D.iy m) (LN D.fr (2 * n+1)) (LA D.a m (2 * n+1)) (LQ D.b m) (LQ D.g (2 * n+1)) (bA D.v).fN.fG (bA D.v).fN.fL (bA D.v).fD.fG (bA D.v).fD.fL ((2 * n+m:Nat):Int)) (RS true n m (2 * n) (2 * n+m) (D'.del c)):=by
 have hr:=bJ.Lx h5 hw (bJ.GV n m C B z) he JI h1
 have Ov:1≤5 ^ e5 * s:=eZ h1 (Nat.le_mul_of_pos_left _ (Nat.pow_pos (by decide)))
 obtain ⟨r,q1,q2⟩:=JS (f:=D.iy) (k:=m) (v:=2 * n+m) hm
 rcases q2 with ⟨rfl,q2⟩ | ⟨i,rfl,hi,q2⟩
 ·obtain ⟨c,hc,Pm⟩:=bJ.zR hw (u:=2 * n+m) (by omega) fun ⟨i,hi,e⟩=>q2 i hi e
  exact ⟨D,c,⟨hw,hf,⟨z,he⟩,hc,Pm⟩,Gv.bind q1 (Gv.bh (by decide) (RO hm (by omega) hw hc Pm))⟩
 ·obtain ⟨hb,j0,YD,ha0⟩:=Wg i hi q2
  obtain ⟨r,q3,q4⟩:=Wm (f:=D.a i) (k:=2 * n+1) (by omega) (show 5 ^ e5 * s≤MS by omega) fun j hj=>hr.a i j hi hj
  rcases q4 with ⟨_,q4⟩ | ⟨j,rfl,hj,q4⟩
  ·exact absurd (q4 j0 YD) ha0
  ·refine ⟨D.jQ i j,j,⟨hw.jQ hi hj,bJ.RA hf hb,⟨z,he.trans (.jQ hi hj q4)⟩,hj,by simp only [bJ.jQ,if_true];exact q2⟩,Gv.bind q1 (Gv.aR (by simp) ?_)⟩
   simp only [ao,xr _ _ hi]
   refine Gv.if (by rw [lM];exact hi) (Gv.if (inl hi (lM _ _ _)) (Gv.bind q3 (Gv.bind (G1 hm (by omega) hi hj hs Ov hr q4) ?_)))
   simp only [RT,fm,lM,bK]
   exact Gv.if trivial (Gv.if trivial (Gv.if trivial (Gv.if trivial (Gv.if trivial (RO hm (by omega) (hw.jQ hi hj) hj (by simp only [bJ.jQ,if_true];exact q2))))))
def Yj (B:Nat→Rat) (x:Nat) (low:Int):Prop:=(low = -1∧∀ r,r < x→0≤B r)∨∃ l:Nat,low=l∧l < x∧B l < 0∧∀ r,r < x→B l≤B r
structure E6 (n m:Nat) (C:Nat→Nat→Rat) (B:Nat→Rat) (D:bJ):Prop where
 wf:D.WF m (2 * n+1)
 eqv:bJ.Ct m (2 * n+1) (bJ.fst n m C B (-1)) D
 g:∀ j,j < 2 * n+1→D.g j≤0
 v:D.v < 0
theorem N8 (z:Rat) (hz:RB z s) (hr:(bJ.fst n m C B 0).EJ m (2 * n+1) s):(bJ.fst n m C B z).EJ m (2 * n+1) s:=by
 refine ⟨hr.a,hr.b,fun j hj=>?_,hr.v⟩
 have:=hr.g j hj
 simp only [bJ.fst] at this ⊢
 split
 ·rw [if_pos (by assumption)] at this;exact this
 ·exact hz
theorem RR {e5:Nat} (h5:m≤e5∨2 * n+1≤e5) (hm:m≤1000) (hn:2 * n≤998) (hr:(bJ.fst n m C B 0).EJ m (2 * n+1) s) (h1:1≤s) (hs:5 * (5 ^ e5 * s)≤MS):∀ (d x:Nat) (low:Int),x+d=m→Yj B x low →
  ∃ r,aF (fun N g=>bF N (n:Int) (m:Int) (bA 0).fN.fG (bA 0).fN.fL (bA 0).fD.fG (bA 0).fD.fL ((2 * n+m:Nat):Int) (LN (bJ.fst n m C B 0).iy m) (LN (bJ.fst n m C B 0).fr (2 * n+1))
    (LA (bJ.fst n m C B 0).a m (2 * n+1)) (LQ B m) (LQ (bJ.fst n m C B 0).g (2 * n+1)) g low (x:Int)) r ∧
   ((∃ D,E6 n m C B D∧r=RS false n m (2 * n+1) (2 * n+m) D)∨∃ D c,Ck n m C B D c∧r=RS true n m (2 * n) (2 * n+m) (D.del c))
 | 0,x,low,hx,hI=>by
  have tl:x=m:=by omega
  subst tl
  have step:∀ {r},(∃ N0:Nat,True)→aF (fun N g=>bF N (n:Int) (x:Int) (bA 0).fN.fG (bA 0).fN.fL (bA 0).fD.fG (bA 0).fD.fL ((2 * n+x:Nat):Int) (LN (bJ.fst n x C B 0).iy x) (LN (bJ.fst n x C B 0).fr (2 * n+1))
    (LA (bJ.fst n x C B 0).a x (2 * n+1)) (LQ B x) (LQ (bJ.fst n x C B 0).g (2 * n+1)) (g+1) low (x:Int)) r→aF (fun N g=>bF N (n:Int) (x:Int) (bA 0).fN.fG (bA 0).fN.fL (bA 0).fD.fG (bA 0).fD.fL ((2 * n+x:Nat):Int) (LN (bJ.fst n x C B 0).iy x) (LN (bJ.fst n x C B 0).fr (2 * n+1))
    (LA (bJ.fst n x C B 0).a x (2 * n+1)) (LQ B x) (LQ (bJ.fst n x C B 0).g (2 * n+1)) g low (x:Int)) r:=fun _ h=>aF.succ (fun _ _=>rfl) h
  rcases hI with ⟨rfl,hB⟩ | ⟨l,rfl,hl,Bb,ue⟩
  ·obtain ⟨D,c,q1,q2⟩:=RP (D:=bJ.fst n x C B 0) h5 hm hn hr h1 hs (bJ.GV n x C B 0) hB (.refl _ _ _) fun i hi e=>by
    simp only [bJ.fst] at e;omega
   refine ⟨_,step ⟨0,trivial⟩ ?_,.inr ⟨D,c,q1,rfl⟩⟩
   simp only [bF]
   exact aF.bh (NZ (m:=x) (n:=x) (az _) (bK _ _)) (aF.bh (by decide) (aF.one q2))
  ·have hw:=bJ.GV n x C B (-1)
   have Q7:=N8 (-1) (bJ.Yf.neg.le h1) hr
   have ea:(bJ.fst n x C B (-1)).a l (2 * n)=1:=by simp only [bJ.fst];rw [if_neg (by omega),if_neg (by omega)]
   have h0:(bJ.fst n x C B (-1)).a l (2 * n)≠0:=by rw [ea];decide
   have hs5:s≤5 ^ e5 * s:=Nat.le_mul_of_pos_left _ (Nat.pow_pos (by decide))
   have abw:=G1 (n:=n) (h:=2 * n+x) hm (show 2 * n+1≤1000 by omega) hl (show 2 * n < 2 * n+1 by omega) (show 5 * s≤MS by omega) h1 Q7 h0
   obtain ⟨D,r,q1,q2,q3,q4,q5⟩:=RI (n:=n) (h:=2 * n+x) h5 hm (show 2 * n+1≤1000 by omega) hw Q7 h1 hs (hw.jQ hl (show 2 * n < 2 * n+1 by omega)) (bJ.O5 n x C B hl Bb ue) (.jQ hl (by omega) h0)
   have V7:=bJ.TX q1 q3 q2 (by
    rcases q4 with ⟨_,h⟩ | ⟨j,_,h,h'⟩
    ·exact .inl h
    ·exact .inr ⟨j,h,h'⟩)
   have hrD:=bJ.Lx h5 q1 hw q3 Q7 h1
   have eg:(LQ (bJ.fst n x C B 0).g (2 * n+1)).set (2 * n) (bA ((-1:Int):Rat))=LQ (bJ.fst n x C B (-1)).g (2 * n+1):=by
    rw [Bd]
    refine rJ fun j hj=>?_
    simp only [bJ.fst]
    by_cases e:j=2 * n
    ·rw [if_pos e,if_neg (by omega)];rfl
    ·rw [if_neg e,if_pos (by omega),if_pos (by omega)]
   have Yk:ai (((2 * n+1:Nat):Int) - 1)=((2 * n:Nat):Int):=by rw [aV (by omega) (by omega)];omega
   have main:∀ {r'},Gv (fun N=>(ic N (bA D.v)).bind fun gn=>cond (!gn) (some (RS false n x (2 * n+1) (2 * n+x) D)) (fW N (n:Int) (x:Int) (LN D.iy x) (LN D.fr (2 * n+1)) (LA D.a x (2 * n+1)) (LQ D.b x) (LQ D.g (2 * n+1)) (bA D.v).fN.fG (bA D.v).fN.fL (bA D.v).fD.fG (bA D.v).fD.fL ((2 * n+x:Nat):Int))) r' →
     aF (fun N g=>bF N (n:Int) (x:Int) (bA 0).fN.fG (bA 0).fN.fL (bA 0).fD.fG (bA 0).fD.fL ((2 * n+x:Nat):Int) (LN (bJ.fst n x C B 0).iy x) (LN (bJ.fst n x C B 0).fr (2 * n+1))
      (LA (bJ.fst n x C B 0).a x (2 * n+1)) (LQ B x) (LQ (bJ.fst n x C B 0).g (2 * n+1)) g ((l:Nat):Int) (x:Int)) r':=fun h=>by
    refine step ⟨0,trivial⟩ ?_
    simp only [bF,fm,Yk,ao]
    refine aF.bh (NZ (m:=x) (n:=x) (az _) (bK _ _)) (aF.aR (by simp) (aF.bind (Wn (-1) (by decide) (by decide)) (aF.if (inl (show 2 * n < 2 * n+1 by omega) (bK _ _)) ?_)))
    rw [eg]
    refine aF.bind abw ?_
    simp only [RT,fm,lM,bK]
    refine aF.if trivial (aF.if trivial (aF.if trivial (aF.if trivial (aF.if trivial (aF.bind (q5.diag) ?_)))))
    simp only [RT,fm,lM,bK]
    exact aF.if trivial (aF.if trivial (aF.if trivial (aF.if trivial (aF.if trivial (aF.one h)))))
   by_cases hz:D.v=0
   ·have hh0:D.ext x (2 * n+1) bJ.uq (2 * n+x)=0:=by have:=bJ.GY q1 q3;grind
    obtain ⟨D',c,p1,p2⟩:=RP h5 hm hn Q7 h1 hs q1 q2 q3 fun i hi e=>⟨by
     rw [← e,bJ.uG q1 hi,bJ.s6] at hh0;exact hh0,bJ.MY q1 q3 hi e⟩
    exact ⟨_,main (Gv.bind ((hrD.v.q (by omega)).zero (by decide)) (Gv.bh (by simp [hz]) p2)),.inr ⟨D',c,p1,rfl⟩⟩
   ·refine ⟨_,main (Gv.bind ((hrD.v.q (by omega)).zero (by decide)) (Gv.aR (by simp [hz]) (Gv.pure _))),.inl ⟨D,⟨q1,q3,V7,?_⟩,rfl⟩⟩
    have e1:=bJ.GY q1 q3
    have e2:=bJ.DA q1 q2 (2 * n+x) (by omega)
    grind
 | d+1,x,low,hx,hI=>by
  have tl:x < m:=by omega
  have hs5:s≤5 ^ e5 * s:=Nat.le_mul_of_pos_left _ (Nat.pow_pos (by decide))
  have hB:∀ r,r < m→RB (B r) s:=hr.b
  have hbx:=(hB x tl).q (show s≤MS by omega)
  have Hh:0≤low→low < ((m:Nat):Int):=fun h0=>by
   rcases hI with ⟨e,_⟩ | ⟨b,e,hb,_⟩<;>omega
  have nx:∀ T4:Int,Yj B (x+1) T4→(∃ cmp:Int,(B x < 0→∀ l:Nat,low=l→cmp=o9 (B x - B l))∧(¬ (B x < 0∧0≤low)→cmp=0)∧(cond (cond (decide (o9 (B x) < 0)) (cond (decide (low < 0)) true (decide (cmp < 0))) false) (x:Int) low)=T4) →
    ∃ r,aF (fun N g=>bF N (n:Int) (m:Int) (bA 0).fN.fG (bA 0).fN.fL (bA 0).fD.fG (bA 0).fD.fL ((2 * n+m:Nat):Int) (LN (bJ.fst n m C B 0).iy m) (LN (bJ.fst n m C B 0).fr (2 * n+1))
      (LA (bJ.fst n m C B 0).a m (2 * n+1)) (LQ B m) (LQ (bJ.fst n m C B 0).g (2 * n+1)) g low (x:Int)) r ∧
     ((∃ D,E6 n m C B D∧r=RS false n m (2 * n+1) (2 * n+m) D)∨∃ D c,Ck n m C B D c∧r=RS true n m (2 * n) (2 * n+m) (D.del c)):=fun T4 g1 ⟨cmp,g2,g3,g4⟩=>by
   obtain ⟨r,g5,g6⟩:=RR h5 hm hn hr h1 hs d (x+1) T4 (by omega) g1
   refine ⟨r,aF.succ (fun _ _=>rfl) ?_,g6⟩
   have abx:Gv (fun N=>cond ((decide (o9 (B x) < 0)) && ((decide (o9 (B x) < 0)) && (!(decide (low < 0))))) (gz N (bA (B x)) ((LQ B m).getD low.toNat aa.d)) (some 0)) cmp:=by
    by_cases q:B x < 0∧0≤low
    ·obtain ⟨q1,q2⟩:=q
     obtain ⟨l,rfl⟩:∃ l:Nat,low=l:=⟨low.toNat,by omega⟩
     have hlm:l < m:=by have:=Hh q2;omega
     rw [g2 q1 l rfl]
     refine Gv.aR (by simp [pe,q1]) ?_
     rw [ao,fF _ _ hlm]
     exact hbx.cmp ((hB l hlm).q (show s≤MS by omega)) (J8 (by decide))
    ·rw [g3 q]
     refine Gv.bh ?_ (Gv.pure 0)
     by_cases q1:B x < 0
     ·have:low < 0:=Int.not_le.1 fun q2=>q ⟨q1,q2⟩
      simp [this]
     ·simp [pe,q1]
   have:aF (fun N g=>bF N (n:Int) (m:Int) (bA 0).fN.fG (bA 0).fN.fL (bA 0).fD.fG (bA 0).fD.fL ((2 * n+m:Nat):Int) (LN (bJ.fst n m C B 0).iy m) (LN (bJ.fst n m C B 0).fr (2 * n+1))
      (LA (bJ.fst n m C B 0).a m (2 * n+1)) (LQ B m) (LQ (bJ.fst n m C B 0).g (2 * n+1)) (g+1) low (x:Int)) r:=by
    simp only [bF]
    refine aF.aR (MQ (n:=m) tl (bK _ _)) (aF.if (inl tl (bK _ _)) ?_)
    simp only [ao,fF _ _ tl,iR,aN (show x < 9223372036854775807 by omega)]
    refine aF.bind (hbx.o9 (by decide)) (aF.if (fun _=>inl tl (bK _ _)) (aF.if (fun q=>?_) (aF.bind abx ?_)))
    ·simp at q
     rw [bK];exact ⟨by omega,Hh (by omega)⟩
    ·revert g4
     cases (cond (decide (o9 (B x) < 0)) (cond (decide (low < 0)) true (decide (cmp < 0))) false) with
     | true=>intro g4;refine aF.aR rfl ?_;simp only [cond_true] at g4;rw [g4];exact g5
     | false=>intro g4;refine aF.bh rfl ?_;simp only [cond_false] at g4;rw [g4];exact g5
   exact this
  by_cases hp:B x < 0
  ·have e1:decide (o9 (B x) < 0)=true:=decide_eq_true (pe.2 hp)
   rcases hI with ⟨rfl,hb⟩ | ⟨l,rfl,hl,hg,ue⟩
   ·refine nx x (.inr ⟨x,rfl,by omega,hp,fun r Bl=>?_⟩) ⟨0,fun _ l e=>by omega,fun _=>rfl,by rw [e1];rfl⟩
    by_cases e:r=x
    ·rw [e];exact Rat.le_refl
    ·have:=hb r (by omega);grind
   ·have e2:decide (((l:Nat):Int) < 0)=false:=by simp
    by_cases gY:B x < B l
    ·refine nx x (.inr ⟨x,rfl,by omega,hp,fun r Bl=>?_⟩) ⟨o9 (B x - B l),fun _ l' e=>by rw [show l'=l by omega],fun q=>absurd ⟨hp,by omega⟩ q,by rw [e1,e2,decide_eq_true (pe.2 (show B x - B l < 0 by grind))];rfl⟩
     by_cases e:r=x
     ·rw [e];exact Rat.le_refl
     ·have:=ue r (by omega);grind
    ·refine nx l (.inr ⟨l,rfl,by omega,hg,fun r Bl=>?_⟩) ⟨o9 (B x - B l),fun _ l' e=>by rw [show l'=l by omega],fun q=>absurd ⟨hp,by omega⟩ q,by rw [e1,e2,decide_eq_false fun q=>by have:=pe.1 q;grind];rfl⟩
     by_cases e:r=x
     ·rw [e];grind
     ·exact ue r (by omega)
  ·have e1:decide (o9 (B x) < 0)=false:=decide_eq_false fun q=>hp (pe.1 q)
   refine nx low ?_ ⟨0,fun q=>absurd q hp,fun _=>rfl,by rw [e1];rfl⟩
   rcases hI with ⟨e,hb⟩ | ⟨l,e,hl,hg,ue⟩
   ·refine .inl ⟨e,fun r h1=>?_⟩
    by_cases e2:r=x
    ·rw [e2];exact Rat.not_lt.1 hp
    ·exact hb r (by omega)
   ·refine .inr ⟨l,e,by omega,hg,fun r h1=>?_⟩
    by_cases e2:r=x
    ·rw [e2];grind
    ·exact ue r (by omega)
theorem O7 {e5:Nat} (h5:m≤e5∨2 * n+1≤e5) (hm:m≤1000) (hn:2 * n≤998) (hr:(bJ.fst n m C B 0).EJ m (2 * n+1) s) (h1:1≤s) (hs:5 * (5 ^ e5 * s)≤MS) :
  ∃ r,Gv (fun N=>mf N (n:Int) (m:Int) (bA 0).fN.fG (bA 0).fN.fL (bA 0).fD.fG (bA 0).fD.fL ((2 * n+m:Nat):Int) (LN (bJ.fst n m C B 0).iy m) (LN (bJ.fst n m C B 0).fr (2 * n+1))
    (LA (bJ.fst n m C B 0).a m (2 * n+1)) (LQ B m) (LQ (bJ.fst n m C B 0).g (2 * n+1))) r ∧
   ((∃ D,E6 n m C B D∧r=RS false n m (2 * n+1) (2 * n+m) D)∨∃ D c,Ck n m C B D c∧r=RS true n m (2 * n) (2 * n+m) (D.del c)):=by
 obtain ⟨r,h2,h3⟩:=RR h5 hm hn hr h1 hs m 0 (-1) (by omega) (.inl ⟨rfl,fun j hj=>absurd hj (dT _)⟩)
 exact ⟨r,h2.diag,h3⟩
end
end Go.Den
namespace Go.Den
open Go.Ab
structure RU (r:ab):Prop where
 len:r.e8.length≤20
 co:∀ j,IR (r.e8.getD j aa.d) 2
 bo:IR r.ni 2
structure acA (l:List ab):Prop where
 len:l.length≤60
 row:∀ i,RU (l.getD i ab.d)
theorem Wo {n:Nat}:IR aa.d n:=⟨⟨U.nil,Nat.zero_le _⟩,⟨U.nil,Nat.zero_le _⟩⟩
theorem RU.d:RU ab.d:=⟨by decide,fun j=>by
 have:(ab.d.e8.getD j aa.d)=aa.d:=by cases j<;>rfl
 rw [this];exact Wo,Wo⟩
def uJ (l:List ab) (n:Int) (i:Nat):Prop:=(((l.getD i ab.d).e8.length:Nat):Int) > n
instance (l:List ab) (n:Int) (i:Nat):Decidable (uJ l n i):=by unfold uJ;infer_instance
def re (l:List ab) (n:Int):Nat→Nat→Bool
 | 0,_=>false
 | k+1,i=>if uJ l n i then true else re l n k (i+1)
def rL (n:Int) (l:List ab):Int:=if n < 0∨n > 12 then 2 else if l.length > 40 then 8 else cond (re l n l.length 0) 11 0
theorem Ao {l:List ab} {n:Int}:∀ k i,re l n k i=false→∀ j,i≤j→j < i+k→¬ uJ l n j
 | 0,_,_,j,h1,h2=>by omega
 | k+1,i,h,j,h1,h2=>by
  rw [re] at h
  split at h
  ·cases h
  ·by_cases Pg:j=i
   ·rw [Pg];assumption
   ·exact Ao k (i+1) h j (by omega) (by omega)
theorem IL {l:List ab} {n:Int} (hl:l.length≤1000):∀ k i,i+k=l.length→∃ r,aF (fun N fuel=>cu N l n fuel (i:Int)) r∧decide (r≥0)=re l n k i
 | 0,i,hi=>⟨-1,.step 0 fun N g _ _=>by
  have:i=l.length:=by omega
  subst this
  rw [cu,ep];rfl,rfl⟩
 | k+1,i,hi=>by
  have zZ:i < l.length:=by omega
  obtain ⟨r,h1,h2⟩:=IL (n:=n) hl k (i+1) (by omega)
  have hp:Gv (fun N=>oV N (l.getD i ab.d) n) (decide (uJ l n i)):=Gv.pure _
  rw [re]
  by_cases h:uJ l n i
  ·rw [if_pos h]
   refine ⟨(i:Int),aF.succ (fun N g=>cu.eq_2 ..) (aF.aR (dec_lt zZ) (aF.if (pS zZ) (aF.bind hp (aF.aR (decide_eq_true h) (aF.one (Gv.pure _)))))),decide_eq_true (by omega)⟩
  ·rw [if_neg h]
   refine ⟨r,aF.succ (fun N g=>cu.eq_2 ..) (aF.aR (dec_lt zZ) (aF.if (pS zZ) (aF.bind hp (aF.bh (decide_eq_false h) ?_)))),h2⟩
   rw [aN (by omega)];exact h1
theorem Cl (n:Int) (l:List ab):Gv (fun N=>oC N n l) (rL n l):=by
 unfold oC rL
 have e:cond (decide (n < 0)) true (decide (n > 12))=decide (n < 0∨n > 12):=by
  by_cases h:n < 0
  ·rw [decide_eq_true h,decide_eq_true (Or.inl h)];rfl
  ·rw [decide_eq_false h,cond_false];exact decide_eq_decide.2 ⟨Or.inr,fun h2=>h2.resolve_left h⟩
 rw [e]
 by_cases h:n < 0∨n > 12
 ·rw [if_pos h];exact Gv.aR (decide_eq_true h) (Gv.pure _)
 ·rw [if_neg h]
  refine Gv.bh (decide_eq_false h) ?_
  by_cases h2:l.length > 40
  ·rw [if_pos h2];exact Gv.aR (decide_eq_true (by omega)) (Gv.pure _)
  ·rw [if_neg h2]
   obtain ⟨r,h3,h4⟩:=IL (l:=l) (n:=n) (by omega) l.length 0 (by omega)
   refine Gv.bh (decide_eq_false (by omega)) (Gv.bind (r:=decide (r≥0)) (Gv.bind h3.diag (Gv.pure _)) ?_)
   rw [h4]
   cases re l n l.length 0 with
   | true=>exact Gv.aR rfl (Gv.pure _)
   | false=>exact Gv.bh rfl (Gv.pure _)
structure Wp (n:Nat) (l:List ab):Prop where
 aer:n≤12
 len:l.length≤40
 co:∀ i,i < l.length→(l.getD i ab.d).e8.length≤n
theorem Wq {n:Int} {l:List ab} (h:rL n l=0):0≤n∧Wp n.toNat l:=by
 unfold rL at h
 split at h
 ·cases h
 ·split at h
  ·cases h
  ·cases e:re l n l.length 0 with
   | true=>rw [e] at h;cases h
   | false =>
    refine ⟨by omega,by omega,by omega,fun i hi=>?_⟩
    have:=Ao _ _ e i (Nat.zero_le _) (by omega)
    unfold uJ at this
    omega
def dF (c x:List aa):Nat→Nat→Rat→Rat
 | 0,_,a=>a
 | k+1,i,a=>dF c x k (i+1) (a+qv (c.getD i aa.d) * qv (x.getD i aa.d))
def aby (c x:List aa):Rat:=dF c x c.length 0 0
structure LB (l:List aa) (n:Nat):Prop where
 len:l.length≤60
 ir:∀ i,IR (l.getD i aa.d) n
theorem LB.rq {l:List aa} {n:Nat} (h:LB l n) (hn:1≤n) (i:Nat):RQ (l.getD i aa.d) (qv (l.getD i aa.d)) n:=⟨h.ir i,rfl,hn⟩
section
variable {c x:List aa}
end
theorem RU.lb {r:ab} (h:RU r):LB r.e8 12:=⟨by have:=h.len;omega,fun i=>(h.co i).le (by decide)⟩
def RV (l:List ab) (x:List aa) (i:Nat):Prop:=0 < aby (l.getD i ab.d).e8 x - qv (l.getD i ab.d).ni
instance (l:List ab) (x:List aa) (i:Nat):Decidable (RV l x i):=by unfold RV;infer_instance
section
variable {l:List ab} {x:List aa}
end
end Go.Den
namespace Go.Den
open Go.Ab
def yv (y:List aa) (i:Nat):Rat:=qv (y.getD i aa.d)
def cf (l:List ab) (i j:Nat):Rat:=qv ((l.getD i ab.d).e8.getD j aa.d)
def bv (l:List ab) (i:Nat):Rat:=qv (l.getD i ab.d).ni
def cS (l:List ab) (y:List aa) (j:Nat):Nat→Rat
 | 0=>0
 | i+1=>cS l y j i+yv y i * cf l i j
theorem T5:qv aa.d=0:=by decide +kernel
theorem Yl {l:List ab} {i j:Nat} (h:(l.getD i ab.d).e8.length≤j):cf l i j=0:=by
 unfold cf;rw [Cg h,T5]
section
variable {l:List ab} {y:List aa}
end
end Go.Den
namespace Go.Den
open Go.Ab
section
variable {l:List ab} {y:List aa} {n:Nat}
theorem JT {q:Rat}:(o9 q == 0)=decide (q=0):=by
 by_cases h:q=0
 ·rw [h];rfl
 ·rw [decide_eq_false h];simp;exact fun h'=>h (GO.1 h')
end
end Go.Den
namespace Go.Den
open Go.Ab
structure Cm (l:List ab):Prop where
 co:∀ i j,RQ ((l.getD i ab.d).e8.getD j aa.d) (cf l i j) 40
 bo:∀ i,RQ (l.getD i ab.d).ni (bv l i) 40
theorem wx {α:Type} (f:Nat→α) (n:Nat):Bc f n ++ [f n]=Bc f (n+1):=by
 unfold Bc;rw [List.range_succ,List.map_append];rfl
section
variable {n:Nat} {l:List ab}
abbrev D0 (n:Nat) (l:List ab):bJ:=bJ.fst n l.length (cf l) (bv l) 0
def TB (n:Nat) (l:List ab):l7 :=
 ⟨n,((l.length:Nat):Int),LN (D0 n l).iy l.length,LN (D0 n l).fr (2 * n+1),LA (D0 n l).a l.length (2 * n+1),LQ (bv l) l.length,LQ (D0 n l).g (2 * n+1),bA 0,((2 * n+l.length:Nat):Int)⟩
theorem UT (hn:n≤12):ai (2 * (n:Int))=((2 * n:Nat):Int):=by rw [aV (by omega) (by omega)];omega
theorem RX (hn:n≤12) {t t2:List Int} {t3:List (List aa)} {t4:List aa} (hl:l.length≤40) (h1:t=LN (fun j=>j) (2 * n)) (h2:t2=LN (D0 n l).iy l.length) (h3:t3=LA (D0 n l).a l.length (2 * n+1)) (h4:t4=LQ (bv l) l.length) :
  ∀ (d x:Nat) (L:List aa),x+d=2 * n+1→L.length=2 * n+1→(∀ j,j < x→L.getD j aa.d=bA 0) →
  aF (fun N g=>lg N (n:Int) l (bA 0) t t2 t3 t4 g L (x:Int)) (TB n l)
 | 0,x,L,hx,hL,h0=>by
  refine aF.succ (fun N g=>lg.eq_2 ..) (aF.bh (NZ (m:=x) (n:=2 * n+1) (by omega) (by rw [cN,UT hn,aN (by omega)];rfl)) (aF.one ((Gv.pure _).eq ?_)))
  have e1:ai (((2 * n:Nat):Int)+((l.length:Nat):Int))=((2 * n+l.length:Nat):Int):=by rw [aV (by omega) (by omega)];omega
  have e2:L=LQ (D0 n l).g (2 * n+1):=GZ aa.d hL fun j hj=>by
   rw [h0 j (by omega)];simp only [bJ.fst];split<;>rfl
  have e3:t ++ [((2 * n+l.length:Nat):Int)]=LN (D0 n l).fr (2 * n+1):=by
   have h:=wx (fun j=>(((D0 n l).fr j:Nat):Int)) (2 * n)
   have h5:(D0 n l).fr (2 * n)=2 * n+l.length:=by simp only [bJ.fst];rw [if_neg (by omega)]
   rw [h5] at h
   unfold LN
   rw [← h,h1];unfold LN
   congr 1
   exact qP fun j hj=>by simp only [bJ.fst];rw [if_pos hj]
  rw [UT hn,e1,e3,h2,h3,h4,e2];rfl
 | d+1,x,L,hx,hL,h0=>by
  have s7:x < 2 * n+1:=by omega
  refine aF.succ (fun N g=>lg.eq_2 ..) (aF.aR (MQ (n:=2 * n+1) s7 (by rw [cN,UT hn,aN (by omega)];rfl)) (aF.bind uI (aF.if (inl s7 hL) ?_)))
  rw [aN (show x < 9223372036854775807 by omega)]
  refine RX hn hl h1 h2 h3 h4 d (x+1) _ (by omega) (by rw [List.length_set];exact hL) fun j hj=>?_
  rw [ao]
  by_cases e:x=j
  ·subst e;exact kX _ _ _ _ (by omega)
  ·rw [iw _ _ _ e];exact h0 j (by omega)
theorem RY (hn:n≤12) (hl:Cm l) (NQ:l.length≤40) {i:Nat} (hi:i < l.length) (T6:(l.getD i ab.d).e8.length≤n) {t t2:List Int} {t3:List (List aa)} {t4:List aa} (h3:t3.length=i) (h4:t4.length=i) {rn:aa}:∀ (d x:Nat) (L:List aa),x+d=n→L.length=2 * n+1 →
  (∀ j,j < x→L.getD j aa.d=bA (-(cf l i j))∧L.getD (n+j) aa.d=bA (cf l i j)) →
  Ev fun N g=>∀ K,gl N (n:Int) l rn t t2 t3 t4 (i:Int) K g L (x:Int)=K (t2 ++ [((2 * n+i:Nat):Int)]) (t3 ++ [LQ ((D0 n l).a i) (2 * n+1)]) (t4 ++ [bA (bv l i)]) ((i+1:Nat):Int)
 | 0,x,L,hx,hL,h0=>by
  have Hh:=(hl.bo i).low (by decide)
  refine Ev.succ (((zP (z:=1) (by decide) (by decide)).ev.and Hh.ev).mono fun N g ⟨q1,q2⟩ K=>?_)
  have e1:ai (((2 * n:Nat):Int)+(i:Int))=((2 * n+i:Nat):Int):=by rw [aV (by omega) (by omega)];omega
  have hb:lD N ⟨((l.getD i ab.d).ni).fN,((l.getD i ab.d).ni).fD⟩=some (bA (bv l i)):=q2
  have eL:L.set (2 * n) (bA ((1:Int):Rat))=LQ ((D0 n l).a i) (2 * n+1):=by
   refine GZ aa.d (by rw [List.length_set];exact hL) fun j hj=>?_
   simp only [bJ.fst]
   by_cases e:2 * n=j
   ·rw [← e,kX _ _ _ _ (by omega),if_neg (by omega),if_neg (by omega)];rfl
   ·rw [iw _ _ _ e]
    by_cases h:j < n
    ·rw [if_pos h];exact (h0 j (by omega)).1
    ·rw [if_neg h,if_pos (by omega)]
     have:=(h0 (j - n) (by omega)).2
     rwa [show n+(j - n)=j by omega] at this
  rw [gl,show decide ((x:Int) < (n:Int))=false from decide_eq_false (by omega),cond_false,q1,cF,UT hn,ao,ao,if_pos (inl (show 2 * n < 2 * n+1 by omega) hL),if_pos (by omega),hb,cF,if_pos (by omega),e1,eL,aN (by omega)]
 | d+1,x,L,hx,hL,h0=>by
  have hxn:x < n:=by omega
  have e1:ai ((n:Int)+(x:Int))=((n+x:Nat):Int):=by rw [aV (by omega) (by omega)];omega
  have hC:RB (cf l i x) 40:=(hl.co i x).rb
  have Bb:Gv (fun N=>gk N (bA (cf l i x))) (bA (-(cf l i x))):=by
   have:=pR (hC.q (show 40≤MS by decide)).ir (by decide) (J8 (by decide));rwa [eJ] at this
  have ih:=RY hn hl NQ hi T6 h3 h4 (t:=t) (t2:=t2) (rn:=rn) d (x+1) ((L.set x (bA (-(cf l i x)))).set (n+x) (bA (cf l i x))) (by omega) (by rw [List.length_set,List.length_set];exact hL) fun j hj=>by
   by_cases e:j=x
   ·subst e
    refine ⟨?_,kX _ _ _ _ (by rw [List.length_set];omega)⟩
    rw [iw _ _ _ (by omega),kX _ _ _ _ (by omega)]
   ·rw [iw _ _ _ (show n+x≠j by omega),iw _ _ _ (show x≠j by omega),iw _ _ _ (show n+x≠n+j by omega),iw _ _ _ (show x≠n+j by omega)]
    exact h0 j (by omega)
  have fin:∀ N g K,gk N (bA (cf l i x))=some (bA (-(cf l i x)))→(gl N (n:Int) l rn t t2 t3 t4 (i:Int) K g ((L.set x (bA (-(cf l i x)))).set (n+x) (bA (cf l i x))) ((x+1:Nat):Int)=K (t2 ++ [((2 * n+i:Nat):Int)]) (t3 ++ [LQ ((D0 n l).a i) (2 * n+1)]) (t4 ++ [bA (bv l i)]) ((i+1:Nat):Int)) →
    n6 N (n:Int) l rn t t2 t3 t4 (i:Int) L (x:Int) (gl N (n:Int) l rn t t2 t3 t4 (i:Int) K g) K (bA (cf l i x))=K (t2 ++ [((2 * n+i:Nat):Int)]) (t3 ++ [LQ ((D0 n l).a i) (2 * n+1)]) (t4 ++ [bA (bv l i)]) ((i+1:Nat):Int):=fun N g K q1 q2=>by
   unfold n6
   rw [q1,cF,e1,ao,ao,if_pos (inl (show x < 2 * n+1 by omega) hL),if_pos (inl (show n+x < 2 * n+1 by omega) hL),aN (by omega)]
   exact q2
  by_cases hc:x < (l.getD i ab.d).e8.length
  ·have Hh:=(hl.co i x).low (by decide)
   refine Ev.succ (((uI.ev.and Bb.ev).and (Hh.ev.and ih)).mono fun N g ⟨⟨q1,q2⟩,q3,q4⟩ K=>?_)
   have q3':lD N ⟨(((l.getD i ab.d).e8).getD x aa.d).fN,(((l.getD i ab.d).e8).getD x aa.d).fD⟩=some (bA (cf l i x)):=q3
   rw [gl,show decide ((x:Int) < (n:Int))=true from decide_eq_true (by omega),cond_true,q1,cF,ao,ao,dec_lt hc,cond_true,if_pos (pS hc),q3',cF]
   exact fin N g K q2 (q4 K)
  ·have hz:cf l i x=0:=Yl (by omega)
   refine Ev.succ (((uI.ev.and Bb.ev).and ih).mono fun N g ⟨⟨q1,q2⟩,q4⟩ K=>?_)
   rw [gl,show decide ((x:Int) < (n:Int))=true from decide_eq_true (by omega),cond_true,q1,cF,ao,decide_eq_false (by omega),cond_false,← hz]
   exact fin N g K q2 (q4 K)
theorem RZ (hn:n≤12) (hl:Cm l) (NQ:l.length≤40) (T6:∀ i,i < l.length→(l.getD i ab.d).e8.length≤n):∀ d x,x+d=l.length →
  aF (fun N g=>jW N (n:Int) l (bA 0) (LN (fun j=>j) (2 * n)) g (LN (D0 n l).iy x) (LA (D0 n l).a x (2 * n+1)) (LQ (bv l) x) (x:Int)) (TB n l)
 | 0,x,hx=>by
  have hx:x=l.length:=by omega
  subst hx
  refine aF.succ (fun N g=>jW.eq_2 ..) (aF.bh ep ?_)
  have ew:ai (ai (2 * (n:Int))+1)=((2 * n+1:Nat):Int):=by rw [UT hn,aN (by omega)]
  rw [ew,ao]
  refine aF.if (by omega) (aF.one ?_)
  exact (RX hn NQ rfl rfl rfl rfl (2 * n+1) 0 (List.replicate (2 * n+1) aa.d) (by omega) cN fun j hj=>absurd hj (dT _)).diag
 | d+1,x,hx=>by
  have mE:x < l.length:=by omega
  have ew:ai (ai (2 * (n:Int))+1)=((2 * n+1:Nat):Int):=by rw [UT hn,aN (by omega)]
  obtain ⟨N1,h1⟩:=(RY hn hl NQ mE (T6 x mE) (t:=LN (fun j=>j) (2 * n)) (t2:=LN (D0 n l).iy x) (lM (D0 n l).a x (2 * n+1)) (bK (bv l) x) (rn:=bA 0) n 0 (List.replicate (2 * n+1) aa.d) (by omega) cN fun j hj=>absurd hj (dT _))
  obtain ⟨N2,h2⟩:=RZ hn hl NQ T6 d (x+1) (by omega)
  refine aF.succ (fun N g=>jW.eq_2 ..) (aF.aR (dec_lt mE) (aF.if (pS mE) (aF.if (by rw [fm];omega) ?_)))
  rw [ew,ao]
  refine aF.if (by omega) ⟨N1+N2,fun N g hN hg=>?_⟩
  have e1:=wx (fun i=>(((D0 n l).iy i:Nat):Int)) x
  have e2:=wx (fun i=>LQ ((D0 n l).a i) (2 * n+1)) x
  have e3:=wx (fun i=>bA (bv l i)) x
  have Sf:=h1 N N (by omega) (by omega) (jW N (n:Int) l (bA 0) (LN (fun j=>j) (2 * n)) g)
  refine Sf.trans ?_
  have h2':=h2 N g (by omega) (by omega)
  unfold LN LA LQ at h2' ⊢
  unfold LQ at e2
  rw [← e1,← e2,← e3] at h2'
  exact h2'
theorem R0 (hn:n≤12) (hl:Cm l) (NQ:l.length≤40) (T6:∀ i,i < l.length→(l.getD i ab.d).e8.length≤n):∀ d x,x+d=2 * n →
  aF (fun N g=>lh N (n:Int) l (bA 0) g (LN (fun j=>j) x) (x:Int)) (TB n l)
 | 0,x,hx=>by
  have hx:x=2 * n:=by omega
  subst hx
  refine aF.succ (fun N g=>lh.eq_2 ..) (aF.bh (by rw [UT hn];exact decide_eq_false (by omega)) (aF.if (by rw [fm];omega) (aF.one ?_)))
  exact (RZ hn hl NQ T6 l.length 0 (by omega)).diag
 | d+1,x,hx=>by
  refine aF.succ (fun N g=>lh.eq_2 ..) (aF.aR (by rw [UT hn];exact decide_eq_true (by omega)) (aF.if (by rw [fm];omega) ?_))
  have e1:=wx (fun i=>((i:Nat):Int)) x
  have ih:=R0 hn hl NQ T6 d (x+1) (by omega)
  rw [aN (by omega)]
  unfold LN at ih ⊢
  rw [← e1] at ih
  exact ih
theorem R1 (hn:n≤12) (hl:Cm l) (NQ:l.length≤40) (T6:∀ i,i < l.length→(l.getD i ab.d).e8.length≤n):Gv (fun N=>zD N (n:Int) l) (TB n l) :=
 uI.bind (R0 hn hl NQ T6 (2 * n) 0 (by omega)).diag
theorem MZ (hl:Cm l):(D0 n l).EJ l.length (2 * n+1) 40:=by
 have hC:∀ i j,RB (cf l i j) 40:=fun i j=>(hl.co i j).rb
 refine ⟨fun i j _ _=>?_,fun i _=>(hl.bo i).rb,fun j _=>?_,RB.zero.le (by decide)⟩
 ·simp only [bJ.fst]
  split
  ·exact (hC i j).neg
  ·split
   ·exact hC i _
   ·exact bJ.Yf.le (by decide)
 ·simp only [bJ.fst];split<;>exact RB.zero.le (by decide)
end
section
variable {n m k h s:Nat} {D:bJ}
theorem N9 (hm:m≤1000) (hn:n≤400) (hk:k≤1000) (hs:s≤MS) (hw:D.WF m k) (hg:∀ j,j < k→RB (D.g j) s):∀ (d x:Nat) (L:List aa),x+d=m→L.length=m→(∀ i,i < x→L.getD i aa.d=bA (-(D.gc k (2 * n+i)))) →
  aF (fun N g=>bR N (n:Int) (m:Int) (bA D.v).fN.fG (bA D.v).fN.fL (bA D.v).fD.fG (bA D.v).fD.fL (h:Int) (LN D.iy m) (LN D.fr k) (LA D.a m k) (LQ D.b m) (LQ D.g k) g L (x:Int)) (LQ (fun i=>-(D.gc k (2 * n+i))) m)
 | 0,x,L,hx,hL,h0=>aF.succ (fun N g=>bR.eq_2 ..) (aF.bh (NZ (m:=x) (n:=m) (by omega) (by rw [cN];rfl)) (aF.one ((Gv.pure _).eq (GZ aa.d hL fun i hi=>h0 i (by omega)))))
 | d+1,x,L,hx,hL,h0=>by
  have tl:x < m:=by omega
  have ew:ai (ai (2 * (n:Int))+(x:Int))=((2 * n+x:Nat):Int):=by
   rw [show ai (2 * (n:Int))=((2 * n:Nat):Int) by rw [aV (by omega) (by omega)];omega,aV (by omega) (by omega)];omega
  obtain ⟨r,q1,q2⟩:=JS (f:=D.fr) (k:=k) (v:=2 * n+x) hk
  have nx:∀ (y:aa),y=bA (-(D.gc k (2 * n+x)))→∀ L2:List aa,L2=L.set x y→aF (fun N g=>bR N (n:Int) (m:Int) (bA D.v).fN.fG (bA D.v).fN.fL (bA D.v).fD.fG (bA D.v).fD.fL (h:Int) (LN D.iy m) (LN D.fr k) (LA D.a m k) (LQ D.b m) (LQ D.g k) g L2 ((x+1:Nat):Int)) (LQ (fun i=>-(D.gc k (2 * n+i))) m):=fun y hy L2 e2=>by
   subst e2
   refine N9 hm hn hk hs hw hg d (x+1) _ (by omega) (by rw [List.length_set];exact hL) fun i hi=>?_
   by_cases e:x=i
   ·subst e;rw [kX _ _ _ _ (by omega)];exact hy
   ·rw [iw _ _ _ e];exact h0 i (by omega)
  refine aF.succ (fun N g=>bR.eq_2 ..) (aF.aR (MQ (n:=m) tl (by rw [cN];rfl)) (aF.bind uI (aF.if (inl tl hL) ?_)))
  rw [ew]
  refine aF.bind q1 ?_
  simp only [fg,ao,aN (show x < 9223372036854775807 by omega)]
  rcases q2 with ⟨rfl,q2⟩ | ⟨j,rfl,hj,q2⟩
  ·exact aF.bh (by decide) (nx _ (by rw [bJ.JQ q2];rfl) _ rfl)
  ·have hgj:=hg j hj
   refine aF.aR (by simp) (aF.if (inl hj (bK _ _)) ?_)
   simp only [fF _ _ hj,ao,List.set_set]
   refine aF.bind (r:=bA (-(D.g j))) (by have:=pR (hgj.q hs).ir (by decide) (J8 (by decide));rwa [eJ] at this) (aF.if (inl tl (by rw [List.length_set];exact hL)) ?_)
   exact nx _ (by rw [← q2,bJ.Ry hw hj]) _ rfl
theorem T7 (hm:m≤1000) (hn:n≤400) (hk:k≤1000) (hs:s≤MS) (hw:D.WF m k) (hg:∀ j,j < k→RB (D.g j) s) :
  Gv (fun N=>jE N (n:Int) (m:Int) (bA D.v).fN.fG (bA D.v).fN.fL (bA D.v).fD.fG (bA D.v).fD.fL (h:Int) (LN D.iy m) (LN D.fr k) (LA D.a m k) (LQ D.b m) (LQ D.g k)) (LQ (fun i=>-(D.gc k (2 * n+i))) m) :=
 Gv.if (by omega) (N9 hm hn hk hs hw hg m 0 (List.replicate m aa.d) (by omega) cN fun i hi=>absurd hi (dT _)).diag
def Cu (D:bJ) (m u:Nat):Rat:=match D.Pr m u with
 | some i=>D.b i
 | none=>0
theorem Oa (D:bJ) (m k u:Nat):Cu D m u=D.ext m k bJ.uq u:=by
 unfold Cu bJ.ext
 cases D.Pr m u with
 | none=>rfl
 | some i=>simp only [bJ.s6]
theorem UU (hm:m≤1000) (hw:∀ i i',i < m→i' < m→D.iy i=D.iy i'→i=i') (u:Nat) :
  Gv (fun N=>nM N (u:Int) (n:Int) (m:Int) (bA D.v).fN.fG (bA D.v).fN.fL (bA D.v).fD.fG (bA D.v).fD.fL (h:Int) (LN D.iy m) (LN D.fr k) (LA D.a m k) (LQ D.b m) (LQ D.g k)) (bA (Cu D m u)):=by
 obtain ⟨r,q1,q2⟩:=JS (f:=D.iy) (k:=m) (v:=u) hm
 refine Gv.bind q1 ?_
 rcases q2 with ⟨rfl,q2⟩ | ⟨i,rfl,hi,q2⟩
 ·refine Gv.bh (by decide) (uI.bind ((Gv.pure _).eq ?_))
  unfold Cu;rw [bJ.Ch q2]
 ·refine Gv.aR (by simp) (Gv.if (inl hi (bK _ _)) ((Gv.pure _).eq ?_))
  simp only [ao,fF _ _ hi]
  unfold Cu;rw [← q2,bJ.E1 hw hi]
theorem LC (hm:m≤1000) (hn:n≤400) (hs:2 * s+1≤MS) (hw:∀ i i',i < m→i' < m→D.iy i=D.iy i'→i=i') (hp:∀ u,RB (Cu D m u) s):∀ (d x:Nat) (L:List aa),x+d=n→L.length=n→(∀ i,i < x→L.getD i aa.d=bA (Cu D m i - Cu D m (n+i))) →
  aF (fun N g=>eA N (n:Int) (m:Int) (bA D.v).fN.fG (bA D.v).fN.fL (bA D.v).fD.fG (bA D.v).fD.fL (h:Int) (LN D.iy m) (LN D.fr k) (LA D.a m k) (LQ D.b m) (LQ D.g k) g L (x:Int)) (LQ (fun i=>Cu D m i - Cu D m (n+i)) n)
 | 0,x,L,hx,hL,h0=>aF.succ (fun N g=>eA.eq_2 ..) (aF.bh (NZ (m:=x) (n:=n) (by omega) (by rw [cN];rfl)) (aF.one ((Gv.pure _).eq (GZ aa.d hL fun i hi=>h0 i (by omega)))))
 | d+1,x,L,hx,hL,h0=>by
  have hxn:x < n:=by omega
  have ew:ai ((n:Int)+(x:Int))=((n+x:Nat):Int):=by rw [aV (by omega) (by omega)];omega
  have r1:=(hp x).q (show s≤MS by omega)
  have r2:=(hp (n+x)).q (show s≤MS by omega)
  refine aF.succ (fun N g=>eA.eq_2 ..) (aF.aR (MQ (n:=n) hxn (by rw [cN];rfl)) (aF.bind (UU hm hw x) ?_))
  rw [ew]
  refine aF.bind (UU hm hw (n+x)) (aF.bind (r1.sub r2 (J8 (by decide))) (aF.if (inl hxn hL) ?_))
  rw [aN (show x < 9223372036854775807 by omega),ao]
  refine LC hm hn hs hw hp d (x+1) _ (by omega) (by rw [List.length_set];exact hL) fun i hi=>?_
  by_cases e:x=i
  ·subst e;exact kX _ _ _ _ (by omega)
  ·rw [iw _ _ _ e];exact h0 i (by omega)
theorem R2 (hm:m≤1000) (hn:n≤400) (hs:2 * s+1≤MS) (hw:∀ i i',i < m→i' < m→D.iy i=D.iy i'→i=i') (hp:∀ u,RB (Cu D m u) s) :
  Gv (fun N=>nm N (n:Int) (m:Int) (bA D.v).fN.fG (bA D.v).fN.fL (bA D.v).fD.fG (bA D.v).fD.fL (h:Int) (LN D.iy m) (LN D.fr k) (LA D.a m k) (LQ D.b m) (LQ D.g k)) (LQ (fun i=>Cu D m i - Cu D m (n+i)) n) :=
 Gv.if (by omega) (LC hm hn hs hw hp n 0 (List.replicate n aa.d) (by omega) cN fun i hi=>absurd hi (dT _)).diag
end
end Go.Den
namespace Go.Den
open Go.Ab
section
variable {n:Nat} {l:List ab}
structure Oc (q:Nat) (n:Nat) (l:List ab) (y:Nat→Rat):Prop where
 nn:∀ i,i < l.length→0≤y i
 Ym:∀ j,j < n→bG l.length (fun i=>y i * cf l i j)=0
 neg:bG l.length (fun i=>y i * bv l i) < 0
 rb:∀ i,i < l.length→RB (y i) q
structure Wr (q:Nat) (n:Nat) (l:List ab) (x:Nat→Rat):Prop where
 ok:∀ i,i < l.length→bJ.x6 n (cf l) x i≤bv l i
 rb:∀ j,j < n→RB (x j) q
variable {e5:Nat}
abbrev ZZ (e5:Nat):Nat:=5 ^ e5 * 40
theorem Zf (e5:Nat):40≤ZZ e5:=Nat.le_mul_of_pos_left _ (Nat.pow_pos (by decide))
theorem JU {D:bJ} (hl:Cm l) (h5:l.length≤e5∨2 * n+1≤e5) (h:E6 n l.length (cf l) (bv l) D):Oc (ZZ e5) n l (fun i=>-(D.gc (2 * n+1) (2 * n+i)))∧∀ j,j < 2 * n+1→RB (D.g j) (ZZ e5):=by
 obtain ⟨q1,q2,q3⟩:=bJ.Yi h.wf h.eqv h.g
 have hr:=bJ.Lx h5 h.wf (bJ.GV n l.length (cf l) (bv l) (-1)) h.eqv (N8 (-1) (bJ.Yf.neg.le (by decide)) (MZ hl)) (by decide:1≤40)
 have hp:=Zf e5
 refine ⟨⟨fun i _=>by have:=q1 (2 * n+i);grind,q2,by rw [q3];exact h.v,fun i _=>?_⟩,fun j hj=>hr.g j hj⟩
 by_cases e:∃ j,j < 2 * n+1∧D.fr j=2 * n+i
 ·obtain ⟨j,hj,e⟩:=e
  rw [← e,bJ.Ry h.wf hj];exact (hr.g j hj).neg
 ·rw [bJ.JQ fun j hj q=>e ⟨j,hj,q⟩];exact RB.zero.neg.le (eZ (by decide) hp)
theorem HG {D:bJ} {c:Nat} (hl:Cm l) (h5:l.length≤e5∨2 * n+1≤e5) (h:Ck n l.length (cf l) (bv l) D c):Wr (2 * ZZ e5+1) n l (fun j=>Cu D l.length j - Cu D l.length (n+j))∧∀ u,RB (Cu D l.length u) (ZZ e5):=by
 obtain ⟨z,he⟩:=h.eqv
 -- the goal does not matter
 have hr:∀ i,i < l.length→RB (D.b i) (ZZ e5):=fun i hi=>by
  have e0:bJ.Ct l.length (2 * n+1) (bJ.fst n l.length (cf l) (bv l) 0) { D with g:=fun j=>if D.fr j=2 * n+l.length then 0 else 0,v:=0 }:=⟨fun x=>by
   rw [← bJ.Ly n l.length (cf l) (bv l) z D x he];exact Iff.rfl,fun x _=>by
   rw [bJ.Rz];unfold bJ.gv
   rw [aY (g:=fun _=>0) fun j _=>by simp,kY];grind⟩
  have hw:bJ.WF { D with g:=fun j=>if D.fr j=2 * n+l.length then 0 else 0,v:=0 } l.length (2 * n+1):=⟨h.wf.bi,h.wf.fi,h.wf.bf,h.wf.bl,h.wf.fl,h.wf.al⟩
  exact ((bJ.Lx h5 hw (bJ.GV n l.length (cf l) (bv l) 0) e0 (MZ hl) (by decide:1≤40)).b i hi)
 have hp:∀ u,RB (Cu D l.length u) (ZZ e5):=fun u=>by
  by_cases e:∃ i,i < l.length∧D.iy i=u
  ·obtain ⟨i,hi,e⟩:=e
   unfold Cu;rw [← e,bJ.E1 h.wf.bi hi];exact hr i hi
  ·unfold Cu;rw [bJ.Ch fun i hi q=>e ⟨i,hi,q⟩];exact RB.zero.le (eZ (by decide) (Zf e5))
 refine ⟨⟨fun i hi=>?_,fun j _=>((hp j).sub (hp (n+j))).le (by omega)⟩,hp⟩
 have hs:=(bJ.Ly n l.length (cf l) (bv l) z D _ he).1 (bJ.sZ h.wf bJ.uq)
 have hs:=(bJ.E3 n l.length (cf l) (bv l) 0 _).1 hs i hi
 have h0:D.ext l.length (2 * n+1) bJ.uq (2 * n+l.length)=0:=by rw [← h.fr,bJ.vp h.wf h.lt];rfl
 have P2:=bJ.DA h.wf h.fea (2 * n+i) (by omega)
 rw [h0] at hs
 have e:(fun j=>Cu D l.length j - Cu D l.length (n+j))=fun j=>D.ext l.length (2 * n+1) bJ.uq j - D.ext l.length (2 * n+1) bJ.uq (n+j):=by
  funext j;rw [Oa D _ (2 * n+1),Oa D _ (2 * n+1)]
 rw [e]
 grind
theorem JV (D:bJ) (c m u:Nat):Cu (D.del c) m u=Cu D m u:=by
 have e:∀ m,bJ.Pr (D.del c) m u=bJ.Pr D m u:=fun m=>by
  induction m with
  | zero=>rfl
  | succ m ih=>rw [bJ.Pr,bJ.Pr,ih];rfl
 unfold Cu;rw [e];rfl
theorem DW (hn:n≤12) (hl:Cm l) (NQ:l.length≤40) (h5:l.length≤e5∨2 * n+1≤e5) (hs:5 * ZZ e5≤MS) (hc:rL n l=0) :
  (∃ y,Oc (ZZ e5) n l y∧Gv (fun N=>n9 N (n:Int) l) ([],LQ y l.length,29))∨∃ x,Wr (2 * ZZ e5+1) n l x∧Gv (fun N=>n9 N (n:Int) l) (LQ x n,[],0):=by
 obtain ⟨_,ok⟩:=Wq hc
 rw [ao] at ok
 have hb:=R1 (n:=n) hn hl NQ ok.co
 obtain ⟨r,q1,q2⟩:=O7 (n:=n) (m:=l.length) (C:=cf l) (B:=bv l) (s:=40) (e5:=e5) h5 (by omega) (by omega) (MZ hl) (by decide) hs
 have yk:(rL (n:Int) l != 0)=false:=by rw [hc];rfl
 rcases q2 with ⟨D,q2,rfl⟩ | ⟨D,c,q2,rfl⟩
 ·obtain ⟨g1,g2⟩:=JU hl h5 q2
  refine .inl ⟨_,g1,(Cl _ _).bind (Gv.bh yk (hb.bind (q1.bind ?_)))⟩
  simp only [RS,TB,fm,lM,bK]
  refine Gv.if trivial (Gv.if trivial (Gv.if trivial (Gv.aR rfl ((T7 (by omega) (by omega) (by omega) (by omega:ZZ e5≤MS) q2.wf g2).bind (Gv.pure _)))))
 ·obtain ⟨g1,g2⟩:=HG hl h5 q2
  refine .inr ⟨_,g1,(Cl _ _).bind (Gv.bh yk (hb.bind (q1.bind ?_)))⟩
  simp only [RS,TB,fm,lM,bK]
  have hp:=Zf e5
  have:=R2 (n:=n) (k:=2 * n) (h:=2 * n+l.length) (D:=D.del c) (m:=l.length) (by omega) (by omega) (s:=ZZ e5) (by omega) q2.wf.bi (fun u=>by rw [JV];exact g2 u)
  have e:LQ (fun j=>Cu (D.del c) l.length j - Cu (D.del c) l.length (n+j)) n=LQ (fun j=>Cu D l.length j - Cu D l.length (n+j)) n:=rJ fun j _=>by rw [JV,JV]
  rw [e] at this
  exact Gv.if trivial (Gv.if trivial (Gv.if trivial (Gv.bh rfl (this.bind (Gv.pure _)))))
end
end Go.Den
namespace Go.Den
open Go.Ab
def zS (s:ByteArray) (m:Nat):Bool :=
 cond (!(cond (cond (decide (jI s m≥97)) (decide (jI s m≤122)) false) true (cond (decide (jI s m≥65)) (decide (jI s m≤90)) false))) (cond ((m:Int) == 0) true (!(cond (cond (decide (jI s m≥48)) (decide (jI s m≤57)) false) true (jI s m == 45)))) false
def xt (s:ByteArray):Bool :=
 cond (cond (lU s ByteArray.empty) true (decide (((s.size:Nat):Int) > 12))) false (scan (fun m=>cond (zS s m) (some false) none) true s.size 0)
theorem LD (s:ByteArray):lU s ByteArray.empty=decide (((s.size:Nat):Int) < 1):=by
 rw [Bool.eq_iff_iff,OU,decide_eq_true_eq]
 constructor
 ·rintro rfl;decide
 ·intro h
  have:s.size=0:=by omega
  cases s with | mk d => 
  have:d.size=0:=this
  simp [Array.size_eq_zero_iff.1 this];rfl
theorem R3 {N:Nat} (hN:12 < N) (s:ByteArray):oE N s=some (xt s):=by
 unfold oE xt
 cases h:cond (lU s ByteArray.empty) true (decide (((s.size:Nat):Int) > 12))
 ·have hs:s.size≤12:=by
   cases h2:lU s ByteArray.empty<;>rw [h2] at h<;>simp at h;omega
  refine tX (L:=fun fuel=>gI N s fuel) _ _ (by omega) (fun fuel m hm=>?_) (fun fuel=>?_)
  ·simp only [gI,dec_lt hm,cond_true,if_pos (pS hm),aN (show m < 9223372036854775807 by omega),ao]
   show cond (zS s m) _ _=_
   cases zS s m<;>rfl
  ·simp only [gI,ep,cond_false]
 ·rfl
theorem O8 {N:Nat} (hN:12 < N) (s:ByteArray):tF N s=some (xt s):=by
 unfold tF xt
 rw [LD]
 cases h:cond (decide (((s.size:Nat):Int) < 1)) true (decide (((s.size:Nat):Int) > 12))
 ·have hs:s.size≤12:=by
   cases h2:decide (((s.size:Nat):Int) < 1)<;>rw [h2] at h<;>simp at h;omega
  refine tX (L:=fun fuel=>kb N s fuel) _ _ (by omega) (fun fuel m hm=>?_) (fun fuel=>?_)
  ·simp only [kb,zA,dec_lt hm,cond_true,if_pos (pS hm),aN (show m < 9223372036854775807 by omega),ao]
   have e:zS s m=cond (!(cond (cond (decide (jI s m≥97)) (decide (jI s m≤122)) false) true (cond (decide (jI s m≥65)) (decide (jI s m≤90)) false))) (cond ((m:Int) == 0) true (cond (jI s m != 45) (cond (decide (jI s m < 48)) true (decide (jI s m > 57))) false)) false:=by
    unfold zS
    generalize jI s m=b
    rw [Bool.eq_iff_iff]
    simp [Bool.cond_eq_ite]
    omega
   rw [← e]
   cases zS s m<;>rfl
  ·simp only [kb,zA,ep,cond_false]
 ·rfl
end Go.Den
namespace Go.Den
open Go.Ab
def fK (x:ae):Int :=
 if -1000000≤x.iz∧x.iz≤1000000∧-1000000≤x.jo∧x.jo≤1000000∧-1000000≤x.bV∧x.bV≤1000000∧-1000000≤x.ct∧x.ct≤1000000∧1≤x.cY∧x.cY≤1000000000 then
  if x.iz=x.bV∧x.jo=x.ct then 9 else 0
 else 2
theorem JW (N:Nat) (x:ae):lv N x=some (fK x):=by
 unfold lv ef fK
 simp only [cF,zL,aD]
 simp only [Bool.cond_eq_ite]
 generalize x.iz=a,x.jo=b,x.bV=c,x.ct=d,x.cY=e
 simp
 split<;>split<;>try omega
 all_goals split<;>simp_all<;>try omega
theorem M0 (N:Nat) (x:ae):mP N x=some (fK x):=by
 unfold mP gr fK
 simp only [cF,zL,aD]
 simp only [Bool.cond_eq_ite]
 generalize x.iz=a,x.jo=b,x.bV=c,x.ct=d,x.cY=e
 simp
 split<;>split<;>try omega
 all_goals split<;>simp_all<;>try omega
def zT (l:List ae) (m:Nat):Bool:=scan (fun k=>cond (lU (l.getD k ae.d).eC (l.getD m ae.d).eC) (some true) none) false m 0
def rM (l:List ae) (m:Nat):Option Int :=
 cond (!xt (l.getD m ae.d).eC) (some 4) (cond (zT l m) (some 5) (cond (fK (l.getD m ae.d) != 0) (some (fK (l.getD m ae.d))) none))
def fH (l:List ae):Int:=cond (decide (((l.length:Nat):Int) > 12)) 8 (scan (rM l) 0 l.length 0)
theorem HH {N:Nat} (l:List ae) (m:Nat) (hm:m < l.length) (hN:l.length < N) (hl:l.length≤12):cC N ((l.take m).drop 0) (l.getD m ae.d)=some (zT l m):=by
 have hlen:((l.take m).drop 0).length=m:=by simp;omega
 have e:cT N ((l.take m).drop 0) (l.getD m ae.d)=some (scan (fun k=>cond (lU (l.getD k ae.d).eC (l.getD m ae.d).eC) (some (k:Int)) none) (-1) m 0):=by
  unfold cT
  refine tX (L:=fun fuel=>bm N ((l.take m).drop 0) (l.getD m ae.d) fuel) _ _ (by omega) (fun fuel k hk=>?_) (fun fuel=>?_)
  ·simp only [bm,hlen,dec_lt hk,cond_true,if_pos (pS hk),aN (show k < 9223372036854775807 by omega),ao,OV l m k _ hk,lu,fh,cF]
   cases lU (l.getD k ae.d).eC (l.getD m ae.d).eC<;>rfl
  ·simp only [bm,hlen,ep,cond_false]
 unfold cC
 rw [e,cF,Gz]
 rfl
theorem HI {N:Nat} (hN:13 < N) (l:List ae):gB N l=some (fH l):=by
 unfold gB mi fH
 cases h:decide (((l.length:Nat):Int) > 12)
 ·have hl:l.length≤12:=by simp at h;omega
  have e:dq N l N 0=some (scan (rM l) 0 l.length 0):=by
   refine tX (L:=fun fuel=>dq N l fuel) _ _ (by omega) (fun fuel m hm=>?_) (fun fuel=>?_)
   ·simp only [dq,dec_lt hm,cond_true,if_pos (pS hm),aN (show m < 9223372036854775807 by omega),ao,fh,cF,R3 (show 12 < N by omega),HH l m hm (show l.length < N by omega) hl,JW,
     if_pos (show 0≤m∧m≤l.length from ⟨Nat.zero_le _,by omega⟩),if_pos (show 0≤(m:Int) from Int.natCast_nonneg _)]
    unfold rM
    cases xt (l.getD m ae.d).eC<;>cases zT l m<;>cases (fK (l.getD m ae.d) != 0)<;>rfl
   ·simp only [dq,ep,cond_false]
  rw [cond_false,cond_false,e];rfl
 ·rfl
theorem LF {N:Nat} (hN:13 < N) (l:List ae):jb N l=some (fH l):=by
 unfold jb fH
 cases h:decide (((l.length:Nat):Int) > 12)
 ·have hl:l.length≤12:=by simp at h;omega
  rw [cond_false,cond_false]
  refine tX (L:=fun fuel=>eP N l fuel) _ _ (by omega) (fun fuel m hm=>?_) (fun fuel=>?_)
  ·have e:∀ K,dZ N l (m:Int) K N 0=scan (fun k=>cond (lU (l.getD k ae.d).eC (l.getD m ae.d).eC) (some (some 5)) none) (cond (fK (l.getD m ae.d) != 0) (some (fK (l.getD m ae.d))) (K ((m+1:Nat):Int))) m 0:=fun K=>by
    refine KY (L:=fun fuel=>dZ N l (m:Int) K fuel) _ _ (by omega) (fun fuel k hk=>?_) (fun fuel=>?_)
    ·simp only [dZ,dec_lt hk,cond_true,if_pos (pS (show k < l.length by omega)),if_pos (pS hm),aN (show k < 9223372036854775807 by omega),ao]
     cases lU (l.getD k ae.d).eC (l.getD m ae.d).eC<;>rfl
    ·simp only [dZ,ep,cond_false,if_pos (pS hm),ao,M0,cF,aN (show m < 9223372036854775807 by omega)]
   simp only [eP,dec_lt hm,cond_true,if_pos (pS hm),ao,O8 (show 12 < N by omega),cF,e]
   rw [Iy]
   unfold rM zT
   cases xt (l.getD m ae.d).eC<;>cases scan (fun k=>cond (lU (l.getD k ae.d).eC (l.getD m ae.d).eC) (some true) none) false m 0<;>cases (fK (l.getD m ae.d) != 0)<;>rfl
  ·simp only [eP,ep,cond_false]
 ·rfl
end Go.Den
namespace Go.Den
open Go.Ab
theorem DB (N:Nat) (l:ae) (D:Nat) (hD:(ai ((ai ((ai (l.bV - l.iz)) * (ai (l.bV - l.iz))))+(ai ((ai (l.ct - l.jo)) * (ai (l.ct - l.jo))))))=(D:Int)) :
  ∀ (k m fuel R:Nat),m+k=23→k < fuel→2 ^ k ∣ R→R < 2 ^ 23→R * R < D→D≤(R+2 ^ k) * (R+2 ^ k)→∃ n:Nat,gq N l fuel (R:Int) (m:Int)=some ((n+1:Nat):Int)∧n * n < D∧D≤(n+1) * (n+1)
 | 0,m,fuel,R,hm,hf,hd,hR,h1,h2=>by
  obtain ⟨g,rfl⟩:∃ g,fuel=g+1:=⟨fuel - 1,by omega⟩
  refine ⟨R,?_,h1,by simpa using h2⟩
  have:¬ ((m:Int) < 23):=by omega
  simp only [gq,this,decide_false,cond_false,aN (show R < 9223372036854775807 by omega)]
 | k+1,m,fuel,R,hm,hf,hd,hR,h1,h2=>by
  obtain ⟨g,rfl⟩:∃ g,fuel=g+1:=⟨fuel - 1,by omega⟩
  have hk:k≤22:=by omega
  have hp:2 ^ k≤2 ^ 22:=Nat.pow_le_pow_right (by omega) hk
  have e22:ai (22 - (m:Int))=(k:Int):=by rw [aV (by omega) (by omega)];omega
  obtain ⟨q,rfl⟩:=hd
  have Zg:2 ^ (k+1)=2 * 2 ^ k:=by rw [Nat.pow_succ];omega
  have hor:2 ^ (k+1) * q ||| 2 ^ k=2 ^ (k+1) * q+2 ^ k:=(Nat.two_pow_add_eq_or_of_lt (Nat.pow_lt_pow_right (by omega) (by omega)) q).symm
  have hq:q < 2 ^ (22 - k):=by
   have e:2 ^ 23=2 ^ (k+1) * 2 ^ (22 - k):=by rw [← Nat.pow_add];congr 1;omega
   rw [e] at hR
   exact Nat.lt_of_mul_lt_mul_left hR
  have hle:2 ^ (k+1) * q+2 ^ (k+1)≤2 ^ 23:=by
   have e:2 ^ 23=2 ^ (k+1) * 2 ^ (22 - k):=by rw [← Nat.pow_add];congr 1;omega
   rw [e,← Nat.mul_succ]
   exact Nat.mul_le_mul_left _ hq
  generalize hRR:2 ^ (k+1) * q=R at *
  have ec:tw .i64 (R:Int) (hO .i64 1 (k:Int))=((R+2 ^ k:Nat):Int):=by
   rw [Q4 (by omega),TG (by omega) (by omega),hor]
  have hc:(R+2 ^ k) * (R+2 ^ k)≤2 ^ 23 * 2 ^ 23:=Nat.mul_le_mul (by omega) (by omega)
  have ecc:ai (((R+2 ^ k:Nat):Int) * ((R+2 ^ k:Nat):Int))=(((R+2 ^ k) * (R+2 ^ k):Nat):Int):=by
   rw [← Int.natCast_mul];exact zK (by omega)
  have DZ:(m:Int) < 23:=by omega
  simp only [gq,DZ,decide_true,cond_true,e22,if_pos (Int.natCast_nonneg k),ec,ecc,hD,mO,aN (show m < 9223372036854775807 by omega)]
  by_cases gY:(R+2 ^ k) * (R+2 ^ k) < D
  ·rw [show decide ((((R+2 ^ k) * (R+2 ^ k):Nat):Int) < (D:Int))=true from decide_eq_true (by exact_mod_cast gY),cond_true]
   refine DB N l D hD k (m+1) g (R+2 ^ k) (by omega) (by omega) ?_ (by omega) gY ?_
   ·rw [← hRR,Zg,Nat.mul_assoc]
    exact ⟨2 * q+1,by rw [Nat.mul_add,Nat.mul_one,Nat.mul_left_comm]⟩
   ·have:R+2 ^ k+2 ^ k=R+2 ^ (k+1):=by omega
    rw [this];exact h2
  ·rw [show decide ((((R+2 ^ k) * (R+2 ^ k):Nat):Int) < (D:Int))=false from decide_eq_false (by exact_mod_cast gY),cond_false]
   refine DB N l D hD k (m+1) g R (by omega) (by omega) ?_ hR h1 (by omega)
   rw [← hRR,Zg,Nat.mul_assoc]
   exact ⟨2 * q,by rw [Nat.mul_left_comm]⟩
theorem vq {x:ae} (h:fK x=0):-1000000≤x.iz∧x.iz≤1000000∧-1000000≤x.jo∧x.jo≤1000000∧-1000000≤x.bV∧x.bV≤1000000∧-1000000≤x.ct∧x.ct≤1000000∧¬ (x.iz=x.bV∧x.jo=x.ct):=by
 unfold fK at h
 split at h
 ·split at h
  ·cases h
  ·omega
 ·cases h
theorem JX {N:Nat} (hN:23 < N) (l:ae) (h:fK l=0) :
  ∃ n:Nat,qg N l=some ((n+1:Nat):Int)∧(n:Int) * n < (l.bV - l.iz) * (l.bV - l.iz)+(l.ct - l.jo) * (l.ct - l.jo) ∧
   (l.bV - l.iz) * (l.bV - l.iz)+(l.ct - l.jo) * (l.ct - l.jo)≤((n:Int)+1) * (n+1)∧n < 3000000 ∧
   (l.bV - l.iz) * (l.bV - l.iz)≤4000000000000∧(l.ct - l.jo) * (l.ct - l.jo)≤4000000000000:=by
 obtain ⟨a1,a2,a3,a4,a5,a6,a7,a8,a9⟩:=vq h
 have hX:=UP (x:=l.bV - l.iz) (M:=2000000) (by omega) (by omega)
 have hY:=UP (x:=l.ct - l.jo) (M:=2000000) (by omega) (by omega)
 have hX0:=sq_nonneg (l.bV - l.iz)
 have hY0:=sq_nonneg (l.ct - l.jo)
 have Ls:0 < (l.bV - l.iz) * (l.bV - l.iz)+(l.ct - l.jo) * (l.ct - l.jo):=by
  by_cases hx:l.bV - l.iz=0
  ·have hy:l.ct - l.jo≠0:=by omega
   have:(l.ct - l.jo) * (l.ct - l.jo)≠0:=Int.mul_ne_zero hy hy
   omega
  ·have:(l.bV - l.iz) * (l.bV - l.iz)≠0:=Int.mul_ne_zero hx hx
   omega
 have e1:ai (l.bV - l.iz)=l.bV - l.iz:=aV (by omega) (by omega)
 have e2:ai (l.ct - l.jo)=l.ct - l.jo:=aV (by omega) (by omega)
 generalize hXX:(l.bV - l.iz) * (l.bV - l.iz)=XX at *
 generalize hYY:(l.ct - l.jo) * (l.ct - l.jo)=YY at *
 have e3:ai XX=XX:=aV (by omega) (by omega)
 have e4:ai YY=YY:=aV (by omega) (by omega)
 have e5:ai (XX+YY)=XX+YY:=aV (by omega) (by omega)
 obtain ⟨n,h1,h2,h3⟩:=DB N l (XX+YY).toNat (by rw [e1,e2,hXX,hYY,e3,e4,e5];omega) 23 0 N 0 rfl hN ⟨0,rfl⟩ (by decide) (by omega) (by omega)
 refine ⟨n,h1,?_,?_,?_,by omega,by omega⟩
 ·have:((n * n:Nat):Int) < ((XX+YY).toNat:Int):=by exact_mod_cast h2
  rw [Int.natCast_mul] at this;omega
 ·have:((XX+YY).toNat:Int)≤(((n+1) * (n+1):Nat):Int):=by exact_mod_cast h3
  rw [Int.natCast_mul] at this;simp at this ⊢;omega
 ·apply Nat.lt_of_not_le
  intro hn
  have:=Nat.mul_le_mul hn hn
  omega
end Go.Den
namespace Go.Den
open Go.Ab
def LG (z:Int):Prop:=-9223372036854775808≤z∧z≤9223372036854775807
theorem DC {z:Int} (h:LG z):Gv (fun N=>sP N z) (bA (z:Rat)):=(Hc h.1 h.2).bind (X8.bind ((Gv.pure _).eq rfl))
theorem RB.one:RB 1 1:=RB.int (z:=1) (ZB.small (by decide)) (by decide)
theorem er {z:Int} (h:LG z):RB (z:Rat) 4:=RB.int (ZB.word h.1 h.2) (by decide)
theorem Ws {z:Int} (h:LG z):Gv (fun N=>wX N z) (ya z):=NT h.1 h.2
theorem O9 {z:Int} (h:LG z):Gv (fun N=>qH N (ya z)) (bA (z:Rat)):=(ZB.word h.1 h.2).zi.whole (by decide) (by decide)
end Go.Den
namespace Go.Den
open Go.Ab
theorem JY {m n:Nat} {D:Int} (h1:(m:Int) * m < D) (h2:D≤((m:Int)+1) * (m+1)) (h3:(n:Int) * n < D) (h4:D≤((n:Int)+1) * (n+1)):m=n:=by
 have key:∀ {a b:Nat},(a:Int) * a < D→D≤((b:Int)+1) * (b+1)→a≤b:=by
  intro a b h h'
  apply Nat.le_of_not_lt
  intro gY
  have:=Nat.mul_le_mul (show b+1≤a by omega) (show b+1≤a by omega)
  have e:(((b+1) * (b+1):Nat):Int)≤((a * a:Nat):Int):=by exact_mod_cast this
  rw [Int.natCast_mul,Int.natCast_mul] at e
  simp only [Int.natCast_add,Int.natCast_one] at e
  omega
 exact Nat.le_antisymm (key h1 h4) (key h3 h2)
theorem Be (N:Nat) (l:ae) (D:Nat) (hD:(ai ((ai ((ai (l.bV - l.iz)) * (ai (l.bV - l.iz))))+(ai ((ai (l.ct - l.jo)) * (ai (l.ct - l.jo))))))=(D:Int)) :
  ∀ (k fuel R st:Nat),k < fuel→st=2 ^ k / 2→R+2 ^ k≤2 ^ 23→R * R < D→D≤(R+2 ^ k) * (R+2 ^ k)→∃ n:Nat,jk N l fuel (R:Int) (st:Int)=some ((n+1:Nat):Int)∧n * n < D∧D≤(n+1) * (n+1)
 | 0,fuel,R,st,hf,Bk,hR,h1,h2=>by
  obtain ⟨g,rfl⟩:∃ g,fuel=g+1:=⟨fuel - 1,by omega⟩
  have:st=0:=by rw [Bk]
  subst this
  refine ⟨R,?_,h1,by simpa using h2⟩
  rw [jk,decide_eq_false (by omega),cond_false,aN (by omega)]
 | k+1,fuel,R,st,hf,Bk,hR,h1,h2=>by
  obtain ⟨g,rfl⟩:∃ g,fuel=g+1:=⟨fuel - 1,by omega⟩
  have Zg:2 ^ (k+1)=2 * 2 ^ k:=by rw [Nat.pow_succ];omega
  have YA:0 < 2 ^ k:=Nat.pow_pos (by decide)
  have:st=2 ^ k:=by rw [Bk,Zg];omega
  subst this
  have hc:(R+2 ^ k) * (R+2 ^ k)≤2 ^ 23 * 2 ^ 23:=Nat.mul_le_mul (by omega) (by omega)
  have e1:ai ((R:Int)+((2 ^ k:Nat):Int))=((R+2 ^ k:Nat):Int):=by rw [← Int.natCast_add];exact zK (by omega)
  have ecc:ai (((R+2 ^ k:Nat):Int) * ((R+2 ^ k:Nat):Int))=(((R+2 ^ k) * (R+2 ^ k):Nat):Int):=by
   rw [← Int.natCast_mul];exact zK (by omega)
  have e2:ai ((((2 ^ k:Nat):Int)).tdiv 2)=((2 ^ k / 2:Nat):Int):=by
   have:(((2 ^ k:Nat):Int)).tdiv 2=((2 ^ k / 2:Nat):Int):=rfl
   rw [this];exact zK (by omega)
  rw [jk,decide_eq_true (by omega),cond_true]
  simp only [e1,ecc,hD,oG,e2]
  by_cases gY:(R+2 ^ k) * (R+2 ^ k) < D
  ·rw [decide_eq_true (by exact_mod_cast gY),cond_true]
   refine Be N l D hD k g (R+2 ^ k) _ (by omega) rfl (by omega) gY ?_
   have:R+2 ^ k+2 ^ k=R+2 ^ (k+1):=by omega
   rw [this];exact h2
  ·rw [decide_eq_false (by exact_mod_cast gY),cond_false]
   exact Be N l D hD k g R _ (by omega) rfl (by omega) h1 (by omega)
theorem R4 {N:Nat} (hN:24 < N) (l:ae) (h:fK l=0) :
  ∃ n:Nat,tH N l=some ((n+1:Nat):Int)∧(n:Int) * n < (l.bV - l.iz) * (l.bV - l.iz)+(l.ct - l.jo) * (l.ct - l.jo) ∧
   (l.bV - l.iz) * (l.bV - l.iz)+(l.ct - l.jo) * (l.ct - l.jo)≤((n:Int)+1) * (n+1):=by
 obtain ⟨a1,a2,a3,a4,a5,a6,a7,a8,a9⟩:=vq h
 obtain ⟨n0,-,b1,b2,-,b3,b4⟩:=JX (N:=24) (by omega) l h
 have hX0:=sq_nonneg (l.bV - l.iz)
 have hY0:=sq_nonneg (l.ct - l.jo)
 have Sb:(0:Int)≤(n0:Int) * n0:=sq_nonneg _
 have e1:ai (l.bV - l.iz)=l.bV - l.iz:=aV (by omega) (by omega)
 have e2:ai (l.ct - l.jo)=l.ct - l.jo:=aV (by omega) (by omega)
 generalize hXX:(l.bV - l.iz) * (l.bV - l.iz)=XX at *
 generalize hYY:(l.ct - l.jo) * (l.ct - l.jo)=YY at *
 have e3:ai XX=XX:=aV (by omega) (by omega)
 have e4:ai YY=YY:=aV (by omega) (by omega)
 have e5:ai (XX+YY)=XX+YY:=aV (by omega) (by omega)
 obtain ⟨n,h1,h2,h3⟩:=Be N l (XX+YY).toNat (by rw [e1,e2,hXX,hYY,e3,e4,e5];omega) 23 N 0 4194304 (by omega) (by decide) (by decide) (by omega) (by omega)
 refine ⟨n,h1,?_,?_⟩
 ·have:((n * n:Nat):Int) < ((XX+YY).toNat:Int):=by exact_mod_cast h2
  rw [Int.natCast_mul] at this;omega
 ·have:((XX+YY).toNat:Int)≤(((n+1) * (n+1):Nat):Int):=by exact_mod_cast h3
  rw [Int.natCast_mul] at this;simp at this ⊢;omega
def t3 (a b c:Rat):aw:=⟨bA a,bA b,bA c⟩
theorem mX {z:Int} (h:LG z):Gv (fun N=>dR N z) (bA (z:Rat)):=Gv.bind (Ws h) (Gv.bind (O9 h) (Gv.pure _))
def px (l:ae) (s:Int):Rat:=(l.cY:Rat) / (s:Rat) * ((l.bV - l.iz:Int):Rat)
def py (l:ae) (s:Int):Rat:=(l.cY:Rat) / (s:Rat) * ((l.ct - l.jo:Int):Rat)
def pt (l:ae) (s:Int):Rat:=(l.iz:Rat) * py l s - (l.jo:Rat) * px l s
theorem IM {x:ae} (h:fK x=0):1≤x.cY∧x.cY≤1000000000:=by
 unfold fK at h
 split at h
 ·omega
 ·cases h
theorem EK {z:Int} (h:z.natAbs≤9000000000000000000):LG z:=⟨by omega,by omega⟩
structure R5 (l:ae) (x y t:Rat):Prop where
 rx:RB x 40
 ry:RB y 40
 rt:RB t 40
 code:Gv (fun N=>lx N l) (t3 x y t)
 doc:Gv (fun N=>qL N l) (t3 x y t)
def gS (w:dE):Int :=
 if -1000000000≤w.iz∧w.iz≤1000000000∧-1000000000≤w.jo∧w.jo≤1000000000∧-1000000000000000≤w.jJ∧w.jJ≤1000000000000000 then 0 else 2
theorem JZ (N:Nat) (w:dE):ik N w=some (gS w):=by
 unfold ik ef qh gS
 simp only [cF,zL,aD]
 simp only [Bool.cond_eq_ite]
 generalize w.iz=a,w.jo=b,w.jJ=c
 simp
 split<;>split<;>try omega
 all_goals simp_all<;>try omega
theorem M1 (N:Nat) (w:dE):kU N w=some (gS w):=by
 unfold kU gr gS
 simp only [cF,zL,aD]
 simp only [Bool.cond_eq_ite]
 generalize w.iz=a,w.jo=b,w.jJ=c
 simp
 split<;>split<;>try omega
 all_goals simp_all<;>try omega
theorem Bf {w:dE} (h:gS w=0):LG w.iz∧LG w.jo∧LG w.jJ:=by
 unfold gS at h
 split at h
 ·exact ⟨EK (by omega),EK (by omega),EK (by omega)⟩
 ·cases h
theorem G3 {w:dE} (h:gS w=0):Gv (fun N=>mZ N w) (t3 w.iz w.jo w.jJ):=by
 obtain ⟨a,b,c⟩:=Bf h
 exact Gv.bind (mX a) (Gv.bind (mX b) (Gv.bind (mX c) (Gv.pure _)))
def zr:aa:=⟨⟨false,[]⟩,⟨false,[]⟩⟩
theorem UW:IB ⟨false,[]⟩ 1:=⟨(fun x h=>by cases h),by decide⟩
theorem G4:RQ zr 0 1:=⟨⟨UW,UW⟩,by decide,by decide⟩
theorem Yn (p:Rat):o9 (p - 0)=o9 p:=by rw [show p - 0=p by grind]
structure Yo (l:List aa):Prop where
 ir:∀ i,i < l.length→IR (l.getD i aa.d) 12
theorem Yo.rq {l:List aa} (h:Yo l) {i:Nat} (hi:i < l.length):RQ (l.getD i aa.d) (qv (l.getD i aa.d)) 12:=⟨h.ir i hi,rfl,by decide⟩
theorem T8:RB ((1:Int):Rat) 1:=RB.one
theorem w1:LG 1:=EK (by decide)
def sm (l:List ae) (X Y T:Nat→Rat):Prop:=∀ i,i < l.length→R5 (l.getD i ae.d) (X i) (Y i) (T i)
section
variable {l:List ae} {X Y T:Nat→Rat} {pa:List aa}
def pv (pa:List aa) (i:Nat):Rat:=qv (pa.getD i aa.d)
def qQ (X Y T:Nat→Rat) (pa:List aa):Nat→Nat→Rat→Rat→Rat→Bool
 | 0,_,a,b,c=>cond (o9 a == 0) (cond (o9 b == 0) (o9 c == 0) false) false
 | k+1,i,a,b,c=>cond (cond (decide (o9 (pv pa i) < 0)) true (decide (o9 (pv pa i - ((1:Int):Rat)) > 0))) false (qQ X Y T pa k (i+1) (a+pv pa i * X i) (b+pv pa i * Y i) (c+pv pa i * T i))
def jO (pa:List aa) (a b c:Rat):Rat:=((((0:Int):Rat)+pv pa 0 * a)+pv pa 1 * b)+pv pa 2 * c
theorem w0:LG 0:=EK (by decide)
theorem Wt:RB ((0:Int):Rat) 1:=RB.zero
def qt (X Y T:Nat→Rat) (pa:List aa):Nat→Nat→Rat→Bool
 | 0,_,s=>decide (o9 s < 0)
 | k+1,i,s=>qt X Y T pa k (i+1) (cond (decide (o9 (jO pa (X i) (Y i) (T i)) > 0)) (s+jO pa (X i) (Y i) (T i)) s)
end
end Go.Den
namespace Go.Den
open Go.Ab
structure M3 (z:Nat) (l:List aa):Prop where
 one:1≤z
 top:z≤100000000000
 rq:∀ {i:Nat},i < l.length→RQ (l.getD i aa.d) (qv (l.getD i aa.d)) z
theorem wy {x:aa} {p:Rat} {n:Nat} (h:RQ x p n) (hn:n≤4000000000000):Gv (fun N=>gz N x zr) (o9 p) :=
 (h.cmp G4 (by simp only [SM];omega)).eq (Yn p)
section
variable {l:List ae} {X Y T:Nat→Rat} {pa:List aa} {z:Nat}
theorem IP (hl:l.length≤14) (hq:sm l X Y T) (hp:M3 z pa) (hlen:pa.length=l.length):∀ (k i m:Nat) (a b c:Rat),i+k=l.length→RB a m→RB b m→RB c m→1≤m→m+k * (z+60)≤4000000000000 →
  aF (fun N fuel=>gM N l pa fuel (t3 a b c) (i:Int)) (qQ X Y T pa k i a b c)
 | 0,i,m,a,b,c,hi,ha,hb,hc,h1,hm=>by
  have SD:=hp.one
  have Sl:=hp.top
  have:i=l.length:=by omega
  subst this
  refine aF.succ (fun N g=>gM.eq_2 ..) (aF.bh ep (aF.one (Gv.bind (wy (ha.rq h1) (by omega)) ?_)))
  unfold qQ
  cases ea:o9 a == 0 with
  | false=>exact Gv.aR (by simpa using ea) (Gv.pure _)
  | true =>
   refine Gv.bh (by simpa using ea) (Gv.bind (wy (hb.rq h1) (by omega)) ?_)
   cases eb:o9 b == 0 with
   | false=>exact Gv.aR (by simpa using eb) (Gv.pure _)
   | true =>
    refine Gv.bh (by simpa using eb) (Gv.bind (wy (hc.rq h1) (by omega)) ?_)
    cases ec:o9 c == 0 with
    | false=>exact Gv.aR (by simpa using ec) (Gv.pure _)
    | true=>exact Gv.bh (by simpa using ec) (Gv.pure _)
 | k+1,i,m,a,b,c,hi,ha,hb,hc,h1,hm=>by
  rw [Nat.succ_mul] at hm
  have SD:=hp.one
  have Sl:=hp.top
  have zZ:i < l.length:=by omega
  have WS:i < pa.length:=by omega
  have r:=hp.rq WS
  have q:=hq i zZ
  have rb:=r.rb
  refine aF.succ (fun N g=>gM.eq_2 ..) (aF.aR (dec_lt zZ) (aF.if (pS zZ) (aF.if (pS WS) ?_)))
  rw [ao,aN (by omega)]
  refine aF.bind (wy r (by omega)) (aF.if (fun _=>pS WS) ?_)
  unfold qQ
  change aF _ (cond (cond (decide (o9 (qv (pa.getD i aa.d)) < 0)) true (decide (o9 (qv (pa.getD i aa.d) - ((1:Int):Rat)) > 0))) false (qQ X Y T pa k (i+1) (a+qv (pa.getD i aa.d) * X i) (b+qv (pa.getD i aa.d) * Y i) (c+qv (pa.getD i aa.d) * T i)))
  cases en:decide (o9 (qv (pa.getD i aa.d)) < 0) with
  | true=>exact aF.bind (Gv.bh rfl (Gv.pure _)) (aF.bind (Gv.bh rfl (Gv.pure _)) (aF.aR rfl (aF.one (Gv.pure _))))
  | false =>
   refine aF.bind (Gv.aR rfl (mX w1)) (aF.bind (Gv.aR rfl (r.cmp (T8.rq (by decide)) (by simp only [SM];omega))) ?_)
   cases eg:decide (o9 (qv (pa.getD i aa.d) - ((1:Int):Rat)) > 0) with
   | true=>exact aF.aR rfl (aF.one (Gv.pure _))
   | false =>
    refine aF.bh rfl (aF.bind q.code ?_)
    have mx:=rb.mul q.rx
    have my:=rb.mul q.ry
    have mt:=rb.mul q.rt
    refine aF.bind (r.mul (q.rx.rq (by decide)) (by simp only [SM];omega)) (aF.bind ((ha.rq h1).add (mx.rq (by omega)) (by simp only [SM];omega)) ?_)
    refine aF.bind (r.mul (q.ry.rq (by decide)) (by simp only [SM];omega)) (aF.bind ((hb.rq h1).add (my.rq (by omega)) (by simp only [SM];omega)) ?_)
    refine aF.bind (r.mul (q.rt.rq (by decide)) (by simp only [SM];omega)) (aF.bind ((hc.rq h1).add (mt.rq (by omega)) (by simp only [SM];omega)) ?_)
    exact IP hl hq hp hlen k (i+1) (m+(z+60)) _ _ _ (by omega) ((ha.add mx).le (by omega)) ((hb.add my).le (by omega)) ((hc.add mt).le (by omega)) (by omega) (by omega)
theorem IQ (hp:M3 z pa) (hlen:pa.length=3) {a b c:Rat} (ha:RB a 40) (hb:RB b 40) (hc:RB c 40):RB (jO pa a b c) (3 * z+160):=by
 have SD:=hp.one
 have Sl:=hp.top
 have r0:=(hp.rq (i:=0) (by omega)).rb
 have r1:=(hp.rq (i:=1) (by omega)).rb
 have r2:=(hp.rq (i:=2) (by omega)).rb
 exact (((Wt.add (r0.mul ha)).add (r1.mul hb)).add (r2.mul hc)).le (by omega)
theorem Cn (hp:M3 z pa) (hlen:pa.length=3) {a b c:Rat} (ha:RB a 40) (hb:RB b 40) (hc:RB c 40):Gv (fun N=>l3 N (t3 a b c) pa) (bA (jO pa a b c)):=by
 have SD:=hp.one
 have Sl:=hp.top
 have q0:=hp.rq (i:=0) (by omega)
 have q1:=hp.rq (i:=1) (by omega)
 have q2:=hp.rq (i:=2) (by omega)
 have m0:=q0.rb.mul ha
 have m1:=q1.rb.mul hb
 have m2:=q2.rb.mul hc
 have s0:=Wt.add m0
 have s1:=s0.add m1
 refine Gv.bind (mX w0) (Gv.if ⟨by omega,by omega⟩ ?_)
 refine Gv.bind (q0.mul (ha.rq (by decide)) (by simp only [SM];omega)) (Gv.bind ((Wt.rq (by decide)).add (m0.rq (by omega)) (by simp only [SM];omega)) (Gv.if ⟨by omega,by omega⟩ ?_))
 refine Gv.bind (q1.mul (hb.rq (by decide)) (by simp only [SM];omega)) (Gv.bind ((s0.rq (by omega)).add (m1.rq (by omega)) (by simp only [SM];omega)) (Gv.if ⟨by omega,by omega⟩ ?_))
 exact Gv.bind (q2.mul (hc.rq (by decide)) (by simp only [SM];omega)) (Gv.bind ((s1.rq (by omega)).add (m2.rq (by omega)) (by simp only [SM];omega)) (Gv.pure _))
theorem Bg (hl:l.length≤14) (hq:sm l X Y T) (hp:M3 z pa) (hlen:pa.length=3):∀ (k i m:Nat) (s:Rat),i+k=l.length→RB s m→1≤m→m+k * (3 * z+200)≤4000000000000 →
  aF (fun N fuel=>eT N l pa fuel (bA s) (i:Int)) (qt X Y T pa k i s)
 | 0,i,m,s,hi,hs,h1,hm=>by
  have SD:=hp.one
  have Sl:=hp.top
  have:i=l.length:=by omega
  subst this
  exact aF.succ (fun N g=>eT.eq_2 ..) (aF.bh ep (aF.one (Gv.bind (wy (hs.rq h1) (by omega)) (Gv.pure _))))
 | k+1,i,m,s,hi,hs,h1,hm=>by
  rw [Nat.succ_mul] at hm
  have SD:=hp.one
  have Sl:=hp.top
  have zZ:i < l.length:=by omega
  have q:=hq i zZ
  have ra:=IQ hp hlen q.rx q.ry q.rt
  refine aF.succ (fun N g=>eT.eq_2 ..) (aF.aR (dec_lt zZ) (aF.if (pS zZ) ?_))
  rw [ao]
  refine aF.bind q.code (aF.bind (Cn hp hlen q.rx q.ry q.rt) (aF.bind (wy (ra.rq (by omega)) (by omega)) ?_))
  unfold qt
  cases eg:decide (o9 (jO pa (X i) (Y i) (T i)) > 0) with
  | true =>
   refine aF.aR rfl (aF.bind ((hs.rq h1).add (ra.rq (by omega)) (by simp only [SM];omega)) ?_)
   unfold jF
   rw [aN (by omega)]
   exact Bg hl hq hp hlen k (i+1) (m+(3 * z+200)) _ (by omega) ((hs.add ra).le (by omega)) (by omega) (by omega)
  | false =>
   refine aF.bh rfl ?_
   unfold jF
   rw [aN (by omega)]
   exact Bg hl hq hp hlen k (i+1) (m+(3 * z+200)) _ (by omega) (hs.le (by omega)) (by omega) (by omega)
end
end Go.Den
namespace Go.Den
open Go.Ab
theorem x7 {α:Type} (a b:List α) (d:α) {i:Nat} (h:i < a.length):(a ++ b).getD i d=a.getD i d:=by simp [fB,iH h]
theorem EL {α:Type} (a b:List α) (d:α) {i:Nat} (k:Nat) (h:i=a.length+k):(a ++ b).getD i d=b.getD k d:=by
 subst h;simp [fB,jS]
def EM (n i:Nat) (q:Rat):List aa:=(List.replicate n aa.d).set i (bA q)
theorem E7 (n i:Nat) (q:Rat):(EM n i q).length=n:=by simp [EM]
theorem E8 {n i j:Nat} {q:Rat} (hi:i < n):qv ((EM n i q).getD j aa.d)=if j=i then q else 0:=by
 unfold EM
 by_cases h:j=i
 ·subst h;rw [if_pos rfl,kX _ _ _ _ (by simpa using hi),eJ]
 ·rw [if_neg h,iw _ _ _ (fun e=>h e.symm)]
  by_cases hj:j < n
  ·rw [show (List.replicate n aa.d).getD j aa.d=aa.d by simp [fB,List.getElem?_replicate,hj]];exact T5
  ·rw [Cg (by simp;omega)];exact T5
def oO (n:Nat):Nat→List ab
 | 0=>[]
 | x+1=>oO n x ++ [⟨EM n x ((1:Int):Rat),bA ((1:Int):Rat)⟩,⟨EM n x ((-1:Int):Rat),zr⟩]
def nZ (n:Nat) (f:Nat→Rat) (w:Rat):List ab:=[⟨LQ f n,bA (0 - w)⟩,⟨LQ (fun i=>0 - f i) n,bA w⟩]
def fz (n:Nat) (X Y T:Nat→Rat) (a b c:Rat):List ab:=((oO n n ++ nZ n X a) ++ nZ n Y b) ++ nZ n T c
theorem cK (n:Nat):∀ x,(oO n x).length=2 * x
 | 0=>rfl
 | x+1=>by rw [oO,kH,cK n x];simp;omega
theorem IS (n:Nat):∀ x i,i < x→(oO n x).getD (2 * i) ab.d=⟨EM n i ((1:Int):Rat),bA ((1:Int):Rat)⟩∧(oO n x).getD (2 * i+1) ab.d=⟨EM n i ((-1:Int):Rat),zr⟩
 | x+1,i,h=>by
  rw [oO]
  by_cases e:i=x
  ·subst e
   rw [EL _ _ _ 0 (by rw [cK];omega),EL _ _ _ 1 (by rw [cK])]
   exact ⟨rfl,rfl⟩
  ·rw [x7 _ _ _ (by rw [cK];omega),x7 _ _ _ (by rw [cK];omega)]
   exact IS n x i (by omega)
section
variable {n:Nat} {X Y T:Nat→Rat} {a b c:Rat}
theorem zU:(fz n X Y T a b c).length=2 * n+6:=by simp [fz,nZ,cK]
theorem Oe {i:Nat} (h:i < n):(fz n X Y T a b c).getD (2 * i) ab.d=⟨EM n i ((1:Int):Rat),bA ((1:Int):Rat)⟩∧(fz n X Y T a b c).getD (2 * i+1) ab.d=⟨EM n i ((-1:Int):Rat),zr⟩:=by
 unfold fz
 rw [x7 _ _ _ (by simp [nZ,cK];omega),x7 _ _ _ (by simp [nZ,cK];omega),x7 _ _ _ (by simp [cK];omega),x7 _ _ _ (by simp [nZ,cK];omega),x7 _ _ _ (by simp [nZ,cK];omega),x7 _ _ _ (by simp [cK];omega)]
 exact IS n n i h
theorem Fa:(fz n X Y T a b c).getD (2 * n) ab.d=⟨LQ X n,bA (0 - a)⟩∧(fz n X Y T a b c).getD (2 * n+1) ab.d=⟨LQ (fun i=>0 - X i) n,bA a⟩:=by
 unfold fz
 rw [x7 _ _ _ (by simp [nZ,cK]),x7 _ _ _ (by simp [nZ,cK]),EL _ _ _ 0 (by simp [cK]),x7 _ _ _ (by simp [nZ,cK]),x7 _ _ _ (by simp [nZ,cK]),EL _ _ _ 1 (by simp [cK])]
 exact ⟨rfl,rfl⟩
theorem Fb:(fz n X Y T a b c).getD (2 * n+2) ab.d=⟨LQ Y n,bA (0 - b)⟩∧(fz n X Y T a b c).getD (2 * n+3) ab.d=⟨LQ (fun i=>0 - Y i) n,bA b⟩:=by
 unfold fz
 rw [x7 _ _ _ (by simp [nZ,cK]),EL _ _ _ 0 (by simp [nZ,cK]),x7 _ _ _ (by simp [nZ,cK]),EL _ _ _ 1 (by simp [nZ,cK])]
 exact ⟨rfl,rfl⟩
theorem Fc:(fz n X Y T a b c).getD (2 * n+4) ab.d=⟨LQ T n,bA (0 - c)⟩∧(fz n X Y T a b c).getD (2 * n+5) ab.d=⟨LQ (fun i=>0 - T i) n,bA c⟩:=by
 unfold fz
 rw [EL _ _ _ 0 (by simp [nZ,cK]),EL _ _ _ 1 (by simp [nZ,cK])]
 exact ⟨rfl,rfl⟩
theorem Ps {i j:Nat} (h:i < n):cf (fz n X Y T a b c) (2 * i) j=(if j=i then 1 else 0)∧cf (fz n X Y T a b c) (2 * i+1) j=(if j=i then -1 else 0)∧bv (fz n X Y T a b c) (2 * i)=1∧bv (fz n X Y T a b c) (2 * i+1)=0:=by
 unfold cf bv
 rw [(Oe h).1,(Oe h).2]
 refine ⟨?_,?_,?_,?_⟩
 ·show qv ((EM n i _).getD j _)=_;rw [E8 h];rfl
 ·show qv ((EM n i _).getD j _)=_;rw [E8 h];rfl
 ·exact eJ _
 ·exact T5
theorem Zh {j:Nat} (h:j < n):cf (fz n X Y T a b c) (2 * n) j=X j∧cf (fz n X Y T a b c) (2 * n+1) j=0 - X j∧bv (fz n X Y T a b c) (2 * n)=0 - a∧bv (fz n X Y T a b c) (2 * n+1)=a:=by
 unfold cf bv
 rw [Fa.1,Fa.2]
 refine ⟨?_,?_,eJ _,eJ _⟩
 ·show qv ((LQ X n).getD j _)=_;rw [fF _ _ h,eJ]
 ·show qv ((LQ (fun i=>0 - X i) n).getD j _)=_;rw [fF _ _ h,eJ]
theorem cfY {j:Nat} (h:j < n):cf (fz n X Y T a b c) (2 * n+2) j=Y j∧cf (fz n X Y T a b c) (2 * n+3) j=0 - Y j:=by
 unfold cf
 rw [Fb.1,Fb.2]
 refine ⟨?_,?_⟩
 ·show qv ((LQ Y n).getD j _)=_;rw [fF _ _ h,eJ]
 ·show qv ((LQ (fun i=>0 - Y i) n).getD j _)=_;rw [fF _ _ h,eJ]
theorem cfT {j:Nat} (h:j < n):cf (fz n X Y T a b c) (2 * n+4) j=T j∧cf (fz n X Y T a b c) (2 * n+5) j=0 - T j:=by
 unfold cf
 rw [Fc.1,Fc.2]
 refine ⟨?_,?_⟩
 ·show qv ((LQ T n).getD j _)=_;rw [fF _ _ h,eJ]
 ·show qv ((LQ (fun i=>0 - T i) n).getD j _)=_;rw [fF _ _ h,eJ]
theorem bvH:bv (fz n X Y T a b c) (2 * n)=0 - a∧bv (fz n X Y T a b c) (2 * n+1)=a∧bv (fz n X Y T a b c) (2 * n+2)=0 - b∧bv (fz n X Y T a b c) (2 * n+3)=b∧bv (fz n X Y T a b c) (2 * n+4)=0 - c∧bv (fz n X Y T a b c) (2 * n+5)=c:=by
 unfold bv
 rw [Fa.1,Fa.2,Fb.1,Fb.2,Fc.1,Fc.2]
 exact ⟨eJ _,eJ _,eJ _,eJ _,eJ _,eJ _⟩
theorem KR (g:Nat→Rat):∀ x,bG (2 * x) g=bG x fun i=>g (2 * i)+g (2 * i+1)
 | 0=>rfl
 | x+1=>by rw [show 2 * (x+1)=2 * x+1+1 by omega,bG,bG,KR g x,bG];grind
theorem G5 {n:Nat} {f g:Nat→Rat} (h:∀ i,i < n→f i≤g i):bG n f≤bG n g:=by
 induction n with
 | zero=>exact Rat.le_refl
 | succ n ih=>rw [bG,bG];have:=ih fun i hi=>h i (by omega);have:=h n (by omega);grind
theorem LH {x:Nat→Rat} {q:Nat} (h:Wr q n (fz n X Y T a b c) x) :
  (∀ i,i < n→0≤x i∧x i≤1)∧a+bG n (fun j=>x j * X j)=0∧b+bG n (fun j=>x j * Y j)=0∧c+bG n (fun j=>x j * T j)=0:=by
 have ok:∀ r,r < 2 * n+6→bG n (fun j=>cf (fz n X Y T a b c) r j * x j)≤bv (fz n X Y T a b c) r:=fun r hr=>h.ok r (by rw [zU];exact hr)
 have key:∀ {r s:Nat} {f:Nat→Rat} {w:Rat},r < 2 * n+6→s < 2 * n+6→(∀ j,j < n→cf (fz n X Y T a b c) r j=f j∧cf (fz n X Y T a b c) s j=0 - f j)→bv (fz n X Y T a b c) r=0 - w→bv (fz n X Y T a b c) s=w→w+bG n (fun j=>x j * f j)=0:=by
  intro r s f w hr hs hc b1 b2
  have h1:=ok r hr
  have h2:=ok s hs
  rw [b1,aY (g:=fun j=>x j * f j) fun j hj=>by rw [(hc j hj).1];grind] at h1
  rw [b2,aY (g:=fun j=>(-1) * (x j * f j)) fun j hj=>by rw [(hc j hj).2];grind,jP] at h2
  grind
 obtain ⟨b1,b2,b3,b4,b5,b6⟩:=bvH (n:=n) (X:=X) (Y:=Y) (T:=T) (a:=a) (b:=b) (c:=c)
 refine ⟨fun i hi=>?_,key (by omega) (by omega) (fun j hj=>⟨(Zh hj).1,(Zh hj).2.1⟩) b1 b2,key (by omega) (by omega) (fun j hj=>cfY hj) b3 b4,key (by omega) (by omega) (fun j hj=>cfT hj) b5 b6⟩
 have h1:=ok (2 * i) (by omega)
 have h2:=ok (2 * i+1) (by omega)
 rw [(Ps (j:=0) hi).2.2.1,iV hi _ fun j hj fx=>by rw [(Ps hi).1,if_neg fx];grind,(Ps hi).1,if_pos rfl] at h1
 rw [(Ps (j:=0) hi).2.2.2,iV hi _ fun j hj fx=>by rw [(Ps hi).2.1,if_neg fx];grind,(Ps hi).2.1,if_pos rfl] at h2
 constructor<;>grind
def T9 (v:Rat):Rat:=if 0 < v then v else 0
theorem M4 {y:Nat→Rat} {q:Nat} (h:Oc q n (fz n X Y T a b c) y) :
  let p:=y (2 * n+1) - y (2 * n);let r:=y (2 * n+3) - y (2 * n+2);let s:=y (2 * n+5) - y (2 * n+4)
  (p * a+r * b+s * c)+bG n (fun j=>T9 (p * X j+r * Y j+s * T j)) < 0:=by
 intro p r s
 have nn:∀ i,i < 2 * n+6→0≤y i:=fun i hi=>h.nn i (by rw [zU];exact hi)
 have Ym:=h.Ym
 have neg:=h.neg
 rw [zU] at Ym neg
 have tail:∀ g:Nat→Rat,bG (2 * n+6) g=bG n (fun i=>g (2 * i)+g (2 * i+1))+(g (2 * n)+g (2 * n+1)+g (2 * n+2)+g (2 * n+3)+g (2 * n+4)+g (2 * n+5)):=fun g=>by
  rw [show 2 * n+6=2 * n+1+1+1+1+1+1 by omega,bG,bG,bG,bG,bG,bG,KR];grind
 obtain ⟨b1,b2,b3,b4,b5,b6⟩:=bvH (n:=n) (X:=X) (Y:=Y) (T:=T) (a:=a) (b:=b) (c:=c)
 rw [tail,b1,b2,b3,b4,b5,b6,aY (g:=fun i=>y (2 * i)) fun i hi=>by rw [(Ps (j:=0) hi).2.2.1,(Ps (j:=0) hi).2.2.2];grind] at neg
 have hj:∀ j,j < n→T9 (p * X j+r * Y j+s * T j)≤y (2 * j):=fun j hj=>by
  have h1:=Ym j hj
  rw [tail,(Zh hj).1,(Zh hj).2.1,(cfY hj).1,(cfY hj).2,(cfT hj).1,(cfT hj).2,iV hj _ fun i hi fx=>by rw [(Ps hi).1,(Ps hi).2.1,if_neg (Ne.symm fx),if_neg (Ne.symm fx)];grind,(Ps hj).1,(Ps hj).2.1,if_pos rfl,if_pos rfl] at h1
  have n1:=nn (2 * j) (by omega)
  have n2:=nn (2 * j+1) (by omega)
  unfold T9
  split
  ·show (y (2 * n+1) - y (2 * n)) * X j+(y (2 * n+3) - y (2 * n+2)) * Y j+(y (2 * n+5) - y (2 * n+4)) * T j≤_
   grind
  ·exact n1
 have:=G5 hj
 show ((y (2 * n+1) - y (2 * n)) * a+(y (2 * n+3) - y (2 * n+2)) * b+(y (2 * n+5) - y (2 * n+4)) * c)+_ < 0
 grind
end
end Go.Den
namespace Go.Den
open Go.Ab
theorem zV (k i:Nat) (g:Nat→Rat):bG (k+1) (fun j=>g (i+j))=g i+bG k fun j=>g (i+1+j):=by
 rw [show k+1=1+k by omega,uH]
 have e:bG 1 (fun j=>g (i+j))=g i:=by show 0+g (i+0)=_;rw [Nat.add_zero];grind
 rw [e]
 congr 1
 exact aY fun j _=>by rw [show i+(1+j)=i+1+j by omega]
section
variable {X Y T:Nat→Rat} {pa:List aa}
theorem ua:∀ (k i:Nat) (a b c:Rat),qQ X Y T pa k i a b c=true↔(∀ j,i≤j→j < i+k→0≤pv pa j∧pv pa j≤1) ∧
  a+bG k (fun j=>pv pa (i+j) * X (i+j))=0∧b+bG k (fun j=>pv pa (i+j) * Y (i+j))=0∧c+bG k (fun j=>pv pa (i+j) * T (i+j))=0
 | 0,i,a,b,c=>by
  unfold qQ
  rw [JT,JT,JT]
  show cond (decide (a=0)) (cond (decide (b=0)) (decide (c=0)) false) false=true↔_∧a+0=0∧b+0=0∧c+0=0
  rw [show a+0=a by grind,show b+0=b by grind,show c+0=c by grind]
  by_cases h1:a=0<;>by_cases h2:b=0<;>by_cases h3:c=0<;>simp [h1,h2,h3]<;>omega
 | k+1,i,a,b,c=>by
  unfold qQ
  rw [zV k i fun j=>pv pa j * X j,zV k i fun j=>pv pa j * Y j,zV k i fun j=>pv pa j * T j]
  have e1:(o9 (pv pa i) < 0)↔pv pa i < 0:=pe
  have e2:(o9 (pv pa i - ((1:Int):Rat)) > 0)↔1 < pv pa i:=by
   rw [show (o9 (pv pa i - ((1:Int):Rat)) > 0)=(0 < o9 (pv pa i - ((1:Int):Rat))) from rfl,Ce]
   show 0 < pv pa i - (1:Rat)↔_
   constructor<;>intro h<;>grind
  by_cases h1:pv pa i < 0
  ·rw [decide_eq_true (e1.2 h1)]
   refine ⟨fun h=>by simp at h,fun h=>?_⟩
   have:=(h.1 i (az _) (by omega)).1
   grind
  ·rw [decide_eq_false fun q=>h1 (e1.1 q)]
   by_cases h2:1 < pv pa i
   ·rw [decide_eq_true (e2.2 h2)]
    refine ⟨fun h=>by simp at h,fun h=>?_⟩
    have:=(h.1 i (az _) (by omega)).2
    grind
   ·rw [decide_eq_false fun q=>h2 (e2.1 q)]
    simp only [cond_false]
    rw [ua k (i+1)]
    refine ⟨fun ⟨g1,g2,g3,g4⟩=>⟨fun j q1 q2=>?_,by grind,by grind,by grind⟩,fun ⟨g1,g2,g3,g4⟩=>⟨fun j q1 q2=>g1 j (by omega) (by omega),by grind,by grind,by grind⟩⟩
    by_cases e:j=i
    ·subst e;exact ⟨Rat.not_lt.1 h1,Rat.not_lt.1 h2⟩
    ·exact g1 j (by omega) (by omega)
theorem zc:∀ (k i:Nat) (s:Rat),qt X Y T pa k i s=decide (s+bG k (fun j=>T9 (jO pa (X (i+j)) (Y (i+j)) (T (i+j)))) < 0)
 | 0,i,s=>by
  unfold qt
  show decide (o9 s < 0)=decide (s+0 < 0)
  rw [show s+0=s by grind]
  exact decide_eq_decide.2 pe
 | k+1,i,s=>by
  unfold qt
  rw [zV k i fun j=>T9 (jO pa (X j) (Y j) (T j)),zc k (i+1)]
  have e:cond (decide (o9 (jO pa (X i) (Y i) (T i)) > 0)) (s+jO pa (X i) (Y i) (T i)) s=s+T9 (jO pa (X i) (Y i) (T i)):=by
   unfold T9
   by_cases h:0 < jO pa (X i) (Y i) (T i)
   ·rw [decide_eq_true (Ce.2 h),if_pos h];rfl
   ·rw [decide_eq_false fun q=>h (Ce.1 q),if_neg h]
    show s=s+0
    grind
  rw [e]
  exact decide_eq_decide.2 (by constructor<;>intro h<;>grind)
theorem M5 {pb:List aa} {n:Nat} {a b c:Rat} (h1:qQ X Y T pa n 0 a b c=true) (h2:qt X Y T pb n 0 (jO pb a b c)=true):False:=by
 obtain ⟨g1,g2,g3,g4⟩:=(ua n 0 a b c).1 h1
 rw [zc] at h2
 have h2:=qS h2
 simp only [Nat.zero_add] at g2 g3 g4 h2
 have hs:bG n (fun j=>pv pa j * jO pb (X j) (Y j) (T j))≤bG n (fun j=>T9 (jO pb (X j) (Y j) (T j))):=G5 fun j hj=>by
  obtain ⟨q1,q2⟩:=g1 j (Nat.zero_le _) (by omega)
  generalize jO pb (X j) (Y j) (T j)=v at *
  unfold T9
  split
  ·rename_i hv
   have:=Rat.mul_le_mul_of_nonneg_right q2 (Rat.le_of_lt hv)
   grind
  ·rename_i hv
   have:=Rat.mul_nonneg q1 (show 0≤-v by grind)
   grind
 have he:bG n (fun j=>pv pa j * jO pb (X j) (Y j) (T j))=pv pb 0 * bG n (fun j=>pv pa j * X j)+(pv pb 1 * bG n (fun j=>pv pa j * Y j)+pv pb 2 * bG n (fun j=>pv pa j * T j)):=by
  rw [← jP,← jP,← jP,← rI,← rI]
  exact aY fun j _=>by unfold jO;show _ * ((((0:Rat)+_)+_)+_)=_;grind
 have ha:jO pb a b c=pv pb 0 * a+pv pb 1 * b+pv pb 2 * c:=by unfold jO;show ((((0:Rat)+_)+_)+_)=_;grind
 have e1:a = - bG n (fun j=>pv pa j * X j):=by grind
 have e2:b = - bG n (fun j=>pv pa j * Y j):=by grind
 have e3:c = - bG n (fun j=>pv pa j * T j):=by grind
 rw [ha,e1,e2,e3] at h2
 rw [he] at hs
 generalize bG n (fun j=>pv pa j * X j)=u1 at *
 generalize bG n (fun j=>pv pa j * Y j)=u2 at *
 generalize bG n (fun j=>pv pa j * T j)=u3 at *
 grind
end
end Go.Den
namespace Go.Den
open Go.Ab
structure LI (n:Nat) (r:ab):Prop where
 len:r.e8.length≤n
 co:∀ x∈r.e8,IR x 40
 bo:IR r.ni 40
theorem LJ {R:List ab} {n:Nat} (h:∀ r∈R,LI n r):Cm R:=by
 refine ⟨fun i j=>⟨?_,rfl,by decide⟩,fun i=>⟨?_,rfl,by decide⟩⟩
 ·by_cases hi:i < R.length
  ·have g:=h _ (yZ R i ab.d hi)
   by_cases hj:j < (R.getD i ab.d).e8.length
   ·exact g.co _ (yZ _ j aa.d hj)
   ·rw [Cg (by omega)];exact Wo
  ·rw [show R.getD i ab.d=ab.d by simp [fB,oP (show R.length≤i by omega)]]
   rw [Cg (show (ab.d).e8.length≤j from Nat.zero_le _)];exact Wo
 ·by_cases hi:i < R.length
  ·exact (h _ (yZ R i ab.d hi)).bo
  ·rw [show R.getD i ab.d=ab.d by simp [fB,oP (show R.length≤i by omega)]]
   exact Wo
theorem G6 {R:List ab} {n:Nat} (h:∀ r∈R,LI n r):∀ k i,i+k=R.length→re R n k i=false
 | 0,_,_=>rfl
 | k+1,i,hi=>by
  rw [re,if_neg,G6 h k (i+1) (by omega)]
  have:=(h _ (yZ R i ab.d (by omega))).len
  unfold uJ;omega
theorem Ap {R:List ab} {n:Nat} (hn:n≤12) (hR:R.length≤40) (h:∀ r∈R,LI n r):rL n R=0:=by
 unfold rL
 rw [if_neg (by omega),if_neg (by omega),G6 h R.length 0 (by omega)];rfl
theorem R6 {f:Nat→Rat} {n:Nat} {x:aa} (h:x∈LQ f n):∃ i,i < n∧x=bA (f i):=by
 unfold LQ Bc at h
 obtain ⟨i,h1,h2⟩:=List.mem_map.1 h
 exact ⟨i,wF.1 h1,h2.symm⟩
theorem Of {q:Rat} {m:Nat} (h:RB q m):RB (0 - q) m:=by rw [show 0 - q = -q by grind];exact h.neg
theorem Og {n i:Nat} {q:Rat} (h:RB q 40):∀ x∈EM n i q,IR x 40:=fun x hx=>by
 rcases List.mem_or_eq_of_mem_set hx with h1 | rfl
 ·rw [(List.mem_replicate.1 h1).2];exact Wo
 ·exact h.ir
theorem Oh (n:Nat):∀ x,∀ r∈oO n x,LI n r
 | 0,r,h=>by cases h
 | x+1,r,h=>by
  rw [oO] at h
  rcases List.mem_append.1 h with h | h
  ·exact Oh n x r h
  ·have r1:RB ((1:Int):Rat) 40:=RB.one.le (by decide)
   have r2:RB ((-1:Int):Rat) 40:=(RB.one.neg).le (by decide)
   simp only [kI,List.not_mem_nil,or_false] at h
   rcases h with rfl | rfl
   ·exact ⟨by show (EM n x _).length≤n;rw [E7];exact az _,Og r1,r1.ir⟩
   ·exact ⟨by show (EM n x _).length≤n;rw [E7];exact az _,Og r2,Wo⟩
theorem zW {n:Nat} {f:Nat→Rat} {w:Rat} (hf:∀ i,i < n→RB (f i) 40) (hw:RB w 40):∀ r∈nZ n f w,LI n r:=fun r h=>by
 unfold nZ at h
 simp only [kI,List.not_mem_nil,or_false] at h
 rcases h with rfl | rfl
 ·exact ⟨by show (LQ f n).length≤n;rw [bK];exact az _,fun x hx=>by obtain ⟨i,hi,rfl⟩:=R6 hx;exact (hf i hi).ir,(Of hw).ir⟩
 ·exact ⟨by show (LQ _ n).length≤n;rw [bK];exact az _,fun x hx=>by obtain ⟨i,hi,rfl⟩:=R6 hx;exact (Of (hf i hi)).ir,hw.ir⟩
section
variable {l:List ae} {w:dE} {X Y T:Nat→Rat} {e5:Nat}
theorem Ua {n:Nat} {a b c:Rat} (hX:∀ i,i < n→RB (X i) 40) (hY:∀ i,i < n→RB (Y i) 40) (hT:∀ i,i < n→RB (T i) 40) (ha:RB a 40) (hb:RB b 40) (hc:RB c 40):∀ r∈fz n X Y T a b c,LI n r:=fun r h=>by
 unfold fz at h
 rcases List.mem_append.1 h with h | h
 ·rcases List.mem_append.1 h with h | h
  ·rcases List.mem_append.1 h with h | h
   ·exact Oh n n r h
   ·exact zW hX ha r h
  ·exact zW hY hb r h
 ·exact zW hT hc r h
theorem pf (f:Nat→Rat) (n:Nat):LQ f n ++ [bA (f n)]=LQ f (n+1):=wx (fun i=>bA (f i)) n
def vt (X Y T:Nat→Rat) (n z:Nat) (w:dE) (m:bQ):Prop :=
 (m.aE=true∧m.eD.length=n∧m.iJ=[]∧M3 z m.eD∧qQ X Y T m.eD n 0 w.iz w.jo w.jJ=true) ∨
 (m.aE=false∧m.eD=[]∧m.iJ.length=3∧M3 z m.iJ∧qt X Y T m.iJ n 0 (jO m.iJ w.iz w.jo w.jJ)=true)
theorem M3.of {f:Nat→Rat} {n z:Nat} (h1:1≤z) (h2:z≤100000000000) (h:∀ i,i < n→RB (f i) z):M3 z (LQ f n):=⟨h1,h2,fun {i} hi=>by
 rw [bK] at hi
 rw [fF _ _ hi,eJ];exact (h i hi).rq h1⟩
theorem DX {f:Nat→Rat} {n i:Nat} (h:i < n):pv (LQ f n) i=f i:=by unfold pv;rw [fF _ _ h,eJ]
section
variable {a b c:Rat}
theorem Ub (hl:l.length≤12) (h5:2 * l.length+1≤e5) (hz:ZZ e5≤49000000000) (hq:sm l X Y T) (ha:RB a 40) (hb:RB b 40) (hc:RB c 40)
  (hwa:a=w.iz) (hwb:b=w.jo) (hwc:c=w.jJ) {s0 s1 s2:aa} (e0:s0=bA (0 - a)) (e1:s1=bA (0 - b)) (e2:s2=bA (0 - c)) :
  ∃ m,vt X Y T l.length (2 * ZZ e5+1) w m∧∀ (k x:Nat),x+k=l.length→aF (fun N g=>dB N l (t3 a b c) (oO l.length l.length) s0 (LQ X l.length) (LQ (fun i=>0 - X i) l.length) s1 (LQ Y l.length) (LQ (fun i=>0 - Y i) l.length) s2 g (LQ T x) (LQ (fun i=>0 - T i) x) (x:Int)) m:=by
 subst e0 e1 e2
 have hg:=Ua (X:=X) (Y:=Y) (T:=T) (n:=l.length) (fun i hi=>(hq i hi).rx) (fun i hi=>(hq i hi).ry) (fun i hi=>(hq i hi).rt) ha hb hc
 have hlen:(fz l.length X Y T a b c).length=2 * l.length+6:=zU
 have hn:∀ k,k < 2 * l.length+6→k < (fz l.length X Y T a b c).length:=fun k hk=>by rw [hlen];exact hk
 have SD:=Zf e5
 have more:∀ {m},aF (fun N g=>dB N l (t3 a b c) (oO l.length l.length) (bA (0 - a)) (LQ X l.length) (LQ (fun i=>0 - X i) l.length) (bA (0 - b)) (LQ Y l.length) (LQ (fun i=>0 - Y i) l.length) (bA (0 - c)) g (LQ T l.length) (LQ (fun i=>0 - T i) l.length) ((l.length:Nat):Int)) m →
   ∀ (k x:Nat),x+k=l.length→aF (fun N g=>dB N l (t3 a b c) (oO l.length l.length) (bA (0 - a)) (LQ X l.length) (LQ (fun i=>0 - X i) l.length) (bA (0 - b)) (LQ Y l.length) (LQ (fun i=>0 - Y i) l.length) (bA (0 - c)) g (LQ T x) (LQ (fun i=>0 - T i) x) (x:Int)) m:=fun h=>by
  intro k
  induction k with
  | zero =>
   intro x hx
   obtain rfl:x=l.length:=by omega
   exact h
  | succ k ih =>
   intro x hx
   have mE:x < l.length:=by omega
   refine aF.succ (fun N g=>dB.eq_2 ..) (aF.aR (dec_lt mE) (aF.if (pS mE) ?_))
   rw [ao,aN (by omega)]
   refine aF.bind (hq x mE).code (aF.if (by rw [bK];omega) (aF.bind (G4.sub ((hq x mE).rt.rq (by decide)) (by decide)) (aF.if (by rw [bK];omega) ?_)))
   show aF (fun N g=>dB N l (t3 a b c) (oO l.length l.length) (bA (0 - a)) (LQ X l.length) (LQ (fun i=>0 - X i) l.length) (bA (0 - b)) (LQ Y l.length) (LQ (fun i=>0 - Y i) l.length) (bA (0 - c)) g (LQ T x ++ [bA (T x)]) (LQ (fun i=>0 - T i) x ++ [bA (0 - T x)]) ((x+1:Nat):Int)) _
   rw [pf,pf (fun i=>0 - T i)]
   exact ih (x+1) (by omega)
 rcases DW (n:=l.length) (l:=fz l.length X Y T a b c) (e5:=e5) hl (LJ hg) (by rw [hlen];omega) (.inr h5) (by show 5 * ZZ e5≤1000000000000;omega) (Ap hl (by rw [hlen];omega) hg) with ⟨y,q1,q2⟩ | ⟨x,q1,q2⟩
 ·have rb:∀ i j,i < 2 * l.length+6→j < 2 * l.length+6→RB (y i - y j) (2 * ZZ e5+1):=fun i j hi hj=>((q1.rb i (hn i hi)).sub (q1.rb j (hn j hj))).le (by omega)
  have sub:∀ i j,i < 2 * l.length+6→j < 2 * l.length+6→Gv (fun N=>fe N (bA (y i)) (bA (y j))) (bA (y i - y j)):=fun i j hi hj =>
   ((q1.rb i (hn i hi)).rq (by omega)).sub ((q1.rb j (hn j hj)).rq (by omega)) (by simp only [SM];omega)
  refine ⟨⟨false,[],[bA (y (2 * l.length+1) - y (2 * l.length)),bA (y (2 * l.length+3) - y (2 * l.length+2)),bA (y (2 * l.length+5) - y (2 * l.length+4))]⟩,.inr ⟨rfl,rfl,rfl,⟨by omega,by omega,fun {i} hi=>?_⟩,?_⟩,more ?_⟩
  ·match i,hi with
   | 0,_=>exact ⟨(rb _ _ (by omega) (by omega)).ir,rfl,by omega⟩
   | 1,_=>exact ⟨(rb _ _ (by omega) (by omega)).ir,rfl,by omega⟩
   | 2,_=>exact ⟨(rb _ _ (by omega) (by omega)).ir,rfl,by omega⟩
  ·have h:=M4 q1
   rw [zc]
   refine decide_eq_true ?_
   have e:∀ u v t:Rat,jO [bA (y (2 * l.length+1) - y (2 * l.length)),bA (y (2 * l.length+3) - y (2 * l.length+2)),bA (y (2 * l.length+5) - y (2 * l.length+4))] u v t=(y (2 * l.length+1) - y (2 * l.length)) * u+(y (2 * l.length+3) - y (2 * l.length+2)) * v+(y (2 * l.length+5) - y (2 * l.length+4)) * t:=fun u v t=>by
    unfold jO pv
    show (((0:Rat)+qv (bA _) * u)+qv (bA _) * v)+qv (bA _) * t=_
    rw [eJ,eJ,eJ];grind
   simp only [e,Nat.zero_add,← hwa,← hwb,← hwc]
   exact h
  ·refine aF.succ (fun N g=>dB.eq_2 ..) (aF.bh ep (aF.if (by simp [cK];omega) (aF.one (Gv.bind q2 ?_))))
   have d0:ai (2 * ((l.length:Nat):Int))=((2 * l.length:Nat):Int):=by rw [aV (by omega) (by omega)];omega
   have d1:ai (((2 * l.length:Nat):Int)+0)=((2 * l.length:Nat):Int):=by rw [aV (by omega) (by omega)];omega
   have d2:ai (((2 * l.length:Nat):Int)+2)=((2 * l.length+2:Nat):Int):=by rw [aV (by omega) (by omega)];omega
   have d3:ai (((2 * l.length:Nat):Int)+4)=((2 * l.length+4:Nat):Int):=by rw [aV (by omega) (by omega)];omega
   simp only [d0,d1,d2,d3,aN (show 2 * l.length < 9223372036854775807 by omega),aN (show 2 * l.length+2 < 9223372036854775807 by omega),aN (show 2 * l.length+4 < 9223372036854775807 by omega),ao,
    fF _ _ (hn (2 * l.length) (by omega)),fF _ _ (hn (2 * l.length+1) (by omega)),fF _ _ (hn (2 * l.length+2) (by omega)),fF _ _ (hn (2 * l.length+2+1) (by omega)),fF _ _ (hn (2 * l.length+4) (by omega)),fF _ _ (hn (2 * l.length+4+1) (by omega))]
   have ur:∀ k,k < 2 * l.length+6→0≤((k:Nat):Int)∧((k:Nat):Int) < (((LQ y (fz l.length X Y T a b c).length).length:Nat):Int):=fun k hk=>inl hk (by rw [bK,hlen])
   refine Gv.bh rfl (Gv.if (ur _ (by omega)) (Gv.if (ur _ (by omega)) (Gv.bind (sub _ _ (by omega) (by omega)) (Gv.if (ur _ (by omega)) (Gv.if (ur _ (by omega)) (Gv.bind (sub _ _ (by omega) (by omega)) (Gv.if (by simp) (Gv.if (ur _ (by omega)) (Gv.if (ur _ (by omega)) (Gv.bind (sub _ _ (by omega) (by omega)) (Gv.if (by simp) (Gv.pure _))))))))))))
 ·obtain ⟨p1,p2,p3,p4⟩:=LH q1
  refine ⟨⟨true,LQ x l.length,[]⟩,.inl ⟨rfl,bK _ _,rfl,M3.of (by omega) (by omega) q1.rb,?_⟩,more ?_⟩
  ·refine (ua _ _ _ _ _).2 ⟨fun j _ hj=>by rw [DX (by omega)];exact p1 j (by omega),?_,?_,?_⟩
   ·rw [← hwa,← p2];congr 1;exact aY fun j hj=>by rw [Nat.zero_add,DX hj]
   ·rw [← hwb,← p3];congr 1;exact aY fun j hj=>by rw [Nat.zero_add,DX hj]
   ·rw [← hwc,← p4];congr 1;exact aY fun j hj=>by rw [Nat.zero_add,DX hj]
  ·exact aF.succ (fun N g=>dB.eq_2 ..) (aF.bh ep (aF.if (by simp [cK];omega) (aF.one (Gv.bind q2 (Gv.aR rfl (Gv.pure _))))))
theorem Uc (hl:l.length≤12) (hq:sm l X Y T) (hc:RB c 4) {s0 s1:aa} {m:bQ}
  (h:aF (fun N g=>dB N l (t3 a b c) (oO l.length l.length) s0 (LQ X l.length) (LQ (fun i=>0 - X i) l.length) s1 (LQ Y l.length) (LQ (fun i=>0 - Y i) l.length) (bA (0 - c)) g [] [] 0) m) :
  ∀ (k x:Nat),x+k=l.length→aF (fun N g=>fo N l (t3 a b c) (oO l.length l.length) s0 (LQ X l.length) (LQ (fun i=>0 - X i) l.length) s1 g (LQ Y x) (LQ (fun i=>0 - Y i) x) (x:Int)) m:=by
 intro k
 induction k with
 | zero =>
  intro x hx;obtain rfl:x=l.length:=by omega
  exact aF.succ (fun N g=>fo.eq_2 ..) (aF.bh ep (aF.if (by simp [cK];omega) (aF.one (Gv.bind (G4.sub (hc.rq (by decide)) (by decide)) h.diag))))
 | succ k ih =>
  intro x hx
  have mE:x < l.length:=by omega
  refine aF.succ (fun N g=>fo.eq_2 ..) (aF.aR (dec_lt mE) (aF.if (pS mE) ?_))
  rw [ao,aN (by omega)]
  refine aF.bind (hq x mE).code (aF.if (by rw [bK];omega) (aF.bind (G4.sub ((hq x mE).ry.rq (by decide)) (by decide)) (aF.if (by rw [bK];omega) ?_)))
  show aF (fun N g=>fo N l (t3 a b c) (oO l.length l.length) s0 (LQ X l.length) (LQ (fun i=>0 - X i) l.length) s1 g (LQ Y x ++ [bA (Y x)]) (LQ (fun i=>0 - Y i) x ++ [bA (0 - Y x)]) ((x+1:Nat):Int)) _
  rw [pf,pf (fun i=>0 - Y i)]
  exact ih (x+1) (by omega)
theorem Ud (hl:l.length≤12) (hq:sm l X Y T) (hb:RB b 4) {s0:aa} {m:bQ}
  (h:aF (fun N g=>fo N l (t3 a b c) (oO l.length l.length) s0 (LQ X l.length) (LQ (fun i=>0 - X i) l.length) (bA (0 - b)) g [] [] 0) m) :
  ∀ (k x:Nat),x+k=l.length→aF (fun N g=>fq N l (t3 a b c) (oO l.length l.length) s0 g (LQ X x) (LQ (fun i=>0 - X i) x) (x:Int)) m:=by
 intro k
 induction k with
 | zero =>
  intro x hx;obtain rfl:x=l.length:=by omega
  exact aF.succ (fun N g=>fq.eq_2 ..) (aF.bh ep (aF.if (by rw [cK];omega) (aF.one (Gv.bind (G4.sub (hb.rq (by decide)) (by decide)) h.diag))))
 | succ k ih =>
  intro x hx
  have mE:x < l.length:=by omega
  refine aF.succ (fun N g=>fq.eq_2 ..) (aF.aR (dec_lt mE) (aF.if (pS mE) ?_))
  rw [ao,aN (by omega)]
  refine aF.bind (hq x mE).code (aF.if (by rw [bK];omega) (aF.bind (G4.sub ((hq x mE).rx.rq (by decide)) (by decide)) (aF.if (by rw [bK];omega) ?_)))
  show aF (fun N g=>fq N l (t3 a b c) (oO l.length l.length) s0 g (LQ X x ++ [bA (X x)]) (LQ (fun i=>0 - X i) x ++ [bA (0 - X x)]) ((x+1:Nat):Int)) _
  rw [pf,pf (fun i=>0 - X i)]
  exact ih (x+1) (by omega)
theorem Ue (hl:l.length≤12) (ha:RB a 4) {m:bQ}
  (h:aF (fun N g=>fq N l (t3 a b c) (oO l.length l.length) (bA (0 - a)) g [] [] 0) m) :
  ∀ (k x:Nat),x+k=l.length→aF (fun N g=>iB N l (t3 a b c) g (oO l.length x) (x:Int)) m:=by
 intro k
 induction k with
 | zero =>
  intro x hx;obtain rfl:x=l.length:=by omega
  exact aF.succ (fun N g=>iB.eq_2 ..) (aF.bh ep (aF.one (Gv.bind (G4.sub (ha.rq (by decide)) (by decide)) h.diag)))
 | succ k ih =>
  intro x hx
  have mE:x < l.length:=by omega
  refine aF.succ (fun N g=>iB.eq_2 ..) (aF.aR (dec_lt mE) (aF.if (by omega) (aF.bind (mX w1) (aF.bind (mX w1) (aF.bind (mX (z:=-1) (EK (by decide))) ?_)))))
  refine aF.if (by rw [cN];exact pS mE) (aF.if (by rw [cK];omega) ?_)
  rw [ao,aN (by omega)]
  exact ih (x+1) (by omega)
end
theorem J0 (hl:l.length≤12) (h5:2 * l.length+1≤e5) (hz:ZZ e5≤49000000000) (hq:sm l X Y T) (hw:gS w=0) :
  ∃ m,vt X Y T l.length (2 * ZZ e5+1) w m∧Gv (fun N=>sO N l w) m:=by
 obtain ⟨b1,b2,b3⟩:=Bf hw
 have r1:=er b1
 have r2:=er b2
 have r3:=er b3
 obtain ⟨m,h1,h2⟩:=Ub hl h5 hz hq (r1.le (show 4≤40 by decide)) (r2.le (show 4≤40 by decide)) (r3.le (show 4≤40 by decide)) (w:=w) rfl rfl rfl rfl rfl rfl
 exact ⟨m,h1,Gv.bind (G3 hw) ((Ue hl r1 (Ud hl hq r2 (Uc hl hq r3 (h2 l.length 0 (by omega)) l.length 0 (by omega)) l.length 0 (by omega)) l.length 0 (by omega)).diag)⟩
end
end Go.Den
namespace Go.Den
open Go.Ab
theorem Bh {l:List ae} (h:fH l=0):l.length≤12∧∀ i,i < l.length→fK (l.getD i ae.d)=0:=by
 unfold fH at h
 cases hc:decide (((l.length:Nat):Int) > 12) with
 | true=>rw [hc] at h;cases h
 | false =>
  rw [hc,cond_false] at h
  refine ⟨by simp at hc;omega,fun i hi=>?_⟩
  have hs:∀ j,rM l j≠some 0:=fun j hj=>by
   unfold rM at hj
   cases e1:xt (l.getD j ae.d).eC<;>rw [e1] at hj
   ·cases hj
   ·cases e2:zT l j<;>rw [e2] at hj
    ·cases e3:fK (l.getD j ae.d) != 0<;>rw [e3] at hj
     ·cases hj
     ·simp only [Bool.not_true,cond_false,cond_true,aD] at hj
      rw [hj] at e3;cases e3
    ·cases hj
  rcases KX (f:=rM l) (z:=(0:Int)) l.length 0 with ⟨j,r,_,_,h3,_,h5⟩ | ⟨h1,_⟩
  ·rw [h5] at h;subst h;exact absurd h3 (hs j)
  ·have:=h1 i (Nat.zero_le _) (by omega)
   unfold rM at this
   cases e1:xt (l.getD i ae.d).eC<;>rw [e1] at this
   ·cases this
   ·cases e2:zT l i<;>rw [e2] at this
    ·cases e3:fK (l.getD i ae.d) != 0<;>rw [e3] at this
     ·simpa using e3
     ·cases this
    ·cases this
end Go.Den
namespace Go.Den
open Go.Ab
section
variable {l:List ae} {w:dE} {X Y T:Nat→Rat} {m:bQ} {z:Nat}
def Co (X Y T:Nat→Rat) (l:List ae) (w:dE) (m:bQ):Int :=
 cond m.aE (cond (decide (m.eD.length=l.length)) (cond (qQ X Y T m.eD l.length 0 w.iz w.jo w.jJ) 0 24) 11) (cond (decide (m.iJ.length=3)) (cond (qt X Y T m.iJ l.length 0 (jO m.iJ w.iz w.jo w.jJ)) 0 24) 11)
theorem Cp (l:List ae):Gv (fun N=>gB N l) (fH l):=.of 14 fun N hN=>HI (by omega) l
theorem DD (l:List ae):Gv (fun N=>jb N l) (fH l):=.of 14 fun N hN=>LF (by omega) l
theorem Fe (w:dE):Gv (fun N=>ik N w) (gS w):=.of 0 fun N _=>JZ N w
theorem R7 (w:dE):Gv (fun N=>kU N w) (gS w):=.of 0 fun N _=>M1 N w
theorem Yp {n z L:Nat} (h:(n+1) * (3 * z+200)≤L):4+n * (z+60)≤L:=by
 have:=Nat.mul_le_mul (az n) (show z+60≤3 * z+200 by omega)
 rw [Nat.succ_mul] at h;omega
theorem Yq {n z L:Nat} (h:(n+1) * (3 * z+200)≤L):3 * z+160+n * (3 * z+200)≤L:=by
 rw [Nat.succ_mul] at h;omega
theorem Pa (hl:fH l=0) (hw:gS w=0) (hq:sm l X Y T) (h1:M3 z m.eD) (h2:M3 z m.iJ) (hz:(l.length+1) * (3 * z+200)≤4000000000000):Gv (fun N=>lB N l w m) (Co X Y T l w m):=by
 have e1:(fH l != 0)=false:=by simp [hl]
 have e2:(gS w != 0)=false:=by simp [hw]
 have hlen:=(Bh hl).1
 obtain ⟨b1,b2,b3⟩:=Bf hw
 have q1:=er b1
 have q2:=er b2
 have q3:=er b3
 unfold Co
 refine Gv.bind (Cp l) (Gv.bh e1 (Gv.bind (Fe w) (Gv.bh e2 ?_)))
 cases hH:m.aE with
 | true =>
  by_cases hp:m.eD.length=l.length
  ·have e3:(((m.eD.length:Nat):Int) != ((l.length:Nat):Int))=false:=by simp [hp]
   have c1:Gv (fun N=>qV N l w m.eD) (qQ X Y T m.eD l.length 0 w.iz w.jo w.jJ) :=
    Gv.bind (G3 hw) ((IP (by omega) hq h1 hp l.length 0 4 _ _ _ (by omega) q1 q2 q3 (by decide) (Yp hz)).diag)
   rw [decide_eq_true hp]
   cases hv:qQ X Y T m.eD l.length 0 w.iz w.jo w.jJ with
   | true=>rw [hv] at c1;exact Gv.bh (by rw [e3];rfl) (Gv.bind (Gv.aR rfl c1) (Gv.bind (Gv.bh rfl (Gv.pure _)) (Gv.bh rfl (Gv.pure _))))
   | false=>rw [hv] at c1;exact Gv.bh (by rw [e3];rfl) (Gv.bind (Gv.aR rfl c1) (Gv.bind (Gv.bh rfl (Gv.pure _)) (Gv.aR rfl (Gv.pure _))))
  ·have e3:(((m.eD.length:Nat):Int) != ((l.length:Nat):Int))=true:=by simp;omega
   rw [decide_eq_false hp]
   exact Gv.aR (by rw [e3];rfl) (Gv.pure _)
 | false =>
  by_cases hp:m.iJ.length=3
  ·have e3:(((m.iJ.length:Nat):Int) != 3)=false:=by simp [hp]
   have ra:=IQ h2 hp (q1.le (show 4≤40 by decide)) (q2.le (show 4≤40 by decide)) (q3.le (show 4≤40 by decide))
   have c1:Gv (fun N=>qj N l w m.iJ) (qt X Y T m.iJ l.length 0 (jO m.iJ w.iz w.jo w.jJ)) :=
    Gv.bind (G3 hw) (Gv.bind (Cn h2 hp (q1.le (by decide)) (q2.le (by decide)) (q3.le (by decide))) ((Bg (by omega) hq h2 hp l.length 0 _ _ (by omega) ra (by omega) (Yq hz)).diag))
   rw [decide_eq_true hp]
   cases hv:qt X Y T m.iJ l.length 0 (jO m.iJ w.iz w.jo w.jJ) with
   | true=>rw [hv] at c1;exact Gv.bh (by rw [e3];rfl) (Gv.bind (Gv.bh rfl (Gv.pure _)) (Gv.bind (Gv.aR rfl c1) (Gv.bh rfl (Gv.pure _))))
   | false=>rw [hv] at c1;exact Gv.bh (by rw [e3];rfl) (Gv.bind (Gv.bh rfl (Gv.pure _)) (Gv.bind (Gv.aR rfl c1) (Gv.aR rfl (Gv.pure _))))
  ·have e3:(((m.iJ.length:Nat):Int) != 3)=true:=by simp;omega
   rw [decide_eq_false hp]
   exact Gv.aR (by rw [e3];rfl) (Gv.pure _)
theorem vt.code {n:Nat} (h:vt X Y T n z w m) (hn:n=l.length):Co X Y T l w m=0:=by
 subst hn
 unfold Co
 rcases h with ⟨h1,h2,_,_,h5⟩ | ⟨h1,_,h3,_,h5⟩
 ·rw [h1,decide_eq_true h2,h5];rfl
 ·rw [h1,decide_eq_true h3,h5];rfl
theorem M3.nil (h1:1≤z) (h2:z≤100000000000):M3 z []:=⟨h1,h2,fun {i} hi=>absurd hi (dT _)⟩
theorem vt.parts {n:Nat} (h:vt X Y T n z w m):M3 z m.eD∧M3 z m.iJ:=by
 rcases h with ⟨_,_,h3,h4,_⟩ | ⟨_,h2,_,h4,_⟩
 ·rw [h3];exact ⟨h4,.nil h4.one h4.top⟩
 ·rw [h2];exact ⟨.nil h4.one h4.top,h4⟩
end
end Go.Den
namespace Go.Den
open Go.Ab
theorem Wu {n q:Nat} {R:List ab} {x y:Nat→Rat} (h:Oc q n R y) (hx:∀ r,r < R.length→bG n (fun j=>cf R r j * x j)≤bv R r):False:=by
 have h1:bG R.length (fun r=>y r * bG n (fun j=>cf R r j * x j))≤bG R.length fun r=>y r * bv R r:=G5 fun r hr=>by
  have:=Rat.mul_le_mul_of_nonneg_left (hx r hr) (h.nn r hr)
  exact this
 have h2:bG R.length (fun r=>y r * bG n (fun j=>cf R r j * x j))=0:=by
  rw [aY (g:=fun r=>bG n fun j=>x j * (y r * cf R r j)) fun r _=>by rw [← jP];exact aY fun j _=>by grind,IK,
   aY (g:=fun _=>0) fun j hj=>by rw [jP,h.Ym j hj];grind,kY]
 have:=h.neg
 grind
def zd (n:Nat):Nat→List ab
 | 0=>[]
 | x+1=>zd n x ++ [⟨EM n x ((1:Int):Rat),bA ((1:Int):Rat)⟩,⟨EM n x ((-1:Int):Rat),bA ((0:Int):Rat)⟩]
theorem qR (n:Nat):∀ x,(zd n x).length=2 * x
 | 0=>rfl
 | x+1=>by rw [zd,kH,qR n x];simp;omega
theorem IT (n:Nat):∀ x i,i < x→(zd n x).getD (2 * i) ab.d=⟨EM n i ((1:Int):Rat),bA ((1:Int):Rat)⟩∧(zd n x).getD (2 * i+1) ab.d=⟨EM n i ((-1:Int):Rat),bA ((0:Int):Rat)⟩
 | x+1,i,h=>by
  rw [zd]
  by_cases e:i=x
  ·subst e
   rw [EL _ _ _ 0 (by rw [qR];omega),EL _ _ _ 1 (by rw [qR])]
   exact ⟨rfl,rfl⟩
  ·rw [x7 _ _ _ (by rw [qR];omega),x7 _ _ _ (by rw [qR];omega)]
   exact IT n x i (by omega)
theorem Oi (n:Nat):∀ x,∀ r∈zd n x,LI n r
 | 0,r,h=>by cases h
 | x+1,r,h=>by
  rw [zd] at h
  rcases List.mem_append.1 h with h | h
  ·exact Oi n x r h
  ·have r1:RB ((1:Int):Rat) 40:=RB.one.le (by decide)
   have r2:RB ((-1:Int):Rat) 40:=(RB.one.neg).le (by decide)
   have r3:RB ((0:Int):Rat) 40:=RB.zero.le (by decide)
   simp only [kI,List.not_mem_nil,or_false] at h
   rcases h with rfl | rfl
   ·exact ⟨by show (EM n x _).length≤n;rw [E7];exact az _,Og r1,r1.ir⟩
   ·exact ⟨by show (EM n x _).length≤n;rw [E7];exact az _,Og r2,r3.ir⟩
def LK (n:Nat) (X Y T:Nat→Rat) (a b c:Rat):List ab:=(nZ n X a ++ nZ n Y b) ++ nZ n T c
def fA (n:Nat) (X Y T:Nat→Rat) (a b c:Rat):List ab:=LK n X Y T a b c ++ zd n n
section
variable {n:Nat} {X Y T:Nat→Rat} {a b c:Rat}
theorem zX:(LK n X Y T a b c).length=6:=rfl
theorem zY:(fA n X Y T a b c).length=2 * n+6:=by unfold fA;rw [kH,zX,qR];omega
theorem Oj {i:Nat} (h:i < n):(fA n X Y T a b c).getD (6+2 * i) ab.d=⟨EM n i ((1:Int):Rat),bA ((1:Int):Rat)⟩∧(fA n X Y T a b c).getD (6+(2 * i+1)) ab.d=⟨EM n i ((-1:Int):Rat),bA ((0:Int):Rat)⟩:=by
 unfold fA
 rw [EL _ _ _ (2 * i) (by rw [zX]),EL _ _ _ (2 * i+1) (by rw [zX])]
 exact IT n n i h
theorem pg {r:Nat} (h:r < 6):(fA n X Y T a b c).getD r ab.d=(LK n X Y T a b c).getD r ab.d:=by
 unfold fA;rw [x7 _ _ _ (by rw [zX];exact h)]
theorem Uf (hX:∀ i,i < n→RB (X i) 40) (hY:∀ i,i < n→RB (Y i) 40) (hT:∀ i,i < n→RB (T i) 40) (ha:RB a 40) (hb:RB b 40) (hc:RB c 40):∀ r∈fA n X Y T a b c,LI n r:=fun r h=>by
 unfold fA LK at h
 rcases List.mem_append.1 h with h | h
 ·rcases List.mem_append.1 h with h | h
  ·rcases List.mem_append.1 h with h | h
   ·exact zW hX ha r h
   ·exact zW hY hb r h
  ·exact zW hT hc r h
 ·exact Oi n n r h
theorem Pt {i j:Nat} (h:i < n):cf (fA n X Y T a b c) (6+2 * i) j=(if j=i then 1 else 0)∧cf (fA n X Y T a b c) (6+(2 * i+1)) j=(if j=i then -1 else 0)∧bv (fA n X Y T a b c) (6+2 * i)=1∧bv (fA n X Y T a b c) (6+(2 * i+1))=0:=by
 unfold cf bv
 rw [(Oj h).1,(Oj h).2]
 refine ⟨?_,?_,eJ _,eJ _⟩
 ·show qv ((EM n i _).getD j _)=_;rw [E8 h];rfl
 ·show qv ((EM n i _).getD j _)=_;rw [E8 h];rfl
theorem So {j:Nat} (h:j < n):cf (fA n X Y T a b c) 0 j=X j∧cf (fA n X Y T a b c) 1 j=0 - X j∧cf (fA n X Y T a b c) 2 j=Y j∧cf (fA n X Y T a b c) 3 j=0 - Y j∧cf (fA n X Y T a b c) 4 j=T j∧cf (fA n X Y T a b c) 5 j=0 - T j:=by
 unfold cf
 rw [pg (by decide),pg (by decide),pg (by decide),pg (by decide),pg (by decide),pg (by decide)]
 have key:∀ f:Nat→Rat,qv ((LQ f n).getD j aa.d)=f j:=fun f=>by rw [fF _ _ h,eJ]
 exact ⟨key X,key fun i=>0 - X i,key Y,key fun i=>0 - Y i,key T,key fun i=>0 - T i⟩
theorem bv3:bv (fA n X Y T a b c) 0=0 - a∧bv (fA n X Y T a b c) 1=a∧bv (fA n X Y T a b c) 2=0 - b∧bv (fA n X Y T a b c) 3=b∧bv (fA n X Y T a b c) 4=0 - c∧bv (fA n X Y T a b c) 5=c:=by
 unfold bv
 rw [pg (by decide),pg (by decide),pg (by decide),pg (by decide),pg (by decide),pg (by decide)]
 exact ⟨eJ _,eJ _,eJ _,eJ _,eJ _,eJ _⟩
theorem Wv {x:Nat→Rat} (ok:∀ r,r < 2 * n+6→bG n (fun j=>cf (fA n X Y T a b c) r j * x j)≤bv (fA n X Y T a b c) r) :
  (∀ i,i < n→0≤x i∧x i≤1)∧a+bG n (fun j=>x j * X j)=0∧b+bG n (fun j=>x j * Y j)=0∧c+bG n (fun j=>x j * T j)=0:=by
 have key:∀ {r s:Nat} {f:Nat→Rat} {w:Rat},r < 2 * n+6→s < 2 * n+6→(∀ j,j < n→cf (fA n X Y T a b c) r j=f j∧cf (fA n X Y T a b c) s j=0 - f j)→bv (fA n X Y T a b c) r=0 - w→bv (fA n X Y T a b c) s=w→w+bG n (fun j=>x j * f j)=0:=by
  intro r s f w hr hs hc b1 b2
  have h1:=ok r hr
  have h2:=ok s hs
  rw [b1,aY (g:=fun j=>x j * f j) fun j hj=>by rw [(hc j hj).1];grind] at h1
  rw [b2,aY (g:=fun j=>(-1) * (x j * f j)) fun j hj=>by rw [(hc j hj).2];grind,jP] at h2
  grind
 obtain ⟨b1,b2,b3,b4,b5,b6⟩:=bv3 (n:=n) (X:=X) (Y:=Y) (T:=T) (a:=a) (b:=b) (c:=c)
 refine ⟨fun i hi=>?_,key (by omega) (by omega) (fun j hj=>⟨(So hj).1,(So hj).2.1⟩) b1 b2,key (by omega) (by omega) (fun j hj=>⟨(So hj).2.2.1,(So hj).2.2.2.1⟩) b3 b4,key (by omega) (by omega) (fun j hj=>(So hj).2.2.2.2) b5 b6⟩
 have h1:=ok (6+2 * i) (by omega)
 have h2:=ok (6+(2 * i+1)) (by omega)
 rw [(Pt (j:=0) hi).2.2.1,iV hi _ fun j hj fx=>by rw [(Pt hi).1,if_neg fx];grind,(Pt hi).1,if_pos rfl] at h1
 rw [(Pt (j:=0) hi).2.2.2,iV hi _ fun j hj fx=>by rw [(Pt hi).2.1,if_neg fx];grind,(Pt hi).2.1,if_pos rfl] at h2
 constructor<;>grind
theorem Ww {x:Nat→Rat} (h:∀ i,i < n→0≤x i∧x i≤1) (h1:a+bG n (fun j=>x j * X j)=0) (h2:b+bG n (fun j=>x j * Y j)=0) (h3:c+bG n (fun j=>x j * T j)=0) :
  ∀ r,r < 2 * n+6→bG n (fun j=>cf (fA n X Y T a b c) r j * x j)≤bv (fA n X Y T a b c) r:=by
 have key:∀ {r s:Nat} {f:Nat→Rat} {w:Rat},(∀ j,j < n→cf (fA n X Y T a b c) r j=f j∧cf (fA n X Y T a b c) s j=0 - f j)→bv (fA n X Y T a b c) r=0 - w→bv (fA n X Y T a b c) s=w→w+bG n (fun j=>x j * f j)=0 →
   bG n (fun j=>cf (fA n X Y T a b c) r j * x j)≤bv (fA n X Y T a b c) r∧bG n (fun j=>cf (fA n X Y T a b c) s j * x j)≤bv (fA n X Y T a b c) s:=by
  intro r s f w hc b1 b2 hs
  rw [b1,b2,aY (g:=fun j=>x j * f j) fun j hj=>by rw [(hc j hj).1];grind,aY (f:=fun j=>cf (fA n X Y T a b c) s j * x j) (g:=fun j=>(-1) * (x j * f j)) fun j hj=>by rw [(hc j hj).2];grind,jP]
  constructor<;>grind
 obtain ⟨b1,b2,b3,b4,b5,b6⟩:=bv3 (n:=n) (X:=X) (Y:=Y) (T:=T) (a:=a) (b:=b) (c:=c)
 have k1:=key (fun j hj=>⟨(So hj).1,(So hj).2.1⟩) b1 b2 h1
 have k2:=key (fun j hj=>⟨(So hj).2.2.1,(So hj).2.2.2.1⟩) b3 b4 h2
 have k3:=key (fun j hj=>(So hj).2.2.2.2) b5 b6 h3
 intro r hr
 match r,hr with
 | 0,_=>exact k1.1
 | 1,_=>exact k1.2
 | 2,_=>exact k2.1
 | 3,_=>exact k2.2
 | 4,_=>exact k3.1
 | 5,_=>exact k3.2
 | r+6,hr =>
  obtain ⟨i,rfl | rfl⟩:∃ i,r=2 * i∨r=2 * i+1:=⟨r / 2,by omega⟩
  ·have hi:i < n:=by omega
   rw [show 2 * i+6=6+2 * i by omega,(Pt (j:=0) hi).2.2.1,iV hi _ fun j hj fx=>by rw [(Pt hi).1,if_neg fx];grind,(Pt hi).1,if_pos rfl]
   have:=(h i hi).2;grind
  ·have hi:i < n:=by omega
   rw [show 2 * i+1+6=6+(2 * i+1) by omega,(Pt (j:=0) hi).2.2.2,iV hi _ fun j hj fx=>by rw [(Pt hi).2.1,if_neg fx];grind,(Pt hi).2.1,if_pos rfl]
   have:=(h i hi).1;grind
end
section
variable {l:List ae} {X Y T:Nat→Rat} {a b c:Rat}
theorem Pb {x:aa} {p:Rat} {n:Nat} (h:RQ x p n) (hs:LM (4 * n+30)):Gv (fun N=>il N x) (bA (0 - p)):=(h.TT hs).eq (by rw [show -p=0 - p by grind])
theorem Yr (hl:l.length≤12) {out:List ab} (ho:out.length=6):∀ (k x:Nat),x+k=l.length→aF (fun N g=>cH N l g (out ++ zd l.length x) (x:Int)) (out ++ zd l.length l.length):=by
 intro k
 induction k with
 | zero =>
  intro x hx
  obtain rfl:x=l.length:=by omega
  exact aF.succ (fun N g=>cH.eq_2 ..) (aF.bh ep (aF.one (Gv.pure _)))
 | succ k ih =>
  intro x hx
  have mE:x < l.length:=by omega
  refine aF.succ (fun N g=>cH.eq_2 ..) (aF.aR (dec_lt mE) (aF.if (by omega) (aF.bind (MO (z:=1) (by decide) (by decide)) (aF.bind (MO (z:=-1) (by decide) (by decide)) (aF.if (by rw [cN];exact pS mE) (aF.bind (MO (z:=1) (by decide) (by decide)) (aF.bind (MO (z:=0) (by decide) (by decide)) (aF.if (by rw [kH,qR];omega) ?_))))))))
  rw [ao,aN (by omega),wD]
  exact ih (x+1) (by omega)
theorem Ys (hl:l.length≤12) (hq:sm l X Y T) (hc:RB c 4):∀ (k x:Nat),x+k=l.length →
  aF (fun N g=>cd N l (bA a) (bA b) (bA c) (LQ X l.length) (LQ (fun i=>0 - X i) l.length) (bA (0 - a)) (LQ Y l.length) (LQ (fun i=>0 - Y i) l.length) (bA (0 - b)) g (LQ T x) (LQ (fun i=>0 - T i) x) (x:Int)) (fA l.length X Y T a b c):=by
 intro k
 induction k with
 | zero =>
  intro x hx
  obtain rfl:x=l.length:=by omega
  exact aF.succ (fun N g=>cd.eq_2 ..) (aF.bh ep (aF.one (Gv.bind (Pb (hc.rq (by decide)) (by decide)) (Gv.if (by simp) (Yr (out:=LK l.length X Y T a b c) hl rfl l.length 0 (by omega)).diag))))
 | succ k ih =>
  intro x hx
  have mE:x < l.length:=by omega
  refine aF.succ (fun N g=>cd.eq_2 ..) (aF.aR (dec_lt mE) (aF.if (pS mE) ?_))
  rw [ao,aN (by omega)]
  refine aF.bind (hq x mE).doc (aF.if (by rw [bK];omega) (aF.bind (Pb ((hq x mE).rt.rq (by decide)) (by decide)) (aF.if (by rw [bK];omega) ?_)))
  show aF (fun N g=>cd N l (bA a) (bA b) (bA c) (LQ X l.length) (LQ (fun i=>0 - X i) l.length) (bA (0 - a)) (LQ Y l.length) (LQ (fun i=>0 - Y i) l.length) (bA (0 - b)) g (LQ T x ++ [bA (T x)]) (LQ (fun i=>0 - T i) x ++ [bA (0 - T x)]) ((x+1:Nat):Int)) _
  rw [pf,pf (fun i=>0 - T i)]
  exact ih (x+1) (by omega)
theorem Yt (hl:l.length≤12) (hq:sm l X Y T) (hb:RB b 4) (hc:RB c 4):∀ (k x:Nat),x+k=l.length →
  aF (fun N g=>cg N l (bA a) (bA b) (bA c) (LQ X l.length) (LQ (fun i=>0 - X i) l.length) (bA (0 - a)) g (LQ Y x) (LQ (fun i=>0 - Y i) x) (x:Int)) (fA l.length X Y T a b c):=by
 intro k
 induction k with
 | zero =>
  intro x hx
  obtain rfl:x=l.length:=by omega
  exact aF.succ (fun N g=>cg.eq_2 ..) (aF.bh ep (aF.one (Gv.bind (Pb (hb.rq (by decide)) (by decide)) (Gv.if (by simp) (Ys hl hq hc l.length 0 (by omega)).diag))))
 | succ k ih =>
  intro x hx
  have mE:x < l.length:=by omega
  refine aF.succ (fun N g=>cg.eq_2 ..) (aF.aR (dec_lt mE) (aF.if (pS mE) ?_))
  rw [ao,aN (by omega)]
  refine aF.bind (hq x mE).doc (aF.if (by rw [bK];omega) (aF.bind (Pb ((hq x mE).ry.rq (by decide)) (by decide)) (aF.if (by rw [bK];omega) ?_)))
  show aF (fun N g=>cg N l (bA a) (bA b) (bA c) (LQ X l.length) (LQ (fun i=>0 - X i) l.length) (bA (0 - a)) g (LQ Y x ++ [bA (Y x)]) (LQ (fun i=>0 - Y i) x ++ [bA (0 - Y x)]) ((x+1:Nat):Int)) _
  rw [pf,pf (fun i=>0 - Y i)]
  exact ih (x+1) (by omega)
theorem Yu (hl:l.length≤12) (hq:sm l X Y T) (ha:RB a 4) (hb:RB b 4) (hc:RB c 4):∀ (k x:Nat),x+k=l.length →
  aF (fun N g=>cj N l (bA a) (bA b) (bA c) g (LQ X x) (LQ (fun i=>0 - X i) x) (x:Int)) (fA l.length X Y T a b c):=by
 intro k
 induction k with
 | zero =>
  intro x hx
  obtain rfl:x=l.length:=by omega
  exact aF.succ (fun N g=>cj.eq_2 ..) (aF.bh ep (aF.one (Gv.bind (Pb (ha.rq (by decide)) (by decide)) (Yt hl hq hb hc l.length 0 (by omega)).diag)))
 | succ k ih =>
  intro x hx
  have mE:x < l.length:=by omega
  refine aF.succ (fun N g=>cj.eq_2 ..) (aF.aR (dec_lt mE) (aF.if (pS mE) ?_))
  rw [ao,aN (by omega)]
  refine aF.bind (hq x mE).doc (aF.if (by rw [bK];omega) (aF.bind (Pb ((hq x mE).rx.rq (by decide)) (by decide)) (aF.if (by rw [bK];omega) ?_)))
  show aF (fun N g=>cj N l (bA a) (bA b) (bA c) g (LQ X x ++ [bA (X x)]) (LQ (fun i=>0 - X i) x ++ [bA (0 - X x)]) ((x+1:Nat):Int)) _
  rw [pf,pf (fun i=>0 - X i)]
  exact ih (x+1) (by omega)
theorem LL {w:dE} (hl:l.length≤12) (hq:sm l X Y T) (hw:gS w=0):Gv (fun N=>jG N l w) (fA l.length X Y T w.iz w.jo w.jJ):=by
 obtain ⟨b1,b2,b3⟩:=Bf hw
 exact Gv.bind (MO b1.1 b1.2) (Gv.bind (MO b2.1 b2.2) (Gv.bind (MO b3.1 b3.2) (Yu hl hq (er b1) (er b2) (er b3) l.length 0 (by omega)).diag))
end
end Go.Den
namespace Go.Den
open Go.Ab
theorem J1:Gv (fun N=>eH N) true:=.of 3 fun N hN=>by
 obtain ⟨n,rfl⟩:∃ n,N=n+3:=⟨N - 3,by omega⟩
 rfl
def Zi (l:ae):Int:=(l.bV - l.iz) * (l.bV - l.iz)+(l.ct - l.jo) * (l.ct - l.jo)
structure G7 (l:ae) (n:Nat):Prop where
 lo:(n:Int) * n < Zi l
 hi:Zi l≤((n:Int)+1) * (n+1)
 top:n < 3000000
theorem R8 (l:ae) (h:fK l=0):∃ n:Nat,G7 l n∧Gv (fun N=>qg N l) ((n+1:Nat):Int)∧Gv (fun N=>tH N l) ((n+1:Nat):Int):=by
 obtain ⟨n,h0,h1,h2,h3,-⟩:=JX (N:=24) (by omega) l h
 refine ⟨n,⟨h1,h2,h3⟩,.of 25 fun N hN=>?_,.of 25 fun N hN=>?_⟩
 ·obtain ⟨m,k0,k1,k2,-⟩:=JX (N:=N) (by omega) l h
  rw [k0,JY k1 k2 h1 h2]
 ·obtain ⟨m,k0,k1,k2⟩:=R4 (N:=N) (by omega) l h
  rw [k0,JY k1 k2 h1 h2]
theorem Ug {l:ae} (h:fK l=0):∃ n:Nat,G7 l n∧R5 l (px l ((n+1:Nat):Int)) (py l ((n+1:Nat):Int)) (pt l ((n+1:Nat):Int)):=by
 obtain ⟨a1,a2,a3,a4,a5,a6,a7,a8,-⟩:=vq h
 obtain ⟨m1,m2⟩:=IM h
 obtain ⟨n,sp,c1,c2⟩:=R8 l h
 have s1:1≤((n+1:Nat):Int):=by omega
 have s2:((n+1:Nat):Int)≤3000000:=by have:=sp.top;omega
 refine ⟨n,sp,?_⟩
 generalize ((n+1:Nat):Int)=s at *
 have hm:LG l.cY:=EK (by omega)
 have hs:LG s:=EK (by omega)
 have Yv:LG (l.bV - l.iz):=EK (by omega)
 have Yw:LG (l.ct - l.jo):=EK (by omega)
 have hX:LG l.iz:=EK (by omega)
 have hY:LG l.jo:=EK (by omega)
 have Sk:(s:Rat)≠0:=by exact_mod_cast (by omega:s≠0)
 have rp:=(er hm).div (er hs) Sk
 have rx:RB (px l s) 12:=rp.mul (er Yv)
 have ry:RB (py l s) 12:=rp.mul (er Yw)
 have rt:RB (pt l s) 33:=((er hX).mul ry).sub ((er hY).mul rx)
 have e1:ai (l.bV - l.iz)=l.bV - l.iz:=aV (by omega) (by omega)
 have e2:ai (l.ct - l.jo)=l.ct - l.jo:=aV (by omega) (by omega)
 refine ⟨rx.le (by decide),ry.le (by decide),rt.le (by decide),?_,?_⟩
 ·have hr:=Rn hm.1 hm.2 hs.1 hs.2 (show s≠0 by omega)
  rw [Rat.divInt_eq_div] at hr
  refine Gv.bind c1 (Gv.bind hr ?_)
  rw [e1,e2]
  refine Gv.bind (mX Yv) (Gv.bind ((rp.rq (by decide)).mul ((er Yv).rq (by decide)) (by decide)) ?_)
  refine Gv.bind (mX Yw) (Gv.bind ((rp.rq (by decide)).mul ((er Yw).rq (by decide)) (by decide)) ?_)
  refine Gv.bind (mX hX) (Gv.bind (((er hX).rq (by decide)).mul (ry.rq (by decide)) (by decide)) ?_)
  refine Gv.bind (mX hY) (Gv.bind (((er hY).rq (by decide)).mul (rx.rq (by decide)) (by decide)) ?_)
  exact Gv.bind ((((er hX).mul ry).rq (by decide)).sub (((er hY).mul rx).rq (by decide)) (by decide)) (Gv.pure _)
 ·refine Gv.bind (DC hm) (Gv.bind c2 (Gv.bind (DC hs) (Gv.bind (((er hm).rq (by decide)).abi ((er hs).rq (by decide)) Sk (by decide)) ?_)))
  rw [e1,e2]
  refine Gv.bind (DC Yv) (Gv.bind ((rp.rq (by decide)).EI ((er Yv).rq (by decide)) (by decide)) ?_)
  refine Gv.bind (DC Yw) (Gv.bind ((rp.rq (by decide)).EI ((er Yw).rq (by decide)) (by decide)) ?_)
  refine Gv.bind (DC hX) (Gv.bind (((er hX).rq (by decide)).EI (ry.rq (by decide)) (by decide)) ?_)
  refine Gv.bind (DC hY) (Gv.bind (((er hY).rq (by decide)).EI (rx.rq (by decide)) (by decide)) ?_)
  exact Gv.bind ((((er hX).mul ry).rq (by decide)).abh (((er hY).mul rx).rq (by decide)) (by decide)) (Gv.pure _)
theorem LO {l:List ae} (h:fH l=0):∃ S:Nat→Nat,(∀ i,i < l.length→G7 (l.getD i ae.d) (S i)) ∧
  sm l (fun i=>px (l.getD i ae.d) ((S i+1:Nat):Int)) (fun i=>py (l.getD i ae.d) ((S i+1:Nat):Int)) (fun i=>pt (l.getD i ae.d) ((S i+1:Nat):Int)):=by
 have key:∀ i,∃ n:Nat,i < l.length→G7 (l.getD i ae.d) n∧R5 (l.getD i ae.d) (px (l.getD i ae.d) ((n+1:Nat):Int)) (py (l.getD i ae.d) ((n+1:Nat):Int)) (pt (l.getD i ae.d) ((n+1:Nat):Int)):=fun i=>by
  by_cases hi:i < l.length
  ·obtain ⟨n,q1,q2⟩:=Ug ((Bh h).2 i hi)
   exact ⟨n,fun _=>⟨q1,q2⟩⟩
  ·exact ⟨0,fun h=>absurd h hi⟩
 obtain ⟨f,hf⟩:=Classical.axiomOfChoice key
 exact ⟨f,fun i hi=>(hf i hi).1,fun i hi=>(hf i hi).2⟩
def eK (x:ae):ae:=⟨x.eC,x.iz,x.jo,x.bV,x.ct,(if (1000000000:Int) < (ai (2 * x.cY)) then 1000000000 else (ai (2 * x.cY)))⟩
theorem LP {x:ae} (h:fK x=0) (s:Int):∃ u:Rat,0≤u∧u≤1∧px x s=u * px (eK x) s∧py x s=u * py (eK x) s∧pt x s=u * pt (eK x) s:=by
 obtain ⟨m1,m2⟩:=IM h
 have hM:x.cY≤(eK x).cY:=by
  show x.cY≤if (1000000000:Int) < (ai (2 * x.cY)) then 1000000000 else (ai (2 * x.cY))
  rw [aV (by omega) (by omega)];split<;>omega
 have hM1:1≤(eK x).cY:=by omega
 have e0:(x.cY:Rat)≤((eK x).cY:Rat):=by exact_mod_cast hM
 have e1:(1:Rat)≤((eK x).cY:Rat):=by exact_mod_cast hM1
 have e2:(1:Rat)≤(x.cY:Rat):=by exact_mod_cast m1
 have hx:px (eK x) s=((eK x).cY:Rat) / (s:Rat) * ((x.bV - x.iz:Int):Rat):=rfl
 have hy:py (eK x) s=((eK x).cY:Rat) / (s:Rat) * ((x.ct - x.jo:Int):Rat):=rfl
 have ht:pt (eK x) s=(x.iz:Rat) * py (eK x) s - (x.jo:Rat) * px (eK x) s:=rfl
 have kx:px x s=(x.cY:Rat) / (s:Rat) * ((x.bV - x.iz:Int):Rat):=rfl
 have ky:py x s=(x.cY:Rat) / (s:Rat) * ((x.ct - x.jo:Int):Rat):=rfl
 have kt:pt x s=(x.iz:Rat) * py x s - (x.jo:Rat) * px x s:=rfl
 generalize ((eK x).cY:Rat)=M at *
 generalize (x.cY:Rat)=m at *
 have fx:M≠0:=by grind
 have hinv:M * M⁻¹=1:=Rat.mul_inv_cancel M fx
 have Ls:0 < M:=by grind
 have WS:0 < M⁻¹:=Rat.inv_pos.2 Ls
 have q1:px x s=m * M⁻¹ * px (eK x) s:=by rw [kx,hx,Rat.div_def,Rat.div_def];grind
 have q2:py x s=m * M⁻¹ * py (eK x) s:=by rw [ky,hy,Rat.div_def,Rat.div_def];grind
 refine ⟨m * M⁻¹,Rat.mul_nonneg (by grind) (Rat.le_of_lt WS),?_,q1,q2,by rw [kt,ht,q1,q2];grind⟩
 have:=Rat.mul_le_mul_of_nonneg_right e0 (Rat.le_of_lt WS)
 grind
section
variable {X Y T:Nat→Rat} {n z:Nat} {w:dE} {m:bQ}
theorem vt.yes {P:Nat→Rat} (h:vt X Y T n z w m) (hP:∀ i,i < n→0≤P i∧P i≤1) (h1:(w.iz:Rat)+bG n (fun j=>P j * X j)=0) (h2:(w.jo:Rat)+bG n (fun j=>P j * Y j)=0) (h3:(w.jJ:Rat)+bG n (fun j=>P j * T j)=0):m.aE=true:=by
 rcases h with ⟨h,_⟩ | ⟨_,_,_,_,h5⟩
 ·exact h
 ·refine (M5 (pa:=LQ P n) ((ua _ _ _ _ _).2 ⟨fun j _ hj=>by rw [DX (by omega)];exact hP j (by omega),?_,?_,?_⟩) h5).elim
  ·rw [← h1];congr 1;exact aY fun j hj=>by rw [Nat.zero_add,DX hj]
  ·rw [← h2];congr 1;exact aY fun j hj=>by rw [Nat.zero_add,DX hj]
  ·rw [← h3];congr 1;exact aY fun j hj=>by rw [Nat.zero_add,DX hj]
theorem vt.UX (h:vt X Y T n z w m) (hH:m.aE=true):∃ P:Nat→Rat,(∀ i,i < n→0≤P i∧P i≤1)∧(w.iz:Rat)+bG n (fun j=>P j * X j)=0∧(w.jo:Rat)+bG n (fun j=>P j * Y j)=0∧(w.jJ:Rat)+bG n (fun j=>P j * T j)=0:=by
 rcases h with ⟨_,_,_,_,h5⟩ | ⟨h,_⟩
 ·obtain ⟨g1,g2,g3,g4⟩:=(ua _ _ _ _ _).1 h5
  simp only [Nat.zero_add] at g2 g3 g4
  exact ⟨pv m.eD,fun i hi=>g1 i (Nat.zero_le _) (by omega),g2,g3,g4⟩
 ·rw [hH] at h;cases h
end
section
variable {l:List ae} {w:dE} {more:ae}
theorem DE {n n':Nat} (h:n≤n') {f g:Nat→Rat} (h1:∀ i,i < n→f i=g i) (h2:∀ i,n≤i→i < n'→g i=0):bG n' g=bG n f:=by
 obtain ⟨d,rfl⟩:∃ d,n'=n+d:=⟨n' - n,by omega⟩
 rw [uH,aY (n:=d) (g:=fun _=>0) fun i hi=>h2 _ (by omega) (by omega),kY,aY (g:=f) fun i hi=>(h1 i hi).symm]
 grind
theorem Wx (hL:fH l=0) (hw:gS w=0) {S:Nat→Nat} (hS:∀ i,i < l.length→G7 (l.getD i ae.d) (S i)) {P:Nat→Rat} (hP:∀ i,i < l.length→0≤P i∧P i≤1)
  (h1:(w.iz:Rat)+bG l.length (fun j=>P j * px (l.getD j ae.d) ((S j+1:Nat):Int))=0) (h2:(w.jo:Rat)+bG l.length (fun j=>P j * py (l.getD j ae.d) ((S j+1:Nat):Int))=0)
  (h3:(w.jJ:Rat)+bG l.length (fun j=>P j * pt (l.getD j ae.d) ((S j+1:Nat):Int))=0)
  {L:List ae} (hn:l.length≤L.length) (hn5:L.length≤5) (hs:∀ j,j < l.length→L.getD j ae.d=eK (l.getD j ae.d)):Gv (fun N=>bU N w L) true:=by
 by_cases hL2:fH L=0
 ·have e1:(fH L != 0)=false:=by simp [hL2]
  have e2:(gS w != 0)=false:=by simp [hw]
  obtain ⟨S',UY,hq⟩:=LO hL2
  obtain ⟨h,ok,c⟩:=J0 (e5:=11) (by omega) (by omega) (by decide) hq hw
  have Uw:∀ i,i < l.length→S' i=S i:=fun i hi=>by
   have a:=UY i (by omega)
   have b:=hS i hi
   rw [hs i hi] at a
   exact JY a.lo a.hi (show ((S i:Nat):Int) * (S i) < Zi (eK (l.getD i ae.d)) from b.lo) (show Zi (eK (l.getD i ae.d))≤_ from b.hi)
  have key:∀ i,∃ u:Rat,i < l.length→0≤u∧u≤1∧px (l.getD i ae.d) ((S i+1:Nat):Int)=u * px (eK (l.getD i ae.d)) ((S i+1:Nat):Int)∧py (l.getD i ae.d) ((S i+1:Nat):Int)=u * py (eK (l.getD i ae.d)) ((S i+1:Nat):Int)∧pt (l.getD i ae.d) ((S i+1:Nat):Int)=u * pt (eK (l.getD i ae.d)) ((S i+1:Nat):Int):=fun i=>by
   by_cases hi:i < l.length
   ·obtain ⟨u,q⟩:=LP ((Bh hL).2 i hi) ((S i+1:Nat):Int)
    exact ⟨u,fun _=>q⟩
   ·exact ⟨0,fun q=>absurd q hi⟩
  obtain ⟨u,hu⟩:=Classical.axiomOfChoice key
  have hH:h.aE=true:=ok.yes (P:=fun i=>if i < l.length then P i * u i else 0) (fun i _=>by
    show 0≤(if i < l.length then P i * u i else 0)∧(if i < l.length then P i * u i else 0)≤1
    split
    ·rename_i hi
     obtain ⟨u1,u2,_⟩:=hu i hi
     obtain ⟨p1,p2⟩:=hP i hi
     refine ⟨Rat.mul_nonneg p1 u1,?_⟩
     have:=Rat.mul_le_mul_of_nonneg_right p2 u1
     grind
    ·exact ⟨by decide,by decide⟩)
   (by rw [← h1];congr 1;exact DE hn (fun i hi=>by rw [if_pos hi,hs i hi,Uw i hi,(hu i hi).2.2.1];grind) fun i hi _=>by rw [if_neg (by omega)];grind)
   (by rw [← h2];congr 1;exact DE hn (fun i hi=>by rw [if_pos hi,hs i hi,Uw i hi,(hu i hi).2.2.2.1];grind) fun i hi _=>by rw [if_neg (by omega)];grind)
   (by rw [← h3];congr 1;exact DE hn (fun i hi=>by rw [if_pos hi,hs i hi,Uw i hi,(hu i hi).2.2.2.2];grind) fun i hi _=>by rw [if_neg (by omega)];grind)
  refine Gv.bind (DD L) (Gv.bh e1 (Gv.bind (Gv.bind (Cp L) (Gv.bh e1 (Gv.bind (Fe w) (Gv.bh e2 (Gv.bind c (Gv.pure _)))))) (Gv.bind (Gv.aR (by rw [hH];rfl) J1) ((Gv.pure _).eq (by rw [hH];rfl)))))
 ·have e1:(fH L != 0)=true:=by simpa using hL2
  exact Gv.bind (DD L) (Gv.aR e1 (Gv.bind J1 (Gv.pure _)))
theorem R9 (hl:l.length≤4) (fin:∀ L:List ae,l.length≤L.length→L.length≤5→(∀ j,j < l.length→L.getD j ae.d=eK (l.getD j ae.d))→Gv (fun N=>bU N w L) true) :
  ∀ (k x:Nat) (L:List ae),x+k=l.length→L.length=l.length→(∀ j,j < x→L.getD j ae.d=eK (l.getD j ae.d))→(∀ j,x≤j→L.getD j ae.d=l.getD j ae.d)→aF (fun N g=>aW N w more g L (x:Int)) true
 | 0,x,L,hx,hL,h1,h2=>by
  obtain rfl:x=L.length:=by omega
  refine aF.succ (fun N g=>aW.eq_2 ..) (aF.bh ep (aF.one ?_))
  cases decide (((more.eC.size:Nat):Int)≤12) with
  | true=>exact Gv.aR rfl (Gv.if (by omega) (fin _ (by simp;omega) (by simp;omega) fun j hj=>by rw [x7 _ _ _ (by omega)];exact h1 j (by omega)))
  | false=>exact Gv.bh rfl (fin _ (by omega) (by omega) fun j hj=>h1 j (by omega))
 | k+1,x,L,hx,hL,h1,h2=>by
  have mE:x < L.length:=by omega
  refine aF.succ (fun N g=>aW.eq_2 ..) (aF.aR (dec_lt mE) (aF.if (pS mE) ?_))
  rw [ao,aN (by omega),h2 x (az _)]
  refine R9 hl fin k (x+1) _ (by omega) (by rw [List.length_set];exact hL) (fun j hj=>?_) fun j hj=>?_
  ·by_cases e:j=x
   ·subst e;exact kX _ _ _ _ mE
   ·rw [iw _ _ _ (fun q=>e q.symm)];exact h1 j (by omega)
  ·rw [iw _ _ _ (show x≠j by omega)];exact h2 j (by omega)
end
theorem s8 (l:List ae) (w:dE) (more:ae) (_:(wL ae.wf) l) (_:dE.wf w) (_:ae.wf more):∃ N,cW N l w more=some true:=by
 refine Gv.ex ?_
 have Uh:Gv (fun N=>(eH N).bind fun r=>some r) true:=Gv.bind J1 (Gv.pure _)
 by_cases h4:((l.length:Nat):Int) > 4
 ·have d4:=decide_eq_true h4
  refine Gv.bind (Gv.bh (by rw [d4];rfl) (Gv.pure _)) (Gv.bind (Gv.bh (by rw [d4];rfl) (Gv.pure _)) (Gv.aR (by rw [d4];rfl) Uh))
 have d4:=decide_eq_false h4
 refine Gv.bind (Gv.aR (by rw [d4];rfl) (DD l)) ?_
 by_cases hL:fH l≠0
 ·have e1:(fH l != 0)=true:=by simpa using hL
  exact Gv.bind (Gv.bh (by rw [d4,e1];rfl) (Gv.pure _)) (Gv.aR (by rw [d4,e1];rfl) Uh)
 replace hL:fH l=0:=Classical.not_not.1 hL
 have e1:(fH l != 0)=false:=by simp [hL]
 refine Gv.bind (Gv.aR (by rw [d4,e1];rfl) (R7 w)) ?_
 by_cases hw:gS w≠0
 ·have e2:(gS w != 0)=true:=by simpa using hw
  exact Gv.aR (by rw [d4,e1,e2];rfl) Uh
 replace hw:gS w=0:=Classical.not_not.1 hw
 have e2:(gS w != 0)=false:=by simp [hw]
 refine Gv.bh (by rw [d4,e1,e2];rfl) ?_
 obtain ⟨S,hS,hq⟩:=LO hL
 obtain ⟨m,ok,c⟩:=J0 (e5:=9) (by omega) (by omega) (by decide) hq hw
 obtain ⟨r1,r2⟩:=ok.parts
 have ce:=Pa hL hw hq r1 r2 (eZ (Nat.mul_le_mul (show l.length+1≤5 by omega) (az _)) (by decide))
 rw [ok.code rfl] at ce
 have hold:Gv (fun N=>ly N l w) (m,0):=Gv.bind (Cp l) (Gv.bh e1 (Gv.bind (Fe w) (Gv.bh e2 (Gv.bind c (Gv.pure _)))))
 refine Gv.bind hold (Gv.bind (LL (by omega) hq hw) ?_)
 -- the windless case
 have hw0:gS (⟨0,0,0⟩:dE)=0:=by decide
 obtain ⟨m0,ok0,c0⟩:=J0 (e5:=9) (w:=⟨0,0,0⟩) (by omega) (by omega) (by decide) hq hw0
 have hz:∀ f:Nat→Rat,((0:Int):Rat)+bG l.length (fun j=>(fun _=>(0:Rat)) j * f j)=0:=fun f=>by
  rw [aY (g:=fun _=>0) fun j _=>by grind,kY];show (0:Rat)+0=0;grind
 have hH0:m0.aE=true:=ok0.yes (P:=fun _=>0) (fun i _=>⟨by decide,by decide⟩) (hz _) (hz _) (hz _)
 have Yx:Gv (fun N=>ly N l (⟨0,0,0⟩:dE)) (m0,0):=Gv.bind (Cp l) (Gv.bh e1 (Gv.bind (Fe _) (Gv.bh (by rw [hw0];rfl) (Gv.bind c0 (Gv.pure _)))))
 have rest:Gv (fun N=>(ly N l (⟨0,0,0⟩:dE)).bind fun tJ=>cond (cond (tJ.2 != 0) true (!tJ.1.aE)) (some false) (cond (!m.aE) ((eH N).bind fun KT=>some KT) (if (0+l.length) * 56≤140737488355328 then aW N w more N (([]:List ae) ++ l) 0 else none))) true:=by
  refine Gv.bind Yx (Gv.bh (by rw [hH0];rfl) ?_)
  cases hH:m.aE with
  | false=>exact Gv.aR rfl Uh
  | true =>
   obtain ⟨P,p1,p2,p3,p4⟩:=ok.UX hH
   refine Gv.bh rfl (Gv.if (by omega) ?_)
   exact (R9 (more:=more) (by omega) (fun L a b d=>Wx hL hw hS p1 p2 p3 p4 a b d) l.length 0 l (by omega) rfl (fun j hj=>absurd hj (dT _)) fun j _=>rfl).diag
 have hg:=Uf (X:=fun i=>px (l.getD i ae.d) ((S i+1:Nat):Int)) (Y:=fun i=>py (l.getD i ae.d) ((S i+1:Nat):Int)) (T:=fun i=>pt (l.getD i ae.d) ((S i+1:Nat):Int)) (n:=l.length)
  (fun i hi=>(hq i hi).rx) (fun i hi=>(hq i hi).ry) (fun i hi=>(hq i hi).rt) ((er (Bf hw).1).le (show 4≤40 by decide)) ((er (Bf hw).2.1).le (show 4≤40 by decide)) ((er (Bf hw).2.2).le (show 4≤40 by decide))
 rcases DW (n:=l.length) (e5:=9) (by omega) (LJ hg) (by rw [zY];omega) (.inr (by omega)) (by decide) (Ap (by omega) (by rw [zY];omega) hg) with ⟨y,q1,q2⟩ | ⟨x,q1,q2⟩
 ·have hH:m.aE=false:=by
   cases e:m.aE with
   | false=>rfl
   | true =>
    obtain ⟨P,p1,p2,p3,p4⟩:=ok.UX e
    exact (Wu q1 (x:=P) fun r hr=>Ww p1 p2 p3 p4 r (by rw [zY] at hr;exact hr)).elim
  refine Gv.bind q2 (Gv.bind (Gv.aR (by rw [hH];rfl) ce) (Gv.bh (by rw [hH];rfl) rest))
 ·have hH:m.aE=true:=by
   obtain ⟨p1,p2,p3,p4⟩:=Wv (x:=x) fun r hr=>q1.ok r (by rw [zY];exact hr)
   exact ok.yes p1 p2 p3 p4
  refine Gv.bind q2 (Gv.bind (Gv.aR (by rw [hH];rfl) ce) (Gv.bh (by rw [hH];rfl) rest))
end Go.Den
