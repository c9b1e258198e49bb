/- The plain law: the Lean function of the law returns true for every input, and what it needs. No conditions. -/
import Derived.Test.YtlgddcmiekcdiaaGreatBerthHoldsPk
set_option linter.unusedVariables false
set_option linter.unusedSimpArgs false
namespace Go.Den
open Go.Ab
namespace bE
structure Ee (D:bE) (m k s:Nat):Prop where
 a:∀ i j,i < m→j < k→RB (D.a i j) s
 b:∀ i,i < m→RB (D.b i) s
 g:∀ j,j < k→RB (D.g j) s
 v:RB D.v s
theorem Xw:RB 1 1:=RB.int (z:=1) (ZB.small (by decide)) (by decide)
theorem Ee.n9 {D:bE} {m k s i j:Nat} (h:D.Ee m k s) (h1:1≤s) (hi:i < m) (hj:j < k) (h0:D.a i j≠0) {c:Nat} (hc:c < k):RB (D.n9 i j c) (2 * s):=by
 unfold bE.n9
 split
 ·exact (Xw.div (h.a i j hi hj) h0).le (by omega)
 ·exact ((h.a i c hi hc).div (h.a i j hi hj) h0).neg.le (by omega)
theorem Ee.jF {D:bE} {m k s i j:Nat} (h:D.Ee m k s) (h1:1≤s) (hi:i < m) (hj:j < k) (h0:D.a i j≠0):(D.jF i j).Ee m k (5 * s):=by
 have hp:RB (D.pb i j) (2 * s):=((h.b i hi).div (h.a i j hi hj) h0).neg.le (by omega)
 refine ⟨fun r c hr hc=>?_,fun r hr=>?_,fun c hc=>?_,((h.v).add ((h.g j hj).mul hp)).le (by omega)⟩
 ·have hw:=h.n9 h1 hi hj h0 hc
  simp only [bE.jF]
  split
  ·exact hw.le (by omega)
  ·split
   ·exact ((h.a r j hr hj).mul hw).le (by omega)
   ·exact ((h.a r c hr hc).add ((h.a r j hr hj).mul hw)).le (by omega)
 ·simp only [bE.jF]
  split
  ·exact hp.le (by omega)
  ·exact ((h.b r hr).add ((h.a r j hr hj).mul hp)).le (by omega)
 ·have hw:=h.n9 h1 hi hj h0 hc
  simp only [bE.jF]
  split
  ·exact ((h.g j hj).mul hw).le (by omega)
  ·exact ((h.g c hc).add ((h.g j hj).mul hw)).le (by omega)
open Classical in
noncomputable def zK (p:Nat→Prop):Nat→Nat
 | 0=>0
 | n+1=>zK p n+if p n then 1 else 0
theorem L5 {p:Nat→Prop}:∀ n,zK p n≤n
 | 0=>aG _
 | n+1=>by have:=L5 (p:=p) n;rw [zK];split<;>omega
theorem yC {p q:Nat→Prop}:∀ {n:Nat},(∀ i,i < n→q i→p i)→zK q n≤zK p n
 | 0,_=>aG _
 | n+1,h=>by
  have:=yC (p:=p) (q:=q) (n:=n) fun i hi=>h i (by omega)
  have hn:=h n (by omega)
  rw [zK,zK]
  by_cases h1:q n
  ·simp only [h1,hn h1,if_true];omega
  ·simp only [h1,if_false];omega
theorem QO {p q:Nat→Prop}:∀ {n i:Nat},(∀ i,i < n→q i→p i)→i < n→p i→¬ q i→zK q n < zK p n
 | 0,i,_,hi,_,_=>by omega
 | n+1,i,h,hi,h1,h2=>by
  have hn:=h n (by omega)
  rw [zK,zK]
  by_cases e:i=n
  ·subst e
   have:=yC (p:=p) (q:=q) (n:=i) fun i hi=>h i (by omega)
   simp only [h1,h2,if_true,if_false];omega
  ·have:=QO (p:=p) (q:=q) (n:=n) (i:=i) (fun i hi=>h i (by omega)) (by omega) h1 h2
   by_cases h3:q n
   ·simp only [h3,hn h3,if_true];omega
   ·simp only [h3,if_false];omega
theorem KJ {p:Nat→Prop}:∀ {n:Nat},zK p n=0→∀ i,i < n→¬ p i
 | 0,_,i,hi=>by omega
 | n+1,h,i,hi=>by
  rw [zK] at h
  by_cases e:i=n
  ·subst e;intro hp;simp only [hp,if_true] at h;omega
  ·exact KJ (n:=n) (by omega) i (by omega)
def dir (D:bE) (m k j:Nat) (u:Nat):Rat:=D.ext m k (one (D.fr j)) u - D.ext m k tM u
theorem Te {D:bE} {m k i j:Nat} (h:D.WF m k) (hi:i < m) (hj:j < k):D.dir m k j (D.ik i)=D.a i j:=by
 unfold dir;rw [tZ h hi,tZ h hi,row_one h hj,sq];grind
theorem Jb {D:bE} {m k c j:Nat} (h:D.WF m k) (hc:c < k) (hj:j < k):D.dir m k j (D.fr c)=if c=j then 1 else 0:=by
 unfold dir;rw [uJ h hc,uJ h hc]
 unfold one tM
 by_cases e:c=j
 ·subst e;rw [if_pos rfl,if_pos rfl];grind
 ·rw [if_neg e,if_neg fun q=>e (h.fi _ _ hc hj q)];grind
theorem KK {D D':bE} {m k j:Nat} (h':D'.WF m k) (e:B8 m k D' D) (hz:∀ c,c < k→D'.dir m k j (D.fr c)=0) {i:Nat} (hi:i < m):D'.dir m k j (D.ik i)=0:=by
 have s1:=(e.Nf _).1 (sn h' (one (D'.fr j)))
 have s0:=(e.Nf _).1 (sn h' tM)
 unfold dir
 rw [yB s1 (y:=D'.ext m k tM) (fun c hc=>by have:=hz c hc;unfold dir at this;grind) hi,yB s0 (y:=D'.ext m k tM) (fun _ _=>rfl) hi]
 grind
theorem H0 {D D':bE} {m k:Nat} (h:D.WF m k) (h':D'.WF m k) (e:B8 m k D D') (hb:∀ u,D.yA m u→D'.yA m u) {j:Nat} (hj:j < k):∃ j',j' < k∧D'.fr j'=D.fr j:=by
 refine zl h' (h.fl j hj) fun ⟨i',rr,q⟩=>?_
 have:=KK (D:=D') (D':=D) (j:=j) h e (fun c hc=>?_) rr
 ·rw [q,Jb h hj hj,if_pos rfl] at this;exact absurd this (by decide)
 ·obtain ⟨c',oG,q2⟩:=zl h (h'.fl c hc) fun ⟨i,hi,q3⟩=>by
   obtain ⟨i2,TQ,q4⟩:=hb _ ⟨i,hi,q3⟩
   exact h'.bf i2 c TQ hc q4
  rw [← q2,Jb h oG hj,if_neg fun q5=>h'.bf i' c rr hc (by rw [q,← q2,q5])]
theorem Gl {m k:Nat} {D:bE} (h:D.WF m k):∀ (n:Nat) {D':bE} {s:Nat},D'.WF m k→B8 m k D' D→D'.Ee m k s→1≤s→zK (fun i=>¬ D'.yA m (D.ik i)) m≤n→D.Ee m k (5 ^ n * s)
 | n,D',s,h',e,hs,h1,hc=>by
  by_cases hz:zK (fun i=>¬ D'.yA m (D.ik i)) m=0
  ·have hb:∀ u,D.yA m u→D'.yA m u:=fun u ⟨i,hi,q⟩=>q ▸ Classical.not_not.1 (KJ hz i hi)
   obtain ⟨u1,u2,u3,u4⟩:=uniq h h' e.symm hb
   have hn:s≤5 ^ n * s:=Nat.le_mul_of_pos_left _ (Nat.pow_pos (by decide))
   refine ⟨fun i j hi hj=>?_,fun i hi=>?_,fun j hj=>?_,by rw [u4];exact hs.v.le hn⟩
   ·obtain ⟨i',rr,q⟩:=hb _ ⟨i,hi,rfl⟩
    obtain ⟨j',yM,q2⟩:=H0 h h' e.symm hb hj
    rw [u2 i j i' j' hi rr hj yM q.symm q2.symm];exact (hs.a _ _ rr yM).le hn
   ·obtain ⟨i',rr,q⟩:=hb _ ⟨i,hi,rfl⟩
    rw [u1 i i' hi rr q.symm];exact (hs.b _ rr).le hn
   ·obtain ⟨j',yM,q2⟩:=H0 h h' e.symm hb hj
    rw [u3 j j' hj yM q2.symm];exact (hs.g _ yM).le hn
  ·obtain ⟨i,hi,hnb⟩:∃ i,i < m∧¬ D'.yA m (D.ik i):=pH fun q=>hz (by
    have:zK (fun i=>¬ D'.yA m (D.ik i)) m≤zK (fun _=>False) m:=yC fun i hi hp=>q ⟨i,hi,hp⟩
    have h0:∀ n,zK (fun _=>False) n=0:=fun n=>by
     induction n with
     | zero=>rfl
     | succ n ih=>rw [zK,ih];simp
    rw [h0] at this;omega)
   obtain ⟨j',yM,hv⟩:=zl h' (h.bl i hi) hnb
   obtain ⟨r,hr,h0,OO⟩:∃ r,r < m∧D'.a r j'≠0∧¬ D.yA m (D'.ik r):=pH fun q=>by
    have:=KK (D:=D) (D':=D') (j:=j') h' e (fun c hc=>?_) hi
    ·rw [← hv,Jb h' yM yM,if_pos rfl] at this;exact absurd this (by decide)
    ·rcases h'.al _ (h.fl c hc) with ⟨r,hr,q2⟩ | ⟨c',oG,q2⟩
     ·rw [← q2,Te h' hr yM]
      refine pH fun q3=>q ⟨r,hr,q3,fun ⟨i2,TQ,q4⟩=>h.bf i2 c TQ hc (q4.trans q2)⟩
     ·rw [← q2,Jb h' oG yM,if_neg fun q3=>h.bf i c hi hc (by rw [← hv,← q2,q3])]
   have gS:zK (fun i=>¬ (D'.jF r j').yA m (D.ik i)) m < zK (fun i=>¬ D'.yA m (D.ik i)) m:=by
    refine QO (i:=i) (fun i' rr hp hq=>hp ((I9 h' hr).2 (.inl ⟨hq,fun q=>OO ⟨i',rr,q⟩⟩))) hi hnb fun hp=>hp ((I9 h' hr).2 (.inr hv.symm))
   obtain ⟨n,rfl⟩:∃ n',n=n'+1:=⟨n - 1,by omega⟩
   have:=Gl h n (h'.jF hr yM) ((B8.jF hr yM h0).symm.trans e) (hs.jF h1 hr yM h0) (by omega) (by omega)
   rwa [← Nat.mul_assoc,← Nat.pow_succ] at this
theorem size {m k s:Nat} {D D':bE} (h:D.WF m k) (h':D'.WF m k) (e:B8 m k D' D) (hs:D'.Ee m k s) (h1:1≤s):D.Ee m k (5 ^ m * s):=Gl h m h' e hs h1 (L5 m)
theorem Ng {p:Nat→Prop} (i0:Nat):∀ n,zK p n≤zK (fun i=>p i∧i≠i0) n+1
 | 0=>by rw [zK];omega
 | n+1=>by
  have ih:=Ng (p:=p) i0 n
  rw [zK,zK]
  by_cases h1:p n
  ·by_cases h2:n=i0
   ·have:zK p n≤zK (fun i=>p i∧i≠i0) n:=yC fun i hi hp=>⟨hp,by omega⟩
    rw [if_pos h1,if_neg fun q=>q.2 h2];omega
   ·rw [if_pos h1,if_pos (⟨h1,h2⟩:p n∧n≠i0)];omega
  ·rw [if_neg h1,if_neg fun q=>h1 q.1];omega
theorem Jc:∀ (k:Nat) {p:Nat→Prop} {n:Nat} (f:Nat→Nat),(∀ i,i < n→p i→f i < k)→(∀ i i',i < n→i' < n→p i→p i'→f i=f i'→i=i')→zK p n≤k
 | 0,p,n,f,h,_=>by
  have:zK p n≤zK (fun _=>False) n:=yC fun i hi hp=>absurd (h i hi hp) (dX _)
  have h0:∀ n,zK (fun _=>False) n=0:=fun n=>by
   induction n with
   | zero=>rfl
   | succ n ih=>rw [zK,ih];simp
  rw [h0] at this;exact this
 | k+1,p,n,f,h,hi=>by
  by_cases e:∃ i,i < n∧p i∧f i=k
  ·obtain ⟨i0,h1,h2,h3⟩:=e
   have q:=Jc k (p:=fun i=>p i∧i≠i0) (n:=n) f (fun i uP ⟨hp,fZ⟩=>by
    have:=h i uP hp
    have h4:f i≠k:=fun q=>fZ (hi i i0 uP h1 hp h2 (q.trans h3.symm))
    omega) fun i i' a b c d=>hi i i' a b c.1 d.1
   have:=Ng (p:=p) i0 n
   omega
  ·have:=Jc k f (p:=p) (n:=n) (fun i uP hp=>by
    have:=h i uP hp
    have h4:f i≠k:=fun q=>e ⟨i,uP,hp,q⟩
    omega) hi
   omega
theorem KL {m k s e5:Nat} {D D':bE} (h5:m≤e5∨k≤e5) (h:D.WF m k) (h':D'.WF m k) (e:B8 m k D' D) (hs:D'.Ee m k s) (h1:1≤s):D.Ee m k (5 ^ e5 * s):=by
 refine Gl h e5 h' e hs h1 ?_
 rcases h5 with h5 | h5
 ·exact eC (L5 m) h5
 ·refine eC ?_ h5
  have key:∀ i,∃ j,i < m→¬ D'.yA m (D.ik i)→j < k∧D'.fr j=D.ik i:=fun i=>by
   by_cases hi:i < m
   ·by_cases hb:D'.yA m (D.ik i)
    ·exact ⟨0,fun _ q=>absurd hb q⟩
    ·obtain ⟨j,hj,q⟩:=zl h' (h.bl i hi) hb
     exact ⟨j,fun _ _=>⟨hj,q⟩⟩
   ·exact ⟨0,fun q=>absurd q hi⟩
  obtain ⟨f,hf⟩:=Classical.axiomOfChoice key
  refine Jc k f (fun i hi hp=>(hf i hi hp).1) fun i i' hi rr hp sw q=>?_
  have a:=(hf i hi hp).2
  have b:=(hf i' rr sw).2
  rw [q] at a
  exact h.bi i i' hi rr (a.symm.trans b)
end bE
end Go.Den
namespace Go.Den
open Go.Ab
theorem Ok (m n:Nat) (f:Nat→Nat→Rat):bX m (fun i=>bX n fun j=>f i j)=bX n fun j=>bX m fun i=>f i j:=by
 induction m with
 | zero=>show (0:Rat)=_;rw [show (fun j=>bX 0 fun i=>f i j)=fun _=>(0:Rat) from rfl,nX]
 | succ m ih=>simp only [bX];rw [ih,← rj]
theorem yD (m n:Nat) (f:Nat→Rat):bX (m+n) f=bX m f+bX n fun i=>f (m+i):=by
 induction n with
 | zero=>show bX m f=bX m f+0;grind
 | succ n ih=>rw [show m+(n+1)=m+n+1 by omega,bX,bX,ih];grind
theorem QP (n:Nat) (f g:Nat→Rat):bX n (fun i=>f i - g i)=bX n f - bX n g:=by
 have e:(fun i=>f i - g i)=fun i=>f i+(-1) * g i:=by funext i;grind
 rw [e,rj,mH];grind
namespace bE
def sc (t:Rat) (u:Nat):Nat→Rat:=fun w=>if w=u then t else 0
theorem VC {D:bE} {m k j:Nat} (h:D.WF m k) (hj:j < k) (t:Rat) (i:Nat):D.row k (sc t (D.fr j)) i=D.b i+D.a i j * t:=by
 unfold row sc
 rw [lj hj _ fun c hc fZ=>by rw [if_neg fun e=>fZ (h.fi _ _ hc hj e)];grind]
 rw [if_pos rfl]
theorem Xx {D:bE} {m k j:Nat} (h:D.WF m k) (hj:j < k) (t:Rat):D.gv k (sc t (D.fr j))=D.v+D.g j * t:=by
 unfold gv sc
 rw [lj hj _ fun c hc fZ=>by rw [if_neg fun e=>fZ (h.fi _ _ hc hj e)];grind]
 rw [if_pos rfl]
def gc (D:bE) (k u:Nat):Rat:=bX k fun j=>if D.fr j=u then D.g j else 0
theorem QQ {D:bE} {m k j:Nat} (h:D.WF m k) (hj:j < k):D.gc k (D.fr j)=D.g j:=by
 unfold gc
 rw [lj hj _ fun c hc fZ=>if_neg fun e=>fZ (h.fi _ _ hc hj e),if_pos rfl]
theorem Jd {D:bE} {k u:Nat} (h:∀ j,j < k→D.fr j≠u):D.gc k u=0:=by
 unfold gc
 rw [bN (g:=fun _=>0) fun j hj=>if_neg (h j hj),nX]
theorem VD {D:bE} {m k:Nat} (h:D.WF m k) (x:Nat→Rat):D.gv k x=D.v+bX (m+k) fun u=>D.gc k u * x u:=by
 unfold gv;congr 1
 have e:(fun u=>D.gc k u * x u)=fun u=>bX k fun j=>x u * (if D.fr j=u then D.g j else 0):=by
  funext u;rw [mH];unfold gc;grind
 rw [e,Ok]
 refine bN fun j hj=>?_
 rw [lj (h.fl j hj) _ fun u _ hu=>by rw [if_neg fun q=>hu q.symm];grind]
 rw [if_pos rfl];grind
section
variable (n m:Nat) (C:Nat→Nat→Rat) (B:Nat→Rat)
def fst (z:Rat):bE where
 ik:=fun i=>2 * n+i
 fr:=fun j=>if j < 2 * n then j else 2 * n+m
 a:=fun i j=>if j < n then -(C i j) else if j < 2 * n then C i (j - n) else 1
 b:=B
 g:=fun j=>if j < 2 * n then 0 else z
 v:=0
theorem Gm (z:Rat):(fst n m C B z).WF m (2 * n+1):=by
 refine ⟨fun i i' _ _ e=>?_,fun j j' hj yM e=>?_,fun i j hi hj e=>?_,fun i hi=>?_,fun j hj=>?_,fun u hu=>?_⟩
 ·simp only [fst] at e;omega
 ·simp only [fst] at e;split at e<;>split at e<;>omega
 ·simp only [fst] at e;split at e<;>omega
 ·simp only [fst];omega
 ·simp only [fst];split<;>omega
 ·by_cases h:u < 2 * n
  ·exact .inr ⟨u,by omega,by simp only [fst];rw [if_pos h]⟩
  ·by_cases h2:u=2 * n+m
   ·exact .inr ⟨2 * n,by omega,by simp only [fst];rw [if_neg (by omega)];exact h2.symm⟩
   ·exact .inl ⟨u - 2 * n,by omega,by simp only [fst];omega⟩
def xB (p:Nat→Rat) (i:Nat):Rat:=bX n fun j=>C i j * p j
theorem Nh (z:Rat) (x:Nat→Rat) (i:Nat):(fst n m C B z).row (2 * n+1) x i=B i - xB n C (fun j=>x j - x (n+j)) i+x (2 * n+m):=by
 unfold row xB
 have e2:bX (2 * n) (fun j=>(fst n m C B z).a i j * x ((fst n m C B z).fr j)) = - bX n fun j=>C i j * (x j - x (n+j)):=by
  rw [show 2 * n=n+n by omega,yD]
  have e3:bX n (fun j=>(fst n m C B z).a i j * x ((fst n m C B z).fr j))=bX n fun j=>(-1) * (C i j * x j):=bN fun j hj=>by
   simp only [fst];rw [if_pos hj,if_pos (by omega)];grind
  have e4:bX n (fun j=>(fst n m C B z).a i (n+j) * x ((fst n m C B z).fr (n+j)))=bX n fun j=>C i j * x (n+j):=bN fun j hj=>by
   simp only [fst];rw [if_neg (by omega),if_pos (by omega),if_pos (by omega),show n+j - n=j by omega]
  rw [e3,e4,mH,show (fun j=>C i j * (x j - x (n+j)))=fun j=>C i j * x j - C i j * x (n+j) by funext j;grind,QP]
  grind
 rw [bX,e2]
 have e5:(fst n m C B z).a i (2 * n)=1:=by simp only [fst];rw [if_neg (by omega),if_neg (by omega)]
 have e6:(fst n m C B z).fr (2 * n)=2 * n+m:=by simp only [fst];rw [if_neg (by omega)]
 have e7:(fst n m C B z).b i=B i:=rfl
 rw [e5,e6,e7];grind
theorem QR (z:Rat) (x:Nat→Rat):(fst n m C B z).gv (2 * n+1) x=z * x (2 * n+m):=by
 unfold gv
 rw [lj (j:=2 * n) (by omega) _ fun j hj fZ=>by simp only [fst];rw [if_pos (by omega)];grind]
 have e5:(fst n m C B z).g (2 * n)=z:=by simp only [fst];rw [if_neg (by omega)]
 have e6:(fst n m C B z).fr (2 * n)=2 * n+m:=by simp only [fst];rw [if_neg (by omega)]
 have e7:(fst n m C B z).v=0:=rfl
 rw [e5,e6,e7];grind
theorem Ex (z:Rat) (x:Nat→Rat):(fst n m C B z).Jy m (2 * n+1) x↔∀ i,i < m→x (2 * n+i)=B i - xB n C (fun j=>x j - x (n+j)) i+x (2 * n+m):=by
 unfold Jy
 constructor
 ·intro h i hi;rw [← Nh n m C B z];exact h i hi
 ·intro h i hi;rw [Nh];exact h i hi
theorem KM (z:Rat) (D:bE) (x:Nat→Rat) (h:B8 m (2 * n+1) (fst n m C B z) D):D.Jy m (2 * n+1) x↔(fst n m C B 0).Jy m (2 * n+1) x:=by
 rw [← h.Nf,Ex,Ex]
def yE (y:Nat→Rat) (u:Nat):Rat:=if 2 * n≤u∧u < 2 * n+m then B (u - 2 * n) - xB n C (fun j=>y j - y (n+j)) (u - 2 * n)+y (2 * n+m) else y u
theorem Gn (z:Rat) (y:Nat→Rat):(fst n m C B z).Jy m (2 * n+1) (yE n m C B y):=(Ex n m C B z _).2 fun i hi=>by
 have e1:yE n m C B y (2 * n+i)=B i - xB n C (fun j=>y j - y (n+j)) i+y (2 * n+m):=by
  unfold yE;rw [if_pos ⟨by omega,by omega⟩,show 2 * n+i - 2 * n=i by omega]
 have e2:yE n m C B y (2 * n+m)=y (2 * n+m):=by unfold yE;rw [if_neg (by omega)]
 have e3:xB n C (fun j=>yE n m C B y j - yE n m C B y (n+j)) i=xB n C (fun j=>y j - y (n+j)) i:=by
  unfold xB
  refine bN fun j hj=>?_
  show C i j * (yE n m C B y j - yE n m C B y (n+j))=C i j * (y j - y (n+j))
  unfold yE;rw [if_neg (by omega),if_neg (by omega)]
 rw [e1,e2,e3]
theorem Ol {low:Nat} (hl:low < m) (AH:B low < 0) (tE:∀ r,r < m→B low≤B r):((fst n m C B (-1)).jF low (2 * n)).KG m:=fun r hr=>by
 have e5:∀ r,(fst n m C B (-1)).a r (2 * n)=1:=fun r=>by simp only [fst];rw [if_neg (by omega),if_neg (by omega)]
 have e7:∀ r,(fst n m C B (-1)).b r=B r:=fun _=>rfl
 simp only [bE.jF,pb,e5,e7]
 have:=tE r hr
 split<;>grind
variable {n m C B} {D:bE} (hw:D.WF m (2 * n+1)) (he:B8 m (2 * n+1) (fst n m C B (-1)) D)
include hw he in
theorem L6 {x:Nat→Rat} (hx:D.Jy m (2 * n+1) x):D.gv (2 * n+1) x = -(x (2 * n+m)):=by
 have:=hw
 rw [← he.gv x ((he.Nf x).2 hx),QR];grind
theorem Gp {m k:Nat} (hw:D.WF m k) {y:Nat→Rat} (hr:∀ i,i < m→0≤D.row k y i) (hy:∀ u,0≤y u) (u:Nat) (hu:u < m+k):0≤D.ext m k y u:=by
 rcases hw.al u hu with ⟨i,hi,e⟩ | ⟨j,hj,e⟩
 ·rw [← e,tZ hw hi];exact hr i hi
 ·rw [← e,uJ hw hj];exact hy _
theorem Da {m k:Nat} (hw:D.WF m k) (hf:D.KG m) (u:Nat) (hu:u < m+k):0≤D.ext m k tM u :=
 Gp hw (y:=tM) (fun i hi=>by rw [sq];exact hf i hi) (fun _=>Rat.le_refl) u hu
include hw he in
theorem Gq:D.v = -(D.ext m (2 * n+1) tM (2 * n+m)):=by
 rw [← L6 hw he (sn hw tM),Gi hw,I8]
include hw he in
theorem Tf (hf:D.KG m) (Xy:(∀ j,j < 2 * n+1→D.g j≤0)∨∃ j,D.Ew (2 * n+1) j∧∀ i,i < m→0≤D.a i j):∀ j,j < 2 * n+1→D.g j≤0:=by
 rcases Xy with h | ⟨j,hj,ha⟩
 ·exact h
 ·exfalso
  have hv:D.v≤0:=by rw [Gq hw he];have:=Da hw hf (2 * n+m) (by omega);grind
  have hp:=hj.pos
  have ht:0≤(1 - D.v) / D.g j:=Gj hp (by grind)
  have hs:=sn hw (sc ((1 - D.v) / D.g j) (D.fr j))
  have h1:=L6 hw he hs
  rw [Gi hw,Xx hw hj.lt] at h1
  have h2:=Gp hw (y:=sc ((1 - D.v) / D.g j) (D.fr j)) (fun i hi=>by
   rw [VC hw hj.lt]
   have:=Rat.mul_nonneg (ha i hi) ht
   have:=hf i hi
   grind) (fun u=>by unfold sc;split<;>grind) (2 * n+m) (by omega)
  have h3:D.g j * ((1 - D.v) / D.g j)=1 - D.v:=by grind
  rw [h3] at h1
  grind
include hw he in
theorem Xz (hg:∀ j,j < 2 * n+1→D.g j≤0):(∀ u,D.gc (2 * n+1) u≤0)∧(∀ j,j < n→bX m (fun i=>-(D.gc (2 * n+1) (2 * n+i)) * C i j)=0)∧bX m (fun i=>-(D.gc (2 * n+1) (2 * n+i)) * B i)=D.v:=by
 have Ym:∀ u,D.gc (2 * n+1) u≤0:=fun u=>by
  by_cases h:∃ j,j < 2 * n+1∧D.fr j=u
  ·obtain ⟨j,hj,rfl⟩:=h
   rw [QQ hw hj];exact hg j hj
  ·rw [Jd fun j hj e=>h ⟨j,hj,e⟩];exact Rat.le_refl
 generalize hG:D.gc (2 * n+1)=G at Ym ⊢
 have key:∀ y:Nat→Rat,-(y (2 * n+m))=D.v+(bX (2 * n) (fun u=>G u * y u)+bX m (fun i=>G (2 * n+i) * (B i - xB n C (fun j=>y j - y (n+j)) i+y (2 * n+m)))+G (2 * n+m) * y (2 * n+m)):=fun y=>by
  have h1:=L6 hw he ((he.Nf _).1 (Gn n m C B (-1) y))
  rw [VD hw,hG,show m+(2 * n+1)=(2 * n+m)+1 by omega,bX,yD] at h1
  have e1:∀ u,u < 2 * n→yE n m C B y u=y u:=fun u hu=>by unfold yE;rw [if_neg (by omega)]
  have e2:yE n m C B y (2 * n+m)=y (2 * n+m):=by unfold yE;rw [if_neg (by omega)]
  have e3:∀ i,i < m→yE n m C B y (2 * n+i)=B i - xB n C (fun j=>y j - y (n+j)) i+y (2 * n+m):=fun i hi=>by
   unfold yE;rw [if_pos ⟨by omega,by omega⟩,show 2 * n+i - 2 * n=i by omega]
  rw [bN (n:=2 * n) (g:=fun u=>G u * y u) fun u hu=>by rw [e1 u hu],bN (n:=m) (g:=fun i=>G (2 * n+i) * (B i - xB n C (fun j=>y j - y (n+j)) i+y (2 * n+m))) fun i hi=>by rw [e3 i hi],e2] at h1
  exact h1.symm
 have k0:=key tM
 have d0:∀ i,xB n C (fun j=>tM j - tM (n+j)) i=0:=fun i=>by
  unfold xB tM
  rw [bN (g:=fun _=>0) fun j _=>by grind,nX]
 have z0:bX m (fun i=>G (2 * n+i) * (B i - xB n C (fun j=>tM j - tM (n+j)) i+tM (2 * n+m)))=bX m fun i=>G (2 * n+i) * B i:=bN fun i _=>by
  rw [d0];unfold tM;grind
 rw [z0,bN (n:=2 * n) (g:=fun _=>0) fun u _=>by unfold tM;grind,nX] at k0
 have k0:bX m (fun i=>G (2 * n+i) * B i) = -D.v:=by unfold tM at k0;grind
 have un:∀ (u:Nat) (s:Rat),u < 2 * n→(∀ i,i < m→xB n C (fun j=>one u j - one u (n+j)) i=s * C i (if u < n then u else u - n))→G u=s * bX m fun i=>G (2 * n+i) * C i (if u < n then u else u - n):=fun u s hu hd=>by
  have k1:=key (one u)
  have z1:one u (2 * n+m)=0:=if_neg (by omega)
  rw [z1,lj hu (fun w=>G w * one u w) fun w _ fZ=>by unfold one;rw [if_neg fZ];grind] at k1
  rw [bN (n:=m) (g:=fun i=>G (2 * n+i) * B i+(-s) * (G (2 * n+i) * C i (if u < n then u else u - n))) fun i hi=>by rw [hd i hi];grind,rj,mH,k0] at k1
  have:one u u=1:=if_pos rfl
  rw [this] at k1
  grind
 have AH:∀ f:Nat→Rat,bX m (fun i=>-(G (2 * n+i)) * f i) = -(bX m fun i=>G (2 * n+i) * f i):=fun f=>by
  rw [show (fun i=>-(G (2 * n+i)) * f i)=fun i=>(-1) * (G (2 * n+i) * f i) by funext i;grind,mH];grind
 refine ⟨Ym,fun j hj=>?_,by rw [AH,k0];grind⟩
 have a1:=un j 1 (by omega) fun i hi=>by
  unfold xB
  rw [lj hj _ fun c hc fZ=>by show C i c * (one j c - one j (n+c))=0;unfold one;rw [if_neg fZ,if_neg (by omega)];grind]
  show C i j * (one j j - one j (n+j))=_
  unfold one;rw [if_pos rfl,if_neg (by omega),if_pos hj];grind
 have a2:=un (n+j) (-1) (by omega) fun i hi=>by
  unfold xB
  rw [lj hj _ fun c hc fZ=>by show C i c * (one (n+j) c - one (n+j) (n+c))=0;unfold one;rw [if_neg (by omega),if_neg (by omega)];grind]
  show C i j * (one (n+j) j - one (n+j) (n+j))=_
  unfold one;rw [if_pos rfl,if_neg (by omega),if_neg (by omega),show n+j - n=j by omega];grind
 rw [if_pos hj] at a1
 rw [if_neg (by omega),show n+j - n=j by omega] at a2
 have b1:=Ym j
 have b2:=Ym (n+j)
 rw [AH]
 grind
include hw he in
include hw he in
theorem L7 {i:Nat} (hi:i < m) (hb:D.ik i=2 * n+m):∃ j,j < 2 * n+1∧D.a i j≠0:=pH fun hn=>by
 have hz:∀ j,j < 2 * n+1→D.a i j=0:=fun j hj=>pH fun q=>hn ⟨j,hj,q⟩
 have hc:∀ x,D.Jy m (2 * n+1) x→x (2 * n+m)=D.b i:=fun x hx=>by
  rw [← hb,hx i hi];unfold row
  rw [bN (g:=fun _=>0) fun j hj=>by rw [hz j hj];grind,nX];grind
 have c0:=hc _ ((he.Nf _).1 (Gn n m C B (-1) tM))
 have c1:=hc _ ((he.Nf _).1 (Gn n m C B (-1) (one (2 * n+m))))
 have:=hw
 unfold yE at c0 c1
 rw [if_neg (by omega)] at c0 c1
 unfold tM at c0
 unfold one at c1
 rw [if_pos rfl] at c1
 rw [← c0] at c1
 exact absurd c1 (by decide)
theorem QS {m i j:Nat} (hf:D.KG m) (h0:D.b i=0):(D.jF i j).KG m:=fun r hr=>by
 have hp:D.pb i j=0:=by unfold pb;rw [h0,Rat.div_def,Rat.zero_mul];rfl
 simp only [bE.jF,hp]
 have:=hf r hr
 split
 ·exact Rat.le_refl
 ·grind
end
end bE
end Go.Den
namespace Go.Den
open Go.Ab
section
variable {α:Type}
def AI (f:Nat→α) (n:Nat):List α:=(List.range n).map f
theorem qf (f:Nat→α) (n:Nat):(AI f n).length=n:=by simp [AI]
theorem Ey (f:Nat→α) {n i:Nat} (d:α) (h:i < n):(AI f n).getD i d=f i:=by simp [AI,h]
theorem qB {f g:Nat→α} {n:Nat} (h:∀ i,i < n→f i=g i):AI f n=AI g n:=by
 unfold AI;exact List.map_congr_left fun i hi=>h i (vT.1 hi)
theorem Gr {l:List α} {f:Nat→α} {n:Nat} (d:α) (hl:l.length=n) (h:∀ i,i < n→l.getD i d=f i):l=AI f n:=by
 refine List.ext_getElem (by rw [hl,qf]) fun i h1 h2=>?_
 have:=h i (by omega)
 rw [fE,pG h1,Option.getD_some] at this
 rw [this];simp [AI]
theorem Ez (f:Nat→α) (n i:Nat) (v:α):(AI f n).set i v=AI (fun a=>if a=i then v else f a) n:=by
 refine List.ext_getElem (by simp [AI]) fun a h1 h2=>?_
 rw [List.getElem_set]
 by_cases e:i=a
 ·subst e;simp [AI]
 ·rw [if_neg e];simp [AI];intro q;exact absurd q.symm e
end
def LQ (f:Nat→Rat) (n:Nat):List aa:=AI (fun i=>bC (f i)) n
def LN (f:Nat→Nat) (n:Nat):List Int:=AI (fun i=>(f i:Int)) n
def LA (a:Nat→Nat→Rat) (m k:Nat):List (List aa):=AI (fun i=>LQ (a i) k) m
theorem bT (f:Nat→Rat) (n:Nat):(LQ f n).length=n:=qf _ _
theorem fg (f:Nat→Nat) (n:Nat):(LN f n).length=n:=qf _ _
theorem lv (a:Nat→Nat→Rat) (m k:Nat):(LA a m k).length=m:=qf _ _
theorem fK (f:Nat→Rat) {n i:Nat} (d:aa) (h:i < n):(LQ f n).getD i d=bC (f i):=Ey _ _ h
theorem rI (f:Nat→Nat) {n i:Nat} (d:Int) (h:i < n):(LN f n).getD i d=(f i:Int):=Ey _ _ h
theorem wO (a:Nat→Nat→Rat) {m k i:Nat} (d:List aa) (h:i < m):(LA a m k).getD i d=LQ (a i) k:=Ey _ _ h
theorem rk {f g:Nat→Rat} {n:Nat} (h:∀ i,i < n→f i=g i):LQ f n=LQ g n:=qB fun i hi=>by rw [h i hi]
theorem QT {a b:Nat→Nat→Rat} {m k:Nat} (h:∀ i j,i < m→j < k→a i j=b i j):LA a m k=LA b m k:=qB fun i hi=>rk fun j hj=>h i j hi hj
theorem AJ (f:Nat→Rat) (n i:Nat) (q:Rat):(LQ f n).set i (bC q)=LQ (fun a=>if a=i then q else f a) n:=by
 unfold LQ;rw [Ez];exact qB fun a _=>by by_cases e:a=i<;>simp [e]
theorem VE (f:Nat→Nat) (n i q:Nat):(LN f n).set i (q:Int)=LN (fun a=>if a=i then q else f a) n:=by
 unfold LN;rw [Ez];exact qB fun a _=>by by_cases e:a=i<;>simp [e]
theorem QU (a:Nat→Nat→Rat) (m k i:Nat) (r:Nat→Rat):(LA a m k).set i (LQ r k)=LA (fun x=>if x=i then r else a x) m k:=by
 unfold LA;rw [Ez];exact qB fun a _=>by by_cases e:a=i<;>simp [e]
theorem RB.q {p:Rat} {s:Nat} (h:RB p s) (hs:s≤MS):RQ (bC p) p MS:=(h.le hs).rq (by decide)
section
variable {k j s:Nat} {f:Rat} {F R:Nat→Rat}
theorem Je (hk:k≤1000) (hs:5 * s≤MS) (h1:1≤s) (hf:RB f s) (hF:∀ c,c < k→RB (F c) s) (hR:∀ c,c < k→RB (R c) (2 * s)) {c0:List aa} (h0:c0.length=k):∀ (d x:Nat) (G:Nat→Rat),x+d=k →
  (∀ c,c < k→G c=if c < x then if c=j then f * R j else F c+f * R c else F c) →
  aE (fun N g=>cF N (j:Int) (bC f) c0 (LQ R k) g (LQ G k) (x:Int)) (LQ (fun c=>if c=j then f * R j else F c+f * R c) k)
 | 0,x,G,hx,hG=>aE.succ (fun N g=>cF.eq_2 ..) (aE.aR (Nd (m:=x) (n:=k) (by omega) h0) ((aE.one (Gv.pure _)).eq (rk fun c hc=>by rw [hG c hc,if_pos (by omega)])))
 | d+1,x,G,hx,hG=>by
  have ss:x < k:=by omega
  have hm:RB (f * R x) (3 * s):=(hf.mul (hR x ss)).le (by omega)
  have X9:=(hf.q (by omega)).mul ((hR x ss).q (by omega)) (Jx (by decide))
  have eG:G x=F x:=by rw [hG x ss,if_neg (vS x)]
  refine aE.succ (fun N g=>cF.eq_2 ..) (aE.aF (L0 (n:=k) ss h0) ?_)
  simp only [an,fK _ _ ss,eG,aK (show x < 9223372036854775807 by omega),fQ,AJ]
  by_cases e:x=j
  ·refine aE.aF (by simp [e]) (aE.if (inl ss (bT _ _)) (aE.bind X9 (aE.if (inl ss (bT _ _)) ?_)))
   simp only [AJ]
   refine Je hk hs h1 hf hF hR h0 d (x+1) _ (by omega) fun c hc=>?_
   by_cases q:c=x
   ·rw [if_pos q,if_pos (by omega),if_pos (q.trans e),e]
   ·rw [if_neg q,hG c hc]
    by_cases q2:c < x
    ·simp only [q2,show c < x+1 by omega,if_true]
    ·rw [if_neg q2,if_neg (by omega)]
  ·refine aE.aR (by simp;omega) (aE.if (inl ss (bT _ _)) (aE.bind (((hR x ss).q (by omega)).zero (by decide)) ?_))
   by_cases z:R x=0
   ·refine aE.aR (by simp [z]) (Je hk hs h1 hf hF hR h0 d (x+1) _ (by omega) fun c hc=>?_)
    rw [hG c hc]
    by_cases q2:c < x
    ·simp only [q2,show c < x+1 by omega,if_true]
    ·rw [if_neg q2]
     by_cases q:c=x
     ·rw [if_pos (by omega),if_neg (by omega),q,z];grind
     ·rw [if_neg (by omega)]
   ·refine aE.aF (by simp [z]) (aE.if (inl ss (bT _ _)) (aE.bind X9 (aE.bind (((hF x ss).q (by omega)).add (hm.q (by omega)) (Jx (by decide))) ?_)))
    simp only [AJ]
    refine Je hk hs h1 hf hF hR h0 d (x+1) _ (by omega) fun c hc=>?_
    by_cases q:c=x
    ·rw [if_pos q,if_pos (by omega),if_neg (by omega),q]
    ·rw [if_neg q,hG c hc]
     by_cases q2:c < x
     ·simp only [q2,show c < x+1 by omega,if_true]
     ·rw [if_neg q2,if_neg (by omega)]
theorem QV (hk:k≤1000) (hs:5 * s≤MS) (h1:1≤s) (hf:RB f s) (hF:∀ c,c < k→RB (F c) s) (hR:∀ c,c < k→RB (R c) (2 * s)) :
  Gv (fun N=>iR N (j:Int) (bC f) (LQ F k) (LQ R k)) (LQ (fun c=>if c=j then f * R j else F c+f * R c) k) :=
 (Je hk hs h1 hf hF hR (bT F k) k 0 F (by omega) fun c _=>(if_neg (dX c)).symm).diag
end
def RT (n m k h:Nat) (D:bE):lR×List Int×List Int×List (List aa)×List aa×List aa :=
 (⟨n,m,LN D.ik m,LN D.fr k,LA D.a m k,LQ D.b m,LQ D.g k,bC D.v,h⟩,LN D.ik m,LN D.fr k,LA D.a m k,LQ D.b m,LQ D.g k)
section
variable {n m k h i j s:Nat} {D:bE}
theorem KN (hi:i < m) (hj:j < k) {A:Nat→Nat→Rat} {b:Nat→Rat} (hA:∀ r c,r < m→c < k→r≠i→A r c=(D.jF i j).a r c) (hb:∀ r,r < m→b r=(D.jF i j).b r) {G:Nat→Rat} (hG:∀ c,c < k→G c=(D.jF i j).g c) {v:Rat} (hv:v=(D.jF i j).v) (N:Nat) :
  gB N (i:Int) (j:Int) (n:Int) (m:Int) (h:Int) (LN D.ik m) (LN D.fr k) (LA A m k) (LQ (D.n9 i j) k) (LQ b m) (LQ G k) (bC v).fN.fG (bC v).fN.fL (bC v).fD.fG (bC v).fD.fL=some (RT n m k h (D.jF i j)):=by
 unfold gB
 rw [if_pos (inl hj (fg _ _)),if_pos (inl hi (fg _ _))]
 simp only [an,rI _ _ hi,rI _ _ hj,VE,QU]
 have e1:=QT (a:=fun x=>if x=i then D.n9 i j else A x) (b:=(D.jF i j).a) (m:=m) (k:=k) fun r c AQ hc=>by
  by_cases q:r=i
  ·simp only [q,if_true,bE.jF]
  ·simp only [q,if_false];exact hA r c AQ hc q
 rw [e1,rk hb,rk hG,hv]
 rfl
theorem BT (hm:m≤1000) (hk:k≤1000) (hi:i < m) (hj:j < k) (hs:5 * s≤MS) (h1:1≤s) (hr:D.Ee m k s) (h0:D.a i j≠0):∀ (d x:Nat) (A:Nat→Nat→Rat) (b:Nat→Rat),x+d=m →
  (∀ r c,r < m→c < k→A r c=if r < x∧r≠i then (D.jF i j).a r c else D.a r c)→(∀ r,r < m→b r=if r=i∨r < x then (D.jF i j).b r else D.b r) →
  aE (fun N g=>ca N (i:Int) (j:Int) (n:Int) (m:Int) (bC D.v).fN.fG (bC D.v).fN.fL (bC D.v).fD.fG (bC D.v).fD.fL (h:Int) (LN D.ik m) (LN D.fr k) (LA D.a m k) (LQ D.g k)
   g (LA A m k) (LQ (D.n9 i j) k) (LQ b m) (x:Int)) (RT n m k h (D.jF i j))
 | 0,x,A,b,hx,hA,hb=>by
  have hp:RB (D.pb i j) (2 * s):=((hr.b i hi).div (hr.a i j hi hj) h0).neg.le (by omega)
  have ebi:b i=D.pb i j:=by rw [hb i hi,if_pos (.inl rfl)];simp [bE.jF]
  have Vg:∀ r c,r < m→c < k→r≠i→A r c=(D.jF i j).a r c:=fun r c AQ hc q=>by rw [hA r c AQ hc,if_pos ⟨by omega,q⟩]
  have o5:∀ r,r < m→b r=(D.jF i j).b r:=fun r AQ=>by rw [hb r AQ,if_pos (.inr (by omega))]
  refine aE.succ (fun N g=>ca.eq_2 ..) (aE.aR (Nd (m:=x) (n:=m) (by omega) (lv _ _ _)) ?_)
  simp only [an,fK _ _ hj,fK _ _ hi,ebi]
  refine aE.if (inl hj (bT _ _)) (aE.bind (((hr.g j hj).q (by omega)).zero (by decide)) ?_)
  by_cases z:D.g j=0
  ·refine aE.aR (by simp [z]) (aE.if (by rw [lv];exact hi) (aE.one ⟨0,fun N _=>KN hi hj Vg o5 (fun c _=>?_) ?_ N⟩))
   ·simp only [bE.jF,z]
    by_cases q:c=j
    ·rw [if_pos q,q,z];grind
    ·rw [if_neg q];grind
   ·simp only [bE.jF,z];grind
  ·refine aE.aF (by simp [z]) (aE.if (inl hi (bT _ _)) (aE.bind (((hr.g j hj).q (by omega)).mul (hp.q (by omega)) (Jx (by decide))) (aE.bind ((hr.v.q (by omega)).add ((((hr.g j hj).mul hp).le (aG _)).q (by omega)) (Jx (by decide)))
    (aE.bind (QV hk hs h1 (hr.g j hj) (fun c hc=>hr.g c hc) (fun c hc=>hr.n9 h1 hi hj h0 hc)) (aE.if (by rw [bT,bT]) (aE.if (by rw [lv];exact hi) (aE.one ⟨0,fun N _=>KN hi hj Vg o5 (fun c _=>?_) rfl N⟩)))))))
   simp only [bE.jF]
   by_cases q:c=j
   ·rw [if_pos q,if_pos q,q]
   ·rw [if_neg q,if_neg q]
 | d+1,x,A,b,hx,hA,hb=>by
  have sI:x < m:=by omega
  have hp:RB (D.pb i j) (2 * s):=((hr.b i hi).div (hr.a i j hi hj) h0).neg.le (by omega)
  have ebi:b i=D.pb i j:=by rw [hb i hi,if_pos (.inl rfl)];simp [bE.jF]
  refine aE.succ (fun N g=>ca.eq_2 ..) (aE.aF (L0 (n:=m) sI (lv _ _ _)) ?_)
  by_cases e:x=i
  ·simp only [an,aK (show x < 9223372036854775807 by omega),dx]
   refine aE.aF (by simp [e]) (aE.if (inl sI (lv _ _ _)) (aE.if (inl hj (bT _ _)) (aE.bind (Gv.aR (by simp [e]) (Gv.pure false)) (aE.aR (by simp [e]) (BT hm hk hi hj hs h1 hr h0 d (x+1) A b (by omega) (fun r c AQ hc=>?_) fun r AQ=>?_)))))
   ·rw [hA r c AQ hc]
    by_cases q:r < x∧r≠i
    ·rw [if_pos q,if_pos ⟨by omega,q.2⟩]
    ·rw [if_neg q,if_neg (by omega)]
   ·rw [hb r AQ]
    by_cases q:r=i∨r < x
    ·rw [if_pos q,if_pos (by omega)]
    ·rw [if_neg q,if_neg (by omega)]
  ·have aaI:LQ (A x) k=LQ (D.a x) k:=rk fun c hc=>by rw [hA x c sI hc,if_neg (by omega)]
   have ebx:b x=D.b x:=by rw [hb x sI,if_neg (by omega)]
   simp only [an,aK (show x < 9223372036854775807 by omega),dx,wO _ _ sI,aaI,fK _ _ sI,fK _ _ hi,ebi,ebx,fK _ _ hj]
   have fZ:((x:Int) != (i:Int))=true:=by simp;omega
   refine aE.aR (by simp;omega) (aE.if (by rw [lv];exact sI) (aE.if (inl sI (lv _ _ _)) (aE.if (inl hj (bT _ _)) (aE.bind (Gv.aF fZ (((hr.a x j sI hj).q (by omega)).zero (by decide))) ?_))))
   by_cases z:D.a x j=0
   ·refine aE.aR (by simp [z]) (BT hm hk hi hj hs h1 hr h0 d (x+1) A b (by omega) (fun r c AQ hc=>?_) fun r AQ=>?_)
    ·rw [hA r c AQ hc]
     by_cases q:r < x∧r≠i
     ·rw [if_pos q,if_pos ⟨by omega,q.2⟩]
     ·rw [if_neg q]
      by_cases q2:r=x
      ·rw [if_pos ⟨by omega,by omega⟩,q2]
       simp only [bE.jF,if_neg e,z]
       split
       ·rename_i q3;rw [q3,z];grind
       ·grind
      ·rw [if_neg (by omega)]
    ·rw [hb r AQ]
     by_cases q:r=i∨r < x
     ·rw [if_pos q,if_pos (by omega)]
     ·rw [if_neg q]
      by_cases q2:r=x
      ·rw [if_pos (by omega),q2]
       simp only [bE.jF,if_neg e,z];grind
      ·rw [if_neg (by omega)]
   ·refine aE.aF (by rw [fZ];simp [z]) (aE.if (inl sI (bT _ _)) (aE.if (inl hi (bT _ _)) (aE.bind (((hr.a x j sI hj).q (by omega)).mul (hp.q (by omega)) (Jx (by decide)))
     (aE.bind (((hr.b x sI).q (by omega)).add ((((hr.a x j sI hj).mul hp).le (aG _)).q (by omega)) (Jx (by decide)))
     (aE.bind (QV hk hs h1 (hr.a x j sI hj) (fun c hc=>hr.a x c sI hc) (fun c hc=>hr.n9 h1 hi hj h0 hc)) (aE.if (by rw [bT,bT]) ?_))))))
    simp only [QU,AJ]
    refine BT hm hk hi hj hs h1 hr h0 d (x+1) _ _ (by omega) (fun r c AQ hc=>?_) fun r AQ=>?_
    ·by_cases q2:r=x
     ·have q4:x < x+1∧x≠i:=⟨by omega,e⟩
      simp only [q2,q4,if_true,if_false,bE.jF,and_self,ne_eq,not_false_eq_true]
      by_cases q3:c=j
      ·simp only [q3,if_true]
      ·simp only [q3,if_false]
     ·simp only [q2,if_false]
      rw [hA r c AQ hc]
      by_cases q:r < x∧r≠i
      ·rw [if_pos q,if_pos ⟨by omega,q.2⟩]
      ·rw [if_neg q,if_neg (by omega)]
    ·by_cases q2:r=x
     ·rw [if_pos q2,if_pos (by omega),q2]
      simp only [bE.jF,if_neg e]
     ·rw [if_neg q2,hb r AQ]
      by_cases q:r=i∨r < x
      ·rw [if_pos q,if_pos (by omega)]
      ·rw [if_neg q,if_neg (by omega)]
theorem Gs (hm:m≤1000) (hk:k≤1000) (hi:i < m) (hj:j < k) (hs:5 * s≤MS) (h1:1≤s) (hr:D.Ee m k s) (h0:D.a i j≠0):∀ (d x:Nat) (R:Nat→Rat),x+d=k→(∀ c,c < k→R c=if c < x∧c≠j then D.n9 i j c else D.a i c) →
  aE (fun N g=>dy N (i:Int) (j:Int) (n:Int) (m:Int) (bC D.v).fN.fG (bC D.v).fN.fL (bC D.v).fD.fG (bC D.v).fD.fL (h:Int) (LN D.ik m) (LN D.fr k) (LA D.a m k) (LQ D.b m) (LQ D.g k)
   g (LQ R k) (x:Int)) (RT n m k h (D.jF i j))
 | 0,x,R,hx,hR=>by
  have hp:RB (D.b i / D.a i j) (2 * s):=((hr.b i hi).div (hr.a i j hi hj) h0).le (by omega)
  have hc:=(hr.a i j hi hj).q (show s≤MS by omega)
  refine aE.succ (fun N g=>dy.eq_2 ..) (aE.aR (Nd (m:=x) (n:=k) (by omega) (by simp only [an,wO _ _ hi,bT])) ?_)
  simp only [an,wO _ _ hi,fK _ _ hi,fK _ _ hj]
  refine aE.bind (zh (z:=1) (by decide) (by decide)) (aE.bind ((bE.Xw.q (by decide)).S9 hc h0 (Jx (by decide))) (aE.if (inl hj (bT _ _)) (aE.if (inl hi (bT _ _))
   (aE.bind (((hr.b i hi).q (by omega)).S9 hc h0 (Jx (by decide))) (aE.bind (by have:=pE (hp.q (show 2 * s≤MS by omega)).ir (by decide) (Jx (by decide));rwa [ig] at this) ?_)))))
  simp only [AJ]
  have e1:=rk (f:=fun a=>if a=j then (1:Rat) / D.a i j else R a) (g:=D.n9 i j) (n:=k) fun c hc=>by
   by_cases q:c=j
   ·rw [if_pos q];unfold bE.n9;rw [if_pos q]
   ·rw [if_neg q,hR c hc,if_pos ⟨by omega,q⟩]
  have:=(BT hm hk hi hj hs h1 hr h0 m 0 D.a (fun a=>if a=i then -(D.b i / D.a i j) else D.b a) (by omega) (fun r c _ _=>by rw [if_neg (by omega)]) (fun r AQ=>by
   by_cases q:r=i
   ·rw [if_pos q,if_pos (.inl q)];simp only [bE.jF,if_pos q];rfl
   ·rw [if_neg q,if_neg (by omega)]) (n:=n) (h:=h)).diag
  rw [← e1] at this
  exact aE.one this
 | d+1,x,R,hx,hR=>by
  have ss:x < k:=by omega
  have hc:=(hr.a i j hi hj).q (show s≤MS by omega)
  have hd:RB (D.a i x / D.a i j) (2 * s):=((hr.a i x hi ss).div (hr.a i j hi hj) h0).le (by omega)
  have ex:R x=D.a i x:=by rw [hR x ss,if_neg (by omega)]
  refine aE.succ (fun N g=>dy.eq_2 ..) (aE.aF (L0 (n:=k) ss (by simp only [an,wO _ _ hi,bT])) ?_)
  simp only [an,wO _ _ hi,fK _ _ ss,ex,fK _ _ hj,aK (show x < 9223372036854775807 by omega),jn]
  by_cases e:x=j
  ·refine aE.aR (by simp;omega) (Gs hm hk hi hj hs h1 hr h0 d (x+1) R (by omega) fun c hc=>?_)
   rw [hR c hc]
   by_cases q:c < x∧c≠j
   ·rw [if_pos q,if_pos ⟨by omega,q.2⟩]
   ·rw [if_neg q,if_neg (by omega)]
  ·refine aE.aF (by simp;omega) (aE.if (inl ss (bT _ _)) (aE.bind (((hr.a i x hi ss).q (by omega)).S9 hc h0 (Jx (by decide))) (aE.bind (by have:=pE (hd.q (show 2 * s≤MS by omega)).ir (by decide) (Jx (by decide));rwa [ig] at this) ?_)))
   simp only [AJ]
   refine Gs hm hk hi hj hs h1 hr h0 d (x+1) _ (by omega) fun c hc=>?_
   by_cases q2:c=x
   ·rw [if_pos q2,if_pos ⟨by omega,by omega⟩,q2];unfold bE.n9;rw [if_neg e]
   ·rw [if_neg q2,hR c hc]
    by_cases q:c < x∧c≠j
    ·rw [if_pos q,if_pos ⟨by omega,q.2⟩]
    ·rw [if_neg q,if_neg (by omega)]
theorem Gu (hm:m≤1000) (hk:k≤1000) (hi:i < m) (hj:j < k) (hs:5 * s≤MS) (h1:1≤s) (hr:D.Ee m k s) (h0:D.a i j≠0) :
  Gv (fun N=>ju N (i:Int) (j:Int) (n:Int) (m:Int) (bC D.v).fN.fG (bC D.v).fN.fL (bC D.v).fD.fG (bC D.v).fD.fL (h:Int) (LN D.ik m) (LN D.fr k) (LA D.a m k) (LQ D.b m) (LQ D.g k)) (RT n m k h (D.jF i j)):=by
 have:=(Gs hm hk hi hj hs h1 hr h0 k 0 (D.a i) (by omega) (fun c _=>by rw [if_neg (by omega)]) (n:=n) (h:=h)).diag
 refine Gv.if (by rw [lv];exact hi) (Gv.if (inl hi (lv _ _ _)) (Gv.if (inl hj (by simp only [an,wO _ _ hi,bT])) ?_))
 simp only [an,wO _ _ hi]
 exact this
end
end Go.Den
namespace Go.Den
open Go.Ab
section
variable {n m k h j s:Nat} {D:bE}
def Om (D:bE) (x:Nat) (dD:Int):Prop:=(dD = -1∧∀ j,j < x→D.g j≤0)∨∃ b:Nat,dD=b∧b < x∧0 < D.g b∧∀ j',j' < x→0 < D.g j'→D.fr b≤D.fr j'
theorem QW (hk:k≤1000) (hs:s≤MS) (hr:D.Ee m k s):∀ (d x:Nat) (dD:Int),x+d=k→Om D x dD →
  ∃ r,aE (fun N g=>bF N (n:Int) (m:Int) (bC D.v).fN.fG (bC D.v).fN.fL (bC D.v).fD.fG (bC D.v).fD.fL (h:Int) (LN D.ik m) (LN D.fr k) (LA D.a m k) (LQ D.b m) (LQ D.g k) g dD (x:Int)) r∧Om D k r
 | 0,x,dD,hx,hI=>⟨dD,aE.succ (fun N g=>bF.eq_2 ..) (aE.aR (Nd (m:=x) (n:=k) (by omega) (fg _ _)) (aE.one (Gv.pure _))),by rw [show k=x by omega];exact hI⟩
 | d+1,x,dD,hx,hI=>by
  have ss:x < k:=by omega
  have hsg:=((hr.g x ss).q hs).nc (by decide)
  have nx:∀ rl:Int,Om D (x+1) rl→(cond (cond (decide (nc (D.g x) > 0)) (cond (decide (dD < 0)) true (decide ((LN D.fr k).getD x 0 < (LN D.fr k).getD dD.toNat 0))) false) (x:Int) dD)=rl →
    ∃ r,aE (fun N g=>bF N (n:Int) (m:Int) (bC D.v).fN.fG (bC D.v).fN.fL (bC D.v).fD.fG (bC D.v).fD.fL (h:Int) (LN D.ik m) (LN D.fr k) (LA D.a m k) (LQ D.b m) (LQ D.g k) (g+1) dD (x:Int)) r∧Om D k r:=fun rl h1 h2=>by
   obtain ⟨r,h3,h4⟩:=QW hk hs hr d (x+1) rl (by omega) h1
   refine ⟨r,?_,h4⟩
   have hb:0≤dD→dD < ((k:Nat):Int):=fun h0=>by
    rcases hI with ⟨e,_⟩ | ⟨b,e,hb,_⟩<;>omega
   have:aE (fun N g=>bF N (n:Int) (m:Int) (bC D.v).fN.fG (bC D.v).fN.fL (bC D.v).fD.fG (bC D.v).fD.fL (h:Int) (LN D.ik m) (LN D.fr k) (LA D.a m k) (LQ D.b m) (LQ D.g k) (g+1) dD (x:Int)) r:=by
    simp only [bF]
    refine aE.aF (L0 (n:=k) ss (fg _ _)) (aE.if (inl ss (bT _ _)) ?_)
    simp only [an,fK _ _ ss,gD,aK (show x < 9223372036854775807 by omega)]
    refine aE.bind hsg (aE.if (fun _=>inl ss (fg _ _)) (aE.if (fun q=>?_) ?_))
    ·simp at q
     rw [fg];exact ⟨by omega,hb (by omega)⟩
    ·revert h2
     cases (cond (decide (nc (D.g x) > 0)) (cond (decide (dD < 0)) true (decide ((LN D.fr k).getD x 0 < (LN D.fr k).getD dD.toNat 0))) false) with
     | true=>intro h2;refine aE.aF rfl ?_;simp only [cond_true] at h2;rw [h2];exact h3
     | false=>intro h2;refine aE.aR rfl ?_;simp only [cond_false] at h2;rw [h2];exact h3
   exact this
  have fin:∀ {rl:Int},Om D (x+1) rl→(cond (cond (decide (nc (D.g x) > 0)) (cond (decide (dD < 0)) true (decide ((LN D.fr k).getD x 0 < (LN D.fr k).getD dD.toNat 0))) false) (x:Int) dD)=rl →
    ∃ r,aE (fun N g=>bF N (n:Int) (m:Int) (bC D.v).fN.fG (bC D.v).fN.fL (bC D.v).fD.fG (bC D.v).fD.fL (h:Int) (LN D.ik m) (LN D.fr k) (LA D.a m k) (LQ D.b m) (LQ D.g k) g dD (x:Int)) r∧Om D k r:=fun h1 h2=>by
   obtain ⟨r,h3,h4⟩:=nx _ h1 h2
   exact ⟨r,aE.succ (fun _ _=>rfl) h3,h4⟩
  by_cases hp:0 < D.g x
  ·have e1:decide (nc (D.g x) > 0)=true:=decide_eq_true (BO.2 hp)
   rcases hI with ⟨rfl,hb⟩ | ⟨b,rfl,hb,hg,tE⟩
   ·refine fin (rl:=x) (.inr ⟨x,rfl,by omega,hp,fun j' h1 h2=>?_⟩) (by rw [e1];rfl)
    by_cases e:j'=x
    ·rw [e];exact aG _
    ·exact absurd h2 (Rat.not_lt.2 (hb j' (by omega)))
   ·have e2:decide (((b:Nat):Int) < 0)=false:=by simp
    by_cases gS:D.fr x < D.fr b
    ·refine fin (rl:=x) (.inr ⟨x,rfl,by omega,hp,fun j' h1 h2=>?_⟩) (by
      rw [e1,e2,rI _ _ ss,an,rI _ _ (show b < k by omega),decide_eq_true (show ((D.fr x:Nat):Int) < ((D.fr b:Nat):Int) by omega)];rfl)
     by_cases e:j'=x
     ·rw [e];exact aG _
     ·have:=tE j' (by omega) h2;omega
    ·refine fin (rl:=b) (.inr ⟨b,rfl,by omega,hg,fun j' h1 h2=>?_⟩) (by
      rw [e1,e2,rI _ _ ss,an,rI _ _ (show b < k by omega),decide_eq_false (show ¬ ((D.fr x:Nat):Int) < ((D.fr b:Nat):Int) by omega)];rfl)
     by_cases e:j'=x
     ·rw [e];omega
     ·exact tE j' (by omega) h2
  ·have e1:decide (nc (D.g x) > 0)=false:=decide_eq_false fun q=>hp (BO.1 q)
   refine fin (rl:=dD) ?_ (by rw [e1];rfl)
   rcases hI with ⟨e,hb⟩ | ⟨b,e,hb,hg,tE⟩
   ·refine .inl ⟨e,fun j' h1=>?_⟩
    by_cases e2:j'=x
    ·rw [e2];exact Rat.not_lt.1 hp
    ·exact hb j' (by omega)
   ·refine .inr ⟨b,e,by omega,hg,fun j' h1 h2=>?_⟩
    by_cases e2:j'=x
    ·rw [e2] at h2;exact absurd h2 hp
    ·exact tE j' (by omega) h2
theorem VF (hk:k≤1000) (hs:s≤MS) (hr:D.Ee m k s):∃ r,Gv (fun N=>k6 N (n:Int) (m:Int) (bC D.v).fN.fG (bC D.v).fN.fL (bC D.v).fD.fG (bC D.v).fD.fL (h:Int) (LN D.ik m) (LN D.fr k) (LA D.a m k) (LQ D.b m) (LQ D.g k)) r ∧
  ((r = -1∧∀ j,j < k→D.g j≤0)∨∃ j:Nat,r=j∧D.Ew k j):=by
 obtain ⟨r,h1,h2⟩:=QW hk hs hr k 0 (-1) (by omega) (.inl ⟨rfl,fun j hj=>absurd hj (dX _)⟩) (n:=n) (h:=h)
 refine ⟨r,h1.diag,?_⟩
 rcases h2 with h | ⟨b,e,q1,q2,q3⟩
 ·exact .inl h
 ·exact .inr ⟨b,e,q1,q2,q3⟩
def Tg (D:bE) (j x:Nat) (dD:Int) (least:aa):Prop:=(dD = -1∧∀ i,i < x→0≤D.a i j)∨∃ b:Nat,dD=b∧b < x∧D.a b j < 0∧least=bC (D.ratio j b) ∧
 ∀ i',i' < x→D.a i' j < 0→D.ratio j b < D.ratio j i'∨D.ratio j b=D.ratio j i'∧D.ik b≤D.ik i'
theorem QX (hm:m≤1000) (hj:j < k) (hs:2 * s≤MS) (hr:D.Ee m k s):∀ (d x:Nat) (dD:Int) (least:aa),x+d=m→Tg D j x dD least →
  ∃ r l,aE (fun N g=>bM N (j:Int) (n:Int) (m:Int) (bC D.v).fN.fG (bC D.v).fN.fL (bC D.v).fD.fG (bC D.v).fD.fL (h:Int) (LN D.ik m) (LN D.fr k) (LA D.a m k) (LQ D.b m) (LQ D.g k) g dD least (x:Int)) r∧Tg D j m r l
 | 0,x,dD,least,hx,hI=>⟨dD,least,aE.succ (fun N g=>bM.eq_2 ..) (aE.aR (Nd (m:=x) (n:=m) (by omega) (fg _ _)) (aE.one (Gv.pure _))),by rw [show m=x by omega];exact hI⟩
 | d+1,x,dD,least,hx,hI=>by
  have sI:x < m:=by omega
  have ha:=(hr.a x j sI hj).q (show s≤MS by omega)
  have hsg:=ha.nc (by decide)
  have ng:Gv (fun N=>gh N (bC (D.a x j))) (bC (-(D.a x j))):=by have:=pE ha.ir (by decide) (Jx (by decide));rwa [ig] at this
  have nx:∀ (rl:Int) (Gw:aa),Tg D j (x+1) rl Gw→(0≤D.a x j→rl=dD∧Gw=least) →
    (D.a x j < 0→∀ c7:Int,(dD < 0∧c7 = -1∨∃ b:Nat,dD=b∧b < m∧c7=nc (D.ratio j x - D.ratio j b)) →
     cond (cond (decide (c7 < 0)) true (cond (c7 == 0) (decide ((LN D.ik m).getD x 0 < (LN D.ik m).getD dD.toNat 0)) false)) ((x:Int),bC (D.ratio j x)) (dD,least)=(rl,Gw)) →
    ∃ r l,aE (fun N g=>bM N (j:Int) (n:Int) (m:Int) (bC D.v).fN.fG (bC D.v).fN.fL (bC D.v).fD.fG (bC D.v).fD.fL (h:Int) (LN D.ik m) (LN D.fr k) (LA D.a m k) (LQ D.b m) (LQ D.g k) g dD least (x:Int)) r∧Tg D j m r l:=fun rl Gw h1 h2 h5=>by
   obtain ⟨r,l,h3,h4⟩:=QX hm hj hs hr d (x+1) rl Gw (by omega) h1
   refine ⟨r,l,aE.succ (fun N g=>bM.eq_2 ..) (aE.aF (L0 (n:=m) sI (fg _ _)) ?_),h4⟩
   simp only [an,wO _ _ sI,fK _ _ hj,fK _ _ sI,bT,lv,ek,aK (show x < 9223372036854775807 by omega)]
   refine aE.if sI (aE.if (pB sI) (aE.if (pB hj) (aE.bind hsg ?_)))
   by_cases hz:0≤D.a x j
   ·have e:decide (nc (D.a x j)≥0)=true:=decide_eq_true (Int.not_lt.1 fun q=>by have:=oP.1 q;grind)
    obtain ⟨e1,e2⟩:=h2 hz
    refine aE.aF e ?_
    rw [e1,e2] at h3;exact h3
   ·have AH:D.a x j < 0:=Rat.not_le.1 hz
    have e:decide (nc (D.a x j)≥0)=false:=decide_eq_false fun q=>by have:=oP.2 AH;omega
    have h0:-(D.a x j)≠0:=by grind
    have hov:=((hr.b x sI).q (show s≤MS by omega)).S9 (((hr.a x j sI hj).neg).q (show s≤MS by omega)) h0 (Jx (by decide))
    refine aE.aR e (aE.if (pB sI) (aE.bind ng (aE.bind hov ?_)))
    have hJ3:∀ c7:Int,(dD < 0∧c7 = -1∨∃ b:Nat,dD=b∧b < m∧c7=nc (D.ratio j x - D.ratio j b))→aE (fun N g=>fw N (j:Int) (n:Int) (m:Int) (bC D.v).fN.fG (bC D.v).fN.fL (bC D.v).fD.fG (bC D.v).fD.fL (h:Int) (LN D.ik m) (LN D.fr k) (LA D.a m k) (LQ D.b m) (LQ D.g k) dD least (x:Int) (bC (D.b x / -(D.a x j)))
      (bM N (j:Int) (n:Int) (m:Int) (bC D.v).fN.fG (bC D.v).fN.fL (bC D.v).fD.fG (bC D.v).fD.fL (h:Int) (LN D.ik m) (LN D.fr k) (LA D.a m k) (LQ D.b m) (LQ D.g k) g) c7) r:=fun c7 hc=>by
     have h6:=h5 AH c7 hc
     simp only [fw,ek,an,aK (show x < 9223372036854775807 by omega)]
     refine aE.if (fun _=>inl sI (fg _ _)) (aE.if (fun q=>?_) ?_)
     ·rw [fg]
      rcases hc with ⟨_,e⟩ | ⟨b,e,hb,_⟩
      ·simp [e] at q
      ·omega
     ·revert h6
      cases (cond (decide (c7 < 0)) true (cond (c7 == 0) (decide ((LN D.ik m).getD x 0 < (LN D.ik m).getD dD.toNat 0)) false)) with
      | true=>intro h6;simp only [cond_true,ay] at h6;refine aE.aF rfl ?_;rw [← h6.1,← h6.2] at h3;exact h3
      | false=>intro h6;simp only [cond_false,ay] at h6;refine aE.aR rfl ?_;rw [← h6.1,← h6.2] at h3;exact h3
    rcases hI with ⟨e1,_⟩ | ⟨b,e1,hb,hbn,e2,_⟩
    ·exact aE.aR (by simp [e1]) (hJ3 (-1) (.inl ⟨by omega,rfl⟩))
    ·have V8:b < m:=by omega
     have q1:RB (D.ratio j x) (2 * s):=by unfold bE.ratio;exact ((hr.b x sI).div (hr.a x j sI hj).neg h0).le (by omega)
     have q2:RB (D.ratio j b) (2 * s):=by unfold bE.ratio;exact ((hr.b b V8).div (hr.a b j V8 hj).neg (by grind)).le (by omega)
     refine aE.aF (by simp [e1]) (aE.bind (r:=nc (D.ratio j x - D.ratio j b)) ?_ (hJ3 _ (.inr ⟨b,e1,V8,rfl⟩)))
     rw [e2]
     exact (q1.q hs).cmp (q2.q hs) (Jx (by decide))
  by_cases hz:0≤D.a x j
  ·refine nx dD least ?_ (fun _=>⟨rfl,rfl⟩) fun q=>by grind
   rcases hI with ⟨e,hb⟩ | ⟨b,e,hb,hg,e3,tE⟩
   ·refine .inl ⟨e,fun j' h1=>?_⟩
    by_cases e2:j'=x
    ·rw [e2];exact hz
    ·exact hb j' (by omega)
   ·refine .inr ⟨b,e,by omega,hg,e3,fun j' h1 h2=>?_⟩
    by_cases e2:j'=x
    ·rw [e2] at h2;grind
    ·exact tE j' (by omega) h2
  ·have AH:D.a x j < 0:=Rat.not_le.1 hz
   rcases hI with ⟨rfl,hb⟩ | ⟨b,rfl,hb,hg,rfl,tE⟩
   ·refine nx x (bC (D.ratio j x)) (.inr ⟨x,rfl,by omega,AH,rfl,fun j' h1 h2=>?_⟩) (fun q=>by grind) fun _ c7 hc=>?_
    ·by_cases e:j'=x
     ·rw [e];exact .inr ⟨rfl,aG _⟩
     ·have:=hb j' (by omega);grind
    ·rcases hc with ⟨_,e⟩ | ⟨b,e,_⟩
     ·rw [e];rfl
     ·omega
   ·have Yn:∀ c7:Int,(((b:Nat):Int) < 0∧c7 = -1∨∃ b':Nat,((b:Nat):Int)=b'∧b' < m∧c7=nc (D.ratio j x - D.ratio j b'))→c7=nc (D.ratio j x - D.ratio j b):=fun c7 hc=>by
     rcases hc with ⟨e,_⟩ | ⟨b',e,_,e2⟩
     ·omega
     ·rw [e2,show b'=b by omega]
    have V8:b < m:=by omega
    by_cases h1:D.ratio j x < D.ratio j b
    ·refine nx x (bC (D.ratio j x)) (.inr ⟨x,rfl,by omega,AH,rfl,fun j' q1 q2=>?_⟩) (fun q=>by grind) fun _ c7 hc=>?_
     ·by_cases e:j'=x
      ·rw [e];exact .inr ⟨rfl,aG _⟩
      ·rcases tE j' (by omega) q2 with q3 | ⟨q3,_⟩
       ·exact .inl (by grind)
       ·exact .inl (by grind)
     ·rw [Yn c7 hc,decide_eq_true (oP.2 (show D.ratio j x - D.ratio j b < 0 by grind))];rfl
    ·have Pk:decide (nc (D.ratio j x - D.ratio j b) < 0)=false:=decide_eq_false fun q=>by have:=oP.1 q;grind
     by_cases h2:D.ratio j x=D.ratio j b
     ·have OG:(nc (D.ratio j x - D.ratio j b) == 0)=true:=by rw [beq_iff_eq];exact Gh.2 (by grind)
      by_cases h3:D.ik x < D.ik b
      ·refine nx x (bC (D.ratio j x)) (.inr ⟨x,rfl,by omega,AH,rfl,fun j' q1 q2=>?_⟩) (fun q=>by grind) fun _ c7 hc=>?_
       ·by_cases e:j'=x
        ·rw [e];exact .inr ⟨rfl,aG _⟩
        ·rcases tE j' (by omega) q2 with q3 | ⟨q3,q4⟩
         ·exact .inl (by grind)
         ·exact .inr ⟨by grind,by omega⟩
       ·rw [Yn c7 hc,Pk,OG,rI _ _ sI,an,rI _ _ V8,decide_eq_true (show ((D.ik x:Nat):Int) < ((D.ik b:Nat):Int) by omega)];rfl
      ·refine nx b (bC (D.ratio j b)) (.inr ⟨b,rfl,by omega,hg,rfl,fun j' q1 q2=>?_⟩) (fun q=>by grind) fun _ c7 hc=>?_
       ·by_cases e:j'=x
        ·rw [e];exact .inr ⟨h2.symm,by omega⟩
        ·exact tE j' (by omega) q2
       ·rw [Yn c7 hc,Pk,OG,rI _ _ sI,an,rI _ _ V8,decide_eq_false (show ¬ ((D.ik x:Nat):Int) < ((D.ik b:Nat):Int) by omega)];rfl
     ·have OG:(nc (D.ratio j x - D.ratio j b) == 0)=false:=by
       rw [beq_eq_false_iff_ne];intro q;have:=Gh.1 q;grind
      refine nx b (bC (D.ratio j b)) (.inr ⟨b,rfl,by omega,hg,rfl,fun j' q1 q2=>?_⟩) (fun q=>by grind) fun _ c7 hc=>?_
      ·by_cases e:j'=x
       ·rw [e];exact .inl (by grind)
       ·exact tE j' (by omega) q2
      ·rw [Yn c7 hc,Pk,OG];rfl
theorem VG (hm:m≤1000) (hj:j < k) (hs:2 * s≤MS) (hr:D.Ee m k s):∃ r,Gv (fun N=>lz N (j:Int) (n:Int) (m:Int) (bC D.v).fN.fG (bC D.v).fN.fL (bC D.v).fD.fG (bC D.v).fD.fL (h:Int) (LN D.ik m) (LN D.fr k) (LA D.a m k) (LQ D.b m) (LQ D.g k)) r ∧
  ((r = -1∧∀ i,i < m→0≤D.a i j)∨∃ i:Nat,r=i∧D.BS m j i):=by
 obtain ⟨r,l,h1,h2⟩:=QX hm hj hs hr m 0 (-1) _ (by omega) (.inl ⟨rfl,fun j hj=>absurd hj (dX _)⟩) (n:=n) (h:=h)
 refine ⟨r,h1.diag,?_⟩
 rcases h2 with h | ⟨b,e,q1,q2,_,q3⟩
 ·exact .inl h
 ·exact .inr ⟨b,e,q1,q2,q3⟩
def Stop (D:bE) (m k:Nat) (r:Int):Prop:=(r = -1∧∀ j,j < k→D.g j≤0)∨∃ j:Nat,r=j∧D.Ew k j∧∀ i,i < m→0≤D.a i j
theorem QY {e5:Nat} (h5:m≤e5∨k≤e5) (hm:m≤1000) (hk:k≤1000) {D0:bE} (h0:D0.WF m k) (I4:D0.Ee m k s) (h1:1≤s) (hs:5 * (5 ^ e5 * s)≤MS) (hw:D.WF m k) (hf:D.KG m) (he:bE.B8 m k D0 D) :
  ∃ D' r,D'.WF m k∧D'.KG m∧bE.B8 m k D0 D'∧Stop D' m k r∧aE (fun N g=>dz N g (n:Int) (m:Int) (LN D.ik m) (LN D.fr k) (LA D.a m k) (LQ D.b m) (LQ D.g k) (bC D.v).fN.fG (bC D.v).fN.fL (bC D.v).fD.fG (bC D.v).fD.fL (h:Int)) (r,RT n m k h D'):=by
 induction bE.QN hw hf with
 | intro D _ ih =>
  have hr:=bE.KL h5 hw h0 he I4 h1
  have ND:1≤5 ^ e5 * s:=eC h1 (Nat.le_mul_of_pos_left _ (Nat.pow_pos (by decide)))
  obtain ⟨r,e1,e2⟩:=VF hk (by omega) hr (n:=n) (h:=h)
  rcases e2 with ⟨rfl,e2⟩ | ⟨j,rfl,e2⟩
  ·exact ⟨D,-1,hw,hf,he,.inl ⟨rfl,e2⟩,aE.succ (fun N g=>dz.eq_2 ..) (aE.bind e1 (aE.aF (by decide) (aE.one (Gv.pure _))))⟩
  ·obtain ⟨r,e3,e4⟩:=VG hm e2.lt (by omega) hr (n:=n) (h:=h)
   rcases e4 with ⟨rfl,e4⟩ | ⟨i,rfl,e4⟩
   ·exact ⟨D,j,hw,hf,he,.inr ⟨j,rfl,e2,e4⟩,aE.succ (fun N g=>dz.eq_2 ..) (aE.bind e1 (aE.aR (by simp) (aE.bind e3 (aE.aF (by decide) (aE.one (Gv.pure _))))))⟩
   ·have fZ:D.a i j≠0:=by have:=e4.neg;grind
    obtain ⟨D',r,q1,q2,q3,q4,q5⟩:=ih (D.jF i j) ⟨j,i,e2,e4,rfl⟩ (hw.jF e4.lt e2.lt) (hf.jF e4) (he.trans (.jF e4.lt e2.lt fZ))
    refine ⟨D',r,q1,q2,q3,q4,aE.succ (fun N g=>dz.eq_2 ..) (aE.bind e1 (aE.aR (by simp) (aE.bind e3 (aE.aR (by simp) (aE.bind (Gu hm hk e4.lt e2.lt hs ND hr fZ) ?_)))))⟩
    simp only [RT,fg,lv,bT]
    exact aE.if trivial (aE.if trivial (aE.if trivial (aE.if trivial (aE.if trivial q5))))
end
end Go.Den
namespace Go.Den
open Go.Ab
theorem QZ {f:Nat→Nat} {k v:Nat} (hk:k≤1000):∀ d x,x+d=k→(∀ j,j < x→f j≠v)→∃ r,aE (fun N g=>cl N (LN f k) (v:Int) g (x:Int)) r∧((r = -1∧∀ j,j < k→f j≠v)∨∃ j:Nat,r=j∧j < k∧f j=v)
 | 0,x,hx,h=>⟨-1,aE.succ (fun N g=>cl.eq_2 ..) (aE.aR (Nd (m:=x) (n:=k) (by omega) (fg _ _)) (aE.one (Gv.pure _))),.inl ⟨rfl,fun j hj=>h j (by omega)⟩⟩
 | d+1,x,hx,h=>by
  have ss:x < k:=by omega
  by_cases e:f x=v
  ·refine ⟨x,aE.succ (fun N g=>cl.eq_2 ..) (aE.aF (L0 (n:=k) ss (fg _ _)) (aE.if (inl ss (fg _ _)) (aE.aF ?_ (aE.one (Gv.pure _))))),.inr ⟨x,rfl,ss,e⟩⟩
   rw [an,rI _ _ ss,e];simp
  ·obtain ⟨r,h1,h2⟩:=QZ (f:=f) (v:=v) hk d (x+1) (by omega) fun j hj=>by
    by_cases q:j=x
    ·rw [q];exact e
    ·exact h j (by omega)
   refine ⟨r,aE.succ (fun N g=>cl.eq_2 ..) (aE.aF (L0 (n:=k) ss (fg _ _)) (aE.if (inl ss (fg _ _)) (aE.aR ?_ ?_))),h2⟩
   ·rw [an,rI _ _ ss];simp;omega
   ·rw [aK (show x < 9223372036854775807 by omega)];exact h1
theorem Jf {f:Nat→Nat} {k v:Nat} (hk:k≤1000):∃ r,Gv (fun N=>ep N (LN f k) (v:Int)) r∧((r = -1∧∀ j,j < k→f j≠v)∨∃ j:Nat,r=j∧j < k∧f j=v):=by
 obtain ⟨r,h1,h2⟩:=QZ (f:=f) (v:=v) hk k 0 (by omega) fun j hj=>absurd hj (dX _)
 exact ⟨r,h1.diag,h2⟩
theorem Q1 {f:Nat→Rat} {k s:Nat} (hk:k≤1000) (hs:s≤MS) (hf:∀ j,j < k→RB (f j) s):∀ d x,x+d=k→(∀ j,j < x→f j=0) →
  ∃ r,aE (fun N g=>cn N (LQ f k) g (x:Int)) r∧((r = -1∧∀ j,j < k→f j=0)∨∃ j:Nat,r=j∧j < k∧f j≠0)
 | 0,x,hx,h=>⟨-1,aE.succ (fun N g=>cn.eq_2 ..) (aE.aR (Nd (m:=x) (n:=k) (by omega) (bT _ _)) (aE.one (Gv.pure _))),.inl ⟨rfl,fun j hj=>h j (by omega)⟩⟩
 | d+1,x,hx,h=>by
  have ss:x < k:=by omega
  have hz:Gv (fun N=>k7 N (bC (f x))) (!decide (f x=0)):=Gv.bind (((hf x ss).q hs).zero (by decide)) (Gv.pure _)
  by_cases e:f x=0
  ·obtain ⟨r,h1,h2⟩:=Q1 hk hs hf d (x+1) (by omega) fun j hj=>by
    by_cases q:j=x
    ·rw [q];exact e
    ·exact h j (by omega)
   refine ⟨r,aE.succ (fun N g=>cn.eq_2 ..) (aE.aF (L0 (n:=k) ss (bT _ _)) (aE.if (inl ss (bT _ _)) ?_)),h2⟩
   simp only [an,fK _ _ ss,aK (show x < 9223372036854775807 by omega)]
   exact aE.bind hz (aE.aR (by simp [e]) h1)
  ·refine ⟨x,aE.succ (fun N g=>cn.eq_2 ..) (aE.aF (L0 (n:=k) ss (bT _ _)) (aE.if (inl ss (bT _ _)) ?_)),.inr ⟨x,rfl,ss,e⟩⟩
   simp only [an,fK _ _ ss]
   exact aE.bind hz (aE.aF (by simp [e]) (aE.one (Gv.pure _)))
theorem VH {f:Nat→Rat} {k s:Nat} (hk:k≤1000) (hs:s≤MS) (hf:∀ j,j < k→RB (f j) s) :
  ∃ r,Gv (fun N=>jO N (LQ f k)) r∧((r = -1∧∀ j,j < k→f j=0)∨∃ j:Nat,r=j∧j < k∧f j≠0):=by
 obtain ⟨r,h1,h2⟩:=Q1 hk hs hf k 0 (by omega) fun j hj=>absurd hj (dX _)
 exact ⟨r,h1.diag,h2⟩
def sk (c j:Nat):Nat:=if j < c then j else j+1
section
variable {α:Type}
theorem Ni (f:Nat→α) {k c:Nat} (hc:c≤k):(kR (AI f (k+1)) c (c+1)).take ((c - 0)+((AI f (k+1)).length - (c+1)))=AI (fun j=>f (sk c j)) k:=by
 refine List.ext_getElem? fun j=>?_
 have e1:((AI f (k+1)).take c).length=c:=by rw [oD,qf];omega
 have e3:∀ {n i:Nat} (g:Nat→α),(AI g n)[i]?=if i < n then some (g i) else none:=fun {n i} g=>by
  unfold AI
  by_cases h:i < n<;>simp [h]
 rw [pK,qf,e3]
 unfold kR
 by_cases h:j < c
 ·rw [if_pos (by omega),if_pos (by omega),List.append_assoc,iz (by omega),pK,if_pos h,e3,if_pos (by omega)]
  unfold sk;rw [if_pos h]
 ·by_cases h2:j < k
  ·have e2:((AI f (k+1)).drop (c+1)).length=k - c:=by rw [List.length_drop,qf];omega
   rw [if_pos (by omega),if_pos h2,List.append_assoc,jH (by omega),e1,iz (by omega),oE,e3,if_pos (by omega)]
   unfold sk;rw [if_neg h,show c+1+(j - c)=j+1 by omega]
  ·rw [if_neg (by omega),if_neg h2]
theorem Nj (f:Nat→α) {k c:Nat} (hc:c≤k):(kR (AI f (k+1)) c (c+1)).length=k+1:=by
 rw [← Eo ⟨by omega,by rw [qf];omega⟩,qf]
end
theorem Th (f:Nat→Nat) {k c:Nat} (hc:c≤k) (hk:k≤1000):Gv (fun N=>jv N (c:Int) (ah ((c:Int)+1)) (LN f (k+1))) (LN (fun j=>f (sk c j)) k,LN (fun j=>f (sk c j)) k):=by
 rw [aK (by omega)]
 have e:=Nj (fun i=>((f i:Nat):Int)) hc
 have e2:=Ni (fun i=>((f i:Nat):Int)) hc
 refine Gv.if (by rw [fg];omega) (Gv.aR (by simp;omega) ?_)
 simp only [an]
 refine Gv.if (by rw [fg];omega) (Gv.if (by omega) (Gv.if (by rw [fg];omega) (Gv.if (by omega) (Gv.if (by rw [fg];omega) (Gv.if (by rw [fg];omega) (Gv.if ?_ (Gv.if ?_ ((Gv.pure _).eq ?_))))))))
 ·rw [fg];unfold LN;rw [e];omega
 ·rw [fg];unfold LN;rw [e];omega
 ·unfold LN;rw [e2]
theorem Ti (f:Nat→Rat) {k c:Nat} (hc:c≤k) (hk:k≤1000):Gv (fun N=>lA N (c:Int) (ah ((c:Int)+1)) (LQ f (k+1))) (LQ (fun j=>f (sk c j)) k,LQ (fun j=>f (sk c j)) k):=by
 rw [aK (by omega)]
 have e:=Nj (fun i=>bC (f i)) hc
 have e2:=Ni (fun i=>bC (f i)) hc
 refine Gv.if (by rw [bT];omega) (Gv.aR (by simp;omega) ?_)
 simp only [an]
 refine Gv.if (by rw [bT];omega) (Gv.if (by omega) (Gv.if (by rw [bT];omega) (Gv.if (by omega) (Gv.if (by rw [bT];omega) (Gv.if (by rw [bT];omega) (Gv.if ?_ (Gv.if ?_ ((Gv.pure _).eq ?_))))))))
 ·rw [bT];unfold LQ;rw [e];omega
 ·rw [bT];unfold LQ;rw [e];omega
 ·unfold LQ;rw [e2]
def bE.del (D:bE) (c:Nat):bE where
 ik:=D.ik
 fr:=fun j=>D.fr (sk c j)
 a:=fun i j=>D.a i (sk c j)
 b:=D.b
 g:=fun _=>0
 v:=0
def RS (ok:Bool) (n m k h:Nat) (D:bE):Bool×lR×List Int×List Int×List (List aa)×List aa :=
 (ok,⟨n,m,LN D.ik m,LN D.fr k,LA D.a m k,LQ D.b m,LQ D.g k,bC D.v,h⟩,LN D.ik m,LN D.fr k,LA D.a m k,LQ D.b m)
section
variable {n m k h c s:Nat} {D:bE}
theorem VI (z:Int) (h1:-1000≤z) (h2:z≤1000):Gv (fun N=>gr N z) (bC (z:Rat)):=zh (by omega) (by omega)
theorem ua:Gv (fun N=>gr N 0) (bC 0):=zh (z:=0) (by decide) (by decide)
theorem Q2 (hk:k≤1000) {v1 v3:Bool} {v2 v4:List Int}:∀ (d x:Nat) (L:List aa),x+d=k→L.length=k→(∀ j,j < x→L.getD j aa.d=bC 0) →
  aE (fun N g=>dL N (n:Int) (m:Int) (LN D.ik m) (LQ D.b m) v1 v2 v3 v4 (h:Int) (LN (fun j=>D.fr (sk c j)) k,LN (fun j=>D.fr (sk c j)) k) (LA (fun i j=>D.a i (sk c j)) m k) g L (x:Int)) (RS true n m k h (D.del c))
 | 0,x,L,hx,hl,h0=>by
  refine aE.succ (fun N g=>dL.eq_2 ..) (aE.aR (Nd (m:=x) (n:=k) (by omega) (by rw [di,fg])) (aE.bind ua (aE.one ((Gv.pure _).eq ?_))))
  rw [show L=LQ (fun _=>0) k from Gr aa.d hl fun j hj=>h0 j (by omega)]
  rfl
 | d+1,x,L,hx,hl,h0=>by
  have ss:x < k:=by omega
  refine aE.succ (fun N g=>dL.eq_2 ..) (aE.aF (L0 (n:=k) ss (by rw [di,fg])) (aE.bind ua (aE.if (inl ss hl) ?_)))
  rw [aK (show x < 9223372036854775807 by omega)]
  refine Q2 hk d (x+1) _ (by omega) (by rw [List.length_set];exact hl) fun j hj=>?_
  rw [an]
  by_cases e:x=j
  ·subst e;exact lO _ _ _ _ (by omega)
  ·rw [jA _ _ _ e];exact h0 j (by omega)
theorem Q3 (hm:m≤1000) (hk:k≤1000) (hc:c≤k) {g0:List aa} {v1 v3:Bool} {v2 v4:List Int}:∀ (d x:Nat) (G:Nat→List aa),x+d=m→(∀ r,r < m→G r=if r < x then LQ (fun j=>D.a r (sk c j)) k else LQ (D.a r) (k+1)) →
  aE (fun N g=>dM N (n:Int) (m:Int) (LN D.ik m) (LA D.a m (k+1)) (LQ D.b m) g0 v1 v2 v3 v4 (h:Int) (c:Int) (LN (fun j=>D.fr (sk c j)) k,LN (fun j=>D.fr (sk c j)) k) g (AI G m) (x:Int)) (RS true n m k h (D.del c))
 | 0,x,G,hx,hG=>by
  refine aE.succ (fun N g=>dM.eq_2 ..) (aE.aR (Nd (m:=x) (n:=m) (by omega) (lv _ _ _)) ?_)
  simp only [fg]
  refine aE.if (by omega) ?_
  rw [show AI G m=LA (fun i j=>D.a i (sk c j)) m k from qB fun r hr=>by rw [hG r hr,if_pos (by omega)]]
  have:=(Q2 hk (n:=n) (m:=m) (h:=h) (c:=c) (D:=D) (v1:=v1) (v2:=v2) (v3:=v3) (v4:=v4) k 0 (List.replicate k aa.d) (by omega) di fun j hj=>absurd hj (dX _)).diag
  exact aE.one this
 | d+1,x,G,hx,hG=>by
  have sI:x < m:=by omega
  have e:G x=LQ (D.a x) (k+1):=by rw [hG x sI,if_neg (by omega)]
  refine aE.succ (fun N g=>dM.eq_2 ..) (aE.aF (L0 (n:=m) sI (lv _ _ _)) (aE.if (by rw [qf];exact sI) (aE.if (inl sI (qf _ _)) ?_)))
  simp only [an,Ey _ _ sI,e]
  refine aE.bind (Ti (D.a x) hc hk) ?_
  rw [aK (show x < 9223372036854775807 by omega),Ez]
  refine Q3 hm hk hc d (x+1) _ (by omega) fun r hr=>?_
  by_cases q:r=x
  ·rw [if_pos q,if_pos (by omega),q]
  ·rw [if_neg q,hG r hr]
   by_cases q2:r < x
   ·rw [if_pos q2,if_pos (by omega)]
   ·rw [if_neg q2,if_neg (by omega)]
theorem Q4 (hm:m≤1000) (hk:k≤999) (hw:D.WF m (k+1)) (hc:c < k+1) (hh:D.fr c=h) :
  Gv (fun N=>iI N (n:Int) (m:Int) (LN D.ik m) (LN D.fr (k+1)) (LA D.a m (k+1)) (LQ D.b m) (LQ D.g (k+1)) (bC D.v).fN.fG (bC D.v).fN.fL (bC D.v).fD.fG (bC D.v).fD.fL (h:Int)) (RS true n m k h (D.del c)):=by
 obtain ⟨r,h1,h2⟩:=Jf (f:=D.fr) (k:=k+1) (v:=h) (by omega)
 rcases h2 with ⟨_,h2⟩ | ⟨j,rfl,hj,h2⟩
 ·exact absurd hh (h2 c hc)
 ·obtain rfl:j=c:=hw.fi j c hj hc (h2.trans hh.symm)
  refine Gv.bind h1 (Gv.bind (Th D.fr (by omega) (by omega)) ?_)
  have:=(Q3 hm (show k≤1000 by omega) (show j≤k by omega) (n:=n) (h:=h) (D:=D) (g0:=LQ D.g (k+1)) (v1:=(bC D.v).fN.fG) (v2:=(bC D.v).fN.fL) (v3:=(bC D.v).fD.fG) (v4:=(bC D.v).fD.fL) m 0 (fun r=>LQ (D.a r) (k+1)) (by omega) fun r _=>by rw [if_neg (dX _)]).diag
  exact this
structure BU (n m:Nat) (C:Nat→Nat→Rat) (B:Nat→Rat) (D:bE) (c:Nat):Prop where
 wf:D.WF m (2 * n+1)
 fea:D.KG m
 eqv:(∃ z,bE.B8 m (2 * n+1) (bE.fst n m C B z) D)
 lt:c < 2 * n+1
 fr:D.fr c=2 * n+m
variable {C:Nat→Nat→Rat} {B:Nat→Rat}
theorem Q5 {e5:Nat} (h5:m≤e5∨2 * n+1≤e5) (hm:m≤1000) (hn:2 * n≤998) {z:Rat} (I4:(bE.fst n m C B z).Ee m (2 * n+1) s) (h1:1≤s) (hs:5 * (5 ^ e5 * s)≤MS) (hw:D.WF m (2 * n+1)) (hf:D.KG m) (he:bE.B8 m (2 * n+1) (bE.fst n m C B z) D)
  (VA:∀ i,i < m→D.ik i=2 * n+m→D.b i=0∧∃ j,j < 2 * n+1∧D.a i j≠0) :
  ∃ D' c,BU n m C B D' c∧Gv (fun N=>fR N (n:Int) (m:Int) (LN D.ik m) (LN D.fr (2 * n+1)) (LA D.a m (2 * n+1)) (LQ D.b m) (LQ D.g (2 * n+1)) (bC D.v).fN.fG (bC D.v).fN.fL (bC D.v).fD.fG (bC D.v).fD.fL ((2 * n+m:Nat):Int)) (RS true n m (2 * n) (2 * n+m) (D'.del c)):=by
 have hr:=bE.KL h5 hw (bE.Gm n m C B z) he I4 h1
 have ND:1≤5 ^ e5 * s:=eC h1 (Nat.le_mul_of_pos_left _ (Nat.pow_pos (by decide)))
 obtain ⟨r,q1,q2⟩:=Jf (f:=D.ik) (k:=m) (v:=2 * n+m) hm
 rcases q2 with ⟨rfl,q2⟩ | ⟨i,rfl,hi,q2⟩
 ·obtain ⟨c,hc,OF⟩:=bE.zl hw (u:=2 * n+m) (by omega) fun ⟨i,hi,e⟩=>q2 i hi e
  exact ⟨D,c,⟨hw,hf,⟨z,he⟩,hc,OF⟩,Gv.bind q1 (Gv.aR (by decide) (Q4 hm (by omega) hw hc OF))⟩
 ·obtain ⟨hb,j0,XL,ha0⟩:=VA i hi q2
  obtain ⟨r,q3,q4⟩:=VH (f:=D.a i) (k:=2 * n+1) (by omega) (show 5 ^ e5 * s≤MS by omega) fun j hj=>hr.a i j hi hj
  rcases q4 with ⟨_,q4⟩ | ⟨j,rfl,hj,q4⟩
  ·exact absurd (q4 j0 XL) ha0
  ·refine ⟨D.jF i j,j,⟨hw.jF hi hj,bE.QS hf hb,⟨z,he.trans (.jF hi hj q4)⟩,hj,by simp only [bE.jF,if_true];exact q2⟩,Gv.bind q1 (Gv.aF (by simp) ?_)⟩
   simp only [an,wO _ _ hi]
   refine Gv.if (by rw [lv];exact hi) (Gv.if (inl hi (lv _ _ _)) (Gv.bind q3 (Gv.bind (Gu hm (by omega) hi hj hs ND hr q4) ?_)))
   simp only [RT,fg,lv,bT]
   exact Gv.if trivial (Gv.if trivial (Gv.if trivial (Gv.if trivial (Gv.if trivial (Q4 hm (by omega) (hw.jF hi hj) hj (by simp only [bE.jF,if_true];exact q2))))))
def XA (B:Nat→Rat) (x:Nat) (low:Int):Prop:=(low = -1∧∀ r,r < x→0≤B r)∨∃ l:Nat,low=l∧l < x∧B l < 0∧∀ r,r < x→B l≤B r
structure EA (n m:Nat) (C:Nat→Nat→Rat) (B:Nat→Rat) (D:bE):Prop where
 wf:D.WF m (2 * n+1)
 eqv:bE.B8 m (2 * n+1) (bE.fst n m C B (-1)) D
 g:∀ j,j < 2 * n+1→D.g j≤0
 v:D.v < 0
theorem Nk (z:Rat) (hz:RB z s) (hr:(bE.fst n m C B 0).Ee m (2 * n+1) s):(bE.fst n m C B z).Ee m (2 * n+1) s:=by
 refine ⟨hr.a,hr.b,fun j hj=>?_,hr.v⟩
 have:=hr.g j hj
 simp only [bE.fst] at this ⊢
 split
 ·rw [if_pos (by assumption)] at this;exact this
 ·exact hz
theorem Q6 {e5:Nat} (h5:m≤e5∨2 * n+1≤e5) (hm:m≤1000) (hn:2 * n≤998) (hr:(bE.fst n m C B 0).Ee m (2 * n+1) s) (h1:1≤s) (hs:5 * (5 ^ e5 * s)≤MS):∀ (d x:Nat) (low:Int),x+d=m→XA B x low →
  ∃ r,aE (fun N g=>bz N (n:Int) (m:Int) (bC 0).fN.fG (bC 0).fN.fL (bC 0).fD.fG (bC 0).fD.fL ((2 * n+m:Nat):Int) (LN (bE.fst n m C B 0).ik m) (LN (bE.fst n m C B 0).fr (2 * n+1))
    (LA (bE.fst n m C B 0).a m (2 * n+1)) (LQ B m) (LQ (bE.fst n m C B 0).g (2 * n+1)) g low (x:Int)) r ∧
   ((∃ D,EA n m C B D∧r=RS false n m (2 * n+1) (2 * n+m) D)∨∃ D c,BU n m C B D c∧r=RS true n m (2 * n) (2 * n+m) (D.del c))
 | 0,x,low,hx,hI=>by
  have sI:x=m:=by omega
  subst sI
  have step:∀ {r},(∃ N0:Nat,True)→aE (fun N g=>bz N (n:Int) (x:Int) (bC 0).fN.fG (bC 0).fN.fL (bC 0).fD.fG (bC 0).fD.fL ((2 * n+x:Nat):Int) (LN (bE.fst n x C B 0).ik x) (LN (bE.fst n x C B 0).fr (2 * n+1))
    (LA (bE.fst n x C B 0).a x (2 * n+1)) (LQ B x) (LQ (bE.fst n x C B 0).g (2 * n+1)) (g+1) low (x:Int)) r→aE (fun N g=>bz N (n:Int) (x:Int) (bC 0).fN.fG (bC 0).fN.fL (bC 0).fD.fG (bC 0).fD.fL ((2 * n+x:Nat):Int) (LN (bE.fst n x C B 0).ik x) (LN (bE.fst n x C B 0).fr (2 * n+1))
    (LA (bE.fst n x C B 0).a x (2 * n+1)) (LQ B x) (LQ (bE.fst n x C B 0).g (2 * n+1)) g low (x:Int)) r:=fun _ h=>aE.succ (fun _ _=>rfl) h
  rcases hI with ⟨rfl,hB⟩ | ⟨l,rfl,hl,AH,tE⟩
  ·obtain ⟨D,c,q1,q2⟩:=Q5 (D:=bE.fst n x C B 0) h5 hm hn hr h1 hs (bE.Gm n x C B 0) hB (.refl _ _ _) fun i hi e=>by
    simp only [bE.fst] at e;omega
   refine ⟨_,step ⟨0,trivial⟩ ?_,.inr ⟨D,c,q1,rfl⟩⟩
   simp only [bz]
   exact aE.aR (Nd (m:=x) (n:=x) (aG _) (bT _ _)) (aE.aR (by decide) (aE.one q2))
  ·have hw:=bE.Gm n x C B (-1)
   have Qp:=Nk (-1) (bE.Xw.neg.le h1) hr
   have ea:(bE.fst n x C B (-1)).a l (2 * n)=1:=by simp only [bE.fst];rw [if_neg (by omega),if_neg (by omega)]
   have h0:(bE.fst n x C B (-1)).a l (2 * n)≠0:=by rw [ea];decide
   have hs5:s≤5 ^ e5 * s:=Nat.le_mul_of_pos_left _ (Nat.pow_pos (by decide))
   have aaK:=Gu (n:=n) (h:=2 * n+x) hm (show 2 * n+1≤1000 by omega) hl (show 2 * n < 2 * n+1 by omega) (show 5 * s≤MS by omega) h1 Qp h0
   obtain ⟨D,r,q1,q2,q3,q4,q5⟩:=QY (n:=n) (h:=2 * n+x) h5 hm (show 2 * n+1≤1000 by omega) hw Qp h1 hs (hw.jF hl (show 2 * n < 2 * n+1 by omega)) (bE.Ol n x C B hl AH tE) (.jF hl (by omega) h0)
   have Vs:=bE.Tf q1 q3 q2 (by
    rcases q4 with ⟨_,h⟩ | ⟨j,_,h,h'⟩
    ·exact .inl h
    ·exact .inr ⟨j,h,h'⟩)
   have hrD:=bE.KL h5 q1 hw q3 Qp h1
   have eg:(LQ (bE.fst n x C B 0).g (2 * n+1)).set (2 * n) (bC ((-1:Int):Rat))=LQ (bE.fst n x C B (-1)).g (2 * n+1):=by
    rw [AJ]
    refine rk fun j hj=>?_
    simp only [bE.fst]
    by_cases e:j=2 * n
    ·rw [if_pos e,if_neg (by omega)];rfl
    ·rw [if_neg e,if_pos (by omega),if_pos (by omega)]
   have XB:ah (((2 * n+1:Nat):Int) - 1)=((2 * n:Nat):Int):=by rw [aV (by omega) (by omega)];omega
   have main:∀ {r'},Gv (fun N=>(g8 N (bC D.v)).bind fun gj=>cond (!gj) (some (RS false n x (2 * n+1) (2 * n+x) D)) (fR N (n:Int) (x:Int) (LN D.ik x) (LN D.fr (2 * n+1)) (LA D.a x (2 * n+1)) (LQ D.b x) (LQ D.g (2 * n+1)) (bC D.v).fN.fG (bC D.v).fN.fL (bC D.v).fD.fG (bC D.v).fD.fL ((2 * n+x:Nat):Int))) r' →
     aE (fun N g=>bz N (n:Int) (x:Int) (bC 0).fN.fG (bC 0).fN.fL (bC 0).fD.fG (bC 0).fD.fL ((2 * n+x:Nat):Int) (LN (bE.fst n x C B 0).ik x) (LN (bE.fst n x C B 0).fr (2 * n+1))
      (LA (bE.fst n x C B 0).a x (2 * n+1)) (LQ B x) (LQ (bE.fst n x C B 0).g (2 * n+1)) g ((l:Nat):Int) (x:Int)) r':=fun h=>by
    refine step ⟨0,trivial⟩ ?_
    simp only [bz,fg,XB,an]
    refine aE.aR (Nd (m:=x) (n:=x) (aG _) (bT _ _)) (aE.aF (by simp) (aE.bind (VI (-1) (by decide) (by decide)) (aE.if (inl (show 2 * n < 2 * n+1 by omega) (bT _ _)) ?_)))
    rw [eg]
    refine aE.bind aaK ?_
    simp only [RT,fg,lv,bT]
    refine aE.if trivial (aE.if trivial (aE.if trivial (aE.if trivial (aE.if trivial (aE.bind (q5.diag) ?_)))))
    simp only [RT,fg,lv,bT]
    exact aE.if trivial (aE.if trivial (aE.if trivial (aE.if trivial (aE.if trivial (aE.one h)))))
   by_cases hz:D.v=0
   ·have hh0:D.ext x (2 * n+1) bE.tM (2 * n+x)=0:=by have:=bE.Gq q1 q3;grind
    obtain ⟨D',c,p1,p2⟩:=Q5 h5 hm hn Qp h1 hs q1 q2 q3 fun i hi e=>⟨by
     rw [← e,bE.tZ q1 hi,bE.sq] at hh0;exact hh0,bE.L7 q1 q3 hi e⟩
    exact ⟨_,main (Gv.bind ((hrD.v.q (by omega)).zero (by decide)) (Gv.aR (by simp [hz]) p2)),.inr ⟨D',c,p1,rfl⟩⟩
   ·refine ⟨_,main (Gv.bind ((hrD.v.q (by omega)).zero (by decide)) (Gv.aF (by simp [hz]) (Gv.pure _))),.inl ⟨D,⟨q1,q3,Vs,?_⟩,rfl⟩⟩
    have e1:=bE.Gq q1 q3
    have e2:=bE.Da q1 q2 (2 * n+x) (by omega)
    grind
 | d+1,x,low,hx,hI=>by
  have sI:x < m:=by omega
  have hs5:s≤5 ^ e5 * s:=Nat.le_mul_of_pos_left _ (Nat.pow_pos (by decide))
  have hB:∀ r,r < m→RB (B r) s:=hr.b
  have hbx:=(hB x sI).q (show s≤MS by omega)
  have GK:0≤low→low < ((m:Nat):Int):=fun h0=>by
   rcases hI with ⟨e,_⟩ | ⟨b,e,hb,_⟩<;>omega
  have nx:∀ Tj:Int,XA B (x+1) Tj→(∃ cmp:Int,(B x < 0→∀ l:Nat,low=l→cmp=nc (B x - B l))∧(¬ (B x < 0∧0≤low)→cmp=0)∧(cond (cond (decide (nc (B x) < 0)) (cond (decide (low < 0)) true (decide (cmp < 0))) false) (x:Int) low)=Tj) →
    ∃ r,aE (fun N g=>bz N (n:Int) (m:Int) (bC 0).fN.fG (bC 0).fN.fL (bC 0).fD.fG (bC 0).fD.fL ((2 * n+m:Nat):Int) (LN (bE.fst n m C B 0).ik m) (LN (bE.fst n m C B 0).fr (2 * n+1))
      (LA (bE.fst n m C B 0).a m (2 * n+1)) (LQ B m) (LQ (bE.fst n m C B 0).g (2 * n+1)) g low (x:Int)) r ∧
     ((∃ D,EA n m C B D∧r=RS false n m (2 * n+1) (2 * n+m) D)∨∃ D c,BU n m C B D c∧r=RS true n m (2 * n) (2 * n+m) (D.del c)):=fun Tj g1 ⟨cmp,g2,g3,g4⟩=>by
   obtain ⟨r,g5,g6⟩:=Q6 h5 hm hn hr h1 hs d (x+1) Tj (by omega) g1
   refine ⟨r,aE.succ (fun _ _=>rfl) ?_,g6⟩
   have aaL:Gv (fun N=>cond ((decide (nc (B x) < 0)) && ((decide (nc (B x) < 0)) && (!(decide (low < 0))))) (gx N (bC (B x)) ((LQ B m).getD low.toNat aa.d)) (some 0)) cmp:=by
    by_cases q:B x < 0∧0≤low
    ·obtain ⟨q1,q2⟩:=q
     obtain ⟨l,rfl⟩:∃ l:Nat,low=l:=⟨low.toNat,by omega⟩
     have hlm:l < m:=by have:=GK q2;omega
     rw [g2 q1 l rfl]
     refine Gv.aF (by simp [oP,q1]) ?_
     rw [an,fK _ _ hlm]
     exact hbx.cmp ((hB l hlm).q (show s≤MS by omega)) (Jx (by decide))
    ·rw [g3 q]
     refine Gv.aR ?_ (Gv.pure 0)
     by_cases q1:B x < 0
     ·have:low < 0:=Int.not_le.1 fun q2=>q ⟨q1,q2⟩
      simp [this]
     ·simp [oP,q1]
   have:aE (fun N g=>bz N (n:Int) (m:Int) (bC 0).fN.fG (bC 0).fN.fL (bC 0).fD.fG (bC 0).fD.fL ((2 * n+m:Nat):Int) (LN (bE.fst n m C B 0).ik m) (LN (bE.fst n m C B 0).fr (2 * n+1))
      (LA (bE.fst n m C B 0).a m (2 * n+1)) (LQ B m) (LQ (bE.fst n m C B 0).g (2 * n+1)) (g+1) low (x:Int)) r:=by
    simp only [bz]
    refine aE.aF (L0 (n:=m) sI (bT _ _)) (aE.if (inl sI (bT _ _)) ?_)
    simp only [an,fK _ _ sI,iH,aK (show x < 9223372036854775807 by omega)]
    refine aE.bind (hbx.nc (by decide)) (aE.if (fun _=>inl sI (bT _ _)) (aE.if (fun q=>?_) (aE.bind aaL ?_)))
    ·simp at q
     rw [bT];exact ⟨by omega,GK (by omega)⟩
    ·revert g4
     cases (cond (decide (nc (B x) < 0)) (cond (decide (low < 0)) true (decide (cmp < 0))) false) with
     | true=>intro g4;refine aE.aF rfl ?_;simp only [cond_true] at g4;rw [g4];exact g5
     | false=>intro g4;refine aE.aR rfl ?_;simp only [cond_false] at g4;rw [g4];exact g5
   exact this
  by_cases hp:B x < 0
  ·have e1:decide (nc (B x) < 0)=true:=decide_eq_true (oP.2 hp)
   rcases hI with ⟨rfl,hb⟩ | ⟨l,rfl,hl,hg,tE⟩
   ·refine nx x (.inr ⟨x,rfl,by omega,hp,fun r AQ=>?_⟩) ⟨0,fun _ l e=>by omega,fun _=>rfl,by rw [e1];rfl⟩
    by_cases e:r=x
    ·rw [e];exact Rat.le_refl
    ·have:=hb r (by omega);grind
   ·have e2:decide (((l:Nat):Int) < 0)=false:=by simp
    by_cases gS:B x < B l
    ·refine nx x (.inr ⟨x,rfl,by omega,hp,fun r AQ=>?_⟩) ⟨nc (B x - B l),fun _ l' e=>by rw [show l'=l by omega],fun q=>absurd ⟨hp,by omega⟩ q,by rw [e1,e2,decide_eq_true (oP.2 (show B x - B l < 0 by grind))];rfl⟩
     by_cases e:r=x
     ·rw [e];exact Rat.le_refl
     ·have:=tE r (by omega);grind
    ·refine nx l (.inr ⟨l,rfl,by omega,hg,fun r AQ=>?_⟩) ⟨nc (B x - B l),fun _ l' e=>by rw [show l'=l by omega],fun q=>absurd ⟨hp,by omega⟩ q,by rw [e1,e2,decide_eq_false fun q=>by have:=oP.1 q;grind];rfl⟩
     by_cases e:r=x
     ·rw [e];grind
     ·exact tE r (by omega)
  ·have e1:decide (nc (B x) < 0)=false:=decide_eq_false fun q=>hp (oP.1 q)
   refine nx low ?_ ⟨0,fun q=>absurd q hp,fun _=>rfl,by rw [e1];rfl⟩
   rcases hI with ⟨e,hb⟩ | ⟨l,e,hl,hg,tE⟩
   ·refine .inl ⟨e,fun r h1=>?_⟩
    by_cases e2:r=x
    ·rw [e2];exact Rat.not_lt.1 hp
    ·exact hb r (by omega)
   ·refine .inr ⟨l,e,by omega,hg,fun r h1=>?_⟩
    by_cases e2:r=x
    ·rw [e2];grind
    ·exact tE r (by omega)
theorem On {e5:Nat} (h5:m≤e5∨2 * n+1≤e5) (hm:m≤1000) (hn:2 * n≤998) (hr:(bE.fst n m C B 0).Ee m (2 * n+1) s) (h1:1≤s) (hs:5 * (5 ^ e5 * s)≤MS) :
  ∃ r,Gv (fun N=>l4 N (n:Int) (m:Int) (bC 0).fN.fG (bC 0).fN.fL (bC 0).fD.fG (bC 0).fD.fL ((2 * n+m:Nat):Int) (LN (bE.fst n m C B 0).ik m) (LN (bE.fst n m C B 0).fr (2 * n+1))
    (LA (bE.fst n m C B 0).a m (2 * n+1)) (LQ B m) (LQ (bE.fst n m C B 0).g (2 * n+1))) r ∧
   ((∃ D,EA n m C B D∧r=RS false n m (2 * n+1) (2 * n+m) D)∨∃ D c,BU n m C B D c∧r=RS true n m (2 * n) (2 * n+m) (D.del c)):=by
 obtain ⟨r,h2,h3⟩:=Q6 h5 hm hn hr h1 hs m 0 (-1) (by omega) (.inl ⟨rfl,fun j hj=>absurd hj (dX _)⟩)
 exact ⟨r,h2.diag,h3⟩
end
end Go.Den
namespace Go.Den
open Go.Ab
structure Q7 (r:af):Prop where
 len:r.eV.length≤20
 co:∀ j,IR (r.eV.getD j aa.d) 2
 bo:IR r.mX 2
structure abL (l:List af):Prop where
 len:l.length≤60
 row:∀ i,Q7 (l.getD i af.d)
theorem VJ {n:Nat}:IR aa.d n:=⟨⟨U.nil,Nat.zero_le _⟩,⟨U.nil,Nat.zero_le _⟩⟩
theorem Q7.d:Q7 af.d:=⟨by decide,fun j=>by
 have:(af.d.eV.getD j aa.d)=aa.d:=by cases j<;>rfl
 rw [this];exact VJ,VJ⟩
def ub (l:List af) (n:Int) (i:Nat):Prop:=(((l.getD i af.d).eV.length:Nat):Int) > n
instance (l:List af) (n:Int) (i:Nat):Decidable (ub l n i):=by unfold ub;infer_instance
def qM (l:List af) (n:Int):Nat→Nat→Bool
 | 0,_=>false
 | k+1,i=>if ub l n i then true else qM l n k (i+1)
def rm (n:Int) (l:List af):Int:=if n < 0∨n > 12 then 2 else if l.length > 40 then 8 else cond (qM l n l.length 0) 11 0
theorem zV {l:List af} {n:Int}:∀ k i,qM l n k i=false→∀ j,i≤j→j < i+k→¬ ub l n j
 | 0,_,_,j,h1,h2=>by omega
 | k+1,i,h,j,h1,h2=>by
  rw [qM] at h
  split at h
  ·cases h
  ·by_cases OB:j=i
   ·rw [OB];assumption
   ·exact zV k (i+1) h j (by omega) (by omega)
theorem H2 {l:List af} {n:Int} (hl:l.length≤1000):∀ k i,i+k=l.length→∃ r,aE (fun N fuel=>cj N l n fuel (i:Int)) r∧decide (r≥0)=qM l n k i
 | 0,i,hi=>⟨-1,.step 0 fun N g _ _=>by
  have:i=l.length:=by omega
  subst this
  rw [cj,dY];rfl,rfl⟩
 | k+1,i,hi=>by
  have uP:i < l.length:=by omega
  obtain ⟨r,h1,h2⟩:=H2 (n:=n) hl k (i+1) (by omega)
  have hp:Gv (fun N=>oH N (l.getD i af.d) n) (decide (ub l n i)):=Gv.pure _
  rw [qM]
  by_cases h:ub l n i
  ·rw [if_pos h]
   refine ⟨(i:Int),aE.succ (fun N g=>cj.eq_2 ..) (aE.aF (dec_lt uP) (aE.if (pB uP) (aE.bind hp (aE.aF (decide_eq_true h) (aE.one (Gv.pure _)))))),decide_eq_true (by omega)⟩
  ·rw [if_neg h]
   refine ⟨r,aE.succ (fun N g=>cj.eq_2 ..) (aE.aF (dec_lt uP) (aE.if (pB uP) (aE.bind hp (aE.aR (decide_eq_false h) ?_)))),h2⟩
   rw [aK (by omega)];exact h1
theorem BV (n:Int) (l:List af):Gv (fun N=>oi N n l) (rm n l):=by
 unfold oi rm
 have e:cond (decide (n < 0)) true (decide (n > 12))=decide (n < 0∨n > 12):=by
  by_cases h:n < 0
  ·rw [decide_eq_true h,decide_eq_true (Or.inl h)];rfl
  ·rw [decide_eq_false h,cond_false];exact decide_eq_decide.2 ⟨Or.inr,fun h2=>h2.resolve_left h⟩
 rw [e]
 by_cases h:n < 0∨n > 12
 ·rw [if_pos h];exact Gv.aF (decide_eq_true h) (Gv.pure _)
 ·rw [if_neg h]
  refine Gv.aR (decide_eq_false h) ?_
  by_cases h2:l.length > 40
  ·rw [if_pos h2];exact Gv.aF (decide_eq_true (by omega)) (Gv.pure _)
  ·rw [if_neg h2]
   obtain ⟨r,h3,h4⟩:=H2 (l:=l) (n:=n) (by omega) l.length 0 (by omega)
   refine Gv.aR (decide_eq_false (by omega)) (Gv.bind (r:=decide (r≥0)) (Gv.bind h3.diag (Gv.pure _)) ?_)
   rw [h4]
   cases qM l n l.length 0 with
   | true=>exact Gv.aF rfl (Gv.pure _)
   | false=>exact Gv.aR rfl (Gv.pure _)
structure VK (n:Nat) (l:List af):Prop where
 adC:n≤12
 len:l.length≤40
 co:∀ i,i < l.length→(l.getD i af.d).eV.length≤n
theorem VL {n:Int} {l:List af} (h:rm n l=0):0≤n∧VK n.toNat l:=by
 unfold rm at h
 split at h
 ·cases h
 ·split at h
  ·cases h
  ·cases e:qM l n l.length 0 with
   | true=>rw [e] at h;cases h
   | false =>
    refine ⟨by omega,by omega,by omega,fun i hi=>?_⟩
    have:=zV _ _ e i (Nat.zero_le _) (by omega)
    unfold ub at this
    omega
def dF (c x:List aa):Nat→Nat→Rat→Rat
 | 0,_,a=>a
 | k+1,i,a=>dF c x k (i+1) (a+qv (c.getD i aa.d) * qv (x.getD i aa.d))
def aaM (c x:List aa):Rat:=dF c x c.length 0 0
structure LB (l:List aa) (n:Nat):Prop where
 len:l.length≤60
 ir:∀ i,IR (l.getD i aa.d) n
theorem LB.rq {l:List aa} {n:Nat} (h:LB l n) (hn:1≤n) (i:Nat):RQ (l.getD i aa.d) (qv (l.getD i aa.d)) n:=⟨h.ir i,rfl,hn⟩
section
variable {c x:List aa}
end
theorem Q7.lb {r:af} (h:Q7 r):LB r.eV 12:=⟨by have:=h.len;omega,fun i=>(h.co i).le (by decide)⟩
def Q8 (l:List af) (x:List aa) (i:Nat):Prop:=0 < aaM (l.getD i af.d).eV x - qv (l.getD i af.d).mX
instance (l:List af) (x:List aa) (i:Nat):Decidable (Q8 l x i):=by unfold Q8;infer_instance
section
variable {l:List af} {x:List aa}
end
end Go.Den
namespace Go.Den
open Go.Ab
def yv (y:List aa) (i:Nat):Rat:=qv (y.getD i aa.d)
def cf (l:List af) (i j:Nat):Rat:=qv ((l.getD i af.d).eV.getD j aa.d)
def bv (l:List af) (i:Nat):Rat:=qv (l.getD i af.d).mX
def cS (l:List af) (y:List aa) (j:Nat):Nat→Rat
 | 0=>0
 | i+1=>cS l y j i+yv y i * cf l i j
theorem Tk:qv aa.d=0:=by decide +kernel
theorem XC {l:List af} {i j:Nat} (h:(l.getD i af.d).eV.length≤j):cf l i j=0:=by
 unfold cf;rw [BQ h,Tk]
section
variable {l:List af} {y:List aa}
end
end Go.Den
namespace Go.Den
open Go.Ab
section
variable {l:List af} {y:List aa} {n:Nat}
theorem Jg {q:Rat}:(nc q == 0)=decide (q=0):=by
 by_cases h:q=0
 ·rw [h];rfl
 ·rw [decide_eq_false h];simp;exact fun h'=>h (Gh.1 h')
end
end Go.Den
namespace Go.Den
open Go.Ab
structure BW (l:List af):Prop where
 co:∀ i j,RQ ((l.getD i af.d).eV.getD j aa.d) (cf l i j) 40
 bo:∀ i,RQ (l.getD i af.d).mX (bv l i) 40
theorem vM {α:Type} (f:Nat→α) (n:Nat):AI f n ++ [f n]=AI f (n+1):=by
 unfold AI;rw [List.range_succ,List.map_append];rfl
section
variable {n:Nat} {l:List af}
abbrev D0 (n:Nat) (l:List af):bE:=bE.fst n l.length (cf l) (bv l) 0
def TB (n:Nat) (l:List af):lR :=
 ⟨n,((l.length:Nat):Int),LN (D0 n l).ik l.length,LN (D0 n l).fr (2 * n+1),LA (D0 n l).a l.length (2 * n+1),LQ (bv l) l.length,LQ (D0 n l).g (2 * n+1),bC 0,((2 * n+l.length:Nat):Int)⟩
theorem Ue (hn:n≤12):ah (2 * (n:Int))=((2 * n:Nat):Int):=by rw [aV (by omega) (by omega)];omega
theorem Q9 (hn:n≤12) {t t2:List Int} {t3:List (List aa)} {t4:List aa} (hl:l.length≤40) (h1:t=LN (fun j=>j) (2 * n)) (h2:t2=LN (D0 n l).ik l.length) (h3:t3=LA (D0 n l).a l.length (2 * n+1)) (h4:t4=LQ (bv l) l.length) :
  ∀ (d x:Nat) (L:List aa),x+d=2 * n+1→L.length=2 * n+1→(∀ j,j < x→L.getD j aa.d=bC 0) →
  aE (fun N g=>kW N (n:Int) l (bC 0) t t2 t3 t4 g L (x:Int)) (TB n l)
 | 0,x,L,hx,hL,h0=>by
  refine aE.succ (fun N g=>kW.eq_2 ..) (aE.aR (Nd (m:=x) (n:=2 * n+1) (by omega) (by rw [di,Ue hn,aK (by omega)];rfl)) (aE.one ((Gv.pure _).eq ?_)))
  have e1:ah (((2 * n:Nat):Int)+((l.length:Nat):Int))=((2 * n+l.length:Nat):Int):=by rw [aV (by omega) (by omega)];omega
  have e2:L=LQ (D0 n l).g (2 * n+1):=Gr aa.d hL fun j hj=>by
   rw [h0 j (by omega)];simp only [bE.fst];split<;>rfl
  have e3:t ++ [((2 * n+l.length:Nat):Int)]=LN (D0 n l).fr (2 * n+1):=by
   have h:=vM (fun j=>(((D0 n l).fr j:Nat):Int)) (2 * n)
   have h5:(D0 n l).fr (2 * n)=2 * n+l.length:=by simp only [bE.fst];rw [if_neg (by omega)]
   rw [h5] at h
   unfold LN
   rw [← h,h1];unfold LN
   congr 1
   exact qB fun j hj=>by simp only [bE.fst];rw [if_pos hj]
  rw [Ue hn,e1,e3,h2,h3,h4,e2];rfl
 | d+1,x,L,hx,hL,h0=>by
  have ss:x < 2 * n+1:=by omega
  refine aE.succ (fun N g=>kW.eq_2 ..) (aE.aF (L0 (n:=2 * n+1) ss (by rw [di,Ue hn,aK (by omega)];rfl)) (aE.bind ua (aE.if (inl ss hL) ?_)))
  rw [aK (show x < 9223372036854775807 by omega)]
  refine Q9 hn hl h1 h2 h3 h4 d (x+1) _ (by omega) (by rw [List.length_set];exact hL) fun j hj=>?_
  rw [an]
  by_cases e:x=j
  ·subst e;exact lO _ _ _ _ (by omega)
  ·rw [jA _ _ _ e];exact h0 j (by omega)
theorem Ra (hn:n≤12) (hl:BW l) (M4:l.length≤40) {i:Nat} (hi:i < l.length) (Tl:(l.getD i af.d).eV.length≤n) {t t2:List Int} {t3:List (List aa)} {t4:List aa} (h3:t3.length=i) (h4:t4.length=i) {rn:aa}:∀ (d x:Nat) (L:List aa),x+d=n→L.length=2 * n+1 →
  (∀ j,j < x→L.getD j aa.d=bC (-(cf l i j))∧L.getD (n+j) aa.d=bC (cf l i j)) →
  Ev fun N g=>∀ K,gi N (n:Int) l rn t t2 t3 t4 (i:Int) K g L (x:Int)=K (t2 ++ [((2 * n+i:Nat):Int)]) (t3 ++ [LQ ((D0 n l).a i) (2 * n+1)]) (t4 ++ [bC (bv l i)]) ((i+1:Nat):Int)
 | 0,x,L,hx,hL,h0=>by
  have GK:=(hl.bo i).low (by decide)
  refine Ev.succ (((zh (z:=1) (by decide) (by decide)).ev.and GK.ev).mono fun N g ⟨q1,q2⟩ K=>?_)
  have e1:ah (((2 * n:Nat):Int)+(i:Int))=((2 * n+i:Nat):Int):=by rw [aV (by omega) (by omega)];omega
  have hb:ln N ⟨((l.getD i af.d).mX).fN,((l.getD i af.d).mX).fD⟩=some (bC (bv l i)):=q2
  have eL:L.set (2 * n) (bC ((1:Int):Rat))=LQ ((D0 n l).a i) (2 * n+1):=by
   refine Gr aa.d (by rw [List.length_set];exact hL) fun j hj=>?_
   simp only [bE.fst]
   by_cases e:2 * n=j
   ·rw [← e,lO _ _ _ _ (by omega),if_neg (by omega),if_neg (by omega)];rfl
   ·rw [jA _ _ _ e]
    by_cases h:j < n
    ·rw [if_pos h];exact (h0 j (by omega)).1
    ·rw [if_neg h,if_pos (by omega)]
     have:=(h0 (j - n) (by omega)).2
     rwa [show n+(j - n)=j by omega] at this
  rw [gi,show decide ((x:Int) < (n:Int))=false from decide_eq_false (by omega),cond_false,q1,ct,Ue hn,an,an,if_pos (inl (show 2 * n < 2 * n+1 by omega) hL),if_pos (by omega),hb,ct,if_pos (by omega),e1,eL,aK (by omega)]
 | d+1,x,L,hx,hL,h0=>by
  have hxn:x < n:=by omega
  have e1:ah ((n:Int)+(x:Int))=((n+x:Nat):Int):=by rw [aV (by omega) (by omega)];omega
  have hC:RB (cf l i x) 40:=(hl.co i x).rb
  have AH:Gv (fun N=>gh N (bC (cf l i x))) (bC (-(cf l i x))):=by
   have:=pE (hC.q (show 40≤MS by decide)).ir (by decide) (Jx (by decide));rwa [ig] at this
  have ih:=Ra hn hl M4 hi Tl h3 h4 (t:=t) (t2:=t2) (rn:=rn) d (x+1) ((L.set x (bC (-(cf l i x)))).set (n+x) (bC (cf l i x))) (by omega) (by rw [List.length_set,List.length_set];exact hL) fun j hj=>by
   by_cases e:j=x
   ·subst e
    refine ⟨?_,lO _ _ _ _ (by rw [List.length_set];omega)⟩
    rw [jA _ _ _ (by omega),lO _ _ _ _ (by omega)]
   ·rw [jA _ _ _ (show n+x≠j by omega),jA _ _ _ (show x≠j by omega),jA _ _ _ (show n+x≠n+j by omega),jA _ _ _ (show x≠n+j by omega)]
    exact h0 j (by omega)
  have fin:∀ N g K,gh N (bC (cf l i x))=some (bC (-(cf l i x)))→(gi N (n:Int) l rn t t2 t3 t4 (i:Int) K g ((L.set x (bC (-(cf l i x)))).set (n+x) (bC (cf l i x))) ((x+1:Nat):Int)=K (t2 ++ [((2 * n+i:Nat):Int)]) (t3 ++ [LQ ((D0 n l).a i) (2 * n+1)]) (t4 ++ [bC (bv l i)]) ((i+1:Nat):Int)) →
    nN N (n:Int) l rn t t2 t3 t4 (i:Int) L (x:Int) (gi N (n:Int) l rn t t2 t3 t4 (i:Int) K g) K (bC (cf l i x))=K (t2 ++ [((2 * n+i:Nat):Int)]) (t3 ++ [LQ ((D0 n l).a i) (2 * n+1)]) (t4 ++ [bC (bv l i)]) ((i+1:Nat):Int):=fun N g K q1 q2=>by
   unfold nN
   rw [q1,ct,e1,an,an,if_pos (inl (show x < 2 * n+1 by omega) hL),if_pos (inl (show n+x < 2 * n+1 by omega) hL),aK (by omega)]
   exact q2
  by_cases hc:x < (l.getD i af.d).eV.length
  ·have GK:=(hl.co i x).low (by decide)
   refine Ev.succ (((ua.ev.and AH.ev).and (GK.ev.and ih)).mono fun N g ⟨⟨q1,q2⟩,q3,q4⟩ K=>?_)
   have q3':ln N ⟨(((l.getD i af.d).eV).getD x aa.d).fN,(((l.getD i af.d).eV).getD x aa.d).fD⟩=some (bC (cf l i x)):=q3
   rw [gi,show decide ((x:Int) < (n:Int))=true from decide_eq_true (by omega),cond_true,q1,ct,an,an,dec_lt hc,cond_true,if_pos (pB hc),q3',ct]
   exact fin N g K q2 (q4 K)
  ·have hz:cf l i x=0:=XC (by omega)
   refine Ev.succ (((ua.ev.and AH.ev).and ih).mono fun N g ⟨⟨q1,q2⟩,q4⟩ K=>?_)
   rw [gi,show decide ((x:Int) < (n:Int))=true from decide_eq_true (by omega),cond_true,q1,ct,an,decide_eq_false (by omega),cond_false,← hz]
   exact fin N g K q2 (q4 K)
theorem Rb (hn:n≤12) (hl:BW l) (M4:l.length≤40) (Tl:∀ i,i < l.length→(l.getD i af.d).eV.length≤n):∀ d x,x+d=l.length →
  aE (fun N g=>jL N (n:Int) l (bC 0) (LN (fun j=>j) (2 * n)) g (LN (D0 n l).ik x) (LA (D0 n l).a x (2 * n+1)) (LQ (bv l) x) (x:Int)) (TB n l)
 | 0,x,hx=>by
  have hx:x=l.length:=by omega
  subst hx
  refine aE.succ (fun N g=>jL.eq_2 ..) (aE.aR dY ?_)
  have ew:ah (ah (2 * (n:Int))+1)=((2 * n+1:Nat):Int):=by rw [Ue hn,aK (by omega)]
  rw [ew,an]
  refine aE.if (by omega) (aE.one ?_)
  exact (Q9 hn M4 rfl rfl rfl rfl (2 * n+1) 0 (List.replicate (2 * n+1) aa.d) (by omega) di fun j hj=>absurd hj (dX _)).diag
 | d+1,x,hx=>by
  have qj:x < l.length:=by omega
  have ew:ah (ah (2 * (n:Int))+1)=((2 * n+1:Nat):Int):=by rw [Ue hn,aK (by omega)]
  obtain ⟨N1,h1⟩:=(Ra hn hl M4 qj (Tl x qj) (t:=LN (fun j=>j) (2 * n)) (t2:=LN (D0 n l).ik x) (lv (D0 n l).a x (2 * n+1)) (bT (bv l) x) (rn:=bC 0) n 0 (List.replicate (2 * n+1) aa.d) (by omega) di fun j hj=>absurd hj (dX _))
  obtain ⟨N2,h2⟩:=Rb hn hl M4 Tl d (x+1) (by omega)
  refine aE.succ (fun N g=>jL.eq_2 ..) (aE.aF (dec_lt qj) (aE.if (pB qj) (aE.if (by rw [fg];omega) ?_)))
  rw [ew,an]
  refine aE.if (by omega) ⟨N1+N2,fun N g hN hg=>?_⟩
  have e1:=vM (fun i=>(((D0 n l).ik i:Nat):Int)) x
  have e2:=vM (fun i=>LQ ((D0 n l).a i) (2 * n+1)) x
  have e3:=vM (fun i=>bC (bv l i)) x
  have Rs:=h1 N N (by omega) (by omega) (jL N (n:Int) l (bC 0) (LN (fun j=>j) (2 * n)) g)
  refine Rs.trans ?_
  have Yo:=h2 N g (by omega) (by omega)
  unfold LN LA LQ at Yo ⊢
  unfold LQ at e2
  rw [← e1,← e2,← e3] at Yo
  exact Yo
theorem Rc (hn:n≤12) (hl:BW l) (M4:l.length≤40) (Tl:∀ i,i < l.length→(l.getD i af.d).eV.length≤n):∀ d x,x+d=2 * n →
  aE (fun N g=>kX N (n:Int) l (bC 0) g (LN (fun j=>j) x) (x:Int)) (TB n l)
 | 0,x,hx=>by
  have hx:x=2 * n:=by omega
  subst hx
  refine aE.succ (fun N g=>kX.eq_2 ..) (aE.aR (by rw [Ue hn];exact decide_eq_false (by omega)) (aE.if (by rw [fg];omega) (aE.one ?_)))
  exact (Rb hn hl M4 Tl l.length 0 (by omega)).diag
 | d+1,x,hx=>by
  refine aE.succ (fun N g=>kX.eq_2 ..) (aE.aF (by rw [Ue hn];exact decide_eq_true (by omega)) (aE.if (by rw [fg];omega) ?_))
  have e1:=vM (fun i=>((i:Nat):Int)) x
  have ih:=Rc hn hl M4 Tl d (x+1) (by omega)
  rw [aK (by omega)]
  unfold LN at ih ⊢
  rw [← e1] at ih
  exact ih
theorem Rd (hn:n≤12) (hl:BW l) (M4:l.length≤40) (Tl:∀ i,i < l.length→(l.getD i af.d).eV.length≤n):Gv (fun N=>yY N (n:Int) l) (TB n l) :=
 ua.bind (Rc hn hl M4 Tl (2 * n) 0 (by omega)).diag
theorem L8 (hl:BW l):(D0 n l).Ee l.length (2 * n+1) 40:=by
 have hC:∀ i j,RB (cf l i j) 40:=fun i j=>(hl.co i j).rb
 refine ⟨fun i j _ _=>?_,fun i _=>(hl.bo i).rb,fun j _=>?_,RB.zero.le (by decide)⟩
 ·simp only [bE.fst]
  split
  ·exact (hC i j).neg
  ·split
   ·exact hC i _
   ·exact bE.Xw.le (by decide)
 ·simp only [bE.fst];split<;>exact RB.zero.le (by decide)
end
section
variable {n m k h s:Nat} {D:bE}
theorem Nl (hm:m≤1000) (hn:n≤400) (hk:k≤1000) (hs:s≤MS) (hw:D.WF m k) (hg:∀ j,j < k→RB (D.g j) s):∀ (d x:Nat) (L:List aa),x+d=m→L.length=m→(∀ i,i < x→L.getD i aa.d=bC (-(D.gc k (2 * n+i)))) →
  aE (fun N g=>bJ N (n:Int) (m:Int) (bC D.v).fN.fG (bC D.v).fN.fL (bC D.v).fD.fG (bC D.v).fD.fL (h:Int) (LN D.ik m) (LN D.fr k) (LA D.a m k) (LQ D.b m) (LQ D.g k) g L (x:Int)) (LQ (fun i=>-(D.gc k (2 * n+i))) m)
 | 0,x,L,hx,hL,h0=>aE.succ (fun N g=>bJ.eq_2 ..) (aE.aR (Nd (m:=x) (n:=m) (by omega) (by rw [di];rfl)) (aE.one ((Gv.pure _).eq (Gr aa.d hL fun i hi=>h0 i (by omega)))))
 | d+1,x,L,hx,hL,h0=>by
  have sI:x < m:=by omega
  have ew:ah (ah (2 * (n:Int))+(x:Int))=((2 * n+x:Nat):Int):=by
   rw [show ah (2 * (n:Int))=((2 * n:Nat):Int) by rw [aV (by omega) (by omega)];omega,aV (by omega) (by omega)];omega
  obtain ⟨r,q1,q2⟩:=Jf (f:=D.fr) (k:=k) (v:=2 * n+x) hk
  have nx:∀ (y:aa),y=bC (-(D.gc k (2 * n+x)))→∀ L2:List aa,L2=L.set x y→aE (fun N g=>bJ N (n:Int) (m:Int) (bC D.v).fN.fG (bC D.v).fN.fL (bC D.v).fD.fG (bC D.v).fD.fL (h:Int) (LN D.ik m) (LN D.fr k) (LA D.a m k) (LQ D.b m) (LQ D.g k) g L2 ((x+1:Nat):Int)) (LQ (fun i=>-(D.gc k (2 * n+i))) m):=fun y hy L2 e2=>by
   subst e2
   refine Nl hm hn hk hs hw hg d (x+1) _ (by omega) (by rw [List.length_set];exact hL) fun i hi=>?_
   by_cases e:x=i
   ·subst e;rw [lO _ _ _ _ (by omega)];exact hy
   ·rw [jA _ _ _ e];exact h0 i (by omega)
  refine aE.succ (fun N g=>bJ.eq_2 ..) (aE.aF (L0 (n:=m) sI (by rw [di];rfl)) (aE.bind ua (aE.if (inl sI hL) ?_)))
  rw [ew]
  refine aE.bind q1 ?_
  simp only [e8,an,aK (show x < 9223372036854775807 by omega)]
  rcases q2 with ⟨rfl,q2⟩ | ⟨j,rfl,hj,q2⟩
  ·exact aE.aR (by decide) (nx _ (by rw [bE.Jd q2];rfl) _ rfl)
  ·have hgj:=hg j hj
   refine aE.aF (by simp) (aE.if (inl hj (bT _ _)) ?_)
   simp only [fK _ _ hj,an,List.set_set]
   refine aE.bind (r:=bC (-(D.g j))) (by have:=pE (hgj.q hs).ir (by decide) (Jx (by decide));rwa [ig] at this) (aE.if (inl sI (by rw [List.length_set];exact hL)) ?_)
   exact nx _ (by rw [← q2,bE.QQ hw hj]) _ rfl
theorem Tm (hm:m≤1000) (hn:n≤400) (hk:k≤1000) (hs:s≤MS) (hw:D.WF m k) (hg:∀ j,j < k→RB (D.g j) s) :
  Gv (fun N=>jx N (n:Int) (m:Int) (bC D.v).fN.fG (bC D.v).fN.fL (bC D.v).fD.fG (bC D.v).fD.fL (h:Int) (LN D.ik m) (LN D.fr k) (LA D.a m k) (LQ D.b m) (LQ D.g k)) (LQ (fun i=>-(D.gc k (2 * n+i))) m) :=
 Gv.if (by omega) (Nl hm hn hk hs hw hg m 0 (List.replicate m aa.d) (by omega) di fun i hi=>absurd hi (dX _)).diag
def B9 (D:bE) (m u:Nat):Rat:=match D.OK m u with
 | some i=>D.b i
 | none=>0
theorem Nm (D:bE) (m k u:Nat):B9 D m u=D.ext m k bE.tM u:=by
 unfold B9 bE.ext
 cases D.OK m u with
 | none=>rfl
 | some i=>simp only [bE.sq]
theorem Uf (hm:m≤1000) (hw:∀ i i',i < m→i' < m→D.ik i=D.ik i'→i=i') (u:Nat) :
  Gv (fun N=>nA N (u:Int) (n:Int) (m:Int) (bC D.v).fN.fG (bC D.v).fN.fL (bC D.v).fD.fG (bC D.v).fD.fL (h:Int) (LN D.ik m) (LN D.fr k) (LA D.a m k) (LQ D.b m) (LQ D.g k)) (bC (B9 D m u)):=by
 obtain ⟨r,q1,q2⟩:=Jf (f:=D.ik) (k:=m) (v:=u) hm
 refine Gv.bind q1 ?_
 rcases q2 with ⟨rfl,q2⟩ | ⟨i,rfl,hi,q2⟩
 ·refine Gv.aR (by decide) (ua.bind ((Gv.pure _).eq ?_))
  unfold B9;rw [bE.BR q2]
 ·refine Gv.aF (by simp) (Gv.if (inl hi (bT _ _)) ((Gv.pure _).eq ?_))
  simp only [an,fK _ _ hi]
  unfold B9;rw [← q2,bE.Eu hw hi]
theorem KO (hm:m≤1000) (hn:n≤400) (hs:2 * s+1≤MS) (hw:∀ i i',i < m→i' < m→D.ik i=D.ik i'→i=i') (hp:∀ u,RB (B9 D m u) s):∀ (d x:Nat) (L:List aa),x+d=n→L.length=n→(∀ i,i < x→L.getD i aa.d=bC (B9 D m i - B9 D m (n+i))) →
  aE (fun N g=>ef N (n:Int) (m:Int) (bC D.v).fN.fG (bC D.v).fN.fL (bC D.v).fD.fG (bC D.v).fD.fL (h:Int) (LN D.ik m) (LN D.fr k) (LA D.a m k) (LQ D.b m) (LQ D.g k) g L (x:Int)) (LQ (fun i=>B9 D m i - B9 D m (n+i)) n)
 | 0,x,L,hx,hL,h0=>aE.succ (fun N g=>ef.eq_2 ..) (aE.aR (Nd (m:=x) (n:=n) (by omega) (by rw [di];rfl)) (aE.one ((Gv.pure _).eq (Gr aa.d hL fun i hi=>h0 i (by omega)))))
 | d+1,x,L,hx,hL,h0=>by
  have hxn:x < n:=by omega
  have ew:ah ((n:Int)+(x:Int))=((n+x:Nat):Int):=by rw [aV (by omega) (by omega)];omega
  have r1:=(hp x).q (show s≤MS by omega)
  have r2:=(hp (n+x)).q (show s≤MS by omega)
  refine aE.succ (fun N g=>ef.eq_2 ..) (aE.aF (L0 (n:=n) hxn (by rw [di];rfl)) (aE.bind (Uf hm hw x) ?_))
  rw [ew]
  refine aE.bind (Uf hm hw (n+x)) (aE.bind (r1.sub r2 (Jx (by decide))) (aE.if (inl hxn hL) ?_))
  rw [aK (show x < 9223372036854775807 by omega),an]
  refine KO hm hn hs hw hp d (x+1) _ (by omega) (by rw [List.length_set];exact hL) fun i hi=>?_
  by_cases e:x=i
  ·subst e;exact lO _ _ _ _ (by omega)
  ·rw [jA _ _ _ e];exact h0 i (by omega)
theorem Re (hm:m≤1000) (hn:n≤400) (hs:2 * s+1≤MS) (hw:∀ i i',i < m→i' < m→D.ik i=D.ik i'→i=i') (hp:∀ u,RB (B9 D m u) s) :
  Gv (fun N=>mZ N (n:Int) (m:Int) (bC D.v).fN.fG (bC D.v).fN.fL (bC D.v).fD.fG (bC D.v).fD.fL (h:Int) (LN D.ik m) (LN D.fr k) (LA D.a m k) (LQ D.b m) (LQ D.g k)) (LQ (fun i=>B9 D m i - B9 D m (n+i)) n) :=
 Gv.if (by omega) (KO hm hn hs hw hp n 0 (List.replicate n aa.d) (by omega) di fun i hi=>absurd hi (dX _)).diag
end
end Go.Den
namespace Go.Den
open Go.Ab
section
variable {n:Nat} {l:List af}
structure Rf (q:Nat) (n:Nat) (l:List af) (y:Nat→Rat):Prop where
 nn:∀ i,i < l.length→0≤y i
 Yp:∀ j,j < n→bX l.length (fun i=>y i * cf l i j)=0
 neg:bX l.length (fun i=>y i * bv l i) < 0
 rb:∀ i,i < l.length→RB (y i) q
structure VM (q:Nat) (n:Nat) (l:List af) (x:Nat→Rat):Prop where
 ok:∀ i,i < l.length→bE.xB n (cf l) x i≤bv l i
 rb:∀ j,j < n→RB (x j) q
variable {e5:Nat}
abbrev ZZ (e5:Nat):Nat:=5 ^ e5 * 40
theorem Yq (e5:Nat):40≤ZZ e5:=Nat.le_mul_of_pos_left _ (Nat.pow_pos (by decide))
theorem Jh {D:bE} (hl:BW l) (h5:l.length≤e5∨2 * n+1≤e5) (h:EA n l.length (cf l) (bv l) D):Rf (ZZ e5) n l (fun i=>-(D.gc (2 * n+1) (2 * n+i)))∧∀ j,j < 2 * n+1→RB (D.g j) (ZZ e5):=by
 obtain ⟨q1,q2,q3⟩:=bE.Xz h.wf h.eqv h.g
 have hr:=bE.KL h5 h.wf (bE.Gm n l.length (cf l) (bv l) (-1)) h.eqv (Nk (-1) (bE.Xw.neg.le (by decide)) (L8 hl)) (by decide:1≤40)
 have hp:=Yq e5
 refine ⟨⟨fun i _=>by have:=q1 (2 * n+i);grind,q2,by rw [q3];exact h.v,fun i _=>?_⟩,fun j hj=>hr.g j hj⟩
 by_cases e:∃ j,j < 2 * n+1∧D.fr j=2 * n+i
 ·obtain ⟨j,hj,e⟩:=e
  rw [← e,bE.QQ h.wf hj];exact (hr.g j hj).neg
 ·rw [bE.Jd fun j hj q=>e ⟨j,hj,q⟩];exact RB.zero.neg.le (eC (by decide) hp)
theorem G9 {D:bE} {c:Nat} (hl:BW l) (h5:l.length≤e5∨2 * n+1≤e5) (h:BU n l.length (cf l) (bv l) D c):VM (2 * ZZ e5+1) n l (fun j=>B9 D l.length j - B9 D l.length (n+j))∧∀ u,RB (B9 D l.length u) (ZZ e5):=by
 obtain ⟨z,he⟩:=h.eqv
 -- the goal does not matter
 have hr:∀ i,i < l.length→RB (D.b i) (ZZ e5):=fun i hi=>by
  have e0:bE.B8 l.length (2 * n+1) (bE.fst n l.length (cf l) (bv l) 0) { D with g:=fun j=>if D.fr j=2 * n+l.length then 0 else 0,v:=0 }:=⟨fun x=>by
   rw [← bE.KM n l.length (cf l) (bv l) z D x he];exact Iff.rfl,fun x _=>by
   rw [bE.QR];unfold bE.gv
   rw [bN (g:=fun _=>0) fun j _=>by simp,nX];grind⟩
  have hw:bE.WF { D with g:=fun j=>if D.fr j=2 * n+l.length then 0 else 0,v:=0 } l.length (2 * n+1):=⟨h.wf.bi,h.wf.fi,h.wf.bf,h.wf.bl,h.wf.fl,h.wf.al⟩
  exact ((bE.KL h5 hw (bE.Gm n l.length (cf l) (bv l) 0) e0 (L8 hl) (by decide:1≤40)).b i hi)
 have hp:∀ u,RB (B9 D l.length u) (ZZ e5):=fun u=>by
  by_cases e:∃ i,i < l.length∧D.ik i=u
  ·obtain ⟨i,hi,e⟩:=e
   unfold B9;rw [← e,bE.Eu h.wf.bi hi];exact hr i hi
  ·unfold B9;rw [bE.BR fun i hi q=>e ⟨i,hi,q⟩];exact RB.zero.le (eC (by decide) (Yq e5))
 refine ⟨⟨fun i hi=>?_,fun j _=>((hp j).sub (hp (n+j))).le (by omega)⟩,hp⟩
 have hs:=(bE.KM n l.length (cf l) (bv l) z D _ he).1 (bE.sn h.wf bE.tM)
 have hs:=(bE.Ex n l.length (cf l) (bv l) 0 _).1 hs i hi
 have h0:D.ext l.length (2 * n+1) bE.tM (2 * n+l.length)=0:=by rw [← h.fr,bE.uJ h.wf h.lt];rfl
 have Pk:=bE.Da h.wf h.fea (2 * n+i) (by omega)
 rw [h0] at hs
 have e:(fun j=>B9 D l.length j - B9 D l.length (n+j))=fun j=>D.ext l.length (2 * n+1) bE.tM j - D.ext l.length (2 * n+1) bE.tM (n+j):=by
  funext j;rw [Nm D _ (2 * n+1),Nm D _ (2 * n+1)]
 rw [e]
 grind
theorem Ji (D:bE) (c m u:Nat):B9 (D.del c) m u=B9 D m u:=by
 have e:∀ m,bE.OK (D.del c) m u=bE.OK D m u:=fun m=>by
  induction m with
  | zero=>rfl
  | succ m ih=>rw [bE.OK,bE.OK,ih];rfl
 unfold B9;rw [e];rfl
theorem KP (hn:n≤12) (hl:BW l) (M4:l.length≤40) (h5:l.length≤e5∨2 * n+1≤e5) (hs:5 * ZZ e5≤MS) (hc:rm n l=0) :
  (∃ y,Rf (ZZ e5) n l y∧Gv (fun N=>pV N (n:Int) l) ([],LQ y l.length,29))∨∃ x,VM (2 * ZZ e5+1) n l x∧Gv (fun N=>pV N (n:Int) l) (LQ x n,[],0):=by
 obtain ⟨_,ok⟩:=VL hc
 rw [an] at ok
 have hb:=Rd (n:=n) hn hl M4 ok.co
 obtain ⟨r,q1,q2⟩:=On (n:=n) (m:=l.length) (C:=cf l) (B:=bv l) (s:=40) (e5:=e5) h5 (by omega) (by omega) (L8 hl) (by decide) hs
 have xM:(rm (n:Int) l != 0)=false:=by rw [hc];rfl
 rcases q2 with ⟨D,q2,rfl⟩ | ⟨D,c,q2,rfl⟩
 ·obtain ⟨g1,g2⟩:=Jh hl h5 q2
  refine .inl ⟨_,g1,(BV _ _).bind (Gv.aR xM (hb.bind (q1.bind ?_)))⟩
  simp only [RS,TB,fg,lv,bT]
  refine Gv.if trivial (Gv.if trivial (Gv.if trivial (Gv.aF rfl ((Tm (by omega) (by omega) (by omega) (by omega:ZZ e5≤MS) q2.wf g2).bind (Gv.pure _)))))
 ·obtain ⟨g1,g2⟩:=G9 hl h5 q2
  refine .inr ⟨_,g1,(BV _ _).bind (Gv.aR xM (hb.bind (q1.bind ?_)))⟩
  simp only [RS,TB,fg,lv,bT]
  have hp:=Yq e5
  have:=Re (n:=n) (k:=2 * n) (h:=2 * n+l.length) (D:=D.del c) (m:=l.length) (by omega) (by omega) (s:=ZZ e5) (by omega) q2.wf.bi (fun u=>by rw [Ji];exact g2 u)
  have e:LQ (fun j=>B9 (D.del c) l.length j - B9 (D.del c) l.length (n+j)) n=LQ (fun j=>B9 D l.length j - B9 D l.length (n+j)) n:=rk fun j _=>by rw [Ji,Ji]
  rw [e] at this
  exact Gv.if trivial (Gv.if trivial (Gv.if trivial (Gv.aR rfl (this.bind (Gv.pure _)))))
end
end Go.Den
namespace Go.Den
open Go.Ab
def zo (s:ByteArray) (m:Nat):Bool :=
 cond (!(cond (cond (decide (kC s m≥97)) (decide (kC s m≤122)) false) true (cond (decide (kC s m≥65)) (decide (kC s m≤90)) false))) (cond ((m:Int) == 0) true (!(cond (cond (decide (kC s m≥48)) (decide (kC s m≤57)) false) true (kC s m == 45)))) false
def rJ (s:ByteArray):Bool :=
 cond (cond (lF s ByteArray.empty) true (decide (((s.size:Nat):Int) > 12))) false (scan (fun m=>cond (zo s m) (some false) none) true s.size 0)
theorem Du (s:ByteArray):lF s ByteArray.empty=decide (((s.size:Nat):Int) < 1):=by
 rw [Bool.eq_iff_iff,N6,decide_eq_true_eq]
 constructor
 ·rintro rfl;decide
 ·intro h
  have:s.size=0:=by omega
  cases s with | mk d => 
  have:d.size=0:=this
  simp [Array.size_eq_zero_iff.1 this];rfl
theorem Rg {N:Nat} (hN:12 < N) (s:ByteArray):om N s=some (rJ s):=by
 unfold om rJ
 cases h:cond (lF s ByteArray.empty) true (decide (((s.size:Nat):Int) > 12))
 ·have hs:s.size≤12:=by
   cases h2:lF s ByteArray.empty<;>rw [h2] at h<;>simp at h;omega
  refine nH (L:=fun fuel=>gF N s fuel) _ _ (by omega) (fun fuel m hm=>?_) (fun fuel=>?_)
  ·simp only [gF,dec_lt hm,cond_true,if_pos (pB hm),aK (show m < 9223372036854775807 by omega),an]
   show cond (zo s m) _ _=_
   cases zo s m<;>rfl
  ·simp only [gF,dY,cond_false]
 ·rfl
theorem Oo {N:Nat} (hN:12 < N) (s:ByteArray):sY N s=some (rJ s):=by
 unfold sY rJ
 rw [Du]
 cases h:cond (decide (((s.size:Nat):Int) < 1)) true (decide (((s.size:Nat):Int) > 12))
 ·have hs:s.size≤12:=by
   cases h2:decide (((s.size:Nat):Int) < 1)<;>rw [h2] at h<;>simp at h;omega
  refine nH (L:=fun fuel=>jX N s fuel) _ _ (by omega) (fun fuel m hm=>?_) (fun fuel=>?_)
  ·simp only [jX,zA,dec_lt hm,cond_true,if_pos (pB hm),aK (show m < 9223372036854775807 by omega),an]
   have e:zo s m=cond (!(cond (cond (decide (kC s m≥97)) (decide (kC s m≤122)) false) true (cond (decide (kC s m≥65)) (decide (kC s m≤90)) false))) (cond ((m:Int) == 0) true (cond (kC s m != 45) (cond (decide (kC s m < 48)) true (decide (kC s m > 57))) false)) false:=by
    unfold zo
    generalize kC s m=b
    rw [Bool.eq_iff_iff]
    simp [Bool.cond_eq_ite]
    omega
   rw [← e]
   cases zo s m<;>rfl
  ·simp only [jX,zA,dY,cond_false]
 ·rfl
end Go.Den
namespace Go.Den
open Go.Ab
def eB (x:ai):Int :=
 if -1000000≤x.iZ∧x.iZ≤1000000∧-1000000≤x.jE∧x.jE≤1000000∧-1000000≤x.b9∧x.b9≤1000000∧-1000000≤x.cC∧x.cC≤1000000∧1≤x.n7∧x.n7≤1000000000 then
  if x.iZ=x.b9∧x.jE=x.cC then 9 else 0
 else 2
theorem Jj (N:Nat) (x:ai):la N x=some (eB x):=by
 unfold la dQ eB
 simp only [ct,zd,az]
 simp only [Bool.cond_eq_ite]
 generalize x.iZ=a,x.jE=b,x.b9=c,x.cC=d,x.n7=e
 simp
 split<;>split<;>try omega
 all_goals split<;>simp_all<;>try omega
theorem L9 (N:Nat) (x:ai):mw N x=some (eB x):=by
 unfold mw gn eB
 simp only [ct,zd,az]
 simp only [Bool.cond_eq_ite]
 generalize x.iZ=a,x.jE=b,x.b9=c,x.cC=d,x.n7=e
 simp
 split<;>split<;>try omega
 all_goals split<;>simp_all<;>try omega
def wP (l:List ai) (m:Nat):Bool:=scan (fun k=>cond (lF (l.getD k ai.d).gq (l.getD m ai.d).gq) (some true) none) false m 0
def oA (l:List ai) (m:Nat):Option Int :=
 cond (!rJ (l.getD m ai.d).gq) (some 4) (cond (wP l m) (some 5) (cond (eB (l.getD m ai.d) != 0) (some (eB (l.getD m ai.d))) none))
def ej (l:List ai):Int:=cond (decide (((l.length:Nat):Int) > 12)) 8 (scan (oA l) 0 l.length 0)
theorem Ha {N:Nat} (l:List ai) (m:Nat) (hm:m < l.length) (hN:l.length < N) (hl:l.length≤12):cy N ((l.take m).drop 0) (l.getD m ai.d)=some (wP l m):=by
 have hlen:((l.take m).drop 0).length=m:=by simp;omega
 have e:cN N ((l.take m).drop 0) (l.getD m ai.d)=some (scan (fun k=>cond (lF (l.getD k ai.d).gq (l.getD m ai.d).gq) (some (k:Int)) none) (-1) m 0):=by
  unfold cN
  refine nH (L:=fun fuel=>bg N ((l.take m).drop 0) (l.getD m ai.d) fuel) _ _ (by omega) (fun fuel k hk=>?_) (fun fuel=>?_)
  ·simp only [bg,hlen,dec_lt hk,cond_true,if_pos (pB hk),aK (show k < 9223372036854775807 by omega),an,N7 l m k _ hk,k9,fa,ct]
   cases lF (l.getD k ai.d).gq (l.getD m ai.d).gq<;>rfl
  ·simp only [bg,hlen,dY,cond_false]
 unfold cy
 rw [e,ct,F3]
 rfl
theorem zW {N:Nat} (hN:13 < N) (l:List ai):fb N l=some (ej l):=by
 unfold fb l7 ej
 cases h:decide (((l.length:Nat):Int) > 12)
 ·have hl:l.length≤12:=by simp at h;omega
  have e:dg N l N 0=some (scan (oA l) 0 l.length 0):=by
   refine nH (L:=fun fuel=>dg N l fuel) _ _ (by omega) (fun fuel m hm=>?_) (fun fuel=>?_)
   ·simp only [dg,dec_lt hm,cond_true,if_pos (pB hm),aK (show m < 9223372036854775807 by omega),an,fa,ct,Rg (show 12 < N by omega),Ha l m hm (show l.length < N by omega) hl,Jj,
     if_pos (show 0≤m∧m≤l.length from ⟨Nat.zero_le _,by omega⟩),if_pos (show 0≤(m:Int) from Int.natCast_nonneg _)]
    unfold oA
    cases rJ (l.getD m ai.d).gq<;>cases wP l m<;>cases (eB (l.getD m ai.d) != 0)<;>rfl
   ·simp only [dg,dY,cond_false]
  rw [cond_false,cond_false,e];rfl
 ·rfl
theorem KQ {N:Nat} (hN:13 < N) (l:List ai):iT N l=some (ej l):=by
 unfold iT ej
 cases h:decide (((l.length:Nat):Int) > 12)
 ·have hl:l.length≤12:=by simp at h;omega
  rw [cond_false,cond_false]
  refine nH (L:=fun fuel=>eK N l fuel) _ _ (by omega) (fun fuel m hm=>?_) (fun fuel=>?_)
  ·have e:∀ K,dP N l (m:Int) K N 0=scan (fun k=>cond (lF (l.getD k ai.d).gq (l.getD m ai.d).gq) (some (some 5)) none) (cond (eB (l.getD m ai.d) != 0) (some (eB (l.getD m ai.d))) (K ((m+1:Nat):Int))) m 0:=fun K=>by
    refine Kk (L:=fun fuel=>dP N l (m:Int) K fuel) _ _ (by omega) (fun fuel k hk=>?_) (fun fuel=>?_)
    ·simp only [dP,dec_lt hk,cond_true,if_pos (pB (show k < l.length by omega)),if_pos (pB hm),aK (show k < 9223372036854775807 by omega),an]
     cases lF (l.getD k ai.d).gq (l.getD m ai.d).gq<;>rfl
    ·simp only [dP,dY,cond_false,if_pos (pB hm),an,L9,ct,aK (show m < 9223372036854775807 by omega)]
   simp only [eK,dec_lt hm,cond_true,if_pos (pB hm),an,Oo (show 12 < N by omega),ct,e]
   rw [HS]
   unfold oA wP
   cases rJ (l.getD m ai.d).gq<;>cases scan (fun k=>cond (lF (l.getD k ai.d).gq (l.getD m ai.d).gq) (some true) none) false m 0<;>cases (eB (l.getD m ai.d) != 0)<;>rfl
  ·simp only [eK,dY,cond_false]
 ·rfl
end Go.Den
namespace Go.Den
open Go.Ab
theorem Db (N:Nat) (l:ai) (D:Nat) (hD:(ah ((ah ((ah (l.b9 - l.iZ)) * (ah (l.b9 - l.iZ))))+(ah ((ah (l.cC - l.jE)) * (ah (l.cC - l.jE))))))=(D:Int)) :
  ∀ (k m fuel R:Nat),m+k=23→k < fuel→2 ^ k ∣ R→R < 2 ^ 23→R * R < D→D≤(R+2 ^ k) * (R+2 ^ k)→∃ n:Nat,gl N l fuel (R:Int) (m:Int)=some ((n+1:Nat):Int)∧n * n < D∧D≤(n+1) * (n+1)
 | 0,m,fuel,R,hm,hf,hd,hR,h1,h2=>by
  obtain ⟨g,rfl⟩:∃ g,fuel=g+1:=⟨fuel - 1,by omega⟩
  refine ⟨R,?_,h1,by simpa using h2⟩
  have:¬ ((m:Int) < 23):=by omega
  simp only [gl,this,decide_false,cond_false,aK (show R < 9223372036854775807 by omega)]
 | k+1,m,fuel,R,hm,hf,hd,hR,h1,h2=>by
  obtain ⟨g,rfl⟩:∃ g,fuel=g+1:=⟨fuel - 1,by omega⟩
  have hk:k≤22:=by omega
  have hp:2 ^ k≤2 ^ 22:=Nat.pow_le_pow_right (by omega) hk
  have e22:ah (22 - (m:Int))=(k:Int):=by rw [aV (by omega) (by omega)];omega
  obtain ⟨q,rfl⟩:=hd
  have Yr:2 ^ (k+1)=2 * 2 ^ k:=by rw [Nat.pow_succ];omega
  have hor:2 ^ (k+1) * q ||| 2 ^ k=2 ^ (k+1) * q+2 ^ k:=(Nat.two_pow_add_eq_or_of_lt (Nat.pow_lt_pow_right (by omega) (by omega)) q).symm
  have hq:q < 2 ^ (22 - k):=by
   have e:2 ^ 23=2 ^ (k+1) * 2 ^ (22 - k):=by rw [← Nat.pow_add];congr 1;omega
   rw [e] at hR
   exact Nat.lt_of_mul_lt_mul_left hR
  have hle:2 ^ (k+1) * q+2 ^ (k+1)≤2 ^ 23:=by
   have e:2 ^ 23=2 ^ (k+1) * 2 ^ (22 - k):=by rw [← Nat.pow_add];congr 1;omega
   rw [e,← Nat.mul_succ]
   exact Nat.mul_le_mul_left _ hq
  generalize hRR:2 ^ (k+1) * q=R at *
  have ec:sO .i64 (R:Int) (gZ .i64 1 (k:Int))=((R+2 ^ k:Nat):Int):=by
   rw [Ql (by omega),SW (by omega) (by omega),hor]
  have hc:(R+2 ^ k) * (R+2 ^ k)≤2 ^ 23 * 2 ^ 23:=Nat.mul_le_mul (by omega) (by omega)
  have ecc:ah (((R+2 ^ k:Nat):Int) * ((R+2 ^ k:Nat):Int))=(((R+2 ^ k) * (R+2 ^ k):Nat):Int):=by
   rw [← Int.natCast_mul];exact zc (by omega)
  have Dx:(m:Int) < 23:=by omega
  simp only [gl,Dx,decide_true,cond_true,e22,if_pos (Int.natCast_nonneg k),ec,ecc,hD,mv,aK (show m < 9223372036854775807 by omega)]
  by_cases gS:(R+2 ^ k) * (R+2 ^ k) < D
  ·rw [show decide ((((R+2 ^ k) * (R+2 ^ k):Nat):Int) < (D:Int))=true from decide_eq_true (by exact_mod_cast gS),cond_true]
   refine Db N l D hD k (m+1) g (R+2 ^ k) (by omega) (by omega) ?_ (by omega) gS ?_
   ·rw [← hRR,Yr,Nat.mul_assoc]
    exact ⟨2 * q+1,by rw [Nat.mul_add,Nat.mul_one,Nat.mul_left_comm]⟩
   ·have:R+2 ^ k+2 ^ k=R+2 ^ (k+1):=by omega
    rw [this];exact h2
  ·rw [show decide ((((R+2 ^ k) * (R+2 ^ k):Nat):Int) < (D:Int))=false from decide_eq_false (by exact_mod_cast gS),cond_false]
   refine Db N l D hD k (m+1) g R (by omega) (by omega) ?_ hR h1 (by omega)
   rw [← hRR,Yr,Nat.mul_assoc]
   exact ⟨2 * q,by rw [Nat.mul_left_comm]⟩
theorem uK {x:ai} (h:eB x=0):-1000000≤x.iZ∧x.iZ≤1000000∧-1000000≤x.jE∧x.jE≤1000000∧-1000000≤x.b9∧x.b9≤1000000∧-1000000≤x.cC∧x.cC≤1000000∧¬ (x.iZ=x.b9∧x.jE=x.cC):=by
 unfold eB at h
 split at h
 ·split at h
  ·cases h
  ·omega
 ·cases h
theorem EB {N:Nat} (hN:23 < N) (l:ai) (h:eB l=0) :
  ∃ n:Nat,nQ N l=some ((n+1:Nat):Int)∧(n:Int) * n < (l.b9 - l.iZ) * (l.b9 - l.iZ)+(l.cC - l.jE) * (l.cC - l.jE) ∧
   (l.b9 - l.iZ) * (l.b9 - l.iZ)+(l.cC - l.jE) * (l.cC - l.jE)≤((n:Int)+1) * (n+1)∧n < 3000000 ∧
   (l.b9 - l.iZ) * (l.b9 - l.iZ)≤4000000000000∧(l.cC - l.jE) * (l.cC - l.jE)≤4000000000000:=by
 obtain ⟨a1,a2,a3,a4,a5,a6,a7,a8,a9⟩:=uK h
 have hX:=T9 (x:=l.b9 - l.iZ) (M:=2000000) (by omega) (by omega)
 have hY:=T9 (x:=l.cC - l.jE) (M:=2000000) (by omega) (by omega)
 have hX0:=sq_nonneg (l.b9 - l.iZ)
 have hY0:=sq_nonneg (l.cC - l.jE)
 have Oj:0 < (l.b9 - l.iZ) * (l.b9 - l.iZ)+(l.cC - l.jE) * (l.cC - l.jE):=by
  by_cases hx:l.b9 - l.iZ=0
  ·have hy:l.cC - l.jE≠0:=by omega
   have:(l.cC - l.jE) * (l.cC - l.jE)≠0:=Int.mul_ne_zero hy hy
   omega
  ·have:(l.b9 - l.iZ) * (l.b9 - l.iZ)≠0:=Int.mul_ne_zero hx hx
   omega
 have e1:ah (l.b9 - l.iZ)=l.b9 - l.iZ:=aV (by omega) (by omega)
 have e2:ah (l.cC - l.jE)=l.cC - l.jE:=aV (by omega) (by omega)
 generalize hXX:(l.b9 - l.iZ) * (l.b9 - l.iZ)=XX at *
 generalize hYY:(l.cC - l.jE) * (l.cC - l.jE)=YY at *
 have e3:ah XX=XX:=aV (by omega) (by omega)
 have e4:ah YY=YY:=aV (by omega) (by omega)
 have e5:ah (XX+YY)=XX+YY:=aV (by omega) (by omega)
 obtain ⟨n,h1,h2,h3⟩:=Db N l (XX+YY).toNat (by rw [e1,e2,hXX,hYY,e3,e4,e5];omega) 23 0 N 0 rfl hN ⟨0,rfl⟩ (by decide) (by omega) (by omega)
 refine ⟨n,h1,?_,?_,?_,by omega,by omega⟩
 ·have:((n * n:Nat):Int) < ((XX+YY).toNat:Int):=by exact_mod_cast h2
  rw [Int.natCast_mul] at this;omega
 ·have:((XX+YY).toNat:Int)≤(((n+1) * (n+1):Nat):Int):=by exact_mod_cast h3
  rw [Int.natCast_mul] at this;simp at this ⊢;omega
 ·apply Nat.lt_of_not_le
  intro hn
  have:=Nat.mul_le_mul hn hn
  omega
theorem Tn {N:Nat} (hN:23 < N) (l:ai) (hl:ej [l]=0) :
  ∃ n:Nat,pW N l=some (((n+1:Nat):Int),0)∧(n:Int) * n < (l.b9 - l.iZ) * (l.b9 - l.iZ)+(l.cC - l.jE) * (l.cC - l.jE) ∧
   (l.b9 - l.iZ) * (l.b9 - l.iZ)+(l.cC - l.jE) * (l.cC - l.jE)≤((n:Int)+1) * (n+1)∧n < 3000000 ∧
   (l.b9 - l.iZ) * (l.b9 - l.iZ)≤4000000000000∧(l.cC - l.jE) * (l.cC - l.jE)≤4000000000000∧eB l=0:=by
 have hc:eB l=0:=by
  unfold ej at hl
  simp only [List.length_singleton,scan,oA,List.getD_cons_zero] at hl
  cases h1:rJ l.gq
  ·rw [h1] at hl;simp at hl
  ·rw [h1] at hl
   rw [show wP [l] 0=false from rfl] at hl
   by_cases h:eB l=0
   ·exact h
   ·rw [show (eB l != 0)=true by simpa using h] at hl
    exact absurd hl h
 obtain ⟨n,h1,h2,h3,h4,h5,h6⟩:=EB hN l hc
 refine ⟨n,?_,h2,h3,h4,h5,h6,hc⟩
 unfold pW
 rw [zW (by omega),hl,h1];rfl
theorem Rh {N:Nat} (hN:23 < N):qU N=some true:=by
 have hz:ej [(⟨(⟨#[108]⟩:ByteArray),0,0,3000,4000,1000⟩:ai)]=0:=by
  have hn:rJ (⟨#[108]⟩:ByteArray)=true:=by unfold rJ;rw [Du];decide
  unfold ej
  simp only [List.length_singleton,scan,oA,List.getD_cons_zero,hn]
  decide
 obtain ⟨n,h1,h2,h3,h4,-,-⟩:=Tn hN _ hz
 unfold qU
 rw [h1,ct]
 have:n=4999:=by
  simp only at h2 h3
  have a:n < 5000:=by
   apply Nat.lt_of_not_le
   intro hn
   have:=Nat.mul_le_mul hn hn
   have Yo:((n * n:Nat):Int) < 25000000:=by rw [Int.natCast_mul];omega
   omega
  have b:4999≤n:=by
   apply Nat.le_of_not_lt
   intro hn
   have:=Nat.mul_le_mul (show n+1≤4999 by omega) (show n+1≤4999 by omega)
   have h3':(25000000:Int)≤(((n+1) * (n+1):Nat):Int):=by rw [Int.natCast_mul];simp only [Int.natCast_add,Int.natCast_one];omega
   omega
  omega
 subst this;rfl
def Ma (l:List ai):Bool:=scan (fun m=>cond (decide ((((l.getD m ai.d).gq.size:Nat):Int) > 40)) (some false) none) (decide (((l.length:Nat):Int)≤14)) l.length 0
theorem Ri {N:Nat} (l:List ai) (hN:l.length < N) (hl:l.length≤9223372036854775807):qV N l=some (Ma l):=by
 unfold qV Ma
 refine nH (L:=fun fuel=>jo N l fuel) _ _ hN (fun fuel m hm=>?_) (fun fuel=>?_)
 ·simp only [jo,dec_lt hm,cond_true,if_pos (pB hm),aK (show m < 9223372036854775807 by omega),an]
  cases decide ((((l.getD m ai.d).gq.size:Nat):Int) > 40)<;>rfl
 ·simp only [jo,dY,cond_false]
end Go.Den
namespace Go.Den
open Go.Ab
def KR (z:Int):Prop:=-9223372036854775808≤z∧z≤9223372036854775807
theorem tz {z:Int} (h:KR z):Gv (fun N=>m6 N z) (bC (z:Rat)):=(GG h.1 h.2).bind (Xo.bind ((Gv.pure _).eq rfl))
theorem RB.one:RB 1 1:=RB.int (z:=1) (ZB.small (by decide)) (by decide)
theorem eR {z:Int} (h:KR z):RB (z:Rat) 4:=RB.int (ZB.word h.1 h.2) (by decide)
theorem VN {z:Int} (h:KR z):Gv (fun N=>wc N z) (zJ z):=M7 h.1 h.2
theorem Oq {z:Int} (h:KR z):Gv (fun N=>qu N (zJ z)) (bC (z:Rat)):=(ZB.word h.1 h.2).zi.whole (by decide) (by decide)
end Go.Den
namespace Go.Den
open Go.Ab
theorem Nn {m n:Nat} {D:Int} (h1:(m:Int) * m < D) (h2:D≤((m:Int)+1) * (m+1)) (h3:(n:Int) * n < D) (h4:D≤((n:Int)+1) * (n+1)):m=n:=by
 have key:∀ {a b:Nat},(a:Int) * a < D→D≤((b:Int)+1) * (b+1)→a≤b:=by
  intro a b h h'
  apply Nat.le_of_not_lt
  intro gS
  have:=Nat.mul_le_mul (show b+1≤a by omega) (show b+1≤a by omega)
  have e:(((b+1) * (b+1):Nat):Int)≤((a * a:Nat):Int):=by exact_mod_cast this
  rw [Int.natCast_mul,Int.natCast_mul] at e
  simp only [Int.natCast_add,Int.natCast_one] at e
  omega
 exact Nat.le_antisymm (key h1 h4) (key h3 h2)
theorem AK (N:Nat) (l:ai) (D:Nat) (hD:(ah ((ah ((ah (l.b9 - l.iZ)) * (ah (l.b9 - l.iZ))))+(ah ((ah (l.cC - l.jE)) * (ah (l.cC - l.jE))))))=(D:Int)) :
  ∀ (k fuel R st:Nat),k < fuel→st=2 ^ k / 2→R+2 ^ k≤2 ^ 23→R * R < D→D≤(R+2 ^ k) * (R+2 ^ k)→∃ n:Nat,jg N l fuel (R:Int) (st:Int)=some ((n+1:Nat):Int)∧n * n < D∧D≤(n+1) * (n+1)
 | 0,fuel,R,st,hf,AP,hR,h1,h2=>by
  obtain ⟨g,rfl⟩:∃ g,fuel=g+1:=⟨fuel - 1,by omega⟩
  have:st=0:=by rw [AP]
  subst this
  refine ⟨R,?_,h1,by simpa using h2⟩
  rw [jg,decide_eq_false (by omega),cond_false,aK (by omega)]
 | k+1,fuel,R,st,hf,AP,hR,h1,h2=>by
  obtain ⟨g,rfl⟩:∃ g,fuel=g+1:=⟨fuel - 1,by omega⟩
  have Yr:2 ^ (k+1)=2 * 2 ^ k:=by rw [Nat.pow_succ];omega
  have XJ:0 < 2 ^ k:=Nat.pow_pos (by decide)
  have:st=2 ^ k:=by rw [AP,Yr];omega
  subst this
  have hc:(R+2 ^ k) * (R+2 ^ k)≤2 ^ 23 * 2 ^ 23:=Nat.mul_le_mul (by omega) (by omega)
  have e1:ah ((R:Int)+((2 ^ k:Nat):Int))=((R+2 ^ k:Nat):Int):=by rw [← Int.natCast_add];exact zc (by omega)
  have ecc:ah (((R+2 ^ k:Nat):Int) * ((R+2 ^ k:Nat):Int))=(((R+2 ^ k) * (R+2 ^ k):Nat):Int):=by
   rw [← Int.natCast_mul];exact zc (by omega)
  have e2:ah ((((2 ^ k:Nat):Int)).tdiv 2)=((2 ^ k / 2:Nat):Int):=by
   have:(((2 ^ k:Nat):Int)).tdiv 2=((2 ^ k / 2:Nat):Int):=rfl
   rw [this];exact zc (by omega)
  rw [jg,decide_eq_true (by omega),cond_true]
  simp only [e1,ecc,hD,ot,e2]
  by_cases gS:(R+2 ^ k) * (R+2 ^ k) < D
  ·rw [decide_eq_true (by exact_mod_cast gS),cond_true]
   refine AK N l D hD k g (R+2 ^ k) _ (by omega) rfl (by omega) gS ?_
   have:R+2 ^ k+2 ^ k=R+2 ^ (k+1):=by omega
   rw [this];exact h2
  ·rw [decide_eq_false (by exact_mod_cast gS),cond_false]
   exact AK N l D hD k g R _ (by omega) rfl (by omega) h1 (by omega)
theorem Rj {N:Nat} (hN:24 < N) (l:ai) (h:eB l=0) :
  ∃ n:Nat,s6 N l=some ((n+1:Nat):Int)∧(n:Int) * n < (l.b9 - l.iZ) * (l.b9 - l.iZ)+(l.cC - l.jE) * (l.cC - l.jE) ∧
   (l.b9 - l.iZ) * (l.b9 - l.iZ)+(l.cC - l.jE) * (l.cC - l.jE)≤((n:Int)+1) * (n+1):=by
 obtain ⟨a1,a2,a3,a4,a5,a6,a7,a8,a9⟩:=uK h
 obtain ⟨n0,-,b1,b2,-,b3,b4⟩:=EB (N:=24) (by omega) l h
 have hX0:=sq_nonneg (l.b9 - l.iZ)
 have hY0:=sq_nonneg (l.cC - l.jE)
 have Rp:(0:Int)≤(n0:Int) * n0:=sq_nonneg _
 have e1:ah (l.b9 - l.iZ)=l.b9 - l.iZ:=aV (by omega) (by omega)
 have e2:ah (l.cC - l.jE)=l.cC - l.jE:=aV (by omega) (by omega)
 generalize hXX:(l.b9 - l.iZ) * (l.b9 - l.iZ)=XX at *
 generalize hYY:(l.cC - l.jE) * (l.cC - l.jE)=YY at *
 have e3:ah XX=XX:=aV (by omega) (by omega)
 have e4:ah YY=YY:=aV (by omega) (by omega)
 have e5:ah (XX+YY)=XX+YY:=aV (by omega) (by omega)
 obtain ⟨n,h1,h2,h3⟩:=AK N l (XX+YY).toNat (by rw [e1,e2,hXX,hYY,e3,e4,e5];omega) 23 N 0 4194304 (by omega) (by decide) (by decide) (by omega) (by omega)
 refine ⟨n,h1,?_,?_⟩
 ·have:((n * n:Nat):Int) < ((XX+YY).toNat:Int):=by exact_mod_cast h2
  rw [Int.natCast_mul] at this;omega
 ·have:((XX+YY).toNat:Int)≤(((n+1) * (n+1):Nat):Int):=by exact_mod_cast h3
  rw [Int.natCast_mul] at this;simp at this ⊢;omega
theorem To (l:ai) (h:eB l=0):∃ s:Int,1≤s∧s≤3000000∧Gv (fun N=>nQ N l) s∧Gv (fun N=>s6 N l) s:=by
 obtain ⟨n,h0,h1,h2,h3,-⟩:=EB (N:=24) (by omega) l h
 refine ⟨((n+1:Nat):Int),by omega,by omega,.of 25 fun N hN=>?_,.of 25 fun N hN=>?_⟩
 ·obtain ⟨m,k0,k1,k2,-⟩:=EB (N:=N) (by omega) l h
  rw [k0,Nn k1 k2 h1 h2]
 ·obtain ⟨m,k0,k1,k2⟩:=Rj (N:=N) (by omega) l h
  rw [k0,Nn k1 k2 h1 h2]
def t3 (a b c:Rat):ar:=⟨bC a,bC b,bC c⟩
theorem mI {z:Int} (h:KR z):Gv (fun N=>dG N z) (bC (z:Rat)):=Gv.bind (VN h) (Gv.bind (Oq h) (Gv.pure _))
def px (l:ai) (s:Int):Rat:=(l.n7:Rat) / (s:Rat) * ((l.b9 - l.iZ:Int):Rat)
def py (l:ai) (s:Int):Rat:=(l.n7:Rat) / (s:Rat) * ((l.cC - l.jE:Int):Rat)
def pt (l:ai) (s:Int):Rat:=(l.iZ:Rat) * py l s - (l.jE:Rat) * px l s
theorem Ot {x:ai} (h:eB x=0):1≤x.n7∧x.n7≤1000000000:=by
 unfold eB at h
 split at h
 ·omega
 ·cases h
theorem Ef {z:Int} (h:z.natAbs≤9000000000000000000):KR z:=⟨by omega,by omega⟩
structure Rk (l:ai) (x y t:Rat):Prop where
 rx:RB x 40
 ry:RB y 40
 rt:RB t 40
 code:Gv (fun N=>ld N l) (t3 x y t)
 doc:Gv (fun N=>s7 N l) (t3 x y t)
theorem VO {l:ai} (h:eB l=0):∃ x y t,Rk l x y t:=by
 obtain ⟨a1,a2,a3,a4,a5,a6,a7,a8,-⟩:=uK h
 obtain ⟨m1,m2⟩:=Ot h
 obtain ⟨s,s1,s2,c1,c2⟩:=To l h
 have hm:KR l.n7:=Ef (by omega)
 have hs:KR s:=Ef (by omega)
 have XD:KR (l.b9 - l.iZ):=Ef (by omega)
 have XE:KR (l.cC - l.jE):=Ef (by omega)
 have hX:KR l.iZ:=Ef (by omega)
 have hY:KR l.jE:=Ef (by omega)
 have Ry:(s:Rat)≠0:=by exact_mod_cast (by omega:s≠0)
 have rp:=(eR hm).div (eR hs) Ry
 have rx:RB (px l s) 12:=rp.mul (eR XD)
 have ry:RB (py l s) 12:=rp.mul (eR XE)
 have rt:RB (pt l s) 33:=((eR hX).mul ry).sub ((eR hY).mul rx)
 have e1:ah (l.b9 - l.iZ)=l.b9 - l.iZ:=aV (by omega) (by omega)
 have e2:ah (l.cC - l.jE)=l.cC - l.jE:=aV (by omega) (by omega)
 refine ⟨px l s,py l s,pt l s,rx.le (by decide),ry.le (by decide),rt.le (by decide),?_,?_⟩
 ·have hr:=QG hm.1 hm.2 hs.1 hs.2 (show s≠0 by omega)
  rw [Rat.divInt_eq_div] at hr
  refine Gv.bind c1 (Gv.bind hr ?_)
  rw [e1,e2]
  refine Gv.bind (mI XD) (Gv.bind ((rp.rq (by decide)).mul ((eR XD).rq (by decide)) (by decide)) ?_)
  refine Gv.bind (mI XE) (Gv.bind ((rp.rq (by decide)).mul ((eR XE).rq (by decide)) (by decide)) ?_)
  refine Gv.bind (mI hX) (Gv.bind (((eR hX).rq (by decide)).mul (ry.rq (by decide)) (by decide)) ?_)
  refine Gv.bind (mI hY) (Gv.bind (((eR hY).rq (by decide)).mul (rx.rq (by decide)) (by decide)) ?_)
  exact Gv.bind ((((eR hX).mul ry).rq (by decide)).sub (((eR hY).mul rx).rq (by decide)) (by decide)) (Gv.pure _)
 ·refine Gv.bind (tz hm) (Gv.bind c2 (Gv.bind (tz hs) (Gv.bind (((eR hm).rq (by decide)).aaw ((eR hs).rq (by decide)) Ry (by decide)) ?_)))
  rw [e1,e2]
  refine Gv.bind (tz XD) (Gv.bind ((rp.rq (by decide)).xA ((eR XD).rq (by decide)) (by decide)) ?_)
  refine Gv.bind (tz XE) (Gv.bind ((rp.rq (by decide)).xA ((eR XE).rq (by decide)) (by decide)) ?_)
  refine Gv.bind (tz hX) (Gv.bind (((eR hX).rq (by decide)).xA (ry.rq (by decide)) (by decide)) ?_)
  refine Gv.bind (tz hY) (Gv.bind (((eR hY).rq (by decide)).xA (rx.rq (by decide)) (by decide)) ?_)
  exact Gv.bind ((((eR hX).mul ry).rq (by decide)).Xp (((eR hY).mul rx).rq (by decide)) (by decide)) (Gv.pure _)
def iK (w:dK):Int :=
 if -1000000000≤w.iZ∧w.iZ≤1000000000∧-1000000000≤w.jE∧w.jE≤1000000000∧-1000000000000000≤w.iv∧w.iv≤1000000000000000 then 0 else 2
theorem Jk (N:Nat) (w:dK):hO N w=some (iK w):=by
 unfold hO dQ pX iK
 simp only [ct,zd,az]
 simp only [Bool.cond_eq_ite]
 generalize w.iZ=a,w.jE=b,w.iv=c
 simp
 split<;>split<;>try omega
 all_goals simp_all<;>try omega
theorem Mb (N:Nat) (w:dK):jC N w=some (iK w):=by
 unfold jC gn iK
 simp only [ct,zd,az]
 simp only [Bool.cond_eq_ite]
 generalize w.iZ=a,w.jE=b,w.iv=c
 simp
 split<;>split<;>try omega
 all_goals simp_all<;>try omega
theorem Gx {w:dK} (h:iK w=0):KR w.iZ∧KR w.jE∧KR w.iv:=by
 unfold iK at h
 split at h
 ·exact ⟨Ef (by omega),Ef (by omega),Ef (by omega)⟩
 ·cases h
theorem Gy {w:dK} (h:iK w=0):Gv (fun N=>mK N w) (t3 w.iZ w.jE w.iv):=by
 obtain ⟨a,b,c⟩:=Gx h
 exact Gv.bind (mI a) (Gv.bind (mI b) (Gv.bind (mI c) (Gv.pure _)))
theorem KS {w:dK} (h:iK w=0):Gv (fun N=>qX N w) (t3 w.iZ w.jE w.iv):=by
 obtain ⟨a,b,c⟩:=Gx h
 exact Gv.bind (tz a) (Gv.bind (tz b) (Gv.bind (tz c) (Gv.pure _)))
def zr:aa:=⟨⟨false,[]⟩,⟨false,[]⟩⟩
theorem Ug:IB ⟨false,[]⟩ 1:=⟨(fun x h=>by cases h),by decide⟩
theorem Gz:RQ zr 0 1:=⟨⟨Ug,Ug⟩,by decide,by decide⟩
theorem XF (p:Rat):nc (p - 0)=nc p:=by rw [show p - 0=p by grind]
structure Mc (l:List aa):Prop where
 ir:∀ i,i < l.length→IR (l.getD i aa.d) 12
theorem Mc.rq {l:List aa} (h:Mc l) {i:Nat} (hi:i < l.length):RQ (l.getD i aa.d) (qv (l.getD i aa.d)) 12:=⟨h.ir i hi,rfl,by decide⟩
theorem No:RB ((1:Int):Rat) 1:=RB.one
theorem w1:KR 1:=Ef (by decide)
def tA (l:List ai) (X Y T:Nat→Rat):Prop:=∀ i,i < l.length→Rk (l.getD i ai.d) (X i) (Y i) (T i)
section
variable {l:List ai} {X Y T:Nat→Rat} {pa:List aa}
def pv (pa:List aa) (i:Nat):Rat:=qv (pa.getD i aa.d)
def lP (X Y T:Nat→Rat) (pa:List aa):Nat→Nat→Rat→Rat→Rat→Bool
 | 0,_,a,b,c=>cond (nc a == 0) (cond (nc b == 0) (nc c == 0) false) false
 | k+1,i,a,b,c=>cond (cond (decide (nc (pv pa i) < 0)) true (decide (nc (pv pa i - ((1:Int):Rat)) > 0))) false (lP X Y T pa k (i+1) (a+pv pa i * X i) (b+pv pa i * Y i) (c+pv pa i * T i))
def gQ (pa:List aa) (a b c:Rat):Rat:=((((0:Int):Rat)+pv pa 0 * a)+pv pa 1 * b)+pv pa 2 * c
theorem w0:KR 0:=Ef (by decide)
theorem Rl:RB ((0:Int):Rat) 1:=RB.zero
def lD (X Y T:Nat→Rat) (pa:List aa):Nat→Nat→Rat→Bool
 | 0,_,s=>decide (nc s < 0)
 | k+1,i,s=>lD X Y T pa k (i+1) (cond (decide (nc (gQ pa (X i) (Y i) (T i)) > 0)) (s+gQ pa (X i) (Y i) (T i)) s)
end
end Go.Den
namespace Go.Den
open Go.Ab
structure EC (z:Nat) (l:List aa):Prop where
 one:1≤z
 top:z≤100000000000
 rq:∀ {i:Nat},i < l.length→RQ (l.getD i aa.d) (qv (l.getD i aa.d)) z
theorem vP {x:aa} {p:Rat} {n:Nat} (h:RQ x p n) (hn:n≤4000000000000):Gv (fun N=>gx N x zr) (nc p) :=
 (h.cmp Gz (by simp only [SM];omega)).eq (XF p)
section
variable {l:List ai} {X Y T:Nat→Rat} {pa:List aa} {z:Nat}
theorem H3 (hl:l.length≤14) (hq:tA l X Y T) (hp:EC z pa) (hlen:pa.length=l.length):∀ (k i m:Nat) (a b c:Rat),i+k=l.length→RB a m→RB b m→RB c m→1≤m→m+k * (z+60)≤4000000000000 →
  aE (fun N fuel=>gJ N l pa fuel (t3 a b c) (i:Int)) (lP X Y T pa k i a b c)
 | 0,i,m,a,b,c,hi,ha,hb,hc,h1,hm=>by
  have Jq:=hp.one
  have LX:=hp.top
  have:i=l.length:=by omega
  subst this
  refine aE.succ (fun N g=>gJ.eq_2 ..) (aE.aR dY (aE.one (Gv.bind (vP (ha.rq h1) (by omega)) ?_)))
  unfold lP
  cases ea:nc a == 0 with
  | false=>exact Gv.aF (by simpa using ea) (Gv.pure _)
  | true =>
   refine Gv.aR (by simpa using ea) (Gv.bind (vP (hb.rq h1) (by omega)) ?_)
   cases eb:nc b == 0 with
   | false=>exact Gv.aF (by simpa using eb) (Gv.pure _)
   | true =>
    refine Gv.aR (by simpa using eb) (Gv.bind (vP (hc.rq h1) (by omega)) ?_)
    cases ec:nc c == 0 with
    | false=>exact Gv.aF (by simpa using ec) (Gv.pure _)
    | true=>exact Gv.aR (by simpa using ec) (Gv.pure _)
 | k+1,i,m,a,b,c,hi,ha,hb,hc,h1,hm=>by
  rw [Nat.succ_mul] at hm
  have Jq:=hp.one
  have LX:=hp.top
  have uP:i < l.length:=by omega
  have VP:i < pa.length:=by omega
  have r:=hp.rq VP
  have q:=hq i uP
  have rb:=r.rb
  refine aE.succ (fun N g=>gJ.eq_2 ..) (aE.aF (dec_lt uP) (aE.if (pB uP) (aE.if (pB VP) ?_)))
  rw [an,aK (by omega)]
  refine aE.bind (vP r (by omega)) (aE.if (fun _=>pB VP) ?_)
  unfold lP
  change aE _ (cond (cond (decide (nc (qv (pa.getD i aa.d)) < 0)) true (decide (nc (qv (pa.getD i aa.d) - ((1:Int):Rat)) > 0))) false (lP X Y T pa k (i+1) (a+qv (pa.getD i aa.d) * X i) (b+qv (pa.getD i aa.d) * Y i) (c+qv (pa.getD i aa.d) * T i)))
  cases en:decide (nc (qv (pa.getD i aa.d)) < 0) with
  | true=>exact aE.bind (Gv.aR rfl (Gv.pure _)) (aE.bind (Gv.aR rfl (Gv.pure _)) (aE.aF rfl (aE.one (Gv.pure _))))
  | false =>
   refine aE.bind (Gv.aF rfl (mI w1)) (aE.bind (Gv.aF rfl (r.cmp (No.rq (by decide)) (by simp only [SM];omega))) ?_)
   cases eg:decide (nc (qv (pa.getD i aa.d) - ((1:Int):Rat)) > 0) with
   | true=>exact aE.aF rfl (aE.one (Gv.pure _))
   | false =>
    refine aE.aR rfl (aE.bind q.code ?_)
    have mx:=rb.mul q.rx
    have my:=rb.mul q.ry
    have mt:=rb.mul q.rt
    refine aE.bind (r.mul (q.rx.rq (by decide)) (by simp only [SM];omega)) (aE.bind ((ha.rq h1).add (mx.rq (by omega)) (by simp only [SM];omega)) ?_)
    refine aE.bind (r.mul (q.ry.rq (by decide)) (by simp only [SM];omega)) (aE.bind ((hb.rq h1).add (my.rq (by omega)) (by simp only [SM];omega)) ?_)
    refine aE.bind (r.mul (q.rt.rq (by decide)) (by simp only [SM];omega)) (aE.bind ((hc.rq h1).add (mt.rq (by omega)) (by simp only [SM];omega)) ?_)
    exact H3 hl hq hp hlen k (i+1) (m+(z+60)) _ _ _ (by omega) ((ha.add mx).le (by omega)) ((hb.add my).le (by omega)) ((hc.add mt).le (by omega)) (by omega) (by omega)
theorem BX (hl:l.length≤14) (hq:tA l X Y T) (hp:EC z pa) (hz:z≤1000000000) (hlen:pa.length=l.length):∀ (k i m:Nat) (a b c:Rat),i+k=l.length→RB a m→RB b m→RB c m→1≤m→m+k * (z+60)≤100000000000 →
  aE (fun N fuel=>fM N l pa fuel (t3 a b c) (i:Int)) (lP X Y T pa k i a b c)
 | 0,i,m,a,b,c,hi,ha,hb,hc,h1,hm=>by
  have Jq:=hp.one
  have LX:=hp.top
  have:i=l.length:=by omega
  subst this
  refine aE.succ (fun N g=>fM.eq_2 ..) (aE.aR dY (aE.one (Gv.bind ((ha.rq h1).LY (by simp only [LM];omega)) ?_)))
  unfold lP
  cases ea:nc a == 0 with
  | false=>exact Gv.bind (Gv.aR rfl (Gv.pure _)) (Gv.bind (Gv.aR rfl (Gv.pure _)) (Gv.pure _))
  | true =>
   refine Gv.bind (Gv.aF rfl ((hb.rq h1).LY (by simp only [LM];omega))) ?_
   cases eb:nc b == 0 with
   | false=>exact Gv.bind (Gv.aR rfl (Gv.pure _)) (Gv.pure _)
   | true=>exact Gv.bind (Gv.aF rfl ((hc.rq h1).LY (by simp only [LM];omega))) (Gv.pure _)
 | k+1,i,m,a,b,c,hi,ha,hb,hc,h1,hm=>by
  rw [Nat.succ_mul] at hm
  have Jq:=hp.one
  have LX:=hp.top
  have uP:i < l.length:=by omega
  have VP:i < pa.length:=by omega
  have r:=hp.rq VP
  have q:=hq i uP
  have rb:=r.rb
  refine aE.succ (fun N g=>fM.eq_2 ..) (aE.aF (dec_lt uP) (aE.if (pB VP) ?_))
  rw [an,aK (by omega)]
  refine aE.bind (r.LY (by simp only [LM];omega)) (aE.if (fun _=>pB VP) ?_)
  unfold lP
  change aE _ (cond (cond (decide (nc (qv (pa.getD i aa.d)) < 0)) true (decide (nc (qv (pa.getD i aa.d) - ((1:Int):Rat)) > 0))) false (lP X Y T pa k (i+1) (a+qv (pa.getD i aa.d) * X i) (b+qv (pa.getD i aa.d) * Y i) (c+qv (pa.getD i aa.d) * T i)))
  cases en:decide (nc (qv (pa.getD i aa.d)) < 0) with
  | true=>exact aE.bind (Gv.aR rfl (Gv.pure _)) (aE.bind (Gv.aR rfl (Gv.pure _)) (aE.aF rfl (aE.one (Gv.pure _))))
  | false =>
   refine aE.bind (Gv.aF rfl (tz w1)) (aE.bind (Gv.aF rfl (r.aax (No.rq (by decide)) (by simp only [LM];omega))) ?_)
   cases eg:decide (nc (qv (pa.getD i aa.d) - ((1:Int):Rat)) > 0) with
   | true=>exact aE.aF rfl (aE.one (Gv.pure _))
   | false =>
    refine aE.aR rfl (aE.if (pB uP) (aE.bind q.doc ?_))
    have mx:=rb.mul q.rx
    have my:=rb.mul q.ry
    have mt:=rb.mul q.rt
    refine aE.bind (r.xA (q.rx.rq (by decide)) (by simp only [LM];omega)) (aE.bind ((ha.rq h1).G8 (mx.rq (by omega)) (by simp only [LM];omega)) ?_)
    refine aE.bind (r.xA (q.ry.rq (by decide)) (by simp only [LM];omega)) (aE.bind ((hb.rq h1).G8 (my.rq (by omega)) (by simp only [LM];omega)) ?_)
    refine aE.bind (r.xA (q.rt.rq (by decide)) (by simp only [LM];omega)) (aE.bind ((hc.rq h1).G8 (mt.rq (by omega)) (by simp only [LM];omega)) ?_)
    exact BX hl hq hp hz hlen k (i+1) (m+(z+60)) _ _ _ (by omega) ((ha.add mx).le (by omega)) ((hb.add my).le (by omega)) ((hc.add mt).le (by omega)) (by omega) (by omega)
theorem zp (hp:EC z pa) (hlen:pa.length=3) {a b c:Rat} (ha:RB a 40) (hb:RB b 40) (hc:RB c 40):RB (gQ pa a b c) (3 * z+160):=by
 have Jq:=hp.one
 have LX:=hp.top
 have r0:=(hp.rq (i:=0) (by omega)).rb
 have r1:=(hp.rq (i:=1) (by omega)).rb
 have r2:=(hp.rq (i:=2) (by omega)).rb
 exact (((Rl.add (r0.mul ha)).add (r1.mul hb)).add (r2.mul hc)).le (by omega)
theorem BZ (hp:EC z pa) (hlen:pa.length=3) {a b c:Rat} (ha:RB a 40) (hb:RB b 40) (hc:RB c 40):Gv (fun N=>lK N (t3 a b c) pa) (bC (gQ pa a b c)):=by
 have Jq:=hp.one
 have LX:=hp.top
 have q0:=hp.rq (i:=0) (by omega)
 have q1:=hp.rq (i:=1) (by omega)
 have q2:=hp.rq (i:=2) (by omega)
 have m0:=q0.rb.mul ha
 have m1:=q1.rb.mul hb
 have m2:=q2.rb.mul hc
 have s0:=Rl.add m0
 have s1:=s0.add m1
 refine Gv.bind (mI w0) (Gv.if ⟨by omega,by omega⟩ ?_)
 refine Gv.bind (q0.mul (ha.rq (by decide)) (by simp only [SM];omega)) (Gv.bind ((Rl.rq (by decide)).add (m0.rq (by omega)) (by simp only [SM];omega)) (Gv.if ⟨by omega,by omega⟩ ?_))
 refine Gv.bind (q1.mul (hb.rq (by decide)) (by simp only [SM];omega)) (Gv.bind ((s0.rq (by omega)).add (m1.rq (by omega)) (by simp only [SM];omega)) (Gv.if ⟨by omega,by omega⟩ ?_))
 exact Gv.bind (q2.mul (hc.rq (by decide)) (by simp only [SM];omega)) (Gv.bind ((s1.rq (by omega)).add (m2.rq (by omega)) (by simp only [SM];omega)) (Gv.pure _))
theorem H4 (hp:EC z pa) (hz:z≤1000000000) (hlen:pa.length=3) {a b c:Rat} (ha:RB a 40) (hb:RB b 40) (hc:RB c 40):Gv (fun N=>qY N pa (t3 a b c)) (bC (gQ pa a b c)):=by
 have Jq:=hp.one
 have LX:=hp.top
 have q0:=hp.rq (i:=0) (by omega)
 have q1:=hp.rq (i:=1) (by omega)
 have q2:=hp.rq (i:=2) (by omega)
 have m0:=q0.rb.mul ha
 have m1:=q1.rb.mul hb
 have m2:=q2.rb.mul hc
 have s0:=Rl.add m0
 have s1:=s0.add m1
 refine Gv.bind (tz w0) (Gv.if ⟨by omega,by omega⟩ ?_)
 refine Gv.bind (q0.xA (ha.rq (by decide)) (by simp only [LM];omega)) (Gv.bind ((Rl.rq (by decide)).G8 (m0.rq (by omega)) (by simp only [LM];omega)) (Gv.if ⟨by omega,by omega⟩ ?_))
 refine Gv.bind (q1.xA (hb.rq (by decide)) (by simp only [LM];omega)) (Gv.bind ((s0.rq (by omega)).G8 (m1.rq (by omega)) (by simp only [LM];omega)) (Gv.if ⟨by omega,by omega⟩ ?_))
 exact Gv.bind (q2.xA (hc.rq (by decide)) (by simp only [LM];omega)) (Gv.bind ((s1.rq (by omega)).G8 (m2.rq (by omega)) (by simp only [LM];omega)) (Gv.pure _))
theorem AL (hl:l.length≤14) (hq:tA l X Y T) (hp:EC z pa) (hlen:pa.length=3):∀ (k i m:Nat) (s:Rat),i+k=l.length→RB s m→1≤m→m+k * (3 * z+200)≤4000000000000 →
  aE (fun N fuel=>eP N l pa fuel (bC s) (i:Int)) (lD X Y T pa k i s)
 | 0,i,m,s,hi,hs,h1,hm=>by
  have Jq:=hp.one
  have LX:=hp.top
  have:i=l.length:=by omega
  subst this
  exact aE.succ (fun N g=>eP.eq_2 ..) (aE.aR dY (aE.one (Gv.bind (vP (hs.rq h1) (by omega)) (Gv.pure _))))
 | k+1,i,m,s,hi,hs,h1,hm=>by
  rw [Nat.succ_mul] at hm
  have Jq:=hp.one
  have LX:=hp.top
  have uP:i < l.length:=by omega
  have q:=hq i uP
  have ra:=zp hp hlen q.rx q.ry q.rt
  refine aE.succ (fun N g=>eP.eq_2 ..) (aE.aF (dec_lt uP) (aE.if (pB uP) ?_))
  rw [an]
  refine aE.bind q.code (aE.bind (BZ hp hlen q.rx q.ry q.rt) (aE.bind (vP (ra.rq (by omega)) (by omega)) ?_))
  unfold lD
  cases eg:decide (nc (gQ pa (X i) (Y i) (T i)) > 0) with
  | true =>
   refine aE.aF rfl (aE.bind ((hs.rq h1).add (ra.rq (by omega)) (by simp only [SM];omega)) ?_)
   unfold jy
   rw [aK (by omega)]
   exact AL hl hq hp hlen k (i+1) (m+(3 * z+200)) _ (by omega) ((hs.add ra).le (by omega)) (by omega) (by omega)
  | false =>
   refine aE.aR rfl ?_
   unfold jy
   rw [aK (by omega)]
   exact AL hl hq hp hlen k (i+1) (m+(3 * z+200)) _ (by omega) (hs.le (by omega)) (by omega) (by omega)
theorem yF (hl:l.length≤14) (hq:tA l X Y T) (hp:EC z pa) (hz:z≤1000000000) (hlen:pa.length=3):∀ (k i m:Nat) (s:Rat),i+k=l.length→RB s m→1≤m→m+k * (3 * z+200)≤100000000000 →
  aE (fun N fuel=>fz N l pa fuel (bC s) (i:Int)) (lD X Y T pa k i s)
 | 0,i,m,s,hi,hs,h1,hm=>by
  have Jq:=hp.one
  have LX:=hp.top
  have:i=l.length:=by omega
  subst this
  exact aE.succ (fun N g=>fz.eq_2 ..) (aE.aR dY (aE.one (Gv.bind ((hs.rq h1).LY (by simp only [LM];omega)) (Gv.pure _))))
 | k+1,i,m,s,hi,hs,h1,hm=>by
  rw [Nat.succ_mul] at hm
  have Jq:=hp.one
  have LX:=hp.top
  have uP:i < l.length:=by omega
  have q:=hq i uP
  have ra:=zp hp hlen q.rx q.ry q.rt
  refine aE.succ (fun N g=>fz.eq_2 ..) (aE.aF (dec_lt uP) (aE.if (pB uP) ?_))
  rw [an]
  refine aE.bind q.doc (aE.bind (H4 hp hz hlen q.rx q.ry q.rt) (aE.bind ((ra.rq (by omega)).LY (by simp only [LM];omega)) ?_))
  unfold lD
  cases eg:decide (nc (gQ pa (X i) (Y i) (T i)) > 0) with
  | true =>
   refine aE.aF rfl (aE.bind ((hs.rq h1).G8 (ra.rq (by omega)) (by simp only [LM];omega)) ?_)
   unfold j8
   rw [aK (by omega)]
   exact yF hl hq hp hz hlen k (i+1) (m+(3 * z+200)) _ (by omega) ((hs.add ra).le (by omega)) (by omega) (by omega)
  | false =>
   refine aE.aR rfl ?_
   unfold j8
   rw [aK (by omega)]
   exact yF hl hq hp hz hlen k (i+1) (m+(3 * z+200)) _ (by omega) (hs.le (by omega)) (by omega) (by omega)
end
end Go.Den
namespace Go.Den
open Go.Ab
theorem B0 {α:Type} (a b:List α) (d:α) {i:Nat} (h:i < a.length):(a ++ b).getD i d=a.getD i d:=by simp [fE,iz h]
theorem KT {α:Type} (a b:List α) (d:α) {i:Nat} (k:Nat) (h:i=a.length+k):(a ++ b).getD i d=b.getD k d:=by
 subst h;simp [fE,jH]
def Md (n i:Nat) (q:Rat):List aa:=(List.replicate n aa.d).set i (bC q)
theorem Np (n i:Nat) (q:Rat):(Md n i q).length=n:=by simp [Md]
theorem Nq {n i j:Nat} {q:Rat} (hi:i < n):qv ((Md n i q).getD j aa.d)=if j=i then q else 0:=by
 unfold Md
 by_cases h:j=i
 ·subst h;rw [if_pos rfl,lO _ _ _ _ (by simpa using hi),ig]
 ·rw [if_neg h,jA _ _ _ (fun e=>h e.symm)]
  by_cases hj:j < n
  ·rw [show (List.replicate n aa.d).getD j aa.d=aa.d by simp [fE,List.getElem?_replicate,hj]];exact Tk
  ·rw [BQ (by simp;omega)];exact Tk
def oB (n:Nat):Nat→List af
 | 0=>[]
 | x+1=>oB n x ++ [⟨Md n x ((1:Int):Rat),bC ((1:Int):Rat)⟩,⟨Md n x ((-1:Int):Rat),zr⟩]
def pF (n:Nat) (f:Nat→Rat) (w:Rat):List af:=[⟨LQ f n,bC (0 - w)⟩,⟨LQ (fun i=>0 - f i) n,bC w⟩]
def fq (n:Nat) (X Y T:Nat→Rat) (a b c:Rat):List af:=((oB n n ++ pF n X a) ++ pF n Y b) ++ pF n T c
theorem cE (n:Nat):∀ x,(oB n x).length=2 * x
 | 0=>rfl
 | x+1=>by rw [oB,lY,cE n x];simp;omega
theorem H5 (n:Nat):∀ x i,i < x→(oB n x).getD (2 * i) af.d=⟨Md n i ((1:Int):Rat),bC ((1:Int):Rat)⟩∧(oB n x).getD (2 * i+1) af.d=⟨Md n i ((-1:Int):Rat),zr⟩
 | x+1,i,h=>by
  rw [oB]
  by_cases e:i=x
  ·subst e
   rw [KT _ _ _ 0 (by rw [cE];omega),KT _ _ _ 1 (by rw [cE])]
   exact ⟨rfl,rfl⟩
  ·rw [B0 _ _ _ (by rw [cE];omega),B0 _ _ _ (by rw [cE];omega)]
   exact H5 n x i (by omega)
section
variable {n:Nat} {X Y T:Nat→Rat} {a b c:Rat}
theorem zs:(fq n X Y T a b c).length=2 * n+6:=by simp [fq,pF,cE]
theorem Nr {i:Nat} (h:i < n):(fq n X Y T a b c).getD (2 * i) af.d=⟨Md n i ((1:Int):Rat),bC ((1:Int):Rat)⟩∧(fq n X Y T a b c).getD (2 * i+1) af.d=⟨Md n i ((-1:Int):Rat),zr⟩:=by
 unfold fq
 rw [B0 _ _ _ (by simp [pF,cE];omega),B0 _ _ _ (by simp [pF,cE];omega),B0 _ _ _ (by simp [cE];omega),B0 _ _ _ (by simp [pF,cE];omega),B0 _ _ _ (by simp [pF,cE];omega),B0 _ _ _ (by simp [cE];omega)]
 exact H5 n n i h
theorem ED:(fq n X Y T a b c).getD (2 * n) af.d=⟨LQ X n,bC (0 - a)⟩∧(fq n X Y T a b c).getD (2 * n+1) af.d=⟨LQ (fun i=>0 - X i) n,bC a⟩:=by
 unfold fq
 rw [B0 _ _ _ (by simp [pF,cE]),B0 _ _ _ (by simp [pF,cE]),KT _ _ _ 0 (by simp [cE]),B0 _ _ _ (by simp [pF,cE]),B0 _ _ _ (by simp [pF,cE]),KT _ _ _ 1 (by simp [cE])]
 exact ⟨rfl,rfl⟩
theorem EE:(fq n X Y T a b c).getD (2 * n+2) af.d=⟨LQ Y n,bC (0 - b)⟩∧(fq n X Y T a b c).getD (2 * n+3) af.d=⟨LQ (fun i=>0 - Y i) n,bC b⟩:=by
 unfold fq
 rw [B0 _ _ _ (by simp [pF,cE]),KT _ _ _ 0 (by simp [pF,cE]),B0 _ _ _ (by simp [pF,cE]),KT _ _ _ 1 (by simp [pF,cE])]
 exact ⟨rfl,rfl⟩
theorem EF:(fq n X Y T a b c).getD (2 * n+4) af.d=⟨LQ T n,bC (0 - c)⟩∧(fq n X Y T a b c).getD (2 * n+5) af.d=⟨LQ (fun i=>0 - T i) n,bC c⟩:=by
 unfold fq
 rw [KT _ _ _ 0 (by simp [pF,cE]),KT _ _ _ 1 (by simp [pF,cE])]
 exact ⟨rfl,rfl⟩
theorem OL {i j:Nat} (h:i < n):cf (fq n X Y T a b c) (2 * i) j=(if j=i then 1 else 0)∧cf (fq n X Y T a b c) (2 * i+1) j=(if j=i then -1 else 0)∧bv (fq n X Y T a b c) (2 * i)=1∧bv (fq n X Y T a b c) (2 * i+1)=0:=by
 unfold cf bv
 rw [(Nr h).1,(Nr h).2]
 refine ⟨?_,?_,?_,?_⟩
 ·show qv ((Md n i _).getD j _)=_;rw [Nq h];rfl
 ·show qv ((Md n i _).getD j _)=_;rw [Nq h];rfl
 ·exact ig _
 ·exact Tk
theorem Ys {j:Nat} (h:j < n):cf (fq n X Y T a b c) (2 * n) j=X j∧cf (fq n X Y T a b c) (2 * n+1) j=0 - X j∧bv (fq n X Y T a b c) (2 * n)=0 - a∧bv (fq n X Y T a b c) (2 * n+1)=a:=by
 unfold cf bv
 rw [ED.1,ED.2]
 refine ⟨?_,?_,ig _,ig _⟩
 ·show qv ((LQ X n).getD j _)=_;rw [fK _ _ h,ig]
 ·show qv ((LQ (fun i=>0 - X i) n).getD j _)=_;rw [fK _ _ h,ig]
theorem cfY {j:Nat} (h:j < n):cf (fq n X Y T a b c) (2 * n+2) j=Y j∧cf (fq n X Y T a b c) (2 * n+3) j=0 - Y j:=by
 unfold cf
 rw [EE.1,EE.2]
 refine ⟨?_,?_⟩
 ·show qv ((LQ Y n).getD j _)=_;rw [fK _ _ h,ig]
 ·show qv ((LQ (fun i=>0 - Y i) n).getD j _)=_;rw [fK _ _ h,ig]
theorem cfT {j:Nat} (h:j < n):cf (fq n X Y T a b c) (2 * n+4) j=T j∧cf (fq n X Y T a b c) (2 * n+5) j=0 - T j:=by
 unfold cf
 rw [EF.1,EF.2]
 refine ⟨?_,?_⟩
 ·show qv ((LQ T n).getD j _)=_;rw [fK _ _ h,ig]
 ·show qv ((LQ (fun i=>0 - T i) n).getD j _)=_;rw [fK _ _ h,ig]
theorem bvH:bv (fq n X Y T a b c) (2 * n)=0 - a∧bv (fq n X Y T a b c) (2 * n+1)=a∧bv (fq n X Y T a b c) (2 * n+2)=0 - b∧bv (fq n X Y T a b c) (2 * n+3)=b∧bv (fq n X Y T a b c) (2 * n+4)=0 - c∧bv (fq n X Y T a b c) (2 * n+5)=c:=by
 unfold bv
 rw [ED.1,ED.2,EE.1,EE.2,EF.1,EF.2]
 exact ⟨ig _,ig _,ig _,ig _,ig _,ig _⟩
theorem Bk (g:Nat→Rat):∀ x,bX (2 * x) g=bX x fun i=>g (2 * i)+g (2 * i+1)
 | 0=>rfl
 | x+1=>by rw [show 2 * (x+1)=2 * x+1+1 by omega,bX,bX,Bk g x,bX];grind
theorem KU {n:Nat} {f g:Nat→Rat} (h:∀ i,i < n→f i≤g i):bX n f≤bX n g:=by
 induction n with
 | zero=>exact Rat.le_refl
 | succ n ih=>rw [bX,bX];have:=ih fun i hi=>h i (by omega);have:=h n (by omega);grind
theorem KV {x:Nat→Rat} {q:Nat} (h:VM q n (fq n X Y T a b c) x) :
  (∀ i,i < n→0≤x i∧x i≤1)∧a+bX n (fun j=>x j * X j)=0∧b+bX n (fun j=>x j * Y j)=0∧c+bX n (fun j=>x j * T j)=0:=by
 have ok:∀ r,r < 2 * n+6→bX n (fun j=>cf (fq n X Y T a b c) r j * x j)≤bv (fq n X Y T a b c) r:=fun r hr=>h.ok r (by rw [zs];exact hr)
 have key:∀ {r s:Nat} {f:Nat→Rat} {w:Rat},r < 2 * n+6→s < 2 * n+6→(∀ j,j < n→cf (fq n X Y T a b c) r j=f j∧cf (fq n X Y T a b c) s j=0 - f j)→bv (fq n X Y T a b c) r=0 - w→bv (fq n X Y T a b c) s=w→w+bX n (fun j=>x j * f j)=0:=by
  intro r s f w hr hs hc b1 b2
  have h1:=ok r hr
  have h2:=ok s hs
  rw [b1,bN (g:=fun j=>x j * f j) fun j hj=>by rw [(hc j hj).1];grind] at h1
  rw [b2,bN (g:=fun j=>(-1) * (x j * f j)) fun j hj=>by rw [(hc j hj).2];grind,mH] at h2
  grind
 obtain ⟨b1,b2,b3,b4,b5,b6⟩:=bvH (n:=n) (X:=X) (Y:=Y) (T:=T) (a:=a) (b:=b) (c:=c)
 refine ⟨fun i hi=>?_,key (by omega) (by omega) (fun j hj=>⟨(Ys hj).1,(Ys hj).2.1⟩) b1 b2,key (by omega) (by omega) (fun j hj=>cfY hj) b3 b4,key (by omega) (by omega) (fun j hj=>cfT hj) b5 b6⟩
 have h1:=ok (2 * i) (by omega)
 have h2:=ok (2 * i+1) (by omega)
 rw [(OL (j:=0) hi).2.2.1,lj hi _ fun j hj fZ=>by rw [(OL hi).1,if_neg fZ];grind,(OL hi).1,if_pos rfl] at h1
 rw [(OL (j:=0) hi).2.2.2,lj hi _ fun j hj fZ=>by rw [(OL hi).2.1,if_neg fZ];grind,(OL hi).2.1,if_pos rfl] at h2
 constructor<;>grind
def Tp (v:Rat):Rat:=if 0 < v then v else 0
theorem Me {y:Nat→Rat} {q:Nat} (h:Rf q n (fq n X Y T a b c) y) :
  let p:=y (2 * n+1) - y (2 * n);let r:=y (2 * n+3) - y (2 * n+2);let s:=y (2 * n+5) - y (2 * n+4)
  (p * a+r * b+s * c)+bX n (fun j=>Tp (p * X j+r * Y j+s * T j)) < 0:=by
 intro p r s
 have nn:∀ i,i < 2 * n+6→0≤y i:=fun i hi=>h.nn i (by rw [zs];exact hi)
 have Yp:=h.Yp
 have neg:=h.neg
 rw [zs] at Yp neg
 have tail:∀ g:Nat→Rat,bX (2 * n+6) g=bX n (fun i=>g (2 * i)+g (2 * i+1))+(g (2 * n)+g (2 * n+1)+g (2 * n+2)+g (2 * n+3)+g (2 * n+4)+g (2 * n+5)):=fun g=>by
  rw [show 2 * n+6=2 * n+1+1+1+1+1+1 by omega,bX,bX,bX,bX,bX,bX,Bk];grind
 obtain ⟨b1,b2,b3,b4,b5,b6⟩:=bvH (n:=n) (X:=X) (Y:=Y) (T:=T) (a:=a) (b:=b) (c:=c)
 rw [tail,b1,b2,b3,b4,b5,b6,bN (g:=fun i=>y (2 * i)) fun i hi=>by rw [(OL (j:=0) hi).2.2.1,(OL (j:=0) hi).2.2.2];grind] at neg
 have hj:∀ j,j < n→Tp (p * X j+r * Y j+s * T j)≤y (2 * j):=fun j hj=>by
  have h1:=Yp j hj
  rw [tail,(Ys hj).1,(Ys hj).2.1,(cfY hj).1,(cfY hj).2,(cfT hj).1,(cfT hj).2,lj hj _ fun i hi fZ=>by rw [(OL hi).1,(OL hi).2.1,if_neg (Ne.symm fZ),if_neg (Ne.symm fZ)];grind,(OL hj).1,(OL hj).2.1,if_pos rfl,if_pos rfl] at h1
  have n1:=nn (2 * j) (by omega)
  have n2:=nn (2 * j+1) (by omega)
  unfold Tp
  split
  ·show (y (2 * n+1) - y (2 * n)) * X j+(y (2 * n+3) - y (2 * n+2)) * Y j+(y (2 * n+5) - y (2 * n+4)) * T j≤_
   grind
  ·exact n1
 have:=KU hj
 show ((y (2 * n+1) - y (2 * n)) * a+(y (2 * n+3) - y (2 * n+2)) * b+(y (2 * n+5) - y (2 * n+4)) * c)+_ < 0
 grind
end
end Go.Den
namespace Go.Den
open Go.Ab
theorem zt (k i:Nat) (g:Nat→Rat):bX (k+1) (fun j=>g (i+j))=g i+bX k fun j=>g (i+1+j):=by
 rw [show k+1=1+k by omega,yD]
 have e:bX 1 (fun j=>g (i+j))=g i:=by show 0+g (i+0)=_;rw [Nat.add_zero];grind
 rw [e]
 congr 1
 exact bN fun j _=>by rw [show i+(1+j)=i+1+j by omega]
section
variable {X Y T:Nat→Rat} {pa:List aa}
theorem AM:∀ (k i:Nat) (a b c:Rat),lP X Y T pa k i a b c=true↔(∀ j,i≤j→j < i+k→0≤pv pa j∧pv pa j≤1) ∧
  a+bX k (fun j=>pv pa (i+j) * X (i+j))=0∧b+bX k (fun j=>pv pa (i+j) * Y (i+j))=0∧c+bX k (fun j=>pv pa (i+j) * T (i+j))=0
 | 0,i,a,b,c=>by
  unfold lP
  rw [Jg,Jg,Jg]
  show cond (decide (a=0)) (cond (decide (b=0)) (decide (c=0)) false) false=true↔_∧a+0=0∧b+0=0∧c+0=0
  rw [show a+0=a by grind,show b+0=b by grind,show c+0=c by grind]
  by_cases h1:a=0<;>by_cases h2:b=0<;>by_cases h3:c=0<;>simp [h1,h2,h3]<;>omega
 | k+1,i,a,b,c=>by
  unfold lP
  rw [zt k i fun j=>pv pa j * X j,zt k i fun j=>pv pa j * Y j,zt k i fun j=>pv pa j * T j]
  have e1:(nc (pv pa i) < 0)↔pv pa i < 0:=oP
  have e2:(nc (pv pa i - ((1:Int):Rat)) > 0)↔1 < pv pa i:=by
   rw [show (nc (pv pa i - ((1:Int):Rat)) > 0)=(0 < nc (pv pa i - ((1:Int):Rat))) from rfl,BO]
   show 0 < pv pa i - (1:Rat)↔_
   constructor<;>intro h<;>grind
  by_cases h1:pv pa i < 0
  ·rw [decide_eq_true (e1.2 h1)]
   refine ⟨fun h=>by simp at h,fun h=>?_⟩
   have:=(h.1 i (aG _) (by omega)).1
   grind
  ·rw [decide_eq_false fun q=>h1 (e1.1 q)]
   by_cases h2:1 < pv pa i
   ·rw [decide_eq_true (e2.2 h2)]
    refine ⟨fun h=>by simp at h,fun h=>?_⟩
    have:=(h.1 i (aG _) (by omega)).2
    grind
   ·rw [decide_eq_false fun q=>h2 (e2.1 q)]
    simp only [cond_false]
    rw [AM k (i+1)]
    refine ⟨fun ⟨g1,g2,g3,g4⟩=>⟨fun j q1 q2=>?_,by grind,by grind,by grind⟩,fun ⟨g1,g2,g3,g4⟩=>⟨fun j q1 q2=>g1 j (by omega) (by omega),by grind,by grind,by grind⟩⟩
    by_cases e:j=i
    ·subst e;exact ⟨Rat.not_lt.1 h1,Rat.not_lt.1 h2⟩
    ·exact g1 j (by omega) (by omega)
theorem yG:∀ (k i:Nat) (s:Rat),lD X Y T pa k i s=decide (s+bX k (fun j=>Tp (gQ pa (X (i+j)) (Y (i+j)) (T (i+j)))) < 0)
 | 0,i,s=>by
  unfold lD
  show decide (nc s < 0)=decide (s+0 < 0)
  rw [show s+0=s by grind]
  exact decide_eq_decide.2 oP
 | k+1,i,s=>by
  unfold lD
  rw [zt k i fun j=>Tp (gQ pa (X j) (Y j) (T j)),yG k (i+1)]
  have e:cond (decide (nc (gQ pa (X i) (Y i) (T i)) > 0)) (s+gQ pa (X i) (Y i) (T i)) s=s+Tp (gQ pa (X i) (Y i) (T i)):=by
   unfold Tp
   by_cases h:0 < gQ pa (X i) (Y i) (T i)
   ·rw [decide_eq_true (BO.2 h),if_pos h];rfl
   ·rw [decide_eq_false fun q=>h (BO.1 q),if_neg h]
    show s=s+0
    grind
  rw [e]
  exact decide_eq_decide.2 (by constructor<;>intro h<;>grind)
theorem Mf {pb:List aa} {n:Nat} {a b c:Rat} (h1:lP X Y T pa n 0 a b c=true) (h2:lD X Y T pb n 0 (gQ pb a b c)=true):False:=by
 obtain ⟨g1,g2,g3,g4⟩:=(AM n 0 a b c).1 h1
 rw [yG] at h2
 have h2:=qC h2
 simp only [Nat.zero_add] at g2 g3 g4 h2
 have hs:bX n (fun j=>pv pa j * gQ pb (X j) (Y j) (T j))≤bX n (fun j=>Tp (gQ pb (X j) (Y j) (T j))):=KU fun j hj=>by
  obtain ⟨q1,q2⟩:=g1 j (Nat.zero_le _) (by omega)
  generalize gQ pb (X j) (Y j) (T j)=v at *
  unfold Tp
  split
  ·rename_i hv
   have:=Rat.mul_le_mul_of_nonneg_right q2 (Rat.le_of_lt hv)
   grind
  ·rename_i hv
   have:=Rat.mul_nonneg q1 (show 0≤-v by grind)
   grind
 have he:bX n (fun j=>pv pa j * gQ pb (X j) (Y j) (T j))=pv pb 0 * bX n (fun j=>pv pa j * X j)+(pv pb 1 * bX n (fun j=>pv pa j * Y j)+pv pb 2 * bX n (fun j=>pv pa j * T j)):=by
  rw [← mH,← mH,← mH,← rj,← rj]
  exact bN fun j _=>by unfold gQ;show _ * ((((0:Rat)+_)+_)+_)=_;grind
 have ha:gQ pb a b c=pv pb 0 * a+pv pb 1 * b+pv pb 2 * c:=by unfold gQ;show ((((0:Rat)+_)+_)+_)=_;grind
 have e1:a = - bX n (fun j=>pv pa j * X j):=by grind
 have e2:b = - bX n (fun j=>pv pa j * Y j):=by grind
 have e3:c = - bX n (fun j=>pv pa j * T j):=by grind
 rw [ha,e1,e2,e3] at h2
 rw [he] at hs
 generalize bX n (fun j=>pv pa j * X j)=u1 at *
 generalize bX n (fun j=>pv pa j * Y j)=u2 at *
 generalize bX n (fun j=>pv pa j * T j)=u3 at *
 grind
end
end Go.Den
namespace Go.Den
open Go.Ab
structure Ou (n:Nat) (r:af):Prop where
 len:r.eV.length≤n
 co:∀ x∈r.eV,IR x 40
 bo:IR r.mX 40
theorem Rm {R:List af} {n:Nat} (h:∀ r∈R,Ou n r):BW R:=by
 refine ⟨fun i j=>⟨?_,rfl,by decide⟩,fun i=>⟨?_,rfl,by decide⟩⟩
 ·by_cases hi:i < R.length
  ·have g:=h _ (vL R i af.d hi)
   by_cases hj:j < (R.getD i af.d).eV.length
   ·exact g.co _ (vL _ j aa.d hj)
   ·rw [BQ (by omega)];exact VJ
  ·rw [show R.getD i af.d=af.d by simp [fE,oC (show R.length≤i by omega)]]
   rw [BQ (show (af.d).eV.length≤j from Nat.zero_le _)];exact VJ
 ·by_cases hi:i < R.length
  ·exact (h _ (vL R i af.d hi)).bo
  ·rw [show R.getD i af.d=af.d by simp [fE,oC (show R.length≤i by omega)]]
   exact VJ
theorem GA {R:List af} {n:Nat} (h:∀ r∈R,Ou n r):∀ k i,i+k=R.length→qM R n k i=false
 | 0,_,_=>rfl
 | k+1,i,hi=>by
  rw [qM,if_neg,GA h k (i+1) (by omega)]
  have:=(h _ (vL R i af.d (by omega))).len
  unfold ub;omega
theorem Hb {R:List af} {n:Nat} (hn:n≤12) (hR:R.length≤40) (h:∀ r∈R,Ou n r):rm n R=0:=by
 unfold rm
 rw [if_neg (by omega),if_neg (by omega),GA h R.length 0 (by omega)];rfl
theorem Rn {f:Nat→Rat} {n:Nat} {x:aa} (h:x∈LQ f n):∃ i,i < n∧x=bC (f i):=by
 unfold LQ AI at h
 obtain ⟨i,h1,h2⟩:=List.mem_map.1 h
 exact ⟨i,vT.1 h1,h2.symm⟩
theorem Ns {q:Rat} {m:Nat} (h:RB q m):RB (0 - q) m:=by rw [show 0 - q = -q by grind];exact h.neg
theorem Uh {n i:Nat} {q:Rat} (h:RB q 40):∀ x∈Md n i q,IR x 40:=fun x hx=>by
 rcases List.mem_or_eq_of_mem_set hx with h1 | rfl
 ·rw [(List.mem_replicate.1 h1).2];exact VJ
 ·exact h.ir
theorem Nt (n:Nat):∀ x,∀ r∈oB n x,Ou n r
 | 0,r,h=>by cases h
 | x+1,r,h=>by
  rw [oB] at h
  rcases List.mem_append.1 h with h | h
  ·exact Nt n x r h
  ·have r1:RB ((1:Int):Rat) 40:=RB.one.le (by decide)
   have r2:RB ((-1:Int):Rat) 40:=(RB.one.neg).le (by decide)
   simp only [kL,List.not_mem_nil,or_false] at h
   rcases h with rfl | rfl
   ·exact ⟨by show (Md n x _).length≤n;rw [Np];exact aG _,Uh r1,r1.ir⟩
   ·exact ⟨by show (Md n x _).length≤n;rw [Np];exact aG _,Uh r2,VJ⟩
theorem Jl {n:Nat} {f:Nat→Rat} {w:Rat} (hf:∀ i,i < n→RB (f i) 40) (hw:RB w 40):∀ r∈pF n f w,Ou n r:=fun r h=>by
 unfold pF at h
 simp only [kL,List.not_mem_nil,or_false] at h
 rcases h with rfl | rfl
 ·exact ⟨by show (LQ f n).length≤n;rw [bT];exact aG _,fun x hx=>by obtain ⟨i,hi,rfl⟩:=Rn hx;exact (hf i hi).ir,(Ns hw).ir⟩
 ·exact ⟨by show (LQ _ n).length≤n;rw [bT];exact aG _,fun x hx=>by obtain ⟨i,hi,rfl⟩:=Rn hx;exact (Ns (hf i hi)).ir,hw.ir⟩
section
variable {l:List ai} {w:dK} {X Y T:Nat→Rat} {e5:Nat}
theorem Tr {n:Nat} {a b c:Rat} (hX:∀ i,i < n→RB (X i) 40) (hY:∀ i,i < n→RB (Y i) 40) (hT:∀ i,i < n→RB (T i) 40) (ha:RB a 40) (hb:RB b 40) (hc:RB c 40):∀ r∈fq n X Y T a b c,Ou n r:=fun r h=>by
 unfold fq at h
 rcases List.mem_append.1 h with h | h
 ·rcases List.mem_append.1 h with h | h
  ·rcases List.mem_append.1 h with h | h
   ·exact Nt n n r h
   ·exact Jl hX ha r h
  ·exact Jl hY hb r h
 ·exact Jl hT hc r h
theorem zu (f:Nat→Rat) (n:Nat):LQ f n ++ [bC (f n)]=LQ f (n+1):=vM (fun i=>bC (f i)) n
def Dc (X Y T:Nat→Rat) (n z:Nat) (w:dK) (m:aP):Prop :=
 (m.aJ=true∧m.bc.length=n∧m.bI=[]∧EC z m.bc∧lP X Y T m.bc n 0 w.iZ w.jE w.iv=true) ∨
 (m.aJ=false∧m.bc=[]∧m.bI.length=3∧EC z m.bI∧lD X Y T m.bI n 0 (gQ m.bI w.iZ w.jE w.iv)=true)
theorem EC.of {f:Nat→Rat} {n z:Nat} (h1:1≤z) (h2:z≤100000000000) (h:∀ i,i < n→RB (f i) z):EC z (LQ f n):=⟨h1,h2,fun {i} hi=>by
 rw [bT] at hi
 rw [fK _ _ hi,ig];exact (h i hi).rq h1⟩
theorem Nu {f:Nat→Rat} {n i:Nat} (h:i < n):pv (LQ f n) i=f i:=by unfold pv;rw [fK _ _ h,ig]
section
variable {a b c:Rat}
theorem Ts (hl:l.length≤12) (h5:2 * l.length+1≤e5) (hz:ZZ e5≤49000000000) (hq:tA l X Y T) (ha:RB a 40) (hb:RB b 40) (hc:RB c 40)
  (hwa:a=w.iZ) (hwb:b=w.jE) (hwc:c=w.iv) {s0 s1 s2:aa} (e0:s0=bC (0 - a)) (e1:s1=bC (0 - b)) (e2:s2=bC (0 - c)) :
  ∃ m,Dc X Y T l.length (2 * ZZ e5+1) w m∧∀ (k x:Nat),x+k=l.length→aE (fun N g=>dr N l (t3 a b c) (oB l.length l.length) s0 (LQ X l.length) (LQ (fun i=>0 - X i) l.length) s1 (LQ Y l.length) (LQ (fun i=>0 - Y i) l.length) s2 g (LQ T x) (LQ (fun i=>0 - T i) x) (x:Int)) m:=by
 subst e0 e1 e2
 have hg:=Tr (X:=X) (Y:=Y) (T:=T) (n:=l.length) (fun i hi=>(hq i hi).rx) (fun i hi=>(hq i hi).ry) (fun i hi=>(hq i hi).rt) ha hb hc
 have hlen:(fq l.length X Y T a b c).length=2 * l.length+6:=zs
 have hn:∀ k,k < 2 * l.length+6→k < (fq l.length X Y T a b c).length:=fun k hk=>by rw [hlen];exact hk
 have Jq:=Yq e5
 have more:∀ {m},aE (fun N g=>dr N l (t3 a b c) (oB l.length l.length) (bC (0 - a)) (LQ X l.length) (LQ (fun i=>0 - X i) l.length) (bC (0 - b)) (LQ Y l.length) (LQ (fun i=>0 - Y i) l.length) (bC (0 - c)) g (LQ T l.length) (LQ (fun i=>0 - T i) l.length) ((l.length:Nat):Int)) m →
   ∀ (k x:Nat),x+k=l.length→aE (fun N g=>dr N l (t3 a b c) (oB l.length l.length) (bC (0 - a)) (LQ X l.length) (LQ (fun i=>0 - X i) l.length) (bC (0 - b)) (LQ Y l.length) (LQ (fun i=>0 - Y i) l.length) (bC (0 - c)) g (LQ T x) (LQ (fun i=>0 - T i) x) (x:Int)) m:=fun h=>by
  intro k
  induction k with
  | zero =>
   intro x hx
   obtain rfl:x=l.length:=by omega
   exact h
  | succ k ih =>
   intro x hx
   have qj:x < l.length:=by omega
   refine aE.succ (fun N g=>dr.eq_2 ..) (aE.aF (dec_lt qj) (aE.if (pB qj) ?_))
   rw [an,aK (by omega)]
   refine aE.bind (hq x qj).code (aE.if (by rw [bT];omega) (aE.bind (Gz.sub ((hq x qj).rt.rq (by decide)) (by decide)) (aE.if (by rw [bT];omega) ?_)))
   show aE (fun N g=>dr N l (t3 a b c) (oB l.length l.length) (bC (0 - a)) (LQ X l.length) (LQ (fun i=>0 - X i) l.length) (bC (0 - b)) (LQ Y l.length) (LQ (fun i=>0 - Y i) l.length) (bC (0 - c)) g (LQ T x ++ [bC (T x)]) (LQ (fun i=>0 - T i) x ++ [bC (0 - T x)]) ((x+1:Nat):Int)) _
   rw [zu,zu (fun i=>0 - T i)]
   exact ih (x+1) (by omega)
 rcases KP (n:=l.length) (l:=fq l.length X Y T a b c) (e5:=e5) hl (Rm hg) (by rw [hlen];omega) (.inr h5) (by show 5 * ZZ e5≤1000000000000;omega) (Hb hl (by rw [hlen];omega) hg) with ⟨y,q1,q2⟩ | ⟨x,q1,q2⟩
 ·have rb:∀ i j,i < 2 * l.length+6→j < 2 * l.length+6→RB (y i - y j) (2 * ZZ e5+1):=fun i j hi hj=>((q1.rb i (hn i hi)).sub (q1.rb j (hn j hj))).le (by omega)
  have sub:∀ i j,i < 2 * l.length+6→j < 2 * l.length+6→Gv (fun N=>eZ N (bC (y i)) (bC (y j))) (bC (y i - y j)):=fun i j hi hj =>
   ((q1.rb i (hn i hi)).rq (by omega)).sub ((q1.rb j (hn j hj)).rq (by omega)) (by simp only [SM];omega)
  refine ⟨⟨false,[],[bC (y (2 * l.length+1) - y (2 * l.length)),bC (y (2 * l.length+3) - y (2 * l.length+2)),bC (y (2 * l.length+5) - y (2 * l.length+4))]⟩,.inr ⟨rfl,rfl,rfl,⟨by omega,by omega,fun {i} hi=>?_⟩,?_⟩,more ?_⟩
  ·match i,hi with
   | 0,_=>exact ⟨(rb _ _ (by omega) (by omega)).ir,rfl,by omega⟩
   | 1,_=>exact ⟨(rb _ _ (by omega) (by omega)).ir,rfl,by omega⟩
   | 2,_=>exact ⟨(rb _ _ (by omega) (by omega)).ir,rfl,by omega⟩
  ·have h:=Me q1
   rw [yG]
   refine decide_eq_true ?_
   have e:∀ u v t:Rat,gQ [bC (y (2 * l.length+1) - y (2 * l.length)),bC (y (2 * l.length+3) - y (2 * l.length+2)),bC (y (2 * l.length+5) - y (2 * l.length+4))] u v t=(y (2 * l.length+1) - y (2 * l.length)) * u+(y (2 * l.length+3) - y (2 * l.length+2)) * v+(y (2 * l.length+5) - y (2 * l.length+4)) * t:=fun u v t=>by
    unfold gQ pv
    show (((0:Rat)+qv (bC _) * u)+qv (bC _) * v)+qv (bC _) * t=_
    rw [ig,ig,ig];grind
   simp only [e,Nat.zero_add,← hwa,← hwb,← hwc]
   exact h
  ·refine aE.succ (fun N g=>dr.eq_2 ..) (aE.aR dY (aE.if (by simp [cE];omega) (aE.one (Gv.bind q2 ?_))))
   have d0:ah (2 * ((l.length:Nat):Int))=((2 * l.length:Nat):Int):=by rw [aV (by omega) (by omega)];omega
   have d1:ah (((2 * l.length:Nat):Int)+0)=((2 * l.length:Nat):Int):=by rw [aV (by omega) (by omega)];omega
   have d2:ah (((2 * l.length:Nat):Int)+2)=((2 * l.length+2:Nat):Int):=by rw [aV (by omega) (by omega)];omega
   have d3:ah (((2 * l.length:Nat):Int)+4)=((2 * l.length+4:Nat):Int):=by rw [aV (by omega) (by omega)];omega
   simp only [d0,d1,d2,d3,aK (show 2 * l.length < 9223372036854775807 by omega),aK (show 2 * l.length+2 < 9223372036854775807 by omega),aK (show 2 * l.length+4 < 9223372036854775807 by omega),an,
    fK _ _ (hn (2 * l.length) (by omega)),fK _ _ (hn (2 * l.length+1) (by omega)),fK _ _ (hn (2 * l.length+2) (by omega)),fK _ _ (hn (2 * l.length+2+1) (by omega)),fK _ _ (hn (2 * l.length+4) (by omega)),fK _ _ (hn (2 * l.length+4+1) (by omega))]
   have tN:∀ k,k < 2 * l.length+6→0≤((k:Nat):Int)∧((k:Nat):Int) < (((LQ y (fq l.length X Y T a b c).length).length:Nat):Int):=fun k hk=>inl hk (by rw [bT,hlen])
   refine Gv.aR rfl (Gv.if (tN _ (by omega)) (Gv.if (tN _ (by omega)) (Gv.bind (sub _ _ (by omega) (by omega)) (Gv.if (tN _ (by omega)) (Gv.if (tN _ (by omega)) (Gv.bind (sub _ _ (by omega) (by omega)) (Gv.if (by simp) (Gv.if (tN _ (by omega)) (Gv.if (tN _ (by omega)) (Gv.bind (sub _ _ (by omega) (by omega)) (Gv.if (by simp) (Gv.pure _))))))))))))
 ·obtain ⟨p1,p2,p3,p4⟩:=KV q1
  refine ⟨⟨true,LQ x l.length,[]⟩,.inl ⟨rfl,bT _ _,rfl,EC.of (by omega) (by omega) q1.rb,?_⟩,more ?_⟩
  ·refine (AM _ _ _ _ _).2 ⟨fun j _ hj=>by rw [Nu (by omega)];exact p1 j (by omega),?_,?_,?_⟩
   ·rw [← hwa,← p2];congr 1;exact bN fun j hj=>by rw [Nat.zero_add,Nu hj]
   ·rw [← hwb,← p3];congr 1;exact bN fun j hj=>by rw [Nat.zero_add,Nu hj]
   ·rw [← hwc,← p4];congr 1;exact bN fun j hj=>by rw [Nat.zero_add,Nu hj]
  ·exact aE.succ (fun N g=>dr.eq_2 ..) (aE.aR dY (aE.if (by simp [cE];omega) (aE.one (Gv.bind q2 (Gv.aF rfl (Gv.pure _))))))
theorem Tt (hl:l.length≤12) (hq:tA l X Y T) (hc:RB c 4) {s0 s1:aa} {m:aP}
  (h:aE (fun N g=>dr N l (t3 a b c) (oB l.length l.length) s0 (LQ X l.length) (LQ (fun i=>0 - X i) l.length) s1 (LQ Y l.length) (LQ (fun i=>0 - Y i) l.length) (bC (0 - c)) g [] [] 0) m) :
  ∀ (k x:Nat),x+k=l.length→aE (fun N g=>fh N l (t3 a b c) (oB l.length l.length) s0 (LQ X l.length) (LQ (fun i=>0 - X i) l.length) s1 g (LQ Y x) (LQ (fun i=>0 - Y i) x) (x:Int)) m:=by
 intro k
 induction k with
 | zero =>
  intro x hx;obtain rfl:x=l.length:=by omega
  exact aE.succ (fun N g=>fh.eq_2 ..) (aE.aR dY (aE.if (by simp [cE];omega) (aE.one (Gv.bind (Gz.sub (hc.rq (by decide)) (by decide)) h.diag))))
 | succ k ih =>
  intro x hx
  have qj:x < l.length:=by omega
  refine aE.succ (fun N g=>fh.eq_2 ..) (aE.aF (dec_lt qj) (aE.if (pB qj) ?_))
  rw [an,aK (by omega)]
  refine aE.bind (hq x qj).code (aE.if (by rw [bT];omega) (aE.bind (Gz.sub ((hq x qj).ry.rq (by decide)) (by decide)) (aE.if (by rw [bT];omega) ?_)))
  show aE (fun N g=>fh N l (t3 a b c) (oB l.length l.length) s0 (LQ X l.length) (LQ (fun i=>0 - X i) l.length) s1 g (LQ Y x ++ [bC (Y x)]) (LQ (fun i=>0 - Y i) x ++ [bC (0 - Y x)]) ((x+1:Nat):Int)) _
  rw [zu,zu (fun i=>0 - Y i)]
  exact ih (x+1) (by omega)
theorem Tu (hl:l.length≤12) (hq:tA l X Y T) (hb:RB b 4) {s0:aa} {m:aP}
  (h:aE (fun N g=>fh N l (t3 a b c) (oB l.length l.length) s0 (LQ X l.length) (LQ (fun i=>0 - X i) l.length) (bC (0 - b)) g [] [] 0) m) :
  ∀ (k x:Nat),x+k=l.length→aE (fun N g=>fj N l (t3 a b c) (oB l.length l.length) s0 g (LQ X x) (LQ (fun i=>0 - X i) x) (x:Int)) m:=by
 intro k
 induction k with
 | zero =>
  intro x hx;obtain rfl:x=l.length:=by omega
  exact aE.succ (fun N g=>fj.eq_2 ..) (aE.aR dY (aE.if (by rw [cE];omega) (aE.one (Gv.bind (Gz.sub (hb.rq (by decide)) (by decide)) h.diag))))
 | succ k ih =>
  intro x hx
  have qj:x < l.length:=by omega
  refine aE.succ (fun N g=>fj.eq_2 ..) (aE.aF (dec_lt qj) (aE.if (pB qj) ?_))
  rw [an,aK (by omega)]
  refine aE.bind (hq x qj).code (aE.if (by rw [bT];omega) (aE.bind (Gz.sub ((hq x qj).rx.rq (by decide)) (by decide)) (aE.if (by rw [bT];omega) ?_)))
  show aE (fun N g=>fj N l (t3 a b c) (oB l.length l.length) s0 g (LQ X x ++ [bC (X x)]) (LQ (fun i=>0 - X i) x ++ [bC (0 - X x)]) ((x+1:Nat):Int)) _
  rw [zu,zu (fun i=>0 - X i)]
  exact ih (x+1) (by omega)
theorem Tv (hl:l.length≤12) (ha:RB a 4) {m:aP}
  (h:aE (fun N g=>fj N l (t3 a b c) (oB l.length l.length) (bC (0 - a)) g [] [] 0) m) :
  ∀ (k x:Nat),x+k=l.length→aE (fun N g=>il N l (t3 a b c) g (oB l.length x) (x:Int)) m:=by
 intro k
 induction k with
 | zero =>
  intro x hx;obtain rfl:x=l.length:=by omega
  exact aE.succ (fun N g=>il.eq_2 ..) (aE.aR dY (aE.one (Gv.bind (Gz.sub (ha.rq (by decide)) (by decide)) h.diag)))
 | succ k ih =>
  intro x hx
  have qj:x < l.length:=by omega
  refine aE.succ (fun N g=>il.eq_2 ..) (aE.aF (dec_lt qj) (aE.if (by omega) (aE.bind (mI w1) (aE.bind (mI w1) (aE.bind (mI (z:=-1) (Ef (by decide))) ?_)))))
  refine aE.if (by rw [di];exact pB qj) (aE.if (by rw [cE];omega) ?_)
  rw [an,aK (by omega)]
  exact ih (x+1) (by omega)
end
theorem Tw (hl:l.length≤12) (h5:2 * l.length+1≤e5) (hz:ZZ e5≤49000000000) (hq:tA l X Y T) (hw:iK w=0) :
  ∃ m,Dc X Y T l.length (2 * ZZ e5+1) w m∧Gv (fun N=>sb N l w) m:=by
 obtain ⟨b1,b2,b3⟩:=Gx hw
 have r1:=eR b1
 have r2:=eR b2
 have r3:=eR b3
 obtain ⟨m,h1,h2⟩:=Ts hl h5 hz hq (r1.le (show 4≤40 by decide)) (r2.le (show 4≤40 by decide)) (r3.le (show 4≤40 by decide)) (w:=w) rfl rfl rfl rfl rfl rfl
 exact ⟨m,h1,Gv.bind (Gy hw) ((Tv hl r1 (Tu hl hq r2 (Tt hl hq r3 (h2 l.length 0 (by omega)) l.length 0 (by omega)) l.length 0 (by omega)) l.length 0 (by omega)).diag)⟩
end
end Go.Den
namespace Go.Den
open Go.Ab
theorem Dv {a:List aa} (hl:a.length≤1000):∃ b,Gv (fun N=>lh N a 12) b∧(b=true→∀ i,i < a.length→(a.getD i aa.d).fN.fL.length≤12∧(a.getD i aa.d).fD.fL.length≤12):=by
 refine ⟨scan (fun i=>cond (cond (decide ((((a.getD i aa.d).fN.fL.length:Nat):Int)≤12)) (decide ((((a.getD i aa.d).fD.fL.length:Nat):Int)≤12)) false) none (some false)) true a.length 0,.of 1001 fun N hN=>?_,fun hb i hi=>?_⟩
 ·refine nH (L:=fun fuel=>ey N a 12 fuel) _ _ (by omega) (fun fuel m hm=>?_) (fun fuel=>?_)
  ·simp only [ey,ve,dec_lt hm,cond_true,if_pos (pB hm),an,ct,aK (show m < 9223372036854775807 by omega)]
   generalize decide ((((a.getD m aa.d).fN.fL.length:Nat):Int)≤12)=u
   generalize decide ((((a.getD m aa.d).fD.fL.length:Nat):Int)≤12)=v
   cases u<;>cases v<;>rfl
  ·simp only [ey,dY,cond_false]
 ·rcases BM (f:=fun i=>cond (cond (decide ((((a.getD i aa.d).fN.fL.length:Nat):Int)≤12)) (decide ((((a.getD i aa.d).fD.fL.length:Nat):Int)≤12)) false) none (some false)) (z:=true) a.length 0 with ⟨j,r,_,_,h3,_,h5⟩ | ⟨h1,_⟩
  ·rw [h5] at hb
   subst hb
   cases hq:cond (decide ((((a.getD j aa.d).fN.fL.length:Nat):Int)≤12)) (decide ((((a.getD j aa.d).fD.fL.length:Nat):Int)≤12)) false<;>rw [hq] at h3<;>cases h3
  ·have:=h1 i (Nat.zero_le _) (by omega)
   by_cases u:(((a.getD i aa.d).fN.fL.length:Nat):Int)≤12
   ·by_cases v:(((a.getD i aa.d).fD.fL.length:Nat):Int)≤12
    ·exact ⟨by omega,by omega⟩
    ·rw [decide_eq_true u,decide_eq_false v] at this;cases this
   ·rw [decide_eq_false u] at this;cases this
theorem XG {a:List aa} (hw:∀ x∈a,aa.wf x) (h:∀ i,i < a.length→(a.getD i aa.d).fN.fL.length≤12∧(a.getD i aa.d).fD.fL.length≤12):Mc a :=
 ⟨fun i hi=>by
  have w:=hw _ (vL a i aa.d hi)
  exact ⟨IB.Ud w.1 (h i hi).1,IB.Ud w.2 (h i hi).2⟩⟩
theorem Tx {m:aP} (hw:aP.wf m):∃ b,Gv (fun N=>s8 N m) b∧(b=true→Mc m.bc∧Mc m.bI):=by
 unfold s8
 cases hc:cond (decide (((m.bc.length:Nat):Int)≤20)) (decide (((m.bI.length:Nat):Int)≤6)) false with
 | false=>exact ⟨false,Gv.bind (Gv.aR rfl (Gv.pure _)) (Gv.bind (Gv.aR rfl (Gv.pure _)) (Gv.pure _)),fun h=>by cases h⟩
 | true =>
  have h1:m.bc.length≤1000∧m.bI.length≤1000:=by
   cases u:decide (((m.bc.length:Nat):Int)≤20) with
   | false=>rw [u] at hc;cases hc
   | true=>rw [u,cond_true] at hc;simp at u hc;omega
  obtain ⟨b1,g1,k1⟩:=Dv h1.1
  obtain ⟨b2,g2,k2⟩:=Dv h1.2
  cases b1 with
  | false=>exact ⟨false,Gv.bind (Gv.aF rfl g1) (Gv.bind (Gv.aR rfl (Gv.pure _)) (Gv.pure _)),fun h=>by cases h⟩
  | true=>exact ⟨b2,Gv.bind (Gv.aF rfl g1) (Gv.bind (Gv.aF rfl g2) (Gv.pure _)),fun h=>⟨XG hw.2.1.2 (k1 rfl),XG hw.2.2.2 (k2 h)⟩⟩
theorem wQ {l:List ai} (h:ej l=0):l.length≤12∧∀ i,i < l.length→eB (l.getD i ai.d)=0:=by
 unfold ej at h
 cases hc:decide (((l.length:Nat):Int) > 12) with
 | true=>rw [hc] at h;cases h
 | false =>
  rw [hc,cond_false] at h
  refine ⟨by simp at hc;omega,fun i hi=>?_⟩
  have hs:∀ j,oA l j≠some 0:=fun j hj=>by
   unfold oA at hj
   cases e1:rJ (l.getD j ai.d).gq<;>rw [e1] at hj
   ·cases hj
   ·cases e2:wP l j<;>rw [e2] at hj
    ·cases e3:eB (l.getD j ai.d) != 0<;>rw [e3] at hj
     ·cases hj
     ·simp only [Bool.not_true,cond_false,cond_true,az] at hj
      rw [hj] at e3;cases e3
    ·cases hj
  rcases BM (f:=oA l) (z:=(0:Int)) l.length 0 with ⟨j,r,_,_,h3,_,h5⟩ | ⟨h1,_⟩
  ·rw [h5] at h;subst h;exact absurd h3 (hs j)
  ·have:=h1 i (Nat.zero_le _) (by omega)
   unfold oA at this
   cases e1:rJ (l.getD i ai.d).gq<;>rw [e1] at this
   ·cases this
   ·cases e2:wP l i<;>rw [e2] at this
    ·cases e3:eB (l.getD i ai.d) != 0<;>rw [e3] at this
     ·simpa using e3
     ·cases this
    ·cases this
theorem Ty {l:List ai} (h:ej l=0):∃ X Y T:Nat→Rat,tA l X Y T:=by
 have key:∀ i,∃ p:Rat×Rat×Rat,i < l.length→Rk (l.getD i ai.d) p.1 p.2.1 p.2.2:=fun i=>by
  by_cases hi:i < l.length
  ·obtain ⟨x,y,t,hq⟩:=VO ((wQ h).2 i hi)
   exact ⟨(x,y,t),fun _=>hq⟩
  ·exact ⟨(0,0,0),fun h=>absurd h hi⟩
 obtain ⟨f,hf⟩:=Classical.axiomOfChoice key
 exact ⟨fun i=>(f i).1,fun i=>(f i).2.1,fun i=>(f i).2.2,fun i hi=>hf i hi⟩
end Go.Den
namespace Go.Den
open Go.Ab
section
variable {l:List ai} {w:dK} {X Y T:Nat→Rat} {m:aP} {z:Nat}
def lQ (X Y T:Nat→Rat) (l:List ai) (w:dK) (m:aP):Int :=
 cond m.aJ (cond (decide (m.bc.length=l.length)) (cond (lP X Y T m.bc l.length 0 w.iZ w.jE w.iv) 0 24) 11) (cond (decide (m.bI.length=3)) (cond (lD X Y T m.bI l.length 0 (gQ m.bI w.iZ w.jE w.iv)) 0 24) 11)
theorem B1 (l:List ai):Gv (fun N=>fb N l) (ej l):=.of 14 fun N hN=>zW (by omega) l
theorem zw (l:List ai):Gv (fun N=>iT N l) (ej l):=.of 14 fun N hN=>KQ (by omega) l
theorem Jm (w:dK):Gv (fun N=>hO N w) (iK w):=.of 0 fun N _=>Jk N w
theorem GB (w:dK):Gv (fun N=>jC N w) (iK w):=.of 0 fun N _=>Mb N w
theorem Ui {n z L:Nat} (h:(n+1) * (3 * z+200)≤L):4+n * (z+60)≤L:=by
 have:=Nat.mul_le_mul (aG n) (show z+60≤3 * z+200 by omega)
 rw [Nat.succ_mul] at h;omega
theorem Uj {n z L:Nat} (h:(n+1) * (3 * z+200)≤L):3 * z+160+n * (3 * z+200)≤L:=by
 rw [Nat.succ_mul] at h;omega
theorem H6 (hl:ej l=0) (hw:iK w=0) (hq:tA l X Y T) (h1:EC z m.bc) (h2:EC z m.bI) (hz:(l.length+1) * (3 * z+200)≤4000000000000):Gv (fun N=>gK N l w m) (lQ X Y T l w m):=by
 have e1:(ej l != 0)=false:=by simp [hl]
 have e2:(iK w != 0)=false:=by simp [hw]
 have hlen:=(wQ hl).1
 obtain ⟨b1,b2,b3⟩:=Gx hw
 have q1:=eR b1
 have q2:=eR b2
 have q3:=eR b3
 unfold lQ
 refine Gv.bind (B1 l) (Gv.aR e1 (Gv.bind (Jm w) (Gv.aR e2 ?_)))
 cases hH:m.aJ with
 | true =>
  by_cases hp:m.bc.length=l.length
  ·have e3:(((m.bc.length:Nat):Int) != ((l.length:Nat):Int))=false:=by simp [hp]
   have c1:Gv (fun N=>qG N l w m.bc) (lP X Y T m.bc l.length 0 w.iZ w.jE w.iv) :=
    Gv.bind (Gy hw) ((H3 (by omega) hq h1 hp l.length 0 4 _ _ _ (by omega) q1 q2 q3 (by decide) (Ui hz)).diag)
   rw [decide_eq_true hp]
   cases hv:lP X Y T m.bc l.length 0 w.iZ w.jE w.iv with
   | true=>rw [hv] at c1;exact Gv.aR (by rw [e3];rfl) (Gv.bind (Gv.aF rfl c1) (Gv.bind (Gv.aR rfl (Gv.pure _)) (Gv.aR rfl (Gv.pure _))))
   | false=>rw [hv] at c1;exact Gv.aR (by rw [e3];rfl) (Gv.bind (Gv.aF rfl c1) (Gv.bind (Gv.aR rfl (Gv.pure _)) (Gv.aF rfl (Gv.pure _))))
  ·have e3:(((m.bc.length:Nat):Int) != ((l.length:Nat):Int))=true:=by simp;omega
   rw [decide_eq_false hp]
   exact Gv.aF (by rw [e3];rfl) (Gv.pure _)
 | false =>
  by_cases hp:m.bI.length=3
  ·have e3:(((m.bI.length:Nat):Int) != 3)=false:=by simp [hp]
   have ra:=zp h2 hp (q1.le (show 4≤40 by decide)) (q2.le (show 4≤40 by decide)) (q3.le (show 4≤40 by decide))
   have c1:Gv (fun N=>p7 N l w m.bI) (lD X Y T m.bI l.length 0 (gQ m.bI w.iZ w.jE w.iv)) :=
    Gv.bind (Gy hw) (Gv.bind (BZ h2 hp (q1.le (by decide)) (q2.le (by decide)) (q3.le (by decide))) ((AL (by omega) hq h2 hp l.length 0 _ _ (by omega) ra (by omega) (Uj hz)).diag))
   rw [decide_eq_true hp]
   cases hv:lD X Y T m.bI l.length 0 (gQ m.bI w.iZ w.jE w.iv) with
   | true=>rw [hv] at c1;exact Gv.aR (by rw [e3];rfl) (Gv.bind (Gv.aR rfl (Gv.pure _)) (Gv.bind (Gv.aF rfl c1) (Gv.aR rfl (Gv.pure _))))
   | false=>rw [hv] at c1;exact Gv.aR (by rw [e3];rfl) (Gv.bind (Gv.aR rfl (Gv.pure _)) (Gv.bind (Gv.aF rfl c1) (Gv.aF rfl (Gv.pure _))))
  ·have e3:(((m.bI.length:Nat):Int) != 3)=true:=by simp;omega
   rw [decide_eq_false hp]
   exact Gv.aF (by rw [e3];rfl) (Gv.pure _)
theorem Ov (hl:ej l=0) (hw:iK w=0) (hq:tA l X Y T) (h1:EC z m.bc) (h2:EC z m.bI) (Jq:z≤1000000000) (hz:(l.length+1) * (3 * z+200)≤100000000000):Gv (fun N=>md N l w m) (lQ X Y T l w m):=by
 have e1:(ej l != 0)=false:=by simp [hl]
 have e2:(iK w != 0)=false:=by simp [hw]
 have hlen:=(wQ hl).1
 obtain ⟨b1,b2,b3⟩:=Gx hw
 have q1:=eR b1
 have q2:=eR b2
 have q3:=eR b3
 unfold lQ
 refine Gv.bind (zw l) (Gv.aR e1 (Gv.bind (GB w) (Gv.aR e2 ?_)))
 cases hH:m.aJ with
 | true =>
  refine Gv.aF rfl ?_
  by_cases hp:m.bc.length=l.length
  ·have e3:(((m.bc.length:Nat):Int) != ((l.length:Nat):Int))=false:=by simp [hp]
   have c2:Gv (fun N=>p6 N l w m.bc) (lP X Y T m.bc l.length 0 w.iZ w.jE w.iv) :=
    Gv.bind (KS hw) ((BX (by omega) hq h1 Jq hp l.length 0 4 _ _ _ (by omega) q1 q2 q3 (by decide) (Ui hz)).diag)
   rw [decide_eq_true hp]
   cases hv:lP X Y T m.bc l.length 0 w.iZ w.jE w.iv with
   | true=>rw [hv] at c2;exact Gv.aR e3 (Gv.bind c2 (Gv.aR rfl (Gv.pure _)))
   | false=>rw [hv] at c2;exact Gv.aR e3 (Gv.bind c2 (Gv.aF rfl (Gv.pure _)))
  ·have e3:(((m.bc.length:Nat):Int) != ((l.length:Nat):Int))=true:=by simp;omega
   rw [decide_eq_false hp]
   exact Gv.aF e3 (Gv.pure _)
 | false =>
  refine Gv.aR rfl ?_
  by_cases hp:m.bI.length=3
  ·have e3:(((m.bI.length:Nat):Int) != 3)=false:=by simp [hp]
   have ra:=zp h2 hp (q1.le (show 4≤40 by decide)) (q2.le (show 4≤40 by decide)) (q3.le (show 4≤40 by decide))
   have c2:Gv (fun N=>qF N l w m.bI) (lD X Y T m.bI l.length 0 (gQ m.bI w.iZ w.jE w.iv)) :=
    Gv.bind (KS hw) (Gv.bind (H4 h2 Jq hp (q1.le (by decide)) (q2.le (by decide)) (q3.le (by decide))) ((yF (by omega) hq h2 Jq hp l.length 0 _ _ (by omega) ra (by omega) (Uj hz)).diag))
   rw [decide_eq_true hp]
   cases hv:lD X Y T m.bI l.length 0 (gQ m.bI w.iZ w.jE w.iv) with
   | true=>rw [hv] at c2;exact Gv.aR e3 (Gv.bind c2 (Gv.aR rfl (Gv.pure _)))
   | false=>rw [hv] at c2;exact Gv.aR e3 (Gv.bind c2 (Gv.aF rfl (Gv.pure _)))
  ·have e3:(((m.bI.length:Nat):Int) != 3)=true:=by simp;omega
   rw [decide_eq_false hp]
   exact Gv.aF e3 (Gv.pure _)
theorem Dc.code {n:Nat} (h:Dc X Y T n z w m) (hn:n=l.length):lQ X Y T l w m=0:=by
 subst hn
 unfold lQ
 rcases h with ⟨h1,h2,_,_,h5⟩ | ⟨h1,_,h3,_,h5⟩
 ·rw [h1,decide_eq_true h2,h5];rfl
 ·rw [h1,decide_eq_true h3,h5];rfl
theorem EC.nil (h1:1≤z) (h2:z≤100000000000):EC z []:=⟨h1,h2,fun {i} hi=>absurd hi (dX _)⟩
theorem Dc.parts {n:Nat} (h:Dc X Y T n z w m):EC z m.bc∧EC z m.bI:=by
 rcases h with ⟨_,_,h3,h4,_⟩ | ⟨_,h2,_,h4,_⟩
 ·rw [h3];exact ⟨h4,.nil h4.one h4.top⟩
 ·rw [h2];exact ⟨.nil h4.one h4.top,h4⟩
theorem Ow {m':aP} (h:lQ X Y T l w m=0) (h':lQ X Y T l w m'=0):m.aJ=m'.aJ:=by
 have key:∀ {a b:aP},lQ X Y T l w a=0→lQ X Y T l w b=0→a.aJ=true→b.aJ=false→False:=by
  intro a b ha hb h1 h2
  unfold lQ at ha hb
  rw [h1,cond_true] at ha
  rw [h2,cond_false] at hb
  cases q1:decide (a.bc.length=l.length)<;>rw [q1] at ha
  ·cases ha
  ·cases q2:decide (b.bI.length=3)<;>rw [q2] at hb
   ·cases hb
   ·cases q3:lP X Y T a.bc l.length 0 w.iZ w.jE w.iv<;>rw [q3] at ha
    ·cases ha
    ·cases q4:lD X Y T b.bI l.length 0 (gQ b.bI w.iZ w.jE w.iv)<;>rw [q4] at hb
     ·cases hb
     ·exact Mf q3 q4
 cases e1:m.aJ<;>cases e2:m'.aJ
 ·rfl
 ·exact (key h' h e2 e1).elim
 ·exact (key h h' e1 e2).elim
 ·rfl
end
end Go.Den
namespace Go.Den
open Go.Ab
theorem B2 {a:List aa} (hl:a.length≤1000):∃ b,Gv (fun N=>lh N a 400) b∧(b=true→∀ i,i < a.length→(a.getD i aa.d).fN.fL.length≤400∧(a.getD i aa.d).fD.fL.length≤400):=by
 refine ⟨scan (fun i=>cond (cond (decide ((((a.getD i aa.d).fN.fL.length:Nat):Int)≤400)) (decide ((((a.getD i aa.d).fD.fL.length:Nat):Int)≤400)) false) none (some false)) true a.length 0,.of 1001 fun N hN=>?_,fun hb i hi=>?_⟩
 ·refine nH (L:=fun fuel=>ey N a 400 fuel) _ _ (by omega) (fun fuel m hm=>?_) (fun fuel=>?_)
  ·simp only [ey,ve,dec_lt hm,cond_true,if_pos (pB hm),an,ct,aK (show m < 9223372036854775807 by omega)]
   generalize decide ((((a.getD m aa.d).fN.fL.length:Nat):Int)≤400)=u
   generalize decide ((((a.getD m aa.d).fD.fL.length:Nat):Int)≤400)=v
   cases u<;>cases v<;>rfl
  ·simp only [ey,dY,cond_false]
 ·rcases BM (f:=fun i=>cond (cond (decide ((((a.getD i aa.d).fN.fL.length:Nat):Int)≤400)) (decide ((((a.getD i aa.d).fD.fL.length:Nat):Int)≤400)) false) none (some false)) (z:=true) a.length 0 with ⟨j,r,_,_,h3,_,h5⟩ | ⟨h1,_⟩
  ·rw [h5] at hb
   subst hb
   cases hq:cond (decide ((((a.getD j aa.d).fN.fL.length:Nat):Int)≤400)) (decide ((((a.getD j aa.d).fD.fL.length:Nat):Int)≤400)) false<;>rw [hq] at h3<;>cases h3
  ·have:=h1 i (Nat.zero_le _) (by omega)
   by_cases u:(((a.getD i aa.d).fN.fL.length:Nat):Int)≤400
   ·by_cases v:(((a.getD i aa.d).fD.fL.length:Nat):Int)≤400
    ·exact ⟨by omega,by omega⟩
    ·rw [decide_eq_true u,decide_eq_false v] at this;cases this
   ·rw [decide_eq_false u] at this;cases this
theorem EC.short {pa:List aa} {z:Nat} (h:EC z pa) (hs:∀ i,i < pa.length→(pa.getD i aa.d).fN.fL.length≤400∧(pa.getD i aa.d).fD.fL.length≤400):EC 400 pa :=
 ⟨by decide,by decide,fun {i} hi=>⟨⟨⟨(h.rq hi).ir.1.1,(hs i hi).1⟩,⟨(h.rq hi).ir.2.1,(hs i hi).2⟩⟩,rfl,by decide⟩⟩
theorem Mc.q {pa:List aa} (h:Mc pa):EC 12 pa:=⟨by decide,by decide,fun {i} hi=>h.rq hi⟩
theorem Dd (l:List ai) (w:dK) (m:aP) (hl:(wL ai.wf) l) (_:dK.wf w) (hm:aP.wf m):∃ N,lL N l w m=some true:=by
 refine Gv.ex ?_
 refine Gv.bind (.of 24 fun N hN=>Rh (by omega)) (Gv.aR rfl ?_)
 refine Gv.bind (.of (l.length+1) fun N hN=>Ri l (by omega) hl.1) ?_
 cases Ma l with
 | false=>exact Gv.bind (Gv.aR rfl (Gv.pure _)) (Gv.aF rfl (Gv.pure _))
 | true =>
  obtain ⟨b,g1,g2⟩:=Tx hm
  refine Gv.bind (Gv.aF rfl g1) ?_
  cases b with
  | false=>exact Gv.aF rfl (Gv.pure _)
  | true =>
   obtain ⟨k1,k2⟩:=g2 rfl
   by_cases h6:6 < l.length∧l.length≤12
   ·refine Gv.aF ?_ (Gv.pure _)
    rw [decide_eq_true (show ((l.length:Nat):Int) > 6 by omega),decide_eq_true (show ((l.length:Nat):Int)≤12 by omega)];rfl
   ·refine Gv.aR ?_ ?_
    ·by_cases h7:((l.length:Nat):Int) > 6
     ·rw [decide_eq_true h7,decide_eq_false (show ¬ ((l.length:Nat):Int)≤12 by omega)];rfl
     ·rw [decide_eq_false h7];rfl
    ·by_cases hL:ej l=0
     ·have e1:(ej l != 0)=false:=by simp [hL]
      have f1:(ej l == 0)=true:=by simp [hL]
      by_cases hw:iK w=0
      ·have e2:(iK w != 0)=false:=by simp [hw]
       obtain ⟨X,Y,T,hq⟩:=Ty hL
       have hlen:=(wQ hL).1
       obtain ⟨h,ok,c⟩:=Tw (e5:=13) (by omega) (by omega) (by decide) hq hw
       obtain ⟨r1,r2⟩:=ok.parts
       have hz:(l.length+1) * (3 * (2 * ZZ 13+1)+200)≤4000000000000:=eC (Nat.mul_le_mul (show l.length+1≤7 by omega) (aG _)) (by decide)
       have hz4:∀ z,z≤400→(l.length+1) * (3 * z+200)≤100000000000:=fun z hz=>eC (Nat.mul_le_mul (show l.length+1≤7 by omega) (show 3 * z+200≤1400 by omega)) (by decide)
       have ce:=H6 hL hw hq r1 r2 hz
       have code:=ok.code rfl
       rw [code] at ce
       have n1:h.bc.length≤1000∧h.bI.length≤1000:=by
        rcases ok with ⟨_,q1,q2,_,_⟩ | ⟨_,q1,q2,_,_⟩
        ·rw [q1,q2];exact ⟨by omega,by decide⟩
        ·rw [q1,q2];exact ⟨by decide,by omega⟩
       obtain ⟨b1,s1,t1⟩:=B2 n1.1
       obtain ⟨b2,s2,t2⟩:=B2 n1.2
       have fin:Gv (fun N=>(gK N l w m).bind fun r=>some (cond (r != 0) true (m.aJ == h.aJ))) true:=by
        have cm:=H6 hL hw hq k1.q k2.q (m:=m) (eC (hz4 12 (by decide)) (by decide))
        refine Gv.bind cm ((Gv.pure _).eq ?_)
        by_cases q:lQ X Y T l w m=0
        ·rw [q,Ow q code];simp
        ·rw [show (lQ X Y T l w m != 0)=true by simpa using q];rfl
       refine Gv.bind (Gv.bind (B1 l) (Gv.aR e1 (Gv.bind (Jm w) (Gv.aR e2 (Gv.bind c (Gv.pure _)))))) (Gv.bind (zw l) (Gv.aF f1 (Gv.bind (GB w) ?_)))
       refine Gv.aR e2 (Gv.bind (Gv.aF rfl ce) (Gv.aR rfl (Gv.bind s1 ?_)))
       cases b1 with
       | false=>exact Gv.bind (Gv.aR rfl (Gv.pure _)) (Gv.bind (Gv.aR rfl (Gv.pure _)) (Gv.aR rfl fin))
       | true =>
        refine Gv.bind (Gv.aF rfl s2) ?_
        cases b2 with
        | false=>exact Gv.bind (Gv.aR rfl (Gv.pure _)) (Gv.aR rfl fin)
        | true =>
         have cr:=Ov hL hw hq (r1.short (t1 rfl)) (r2.short (t2 rfl)) (by decide) (hz4 400 (by decide))
         rw [code] at cr
         exact Gv.bind (Gv.aF rfl cr) (Gv.aR rfl fin)
      ·have e2:(iK w != 0)=true:=by simpa using hw
       refine Gv.bind (Gv.bind (B1 l) (Gv.aR e1 (Gv.bind (Jm w) (Gv.aF e2 (Gv.pure _))))) (Gv.bind (zw l) (Gv.aF f1 (Gv.bind (GB w) (Gv.aF e2 ((Gv.pure _).eq ?_)))))
       simp
     ·have e1:(ej l != 0)=true:=by simpa using hL
      have f1:(ej l == 0)=false:=by simpa using hL
      refine Gv.bind (Gv.bind (B1 l) (Gv.aF e1 (Gv.pure _))) (Gv.bind (zw l) (Gv.aR f1 (Gv.aF e1 ((Gv.pure _).eq ?_))))
      simp
end Go.Den
