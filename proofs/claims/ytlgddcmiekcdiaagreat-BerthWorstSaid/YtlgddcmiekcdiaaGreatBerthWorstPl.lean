/- The plain law: the Lean function of the law returns true for every input, and what it needs. No conditions. -/
import Derived.Test.YtlgddcmiekcdiaaGreatBerthWorstPk
set_option linter.unusedVariables false
set_option linter.unusedSimpArgs false
namespace Go.Den
open Go.Ab
namespace bB
structure DJ (D:bB) (m k s:Nat):Prop where
 a:∀ i j,i < m→j < k→RB (D.a i j) s
 b:∀ i,i < m→RB (D.b i) s
 g:∀ j,j < k→RB (D.g j) s
 v:RB D.v s
theorem WT:RB 1 1:=RB.int (z:=1) (ZB.small (by decide)) (by decide)
theorem DJ.nJ {D:bB} {m k s i j:Nat} (h:D.DJ m k s) (h1:1≤s) (hi:i < m) (hj:j < k) (h0:D.a i j≠0) {c:Nat} (hc:c < k):RB (D.nJ i j c) (2 * s):=by
 unfold bB.nJ
 split
 ·exact (WT.div (h.a i j hi hj) h0).le (by omega)
 ·exact ((h.a i c hi hc).div (h.a i j hi hj) h0).neg.le (by omega)
theorem DJ.js {D:bB} {m k s i j:Nat} (h:D.DJ m k s) (h1:1≤s) (hi:i < m) (hj:j < k) (h0:D.a i j≠0):(D.js i j).DJ m k (5 * s):=by
 have hp:RB (D.pb i j) (2 * s):=((h.b i hi).div (h.a i j hi hj) h0).neg.le (by omega)
 refine ⟨fun r c hr hc=>?_,fun r hr=>?_,fun c hc=>?_,((h.v).add ((h.g j hj).mul hp)).le (by omega)⟩
 ·have hw:=h.nJ h1 hi hj h0 hc
  simp only [bB.js]
  split
  ·exact hw.le (by omega)
  ·split
   ·exact ((h.a r j hr hj).mul hw).le (by omega)
   ·exact ((h.a r c hr hc).add ((h.a r j hr hj).mul hw)).le (by omega)
 ·simp only [bB.js]
  split
  ·exact hp.le (by omega)
  ·exact ((h.b r hr).add ((h.a r j hr hj).mul hp)).le (by omega)
 ·have hw:=h.nJ h1 hi hj h0 hc
  simp only [bB.js]
  split
  ·exact ((h.g j hj).mul hw).le (by omega)
  ·exact ((h.g c hc).add ((h.g j hj).mul hw)).le (by omega)
open Classical in
noncomputable def ze (p:Nat→Prop):Nat→Nat
 | 0=>0
 | n+1=>ze p n+if p n then 1 else 0
theorem Ln {p:Nat→Prop}:∀ n,ze p n≤n
 | 0=>aF _
 | n+1=>by have:=Ln (p:=p) n;rw [ze];split<;>omega
theorem x7 {p q:Nat→Prop}:∀ {n:Nat},(∀ i,i < n→q i→p i)→ze q n≤ze p n
 | 0,_=>aF _
 | n+1,h=>by
  have:=x7 (p:=p) (q:=q) (n:=n) fun i hi=>h i (by omega)
  have hn:=h n (by omega)
  rw [ze,ze]
  by_cases h1:q n
  ·simp only [h1,hn h1,if_true];omega
  ·simp only [h1,if_false];omega
theorem Qj {p q:Nat→Prop}:∀ {n i:Nat},(∀ i,i < n→q i→p i)→i < n→p i→¬ q i→ze q n < ze p n
 | 0,i,_,hi,_,_=>by omega
 | n+1,i,h,hi,h1,h2=>by
  have hn:=h n (by omega)
  rw [ze,ze]
  by_cases e:i=n
  ·subst e
   have:=x7 (p:=p) (q:=q) (n:=i) fun i hi=>h i (by omega)
   simp only [h1,h2,if_true,if_false];omega
  ·have:=Qj (p:=p) (q:=q) (n:=n) (i:=i) (fun i hi=>h i (by omega)) (by omega) h1 h2
   by_cases h3:q n
   ·simp only [h3,hn h3,if_true];omega
   ·simp only [h3,if_false];omega
theorem J9 {p:Nat→Prop}:∀ {n:Nat},ze p n=0→∀ i,i < n→¬ p i
 | 0,_,i,hi=>by omega
 | n+1,h,i,hi=>by
  rw [ze] at h
  by_cases e:i=n
  ·subst e;intro hp;simp only [hp,if_true] at h;omega
  ·exact J9 (n:=n) (by omega) i (by omega)
def dir (D:bB) (m k j:Nat) (u:Nat):Rat:=D.ext m k (one (D.fr j)) u - D.ext m k tn u
theorem SB {D:bB} {m k i j:Nat} (h:D.WF m k) (hi:i < m) (hj:j < k):D.dir m k j (D.gV i)=D.a i j:=by
 unfold dir;rw [tG h hi,tG h hi,row_one h hj,rS];grind
theorem It {D:bB} {m k c j:Nat} (h:D.WF m k) (hc:c < k) (hj:j < k):D.dir m k j (D.fr c)=if c=j then 1 else 0:=by
 unfold dir;rw [uj h hc,uj h hc]
 unfold one tn
 by_cases e:c=j
 ·subst e;rw [if_pos rfl,if_pos rfl];grind
 ·rw [if_neg e,if_neg fun q=>e (h.fi _ _ hc hj q)];grind
theorem Ka {D D':bB} {m k j:Nat} (h':D'.WF m k) (e:BA m k D' D) (hz:∀ c,c < k→D'.dir m k j (D.fr c)=0) {i:Nat} (hi:i < m):D'.dir m k j (D.gV i)=0:=by
 have s1:=(e.MB _).1 (rR h' (one (D'.fr j)))
 have s0:=(e.MB _).1 (rR h' tn)
 unfold dir
 rw [x6 s1 (y:=D'.ext m k tn) (fun c hc=>by have:=hz c hc;unfold dir at this;grind) hi,x6 s0 (y:=D'.ext m k tn) (fun _ _=>rfl) hi]
 grind
theorem Hr {D D':bB} {m k:Nat} (h:D.WF m k) (h':D'.WF m k) (e:BA m k D D') (hb:∀ u,D.x5 m u→D'.x5 m u) {j:Nat} (hj:j < k):∃ j',j' < k∧D'.fr j'=D.fr j:=by
 refine yO h' (h.fl j hj) fun ⟨i',qT,q⟩=>?_
 have:=Ka (D:=D') (D':=D) (j:=j) h e (fun c hc=>?_) qT
 ·rw [q,It h hj hj,if_pos rfl] at this;exact absurd this (by decide)
 ·obtain ⟨c',oe,q2⟩:=yO h (h'.fl c hc) fun ⟨i,hi,q3⟩=>by
   obtain ⟨i2,Tg,q4⟩:=hb _ ⟨i,hi,q3⟩
   exact h'.bf i2 c Tg hc q4
  rw [← q2,It h oe hj,if_neg fun q5=>h'.bf i' c qT hc (by rw [q,← q2,q5])]
theorem FN {m k:Nat} {D:bB} (h:D.WF m k):∀ (n:Nat) {D':bB} {s:Nat},D'.WF m k→BA m k D' D→D'.DJ m k s→1≤s→ze (fun i=>¬ D'.x5 m (D.gV i)) m≤n→D.DJ m k (5 ^ n * s)
 | n,D',s,h',e,hs,h1,hc=>by
  by_cases hz:ze (fun i=>¬ D'.x5 m (D.gV i)) m=0
  ·have hb:∀ u,D.x5 m u→D'.x5 m u:=fun u ⟨i,hi,q⟩=>q ▸ Classical.not_not.1 (J9 hz i hi)
   obtain ⟨u1,u2,u3,u4⟩:=uniq h h' e.symm hb
   have hn:s≤5 ^ n * s:=Nat.le_mul_of_pos_left _ (Nat.pow_pos (by decide))
   refine ⟨fun i j hi hj=>?_,fun i hi=>?_,fun j hj=>?_,by rw [u4];exact hs.v.le hn⟩
   ·obtain ⟨i',qT,q⟩:=hb _ ⟨i,hi,rfl⟩
    obtain ⟨j',yj,q2⟩:=Hr h h' e.symm hb hj
    rw [u2 i j i' j' hi qT hj yj q.symm q2.symm];exact (hs.a _ _ qT yj).le hn
   ·obtain ⟨i',qT,q⟩:=hb _ ⟨i,hi,rfl⟩
    rw [u1 i i' hi qT q.symm];exact (hs.b _ qT).le hn
   ·obtain ⟨j',yj,q2⟩:=Hr h h' e.symm hb hj
    rw [u3 j j' hj yj q2.symm];exact (hs.g _ yj).le hn
  ·obtain ⟨i,hi,ZO⟩:∃ i,i < m∧¬ D'.x5 m (D.gV i):=o7 fun q=>hz (by
    have:ze (fun i=>¬ D'.x5 m (D.gV i)) m≤ze (fun _=>False) m:=x7 fun i hi hp=>q ⟨i,hi,hp⟩
    have h0:∀ n,ze (fun _=>False) n=0:=fun n=>by
     induction n with
     | zero=>rfl
     | succ n ih=>rw [ze,ih];simp
    rw [h0] at this;omega)
   obtain ⟨j',yj,hv⟩:=yO h' (h.bl i hi) ZO
   obtain ⟨r,hr,h0,Oe⟩:∃ r,r < m∧D'.a r j'≠0∧¬ D.x5 m (D'.gV r):=o7 fun q=>by
    have:=Ka (D:=D) (D':=D') (j:=j') h' e (fun c hc=>?_) hi
    ·rw [← hv,It h' yj yj,if_pos rfl] at this;exact absurd this (by decide)
    ·rcases h'.al _ (h.fl c hc) with ⟨r,hr,q2⟩ | ⟨c',oe,q2⟩
     ·rw [← q2,SB h' hr yj]
      refine o7 fun q3=>q ⟨r,hr,q3,fun ⟨i2,Tg,q4⟩=>h.bf i2 c Tg hc (q4.trans q2)⟩
     ·rw [← q2,It h' oe yj,if_neg fun q3=>h.bf i c hi hc (by rw [← hv,← q2,q3])]
   have gk:ze (fun i=>¬ (D'.js r j').x5 m (D.gV i)) m < ze (fun i=>¬ D'.x5 m (D.gV i)) m:=by
    refine Qj (i:=i) (fun i' qT hp hq=>hp ((Ir h' hr).2 (.inl ⟨hq,fun q=>Oe ⟨i',qT,q⟩⟩))) hi ZO fun hp=>hp ((Ir h' hr).2 (.inr hv.symm))
   obtain ⟨n,rfl⟩:∃ n',n=n'+1:=⟨n - 1,by omega⟩
   have:=FN h n (h'.js hr yj) ((BA.js hr yj h0).symm.trans e) (hs.js h1 hr yj h0) (by omega) (by omega)
   rwa [← Nat.mul_assoc,← Nat.pow_succ] at this
theorem size {m k s:Nat} {D D':bB} (h:D.WF m k) (h':D'.WF m k) (e:BA m k D' D) (hs:D'.DJ m k s) (h1:1≤s):D.DJ m k (5 ^ m * s):=FN h m h' e hs h1 (Ln m)
theorem MC {p:Nat→Prop} (i0:Nat):∀ n,ze p n≤ze (fun i=>p i∧i≠i0) n+1
 | 0=>by rw [ze];omega
 | n+1=>by
  have ih:=MC (p:=p) i0 n
  rw [ze,ze]
  by_cases h1:p n
  ·by_cases h2:n=i0
   ·have:ze p n≤ze (fun i=>p i∧i≠i0) n:=x7 fun i hi hp=>⟨hp,by omega⟩
    rw [if_pos h1,if_neg fun q=>q.2 h2];omega
   ·rw [if_pos h1,if_pos (⟨h1,h2⟩:p n∧n≠i0)];omega
  ·rw [if_neg h1,if_neg fun q=>h1 q.1];omega
theorem Iu:∀ (k:Nat) {p:Nat→Prop} {n:Nat} (f:Nat→Nat),(∀ i,i < n→p i→f i < k)→(∀ i i',i < n→i' < n→p i→p i'→f i=f i'→i=i')→ze p n≤k
 | 0,p,n,f,h,_=>by
  have:ze p n≤ze (fun _=>False) n:=x7 fun i hi hp=>absurd (h i hi hp) (cW _)
  have h0:∀ n,ze (fun _=>False) n=0:=fun n=>by
   induction n with
   | zero=>rfl
   | succ n ih=>rw [ze,ih];simp
  rw [h0] at this;exact this
 | k+1,p,n,f,h,hi=>by
  by_cases e:∃ i,i < n∧p i∧f i=k
  ·obtain ⟨i0,h1,h2,h3⟩:=e
   have q:=Iu k (p:=fun i=>p i∧i≠i0) (n:=n) f (fun i pS ⟨hp,fP⟩=>by
    have:=h i pS hp
    have h4:f i≠k:=fun q=>fP (hi i i0 pS h1 hp h2 (q.trans h3.symm))
    omega) fun i i' a b c d=>hi i i' a b c.1 d.1
   have:=MC (p:=p) i0 n
   omega
  ·have:=Iu k f (p:=p) (n:=n) (fun i pS hp=>by
    have:=h i pS hp
    have h4:f i≠k:=fun q=>e ⟨i,pS,hp,q⟩
    omega) hi
   omega
theorem Kb {m k s e5:Nat} {D D':bB} (h5:m≤e5∨k≤e5) (h:D.WF m k) (h':D'.WF m k) (e:BA m k D' D) (hs:D'.DJ m k s) (h1:1≤s):D.DJ m k (5 ^ e5 * s):=by
 refine FN h e5 h' e hs h1 ?_
 rcases h5 with h5 | h5
 ·exact dU (Ln m) h5
 ·refine dU ?_ h5
  have key:∀ i,∃ j,i < m→¬ D'.x5 m (D.gV i)→j < k∧D'.fr j=D.gV i:=fun i=>by
   by_cases hi:i < m
   ·by_cases hb:D'.x5 m (D.gV i)
    ·exact ⟨0,fun _ q=>absurd hb q⟩
    ·obtain ⟨j,hj,q⟩:=yO h' (h.bl i hi) hb
     exact ⟨j,fun _ _=>⟨hj,q⟩⟩
   ·exact ⟨0,fun q=>absurd q hi⟩
  obtain ⟨f,hf⟩:=Classical.axiomOfChoice key
  refine Iu k f (fun i hi hp=>(hf i hi hp).1) fun i i' hi qT hp rV q=>?_
  have a:=(hf i hi hp).2
  have b:=(hf i' qT rV).2
  rw [q] at a
  exact h.bi i i' hi qT (a.symm.trans b)
end bB
end Go.Den
namespace Go.Den
open Go.Ab
theorem NJ (m n:Nat) (f:Nat→Nat→Rat):cu m (fun i=>cu n fun j=>f i j)=cu n fun j=>cu m fun i=>f i j:=by
 induction m with
 | zero=>show (0:Rat)=_;rw [show (fun j=>cu 0 fun i=>f i j)=fun _=>(0:Rat) from rfl,nA]
 | succ m ih=>simp only [cu];rw [ih,← ve]
theorem x8 (m n:Nat) (f:Nat→Rat):cu (m+n) f=cu m f+cu n fun i=>f (m+i):=by
 induction n with
 | zero=>show cu m f=cu m f+0;grind
 | succ n ih=>rw [show m+(n+1)=m+n+1 by omega,cu,cu,ih];grind
theorem Qk (n:Nat) (f g:Nat→Rat):cu n (fun i=>f i - g i)=cu n f - cu n g:=by
 have e:(fun i=>f i - g i)=fun i=>f i+(-1) * g i:=by funext i;grind
 rw [e,ve,pQ];grind
namespace bB
def sc (t:Rat) (u:Nat):Nat→Rat:=fun w=>if w=u then t else 0
theorem U0 {D:bB} {m k j:Nat} (h:D.WF m k) (hj:j < k) (t:Rat) (i:Nat):D.row k (sc t (D.fr j)) i=D.b i+D.a i j * t:=by
 unfold row sc
 rw [kW hj _ fun c hc fP=>by rw [if_neg fun e=>fP (h.fi _ _ hc hj e)];grind]
 rw [if_pos rfl]
theorem WU {D:bB} {m k j:Nat} (h:D.WF m k) (hj:j < k) (t:Rat):D.gv k (sc t (D.fr j))=D.v+D.g j * t:=by
 unfold gv sc
 rw [kW hj _ fun c hc fP=>by rw [if_neg fun e=>fP (h.fi _ _ hc hj e)];grind]
 rw [if_pos rfl]
def gc (D:bB) (k u:Nat):Rat:=cu k fun j=>if D.fr j=u then D.g j else 0
theorem Ql {D:bB} {m k j:Nat} (h:D.WF m k) (hj:j < k):D.gc k (D.fr j)=D.g j:=by
 unfold gc
 rw [kW hj _ fun c hc fP=>if_neg fun e=>fP (h.fi _ _ hc hj e),if_pos rfl]
theorem Iv {D:bB} {k u:Nat} (h:∀ j,j < k→D.fr j≠u):D.gc k u=0:=by
 unfold gc
 rw [bR (g:=fun _=>0) fun j hj=>if_neg (h j hj),nA]
theorem U1 {D:bB} {m k:Nat} (h:D.WF m k) (x:Nat→Rat):D.gv k x=D.v+cu (m+k) fun u=>D.gc k u * x u:=by
 unfold gv;congr 1
 have e:(fun u=>D.gc k u * x u)=fun u=>cu k fun j=>x u * (if D.fr j=u then D.g j else 0):=by
  funext u;rw [pQ];unfold gc;grind
 rw [e,NJ]
 refine bR fun j hj=>?_
 rw [kW (h.fl j hj) _ fun u _ hu=>by rw [if_neg fun q=>hu q.symm];grind]
 rw [if_pos rfl];grind
section
variable (n m:Nat) (C:Nat→Nat→Rat) (B:Nat→Rat)
def fst (z:Rat):bB where
 gV:=fun i=>2 * n+i
 fr:=fun j=>if j < 2 * n then j else 2 * n+m
 a:=fun i j=>if j < n then -(C i j) else if j < 2 * n then C i (j - n) else 1
 b:=B
 g:=fun j=>if j < 2 * n then 0 else z
 v:=0
theorem FO (z:Rat):(fst n m C B z).WF m (2 * n+1):=by
 refine ⟨fun i i' _ _ e=>?_,fun j j' hj yj e=>?_,fun i j hi hj e=>?_,fun i hi=>?_,fun j hj=>?_,fun u hu=>?_⟩
 ·simp only [fst] at e;omega
 ·simp only [fst] at e;split at e<;>split at e<;>omega
 ·simp only [fst] at e;split at e<;>omega
 ·simp only [fst];omega
 ·simp only [fst];split<;>omega
 ·by_cases h:u < 2 * n
  ·exact .inr ⟨u,by omega,by simp only [fst];rw [if_pos h]⟩
  ·by_cases h2:u=2 * n+m
   ·exact .inr ⟨2 * n,by omega,by simp only [fst];rw [if_neg (by omega)];exact h2.symm⟩
   ·exact .inl ⟨u - 2 * n,by omega,by simp only [fst];omega⟩
def w9 (p:Nat→Rat) (i:Nat):Rat:=cu n fun j=>C i j * p j
theorem MD (z:Rat) (x:Nat→Rat) (i:Nat):(fst n m C B z).row (2 * n+1) x i=B i - w9 n C (fun j=>x j - x (n+j)) i+x (2 * n+m):=by
 unfold row w9
 have e2:cu (2 * n) (fun j=>(fst n m C B z).a i j * x ((fst n m C B z).fr j)) = - cu n fun j=>C i j * (x j - x (n+j)):=by
  rw [show 2 * n=n+n by omega,x8]
  have e3:cu n (fun j=>(fst n m C B z).a i j * x ((fst n m C B z).fr j))=cu n fun j=>(-1) * (C i j * x j):=bR fun j hj=>by
   simp only [fst];rw [if_pos hj,if_pos (by omega)];grind
  have e4:cu n (fun j=>(fst n m C B z).a i (n+j) * x ((fst n m C B z).fr (n+j)))=cu n fun j=>C i j * x (n+j):=bR fun j hj=>by
   simp only [fst];rw [if_neg (by omega),if_pos (by omega),if_pos (by omega),show n+j - n=j by omega]
  rw [e3,e4,pQ,show (fun j=>C i j * (x j - x (n+j)))=fun j=>C i j * x j - C i j * x (n+j) by funext j;grind,Qk]
  grind
 rw [cu,e2]
 have e5:(fst n m C B z).a i (2 * n)=1:=by simp only [fst];rw [if_neg (by omega),if_neg (by omega)]
 have e6:(fst n m C B z).fr (2 * n)=2 * n+m:=by simp only [fst];rw [if_neg (by omega)]
 have e7:(fst n m C B z).b i=B i:=rfl
 rw [e5,e6,e7];grind
theorem Qm (z:Rat) (x:Nat→Rat):(fst n m C B z).gv (2 * n+1) x=z * x (2 * n+m):=by
 unfold gv
 rw [kW (j:=2 * n) (by omega) _ fun j hj fP=>by simp only [fst];rw [if_pos (by omega)];grind]
 have e5:(fst n m C B z).g (2 * n)=z:=by simp only [fst];rw [if_neg (by omega)]
 have e6:(fst n m C B z).fr (2 * n)=2 * n+m:=by simp only [fst];rw [if_neg (by omega)]
 have e7:(fst n m C B z).v=0:=rfl
 rw [e5,e6,e7];grind
theorem D1 (z:Rat) (x:Nat→Rat):(fst n m C B z).IX m (2 * n+1) x↔∀ i,i < m→x (2 * n+i)=B i - w9 n C (fun j=>x j - x (n+j)) i+x (2 * n+m):=by
 unfold IX
 constructor
 ·intro h i hi;rw [← MD n m C B z];exact h i hi
 ·intro h i hi;rw [MD];exact h i hi
theorem Kc (z:Rat) (D:bB) (x:Nat→Rat) (h:BA m (2 * n+1) (fst n m C B z) D):D.IX m (2 * n+1) x↔(fst n m C B 0).IX m (2 * n+1) x:=by
 rw [← h.MB,D1,D1]
def x9 (y:Nat→Rat) (u:Nat):Rat:=if 2 * n≤u∧u < 2 * n+m then B (u - 2 * n) - w9 n C (fun j=>y j - y (n+j)) (u - 2 * n)+y (2 * n+m) else y u
theorem FP (z:Rat) (y:Nat→Rat):(fst n m C B z).IX m (2 * n+1) (x9 n m C B y):=(D1 n m C B z _).2 fun i hi=>by
 have e1:x9 n m C B y (2 * n+i)=B i - w9 n C (fun j=>y j - y (n+j)) i+y (2 * n+m):=by
  unfold x9;rw [if_pos ⟨by omega,by omega⟩,show 2 * n+i - 2 * n=i by omega]
 have e2:x9 n m C B y (2 * n+m)=y (2 * n+m):=by unfold x9;rw [if_neg (by omega)]
 have e3:w9 n C (fun j=>x9 n m C B y j - x9 n m C B y (n+j)) i=w9 n C (fun j=>y j - y (n+j)) i:=by
  unfold w9
  refine bR fun j hj=>?_
  show C i j * (x9 n m C B y j - x9 n m C B y (n+j))=C i j * (y j - y (n+j))
  unfold x9;rw [if_neg (by omega),if_neg (by omega)]
 rw [e1,e2,e3]
theorem NK {low:Nat} (hl:low < m) (Ak:B low < 0) (tc:∀ r,r < m→B low≤B r):((fst n m C B (-1)).js low (2 * n)).J6 m:=fun r hr=>by
 have e5:∀ r,(fst n m C B (-1)).a r (2 * n)=1:=fun r=>by simp only [fst];rw [if_neg (by omega),if_neg (by omega)]
 have e7:∀ r,(fst n m C B (-1)).b r=B r:=fun _=>rfl
 simp only [bB.js,pb,e5,e7]
 have:=tc r hr
 split<;>grind
variable {n m C B} {D:bB} (hw:D.WF m (2 * n+1)) (he:BA m (2 * n+1) (fst n m C B (-1)) D)
include hw he in
theorem Lo {x:Nat→Rat} (hx:D.IX m (2 * n+1) x):D.gv (2 * n+1) x = -(x (2 * n+m)):=by
 have:=hw
 rw [← he.gv x ((he.MB x).2 hx),Qm];grind
theorem FQ {m k:Nat} (hw:D.WF m k) {y:Nat→Rat} (hr:∀ i,i < m→0≤D.row k y i) (hy:∀ u,0≤y u) (u:Nat) (hu:u < m+k):0≤D.ext m k y u:=by
 rcases hw.al u hu with ⟨i,hi,e⟩ | ⟨j,hj,e⟩
 ·rw [← e,tG hw hi];exact hr i hi
 ·rw [← e,uj hw hj];exact hy _
theorem Cy {m k:Nat} (hw:D.WF m k) (hf:D.J6 m) (u:Nat) (hu:u < m+k):0≤D.ext m k tn u :=
 FQ hw (y:=tn) (fun i hi=>by rw [rS];exact hf i hi) (fun _=>Rat.le_refl) u hu
include hw he in
theorem FR:D.v = -(D.ext m (2 * n+1) tn (2 * n+m)):=by
 rw [← Lo hw he (rR hw tn),FK hw,Iq]
include hw he in
theorem SC (hf:D.J6 m) (WW:(∀ j,j < 2 * n+1→D.g j≤0)∨∃ j,D.DZ (2 * n+1) j∧∀ i,i < m→0≤D.a i j):∀ j,j < 2 * n+1→D.g j≤0:=by
 rcases WW with h | ⟨j,hj,ha⟩
 ·exact h
 ·exfalso
  have hv:D.v≤0:=by rw [FR hw he];have:=Cy hw hf (2 * n+m) (by omega);grind
  have hp:=hj.pos
  have ht:0≤(1 - D.v) / D.g j:=FL hp (by grind)
  have hs:=rR hw (sc ((1 - D.v) / D.g j) (D.fr j))
  have h1:=Lo hw he hs
  rw [FK hw,WU hw hj.lt] at h1
  have h2:=FQ hw (y:=sc ((1 - D.v) / D.g j) (D.fr j)) (fun i hi=>by
   rw [U0 hw hj.lt]
   have:=Rat.mul_nonneg (ha i hi) ht
   have:=hf i hi
   grind) (fun u=>by unfold sc;split<;>grind) (2 * n+m) (by omega)
  have h3:D.g j * ((1 - D.v) / D.g j)=1 - D.v:=by grind
  rw [h3] at h1
  grind
include hw he in
theorem WX (hg:∀ j,j < 2 * n+1→D.g j≤0):(∀ u,D.gc (2 * n+1) u≤0)∧(∀ j,j < n→cu m (fun i=>-(D.gc (2 * n+1) (2 * n+i)) * C i j)=0)∧cu m (fun i=>-(D.gc (2 * n+1) (2 * n+i)) * B i)=D.v:=by
 have XR:∀ u,D.gc (2 * n+1) u≤0:=fun u=>by
  by_cases h:∃ j,j < 2 * n+1∧D.fr j=u
  ·obtain ⟨j,hj,rfl⟩:=h
   rw [Ql hw hj];exact hg j hj
  ·rw [Iv fun j hj e=>h ⟨j,hj,e⟩];exact Rat.le_refl
 generalize hG:D.gc (2 * n+1)=G at XR ⊢
 have key:∀ y:Nat→Rat,-(y (2 * n+m))=D.v+(cu (2 * n) (fun u=>G u * y u)+cu m (fun i=>G (2 * n+i) * (B i - w9 n C (fun j=>y j - y (n+j)) i+y (2 * n+m)))+G (2 * n+m) * y (2 * n+m)):=fun y=>by
  have h1:=Lo hw he ((he.MB _).1 (FP n m C B (-1) y))
  rw [U1 hw,hG,show m+(2 * n+1)=(2 * n+m)+1 by omega,cu,x8] at h1
  have e1:∀ u,u < 2 * n→x9 n m C B y u=y u:=fun u hu=>by unfold x9;rw [if_neg (by omega)]
  have e2:x9 n m C B y (2 * n+m)=y (2 * n+m):=by unfold x9;rw [if_neg (by omega)]
  have e3:∀ i,i < m→x9 n m C B y (2 * n+i)=B i - w9 n C (fun j=>y j - y (n+j)) i+y (2 * n+m):=fun i hi=>by
   unfold x9;rw [if_pos ⟨by omega,by omega⟩,show 2 * n+i - 2 * n=i by omega]
  rw [bR (n:=2 * n) (g:=fun u=>G u * y u) fun u hu=>by rw [e1 u hu],bR (n:=m) (g:=fun i=>G (2 * n+i) * (B i - w9 n C (fun j=>y j - y (n+j)) i+y (2 * n+m))) fun i hi=>by rw [e3 i hi],e2] at h1
  exact h1.symm
 have k0:=key tn
 have d0:∀ i,w9 n C (fun j=>tn j - tn (n+j)) i=0:=fun i=>by
  unfold w9 tn
  rw [bR (g:=fun _=>0) fun j _=>by grind,nA]
 have z0:cu m (fun i=>G (2 * n+i) * (B i - w9 n C (fun j=>tn j - tn (n+j)) i+tn (2 * n+m)))=cu m fun i=>G (2 * n+i) * B i:=bR fun i _=>by
  rw [d0];unfold tn;grind
 rw [z0,bR (n:=2 * n) (g:=fun _=>0) fun u _=>by unfold tn;grind,nA] at k0
 have k0:cu m (fun i=>G (2 * n+i) * B i) = -D.v:=by unfold tn at k0;grind
 have un:∀ (u:Nat) (s:Rat),u < 2 * n→(∀ i,i < m→w9 n C (fun j=>one u j - one u (n+j)) i=s * C i (if u < n then u else u - n))→G u=s * cu m fun i=>G (2 * n+i) * C i (if u < n then u else u - n):=fun u s hu hd=>by
  have k1:=key (one u)
  have z1:one u (2 * n+m)=0:=if_neg (by omega)
  rw [z1,kW hu (fun w=>G w * one u w) fun w _ fP=>by unfold one;rw [if_neg fP];grind] at k1
  rw [bR (n:=m) (g:=fun i=>G (2 * n+i) * B i+(-s) * (G (2 * n+i) * C i (if u < n then u else u - n))) fun i hi=>by rw [hd i hi];grind,ve,pQ,k0] at k1
  have:one u u=1:=if_pos rfl
  rw [this] at k1
  grind
 have Ak:∀ f:Nat→Rat,cu m (fun i=>-(G (2 * n+i)) * f i) = -(cu m fun i=>G (2 * n+i) * f i):=fun f=>by
  rw [show (fun i=>-(G (2 * n+i)) * f i)=fun i=>(-1) * (G (2 * n+i) * f i) by funext i;grind,pQ];grind
 refine ⟨XR,fun j hj=>?_,by rw [Ak,k0];grind⟩
 have a1:=un j 1 (by omega) fun i hi=>by
  unfold w9
  rw [kW hj _ fun c hc fP=>by show C i c * (one j c - one j (n+c))=0;unfold one;rw [if_neg fP,if_neg (by omega)];grind]
  show C i j * (one j j - one j (n+j))=_
  unfold one;rw [if_pos rfl,if_neg (by omega),if_pos hj];grind
 have a2:=un (n+j) (-1) (by omega) fun i hi=>by
  unfold w9
  rw [kW hj _ fun c hc fP=>by show C i c * (one (n+j) c - one (n+j) (n+c))=0;unfold one;rw [if_neg (by omega),if_neg (by omega)];grind]
  show C i j * (one (n+j) j - one (n+j) (n+j))=_
  unfold one;rw [if_pos rfl,if_neg (by omega),if_neg (by omega),show n+j - n=j by omega];grind
 rw [if_pos hj] at a1
 rw [if_neg (by omega),show n+j - n=j by omega] at a2
 have b1:=XR j
 have b2:=XR (n+j)
 rw [Ak]
 grind
include hw he in
include hw he in
theorem Lp {i:Nat} (hi:i < m) (hb:D.gV i=2 * n+m):∃ j,j < 2 * n+1∧D.a i j≠0:=o7 fun hn=>by
 have hz:∀ j,j < 2 * n+1→D.a i j=0:=fun j hj=>o7 fun q=>hn ⟨j,hj,q⟩
 have hc:∀ x,D.IX m (2 * n+1) x→x (2 * n+m)=D.b i:=fun x hx=>by
  rw [← hb,hx i hi];unfold row
  rw [bR (g:=fun _=>0) fun j hj=>by rw [hz j hj];grind,nA];grind
 have c0:=hc _ ((he.MB _).1 (FP n m C B (-1) tn))
 have c1:=hc _ ((he.MB _).1 (FP n m C B (-1) (one (2 * n+m))))
 have:=hw
 unfold x9 at c0 c1
 rw [if_neg (by omega)] at c0 c1
 unfold tn at c0
 unfold one at c1
 rw [if_pos rfl] at c1
 rw [← c0] at c1
 exact absurd c1 (by decide)
theorem Qn {m i j:Nat} (hf:D.J6 m) (h0:D.b i=0):(D.js i j).J6 m:=fun r hr=>by
 have hp:D.pb i j=0:=by unfold pb;rw [h0,Rat.div_def,Rat.zero_mul];rfl
 simp only [bB.js,hp]
 have:=hf r hr
 split
 ·exact Rat.le_refl
 ·grind
end
end bB
end Go.Den
namespace Go.Den
open Go.Ab
section
variable {α:Type}
def Al (f:Nat→α) (n:Nat):List α:=(List.range n).map f
theorem pR (f:Nat→α) (n:Nat):(Al f n).length=n:=by simp [Al]
theorem D2 (f:Nat→α) {n i:Nat} (d:α) (h:i < n):(Al f n).getD i d=f i:=by simp [Al,h]
theorem qg {f g:Nat→α} {n:Nat} (h:∀ i,i < n→f i=g i):Al f n=Al g n:=by
 unfold Al;exact List.map_congr_left fun i hi=>h i (vn.1 hi)
theorem FT {l:List α} {f:Nat→α} {n:Nat} (d:α) (hl:l.length=n) (h:∀ i,i < n→l.getD i d=f i):l=Al f n:=by
 refine List.ext_getElem (by rw [hl,pR]) fun i h1 h2=>?_
 have:=h i (by omega)
 rw [fk,o6 h1,Option.getD_some] at this
 rw [this];simp [Al]
theorem D3 (f:Nat→α) (n i:Nat) (v:α):(Al f n).set i v=Al (fun a=>if a=i then v else f a) n:=by
 refine List.ext_getElem (by simp [Al]) fun a h1 h2=>?_
 rw [List.getElem_set]
 by_cases e:i=a
 ·subst e;simp [Al]
 ·rw [if_neg e];simp [Al];intro q;exact absurd q.symm e
end
def LQ (f:Nat→Rat) (n:Nat):List aa:=Al (fun i=>bA (f i)) n
def LN (f:Nat→Nat) (n:Nat):List Int:=Al (fun i=>(f i:Int)) n
def LA (a:Nat→Nat→Rat) (m k:Nat):List (List aa):=Al (fun i=>LQ (a i) k) m
theorem bP (f:Nat→Rat) (n:Nat):(LQ f n).length=n:=pR _ _
theorem eV (f:Nat→Nat) (n:Nat):(LN f n).length=n:=pR _ _
theorem k9 (a:Nat→Nat→Rat) (m k:Nat):(LA a m k).length=m:=pR _ _
theorem fw (f:Nat→Rat) {n i:Nat} (d:aa) (h:i < n):(LQ f n).getD i d=bA (f i):=D2 _ _ h
theorem rj (f:Nat→Nat) {n i:Nat} (d:Int) (h:i < n):(LN f n).getD i d=(f i:Int):=D2 _ _ h
theorem wa (a:Nat→Nat→Rat) {m k i:Nat} (d:List aa) (h:i < m):(LA a m k).getD i d=LQ (a i) k:=D2 _ _ h
theorem qN {f g:Nat→Rat} {n:Nat} (h:∀ i,i < n→f i=g i):LQ f n=LQ g n:=qg fun i hi=>by rw [h i hi]
theorem Qo {a b:Nat→Nat→Rat} {m k:Nat} (h:∀ i j,i < m→j < k→a i j=b i j):LA a m k=LA b m k:=qg fun i hi=>qN fun j hj=>h i j hi hj
theorem Am (f:Nat→Rat) (n i:Nat) (q:Rat):(LQ f n).set i (bA q)=LQ (fun a=>if a=i then q else f a) n:=by
 unfold LQ;rw [D3];exact qg fun a _=>by by_cases e:a=i<;>simp [e]
theorem U2 (f:Nat→Nat) (n i q:Nat):(LN f n).set i (q:Int)=LN (fun a=>if a=i then q else f a) n:=by
 unfold LN;rw [D3];exact qg fun a _=>by by_cases e:a=i<;>simp [e]
theorem Qp (a:Nat→Nat→Rat) (m k i:Nat) (r:Nat→Rat):(LA a m k).set i (LQ r k)=LA (fun x=>if x=i then r else a x) m k:=by
 unfold LA;rw [D3];exact qg fun a _=>by by_cases e:a=i<;>simp [e]
theorem RB.q {p:Rat} {s:Nat} (h:RB p s) (hs:s≤MS):RQ (bA p) p MS:=(h.le hs).rq (by decide)
section
variable {k j s:Nat} {f:Rat} {F R:Nat→Rat}
theorem Iw (hk:k≤1000) (hs:5 * s≤MS) (h1:1≤s) (hf:RB f s) (hF:∀ c,c < k→RB (F c) s) (hR:∀ c,c < k→RB (R c) (2 * s)) {c0:List aa} (h0:c0.length=k):∀ (d x:Nat) (G:Nat→Rat),x+d=k →
  (∀ c,c < k→G c=if c < x then if c=j then f * R j else F c+f * R c else F c) →
  ay (fun N g=>cE N (j:Int) (bA f) c0 (LQ R k) g (LQ G k) (x:Int)) (LQ (fun c=>if c=j then f * R j else F c+f * R c) k)
 | 0,x,G,hx,hG=>ay.succ (fun N g=>cE.eq_2 ..) (ay.aY (MA (m:=x) (n:=k) (by omega) h0) ((ay.one (Gv.pure _)).eq (qN fun c hc=>by rw [hG c hc,if_pos (by omega)])))
 | d+1,x,G,hx,hG=>by
  have rT:x < k:=by omega
  have hm:RB (f * R x) (3 * s):=(hf.mul (hR x rT)).le (by omega)
  have XE:=(hf.q (by omega)).mul ((hR x rT).q (by omega)) (IW (by decide))
  have eG:G x=F x:=by rw [hG x rT,if_neg (vk x)]
  refine ay.succ (fun N g=>cE.eq_2 ..) (ay.aL (Lj (n:=k) rT h0) ?_)
  simp only [an,fw _ _ rT,eG,aK (show x < 9223372036854775807 by omega),fB,Am]
  by_cases e:x=j
  ·refine ay.aL (by simp [e]) (ay.if (inl rT (bP _ _)) (ay.bind XE (ay.if (inl rT (bP _ _)) ?_)))
   simp only [Am]
   refine Iw hk hs h1 hf hF hR h0 d (x+1) _ (by omega) fun c hc=>?_
   by_cases q:c=x
   ·rw [if_pos q,if_pos (by omega),if_pos (q.trans e),e]
   ·rw [if_neg q,hG c hc]
    by_cases q2:c < x
    ·simp only [q2,show c < x+1 by omega,if_true]
    ·rw [if_neg q2,if_neg (by omega)]
  ·refine ay.aY (by simp;omega) (ay.if (inl rT (bP _ _)) (ay.bind (((hR x rT).q (by omega)).zero (by decide)) ?_))
   by_cases z:R x=0
   ·refine ay.aY (by simp [z]) (Iw hk hs h1 hf hF hR h0 d (x+1) _ (by omega) fun c hc=>?_)
    rw [hG c hc]
    by_cases q2:c < x
    ·simp only [q2,show c < x+1 by omega,if_true]
    ·rw [if_neg q2]
     by_cases q:c=x
     ·rw [if_pos (by omega),if_neg (by omega),q,z];grind
     ·rw [if_neg (by omega)]
   ·refine ay.aL (by simp [z]) (ay.if (inl rT (bP _ _)) (ay.bind XE (ay.bind (((hF x rT).q (by omega)).add (hm.q (by omega)) (IW (by decide))) ?_)))
    simp only [Am]
    refine Iw hk hs h1 hf hF hR h0 d (x+1) _ (by omega) fun c hc=>?_
    by_cases q:c=x
    ·rw [if_pos q,if_pos (by omega),if_neg (by omega),q]
    ·rw [if_neg q,hG c hc]
     by_cases q2:c < x
     ·simp only [q2,show c < x+1 by omega,if_true]
     ·rw [if_neg q2,if_neg (by omega)]
theorem Qq (hk:k≤1000) (hs:5 * s≤MS) (h1:1≤s) (hf:RB f s) (hF:∀ c,c < k→RB (F c) s) (hR:∀ c,c < k→RB (R c) (2 * s)) :
  Gv (fun N=>iA N (j:Int) (bA f) (LQ F k) (LQ R k)) (LQ (fun c=>if c=j then f * R j else F c+f * R c) k) :=
 (Iw hk hs h1 hf hF hR (bP F k) k 0 F (by omega) fun c _=>(if_neg (cW c)).symm).diag
end
def RT (n m k h:Nat) (D:bB):ly×List Int×List Int×List (List aa)×List aa×List aa :=
 (⟨n,m,LN D.gV m,LN D.fr k,LA D.a m k,LQ D.b m,LQ D.g k,bA D.v,h⟩,LN D.gV m,LN D.fr k,LA D.a m k,LQ D.b m,LQ D.g k)
section
variable {n m k h i j s:Nat} {D:bB}
theorem Kd (hi:i < m) (hj:j < k) {A:Nat→Nat→Rat} {b:Nat→Rat} (hA:∀ r c,r < m→c < k→r≠i→A r c=(D.js i j).a r c) (hb:∀ r,r < m→b r=(D.js i j).b r) {G:Nat→Rat} (hG:∀ c,c < k→G c=(D.js i j).g c) {v:Rat} (hv:v=(D.js i j).v) (N:Nat) :
  gn N (i:Int) (j:Int) (n:Int) (m:Int) (h:Int) (LN D.gV m) (LN D.fr k) (LA A m k) (LQ (D.nJ i j) k) (LQ b m) (LQ G k) (bA v).fN.fG (bA v).fN.fL (bA v).fD.fG (bA v).fD.fL=some (RT n m k h (D.js i j)):=by
 unfold gn
 rw [if_pos (inl hj (eV _ _)),if_pos (inl hi (eV _ _))]
 simp only [an,rj _ _ hi,rj _ _ hj,U2,Qp]
 have e1:=Qo (a:=fun x=>if x=i then D.nJ i j else A x) (b:=(D.js i j).a) (m:=m) (k:=k) fun r c Au hc=>by
  by_cases q:r=i
  ·simp only [q,if_true,bB.js]
  ·simp only [q,if_false];exact hA r c Au hc q
 rw [e1,qN hb,qN hG,hv]
 rfl
theorem Bn (hm:m≤1000) (hk:k≤1000) (hi:i < m) (hj:j < k) (hs:5 * s≤MS) (h1:1≤s) (hr:D.DJ m k s) (h0:D.a i j≠0):∀ (d x:Nat) (A:Nat→Nat→Rat) (b:Nat→Rat),x+d=m →
  (∀ r c,r < m→c < k→A r c=if r < x∧r≠i then (D.js i j).a r c else D.a r c)→(∀ r,r < m→b r=if r=i∨r < x then (D.js i j).b r else D.b r) →
  ay (fun N g=>bZ N (i:Int) (j:Int) (n:Int) (m:Int) (bA D.v).fN.fG (bA D.v).fN.fL (bA D.v).fD.fG (bA D.v).fD.fL (h:Int) (LN D.gV m) (LN D.fr k) (LA D.a m k) (LQ D.g k)
   g (LA A m k) (LQ (D.nJ i j) k) (LQ b m) (x:Int)) (RT n m k h (D.js i j))
 | 0,x,A,b,hx,hA,hb=>by
  have hp:RB (D.pb i j) (2 * s):=((hr.b i hi).div (hr.a i j hi hj) h0).neg.le (by omega)
  have ebi:b i=D.pb i j:=by rw [hb i hi,if_pos (.inl rfl)];simp [bB.js]
  have UE:∀ r c,r < m→c < k→r≠i→A r c=(D.js i j).a r c:=fun r c Au hc q=>by rw [hA r c Au hc,if_pos ⟨by omega,q⟩]
  have oc:∀ r,r < m→b r=(D.js i j).b r:=fun r Au=>by rw [hb r Au,if_pos (.inr (by omega))]
  refine ay.succ (fun N g=>bZ.eq_2 ..) (ay.aY (MA (m:=x) (n:=m) (by omega) (k9 _ _ _)) ?_)
  simp only [an,fw _ _ hj,fw _ _ hi,ebi]
  refine ay.if (inl hj (bP _ _)) (ay.bind (((hr.g j hj).q (by omega)).zero (by decide)) ?_)
  by_cases z:D.g j=0
  ·refine ay.aY (by simp [z]) (ay.if (by rw [k9];exact hi) (ay.one ⟨0,fun N _=>Kd hi hj UE oc (fun c _=>?_) ?_ N⟩))
   ·simp only [bB.js,z]
    by_cases q:c=j
    ·rw [if_pos q,q,z];grind
    ·rw [if_neg q];grind
   ·simp only [bB.js,z];grind
  ·refine ay.aL (by simp [z]) (ay.if (inl hi (bP _ _)) (ay.bind (((hr.g j hj).q (by omega)).mul (hp.q (by omega)) (IW (by decide))) (ay.bind ((hr.v.q (by omega)).add ((((hr.g j hj).mul hp).le (aF _)).q (by omega)) (IW (by decide)))
    (ay.bind (Qq hk hs h1 (hr.g j hj) (fun c hc=>hr.g c hc) (fun c hc=>hr.nJ h1 hi hj h0 hc)) (ay.if (by rw [bP,bP]) (ay.if (by rw [k9];exact hi) (ay.one ⟨0,fun N _=>Kd hi hj UE oc (fun c _=>?_) rfl N⟩)))))))
   simp only [bB.js]
   by_cases q:c=j
   ·rw [if_pos q,if_pos q,q]
   ·rw [if_neg q,if_neg q]
 | d+1,x,A,b,hx,hA,hb=>by
  have sd:x < m:=by omega
  have hp:RB (D.pb i j) (2 * s):=((hr.b i hi).div (hr.a i j hi hj) h0).neg.le (by omega)
  have ebi:b i=D.pb i j:=by rw [hb i hi,if_pos (.inl rfl)];simp [bB.js]
  refine ay.succ (fun N g=>bZ.eq_2 ..) (ay.aL (Lj (n:=m) sd (k9 _ _ _)) ?_)
  by_cases e:x=i
  ·simp only [an,aK (show x < 9223372036854775807 by omega),dw]
   refine ay.aL (by simp [e]) (ay.if (inl sd (k9 _ _ _)) (ay.if (inl hj (bP _ _)) (ay.bind (Gv.aY (by simp [e]) (Gv.pure false)) (ay.aY (by simp [e]) (Bn hm hk hi hj hs h1 hr h0 d (x+1) A b (by omega) (fun r c Au hc=>?_) fun r Au=>?_)))))
   ·rw [hA r c Au hc]
    by_cases q:r < x∧r≠i
    ·rw [if_pos q,if_pos ⟨by omega,q.2⟩]
    ·rw [if_neg q,if_neg (by omega)]
   ·rw [hb r Au]
    by_cases q:r=i∨r < x
    ·rw [if_pos q,if_pos (by omega)]
    ·rw [if_neg q,if_neg (by omega)]
  ·have aal:LQ (A x) k=LQ (D.a x) k:=qN fun c hc=>by rw [hA x c sd hc,if_neg (by omega)]
   have ebx:b x=D.b x:=by rw [hb x sd,if_neg (by omega)]
   simp only [an,aK (show x < 9223372036854775807 by omega),dw,wa _ _ sd,aal,fw _ _ sd,fw _ _ hi,ebi,ebx,fw _ _ hj]
   have fP:((x:Int) != (i:Int))=true:=by simp;omega
   refine ay.aY (by simp;omega) (ay.if (by rw [k9];exact sd) (ay.if (inl sd (k9 _ _ _)) (ay.if (inl hj (bP _ _)) (ay.bind (Gv.aL fP (((hr.a x j sd hj).q (by omega)).zero (by decide))) ?_))))
   by_cases z:D.a x j=0
   ·refine ay.aY (by simp [z]) (Bn hm hk hi hj hs h1 hr h0 d (x+1) A b (by omega) (fun r c Au hc=>?_) fun r Au=>?_)
    ·rw [hA r c Au hc]
     by_cases q:r < x∧r≠i
     ·rw [if_pos q,if_pos ⟨by omega,q.2⟩]
     ·rw [if_neg q]
      by_cases q2:r=x
      ·rw [if_pos ⟨by omega,by omega⟩,q2]
       simp only [bB.js,if_neg e,z]
       split
       ·rename_i q3;rw [q3,z];grind
       ·grind
      ·rw [if_neg (by omega)]
    ·rw [hb r Au]
     by_cases q:r=i∨r < x
     ·rw [if_pos q,if_pos (by omega)]
     ·rw [if_neg q]
      by_cases q2:r=x
      ·rw [if_pos (by omega),q2]
       simp only [bB.js,if_neg e,z];grind
      ·rw [if_neg (by omega)]
   ·refine ay.aL (by rw [fP];simp [z]) (ay.if (inl sd (bP _ _)) (ay.if (inl hi (bP _ _)) (ay.bind (((hr.a x j sd hj).q (by omega)).mul (hp.q (by omega)) (IW (by decide)))
     (ay.bind (((hr.b x sd).q (by omega)).add ((((hr.a x j sd hj).mul hp).le (aF _)).q (by omega)) (IW (by decide)))
     (ay.bind (Qq hk hs h1 (hr.a x j sd hj) (fun c hc=>hr.a x c sd hc) (fun c hc=>hr.nJ h1 hi hj h0 hc)) (ay.if (by rw [bP,bP]) ?_))))))
    simp only [Qp,Am]
    refine Bn hm hk hi hj hs h1 hr h0 d (x+1) _ _ (by omega) (fun r c Au hc=>?_) fun r Au=>?_
    ·by_cases q2:r=x
     ·have q4:x < x+1∧x≠i:=⟨by omega,e⟩
      simp only [q2,q4,if_true,if_false,bB.js,and_self,ne_eq,not_false_eq_true]
      by_cases q3:c=j
      ·simp only [q3,if_true]
      ·simp only [q3,if_false]
     ·simp only [q2,if_false]
      rw [hA r c Au hc]
      by_cases q:r < x∧r≠i
      ·rw [if_pos q,if_pos ⟨by omega,q.2⟩]
      ·rw [if_neg q,if_neg (by omega)]
    ·by_cases q2:r=x
     ·rw [if_pos q2,if_pos (by omega),q2]
      simp only [bB.js,if_neg e]
     ·rw [if_neg q2,hb r Au]
      by_cases q:r=i∨r < x
      ·rw [if_pos q,if_pos (by omega)]
      ·rw [if_neg q,if_neg (by omega)]
theorem FU (hm:m≤1000) (hk:k≤1000) (hi:i < m) (hj:j < k) (hs:5 * s≤MS) (h1:1≤s) (hr:D.DJ m k s) (h0:D.a i j≠0):∀ (d x:Nat) (R:Nat→Rat),x+d=k→(∀ c,c < k→R c=if c < x∧c≠j then D.nJ i j c else D.a i c) →
  ay (fun N g=>dx N (i:Int) (j:Int) (n:Int) (m:Int) (bA D.v).fN.fG (bA D.v).fN.fL (bA D.v).fD.fG (bA D.v).fD.fL (h:Int) (LN D.gV m) (LN D.fr k) (LA D.a m k) (LQ D.b m) (LQ D.g k)
   g (LQ R k) (x:Int)) (RT n m k h (D.js i j))
 | 0,x,R,hx,hR=>by
  have hp:RB (D.b i / D.a i j) (2 * s):=((hr.b i hi).div (hr.a i j hi hj) h0).le (by omega)
  have hc:=(hr.a i j hi hj).q (show s≤MS by omega)
  refine ay.succ (fun N g=>dx.eq_2 ..) (ay.aY (MA (m:=x) (n:=k) (by omega) (by simp only [an,wa _ _ hi,bP])) ?_)
  simp only [an,wa _ _ hi,fw _ _ hi,fw _ _ hj]
  refine ay.bind (yM (z:=1) (by decide) (by decide)) (ay.bind ((bB.WT.q (by decide)).Sw hc h0 (IW (by decide))) (ay.if (inl hj (bP _ _)) (ay.if (inl hi (bP _ _))
   (ay.bind (((hr.b i hi).q (by omega)).Sw hc h0 (IW (by decide))) (ay.bind (by have:=oY (hp.q (show 2 * s≤MS by omega)).ir (by decide) (IW (by decide));rwa [gS] at this) ?_)))))
  simp only [Am]
  have e1:=qN (f:=fun a=>if a=j then (1:Rat) / D.a i j else R a) (g:=D.nJ i j) (n:=k) fun c hc=>by
   by_cases q:c=j
   ·rw [if_pos q];unfold bB.nJ;rw [if_pos q]
   ·rw [if_neg q,hR c hc,if_pos ⟨by omega,q⟩]
  have:=(Bn hm hk hi hj hs h1 hr h0 m 0 D.a (fun a=>if a=i then -(D.b i / D.a i j) else D.b a) (by omega) (fun r c _ _=>by rw [if_neg (by omega)]) (fun r Au=>by
   by_cases q:r=i
   ·rw [if_pos q,if_pos (.inl q)];simp only [bB.js,if_pos q];rfl
   ·rw [if_neg q,if_neg (by omega)]) (n:=n) (h:=h)).diag
  rw [← e1] at this
  exact ay.one this
 | d+1,x,R,hx,hR=>by
  have rT:x < k:=by omega
  have hc:=(hr.a i j hi hj).q (show s≤MS by omega)
  have hd:RB (D.a i x / D.a i j) (2 * s):=((hr.a i x hi rT).div (hr.a i j hi hj) h0).le (by omega)
  have ex:R x=D.a i x:=by rw [hR x rT,if_neg (by omega)]
  refine ay.succ (fun N g=>dx.eq_2 ..) (ay.aL (Lj (n:=k) rT (by simp only [an,wa _ _ hi,bP])) ?_)
  simp only [an,wa _ _ hi,fw _ _ rT,ex,fw _ _ hj,aK (show x < 9223372036854775807 by omega),iX]
  by_cases e:x=j
  ·refine ay.aY (by simp;omega) (FU hm hk hi hj hs h1 hr h0 d (x+1) R (by omega) fun c hc=>?_)
   rw [hR c hc]
   by_cases q:c < x∧c≠j
   ·rw [if_pos q,if_pos ⟨by omega,q.2⟩]
   ·rw [if_neg q,if_neg (by omega)]
  ·refine ay.aL (by simp;omega) (ay.if (inl rT (bP _ _)) (ay.bind (((hr.a i x hi rT).q (by omega)).Sw hc h0 (IW (by decide))) (ay.bind (by have:=oY (hd.q (show 2 * s≤MS by omega)).ir (by decide) (IW (by decide));rwa [gS] at this) ?_)))
   simp only [Am]
   refine FU hm hk hi hj hs h1 hr h0 d (x+1) _ (by omega) fun c hc=>?_
   by_cases q2:c=x
   ·rw [if_pos q2,if_pos ⟨by omega,by omega⟩,q2];unfold bB.nJ;rw [if_neg e]
   ·rw [if_neg q2,hR c hc]
    by_cases q:c < x∧c≠j
    ·rw [if_pos q,if_pos ⟨by omega,q.2⟩]
    ·rw [if_neg q,if_neg (by omega)]
theorem FV (hm:m≤1000) (hk:k≤1000) (hi:i < m) (hj:j < k) (hs:5 * s≤MS) (h1:1≤s) (hr:D.DJ m k s) (h0:D.a i j≠0) :
  Gv (fun N=>jh N (i:Int) (j:Int) (n:Int) (m:Int) (bA D.v).fN.fG (bA D.v).fN.fL (bA D.v).fD.fG (bA D.v).fD.fL (h:Int) (LN D.gV m) (LN D.fr k) (LA D.a m k) (LQ D.b m) (LQ D.g k)) (RT n m k h (D.js i j)):=by
 have:=(FU hm hk hi hj hs h1 hr h0 k 0 (D.a i) (by omega) (fun c _=>by rw [if_neg (by omega)]) (n:=n) (h:=h)).diag
 refine Gv.if (by rw [k9];exact hi) (Gv.if (inl hi (k9 _ _ _)) (Gv.if (inl hj (by simp only [an,wa _ _ hi,bP])) ?_))
 simp only [an,wa _ _ hi]
 exact this
end
end Go.Den
namespace Go.Den
open Go.Ab
section
variable {n m k h j s:Nat} {D:bB}
def NL (D:bB) (x:Nat) (dC:Int):Prop:=(dC = -1∧∀ j,j < x→D.g j≤0)∨∃ b:Nat,dC=b∧b < x∧0 < D.g b∧∀ j',j' < x→0 < D.g j'→D.fr b≤D.fr j'
theorem Qr (hk:k≤1000) (hs:s≤MS) (hr:D.DJ m k s):∀ (d x:Nat) (dC:Int),x+d=k→NL D x dC →
  ∃ r,ay (fun N g=>bC N (n:Int) (m:Int) (bA D.v).fN.fG (bA D.v).fN.fL (bA D.v).fD.fG (bA D.v).fD.fL (h:Int) (LN D.gV m) (LN D.fr k) (LA D.a m k) (LQ D.b m) (LQ D.g k) g dC (x:Int)) r∧NL D k r
 | 0,x,dC,hx,hI=>⟨dC,ay.succ (fun N g=>bC.eq_2 ..) (ay.aY (MA (m:=x) (n:=k) (by omega) (eV _ _)) (ay.one (Gv.pure _))),by rw [show k=x by omega];exact hI⟩
 | d+1,x,dC,hx,hI=>by
  have rT:x < k:=by omega
  have hsg:=((hr.g x rT).q hs).oZ (by decide)
  have nx:∀ qO:Int,NL D (x+1) qO→(cond (cond (decide (oZ (D.g x) > 0)) (cond (decide (dC < 0)) true (decide ((LN D.fr k).getD x 0 < (LN D.fr k).getD dC.toNat 0))) false) (x:Int) dC)=qO →
    ∃ r,ay (fun N g=>bC N (n:Int) (m:Int) (bA D.v).fN.fG (bA D.v).fN.fL (bA D.v).fD.fG (bA D.v).fD.fL (h:Int) (LN D.gV m) (LN D.fr k) (LA D.a m k) (LQ D.b m) (LQ D.g k) (g+1) dC (x:Int)) r∧NL D k r:=fun qO h1 h2=>by
   obtain ⟨r,h3,h4⟩:=Qr hk hs hr d (x+1) qO (by omega) h1
   refine ⟨r,?_,h4⟩
   have hb:0≤dC→dC < ((k:Nat):Int):=fun h0=>by
    rcases hI with ⟨e,_⟩ | ⟨b,e,hb,_⟩<;>omega
   have:ay (fun N g=>bC N (n:Int) (m:Int) (bA D.v).fN.fG (bA D.v).fN.fL (bA D.v).fD.fG (bA D.v).fD.fL (h:Int) (LN D.gV m) (LN D.fr k) (LA D.a m k) (LQ D.b m) (LQ D.g k) (g+1) dC (x:Int)) r:=by
    simp only [bC]
    refine ay.aL (Lj (n:=k) rT (eV _ _)) (ay.if (inl rT (bP _ _)) ?_)
    simp only [an,fw _ _ rT,gq,aK (show x < 9223372036854775807 by omega)]
    refine ay.bind hsg (ay.if (fun _=>inl rT (eV _ _)) (ay.if (fun q=>?_) ?_))
    ·simp at q
     rw [eV];exact ⟨by omega,hb (by omega)⟩
    ·revert h2
     cases (cond (decide (oZ (D.g x) > 0)) (cond (decide (dC < 0)) true (decide ((LN D.fr k).getD x 0 < (LN D.fr k).getD dC.toNat 0))) false) with
     | true=>intro h2;refine ay.aL rfl ?_;simp only [cond_true] at h2;rw [h2];exact h3
     | false=>intro h2;refine ay.aY rfl ?_;simp only [cond_false] at h2;rw [h2];exact h3
   exact this
  have fin:∀ {qO:Int},NL D (x+1) qO→(cond (cond (decide (oZ (D.g x) > 0)) (cond (decide (dC < 0)) true (decide ((LN D.fr k).getD x 0 < (LN D.fr k).getD dC.toNat 0))) false) (x:Int) dC)=qO →
    ∃ r,ay (fun N g=>bC N (n:Int) (m:Int) (bA D.v).fN.fG (bA D.v).fN.fL (bA D.v).fD.fG (bA D.v).fD.fL (h:Int) (LN D.gV m) (LN D.fr k) (LA D.a m k) (LQ D.b m) (LQ D.g k) g dC (x:Int)) r∧NL D k r:=fun h1 h2=>by
   obtain ⟨r,h3,h4⟩:=nx _ h1 h2
   exact ⟨r,ay.succ (fun _ _=>rfl) h3,h4⟩
  by_cases hp:0 < D.g x
  ·have e1:decide (oZ (D.g x) > 0)=true:=decide_eq_true (Bi.2 hp)
   rcases hI with ⟨rfl,hb⟩ | ⟨b,rfl,hb,hg,tc⟩
   ·refine fin (qO:=x) (.inr ⟨x,rfl,by omega,hp,fun j' h1 h2=>?_⟩) (by rw [e1];rfl)
    by_cases e:j'=x
    ·rw [e];exact aF _
    ·exact absurd h2 (Rat.not_lt.2 (hb j' (by omega)))
   ·have e2:decide (((b:Nat):Int) < 0)=false:=by simp
    by_cases gk:D.fr x < D.fr b
    ·refine fin (qO:=x) (.inr ⟨x,rfl,by omega,hp,fun j' h1 h2=>?_⟩) (by
      rw [e1,e2,rj _ _ rT,an,rj _ _ (show b < k by omega),decide_eq_true (show ((D.fr x:Nat):Int) < ((D.fr b:Nat):Int) by omega)];rfl)
     by_cases e:j'=x
     ·rw [e];exact aF _
     ·have:=tc j' (by omega) h2;omega
    ·refine fin (qO:=b) (.inr ⟨b,rfl,by omega,hg,fun j' h1 h2=>?_⟩) (by
      rw [e1,e2,rj _ _ rT,an,rj _ _ (show b < k by omega),decide_eq_false (show ¬ ((D.fr x:Nat):Int) < ((D.fr b:Nat):Int) by omega)];rfl)
     by_cases e:j'=x
     ·rw [e];omega
     ·exact tc j' (by omega) h2
  ·have e1:decide (oZ (D.g x) > 0)=false:=decide_eq_false fun q=>hp (Bi.1 q)
   refine fin (qO:=dC) ?_ (by rw [e1];rfl)
   rcases hI with ⟨e,hb⟩ | ⟨b,e,hb,hg,tc⟩
   ·refine .inl ⟨e,fun j' h1=>?_⟩
    by_cases e2:j'=x
    ·rw [e2];exact Rat.not_lt.1 hp
    ·exact hb j' (by omega)
   ·refine .inr ⟨b,e,by omega,hg,fun j' h1 h2=>?_⟩
    by_cases e2:j'=x
    ·rw [e2] at h2;exact absurd h2 hp
    ·exact tc j' (by omega) h2
theorem U3 (hk:k≤1000) (hs:s≤MS) (hr:D.DJ m k s):∃ r,Gv (fun N=>kP N (n:Int) (m:Int) (bA D.v).fN.fG (bA D.v).fN.fL (bA D.v).fD.fG (bA D.v).fD.fL (h:Int) (LN D.gV m) (LN D.fr k) (LA D.a m k) (LQ D.b m) (LQ D.g k)) r ∧
  ((r = -1∧∀ j,j < k→D.g j≤0)∨∃ j:Nat,r=j∧D.DZ k j):=by
 obtain ⟨r,h1,h2⟩:=Qr hk hs hr k 0 (-1) (by omega) (.inl ⟨rfl,fun j hj=>absurd hj (cW _)⟩) (n:=n) (h:=h)
 refine ⟨r,h1.diag,?_⟩
 rcases h2 with h | ⟨b,e,q1,q2,q3⟩
 ·exact .inl h
 ·exact .inr ⟨b,e,q1,q2,q3⟩
def SD (D:bB) (j x:Nat) (dC:Int) (least:aa):Prop:=(dC = -1∧∀ i,i < x→0≤D.a i j)∨∃ b:Nat,dC=b∧b < x∧D.a b j < 0∧least=bA (D.ratio j b) ∧
 ∀ i',i' < x→D.a i' j < 0→D.ratio j b < D.ratio j i'∨D.ratio j b=D.ratio j i'∧D.gV b≤D.gV i'
theorem Qs (hm:m≤1000) (hj:j < k) (hs:2 * s≤MS) (hr:D.DJ m k s):∀ (d x:Nat) (dC:Int) (least:aa),x+d=m→SD D j x dC least →
  ∃ r l,ay (fun N g=>bI N (j:Int) (n:Int) (m:Int) (bA D.v).fN.fG (bA D.v).fN.fL (bA D.v).fD.fG (bA D.v).fD.fL (h:Int) (LN D.gV m) (LN D.fr k) (LA D.a m k) (LQ D.b m) (LQ D.g k) g dC least (x:Int)) r∧SD D j m r l
 | 0,x,dC,least,hx,hI=>⟨dC,least,ay.succ (fun N g=>bI.eq_2 ..) (ay.aY (MA (m:=x) (n:=m) (by omega) (eV _ _)) (ay.one (Gv.pure _))),by rw [show m=x by omega];exact hI⟩
 | d+1,x,dC,least,hx,hI=>by
  have sd:x < m:=by omega
  have ha:=(hr.a x j sd hj).q (show s≤MS by omega)
  have hsg:=ha.oZ (by decide)
  have ng:Gv (fun N=>fR N (bA (D.a x j))) (bA (-(D.a x j))):=by have:=oY ha.ir (by decide) (IW (by decide));rwa [gS] at this
  have nx:∀ (qO:Int) (FX:aa),SD D j (x+1) qO FX→(0≤D.a x j→qO=dC∧FX=least) →
    (D.a x j < 0→∀ c7:Int,(dC < 0∧c7 = -1∨∃ b:Nat,dC=b∧b < m∧c7=oZ (D.ratio j x - D.ratio j b)) →
     cond (cond (decide (c7 < 0)) true (cond (c7 == 0) (decide ((LN D.gV m).getD x 0 < (LN D.gV m).getD dC.toNat 0)) false)) ((x:Int),bA (D.ratio j x)) (dC,least)=(qO,FX)) →
    ∃ r l,ay (fun N g=>bI N (j:Int) (n:Int) (m:Int) (bA D.v).fN.fG (bA D.v).fN.fL (bA D.v).fD.fG (bA D.v).fD.fL (h:Int) (LN D.gV m) (LN D.fr k) (LA D.a m k) (LQ D.b m) (LQ D.g k) g dC least (x:Int)) r∧SD D j m r l:=fun qO FX h1 h2 h5=>by
   obtain ⟨r,l,h3,h4⟩:=Qs hm hj hs hr d (x+1) qO FX (by omega) h1
   refine ⟨r,l,ay.succ (fun N g=>bI.eq_2 ..) (ay.aL (Lj (n:=m) sd (eV _ _)) ?_),h4⟩
   simp only [an,wa _ _ sd,fw _ _ hj,fw _ _ sd,bP,k9,ef,aK (show x < 9223372036854775807 by omega)]
   refine ay.if sd (ay.if (oE sd) (ay.if (oE hj) (ay.bind hsg ?_)))
   by_cases hz:0≤D.a x j
   ·have e:decide (oZ (D.a x j)≥0)=true:=decide_eq_true (Int.not_lt.1 fun q=>by have:=ow.1 q;grind)
    obtain ⟨e1,e2⟩:=h2 hz
    refine ay.aL e ?_
    rw [e1,e2] at h3;exact h3
   ·have Ak:D.a x j < 0:=Rat.not_le.1 hz
    have e:decide (oZ (D.a x j)≥0)=false:=decide_eq_false fun q=>by have:=ow.2 Ak;omega
    have h0:-(D.a x j)≠0:=by grind
    have hov:=((hr.b x sd).q (show s≤MS by omega)).Sw (((hr.a x j sd hj).neg).q (show s≤MS by omega)) h0 (IW (by decide))
    refine ay.aY e (ay.if (oE sd) (ay.bind ng (ay.bind hov ?_)))
    have hJ3:∀ c7:Int,(dC < 0∧c7 = -1∨∃ b:Nat,dC=b∧b < m∧c7=oZ (D.ratio j x - D.ratio j b))→ay (fun N g=>fb N (j:Int) (n:Int) (m:Int) (bA D.v).fN.fG (bA D.v).fN.fL (bA D.v).fD.fG (bA D.v).fD.fL (h:Int) (LN D.gV m) (LN D.fr k) (LA D.a m k) (LQ D.b m) (LQ D.g k) dC least (x:Int) (bA (D.b x / -(D.a x j)))
      (bI N (j:Int) (n:Int) (m:Int) (bA D.v).fN.fG (bA D.v).fN.fL (bA D.v).fD.fG (bA D.v).fD.fL (h:Int) (LN D.gV m) (LN D.fr k) (LA D.a m k) (LQ D.b m) (LQ D.g k) g) c7) r:=fun c7 hc=>by
     have h6:=h5 Ak c7 hc
     simp only [fb,ef,an,aK (show x < 9223372036854775807 by omega)]
     refine ay.if (fun _=>inl sd (eV _ _)) (ay.if (fun q=>?_) ?_)
     ·rw [eV]
      rcases hc with ⟨_,e⟩ | ⟨b,e,hb,_⟩
      ·simp [e] at q
      ·omega
     ·revert h6
      cases (cond (decide (c7 < 0)) true (cond (c7 == 0) (decide ((LN D.gV m).getD x 0 < (LN D.gV m).getD dC.toNat 0)) false)) with
      | true=>intro h6;simp only [cond_true,az] at h6;refine ay.aL rfl ?_;rw [← h6.1,← h6.2] at h3;exact h3
      | false=>intro h6;simp only [cond_false,az] at h6;refine ay.aY rfl ?_;rw [← h6.1,← h6.2] at h3;exact h3
    rcases hI with ⟨e1,_⟩ | ⟨b,e1,hb,hbn,e2,_⟩
    ·exact ay.aY (by simp [e1]) (hJ3 (-1) (.inl ⟨by omega,rfl⟩))
    ·have Vw:b < m:=by omega
     have q1:RB (D.ratio j x) (2 * s):=by unfold bB.ratio;exact ((hr.b x sd).div (hr.a x j sd hj).neg h0).le (by omega)
     have q2:RB (D.ratio j b) (2 * s):=by unfold bB.ratio;exact ((hr.b b Vw).div (hr.a b j Vw hj).neg (by grind)).le (by omega)
     refine ay.aL (by simp [e1]) (ay.bind (r:=oZ (D.ratio j x - D.ratio j b)) ?_ (hJ3 _ (.inr ⟨b,e1,Vw,rfl⟩)))
     rw [e2]
     exact (q1.q hs).cmp (q2.q hs) (IW (by decide))
  by_cases hz:0≤D.a x j
  ·refine nx dC least ?_ (fun _=>⟨rfl,rfl⟩) fun q=>by grind
   rcases hI with ⟨e,hb⟩ | ⟨b,e,hb,hg,e3,tc⟩
   ·refine .inl ⟨e,fun j' h1=>?_⟩
    by_cases e2:j'=x
    ·rw [e2];exact hz
    ·exact hb j' (by omega)
   ·refine .inr ⟨b,e,by omega,hg,e3,fun j' h1 h2=>?_⟩
    by_cases e2:j'=x
    ·rw [e2] at h2;grind
    ·exact tc j' (by omega) h2
  ·have Ak:D.a x j < 0:=Rat.not_le.1 hz
   rcases hI with ⟨rfl,hb⟩ | ⟨b,rfl,hb,hg,rfl,tc⟩
   ·refine nx x (bA (D.ratio j x)) (.inr ⟨x,rfl,by omega,Ak,rfl,fun j' h1 h2=>?_⟩) (fun q=>by grind) fun _ c7 hc=>?_
    ·by_cases e:j'=x
     ·rw [e];exact .inr ⟨rfl,aF _⟩
     ·have:=hb j' (by omega);grind
    ·rcases hc with ⟨_,e⟩ | ⟨b,e,_⟩
     ·rw [e];rfl
     ·omega
   ·have XS:∀ c7:Int,(((b:Nat):Int) < 0∧c7 = -1∨∃ b':Nat,((b:Nat):Int)=b'∧b' < m∧c7=oZ (D.ratio j x - D.ratio j b'))→c7=oZ (D.ratio j x - D.ratio j b):=fun c7 hc=>by
     rcases hc with ⟨e,_⟩ | ⟨b',e,_,e2⟩
     ·omega
     ·rw [e2,show b'=b by omega]
    have Vw:b < m:=by omega
    by_cases h1:D.ratio j x < D.ratio j b
    ·refine nx x (bA (D.ratio j x)) (.inr ⟨x,rfl,by omega,Ak,rfl,fun j' q1 q2=>?_⟩) (fun q=>by grind) fun _ c7 hc=>?_
     ·by_cases e:j'=x
      ·rw [e];exact .inr ⟨rfl,aF _⟩
      ·rcases tc j' (by omega) q2 with q3 | ⟨q3,_⟩
       ·exact .inl (by grind)
       ·exact .inl (by grind)
     ·rw [XS c7 hc,decide_eq_true (ow.2 (show D.ratio j x - D.ratio j b < 0 by grind))];rfl
    ·have OL:decide (oZ (D.ratio j x - D.ratio j b) < 0)=false:=decide_eq_false fun q=>by have:=ow.1 q;grind
     by_cases h2:D.ratio j x=D.ratio j b
     ·have N5:(oZ (D.ratio j x - D.ratio j b) == 0)=true:=by rw [beq_iff_eq];exact FJ.2 (by grind)
      by_cases h3:D.gV x < D.gV b
      ·refine nx x (bA (D.ratio j x)) (.inr ⟨x,rfl,by omega,Ak,rfl,fun j' q1 q2=>?_⟩) (fun q=>by grind) fun _ c7 hc=>?_
       ·by_cases e:j'=x
        ·rw [e];exact .inr ⟨rfl,aF _⟩
        ·rcases tc j' (by omega) q2 with q3 | ⟨q3,q4⟩
         ·exact .inl (by grind)
         ·exact .inr ⟨by grind,by omega⟩
       ·rw [XS c7 hc,OL,N5,rj _ _ sd,an,rj _ _ Vw,decide_eq_true (show ((D.gV x:Nat):Int) < ((D.gV b:Nat):Int) by omega)];rfl
      ·refine nx b (bA (D.ratio j b)) (.inr ⟨b,rfl,by omega,hg,rfl,fun j' q1 q2=>?_⟩) (fun q=>by grind) fun _ c7 hc=>?_
       ·by_cases e:j'=x
        ·rw [e];exact .inr ⟨h2.symm,by omega⟩
        ·exact tc j' (by omega) q2
       ·rw [XS c7 hc,OL,N5,rj _ _ sd,an,rj _ _ Vw,decide_eq_false (show ¬ ((D.gV x:Nat):Int) < ((D.gV b:Nat):Int) by omega)];rfl
     ·have N5:(oZ (D.ratio j x - D.ratio j b) == 0)=false:=by
       rw [beq_eq_false_iff_ne];intro q;have:=FJ.1 q;grind
      refine nx b (bA (D.ratio j b)) (.inr ⟨b,rfl,by omega,hg,rfl,fun j' q1 q2=>?_⟩) (fun q=>by grind) fun _ c7 hc=>?_
      ·by_cases e:j'=x
       ·rw [e];exact .inl (by grind)
       ·exact tc j' (by omega) q2
      ·rw [XS c7 hc,OL,N5];rfl
theorem U4 (hm:m≤1000) (hj:j < k) (hs:2 * s≤MS) (hr:D.DJ m k s):∃ r,Gv (fun N=>lh N (j:Int) (n:Int) (m:Int) (bA D.v).fN.fG (bA D.v).fN.fL (bA D.v).fD.fG (bA D.v).fD.fL (h:Int) (LN D.gV m) (LN D.fr k) (LA D.a m k) (LQ D.b m) (LQ D.g k)) r ∧
  ((r = -1∧∀ i,i < m→0≤D.a i j)∨∃ i:Nat,r=i∧D.Bm m j i):=by
 obtain ⟨r,l,h1,h2⟩:=Qs hm hj hs hr m 0 (-1) _ (by omega) (.inl ⟨rfl,fun j hj=>absurd hj (cW _)⟩) (n:=n) (h:=h)
 refine ⟨r,h1.diag,?_⟩
 rcases h2 with h | ⟨b,e,q1,q2,_,q3⟩
 ·exact .inl h
 ·exact .inr ⟨b,e,q1,q2,q3⟩
def Stop (D:bB) (m k:Nat) (r:Int):Prop:=(r = -1∧∀ j,j < k→D.g j≤0)∨∃ j:Nat,r=j∧D.DZ k j∧∀ i,i < m→0≤D.a i j
theorem Qt {e5:Nat} (h5:m≤e5∨k≤e5) (hm:m≤1000) (hk:k≤1000) {D0:bB} (h0:D0.WF m k) (Ik:D0.DJ m k s) (h1:1≤s) (hs:5 * (5 ^ e5 * s)≤MS) (hw:D.WF m k) (hf:D.J6 m) (he:bB.BA m k D0 D) :
  ∃ D' r,D'.WF m k∧D'.J6 m∧bB.BA m k D0 D'∧Stop D' m k r∧ay (fun N g=>dy N g (n:Int) (m:Int) (LN D.gV m) (LN D.fr k) (LA D.a m k) (LQ D.b m) (LQ D.g k) (bA D.v).fN.fG (bA D.v).fN.fL (bA D.v).fD.fG (bA D.v).fD.fL (h:Int)) (r,RT n m k h D'):=by
 induction bB.Qi hw hf with
 | intro D _ ih =>
  have hr:=bB.Kb h5 hw h0 he Ik h1
  have M1:1≤5 ^ e5 * s:=dU h1 (Nat.le_mul_of_pos_left _ (Nat.pow_pos (by decide)))
  obtain ⟨r,e1,e2⟩:=U3 hk (by omega) hr (n:=n) (h:=h)
  rcases e2 with ⟨rfl,e2⟩ | ⟨j,rfl,e2⟩
  ·exact ⟨D,-1,hw,hf,he,.inl ⟨rfl,e2⟩,ay.succ (fun N g=>dy.eq_2 ..) (ay.bind e1 (ay.aL (by decide) (ay.one (Gv.pure _))))⟩
  ·obtain ⟨r,e3,e4⟩:=U4 hm e2.lt (by omega) hr (n:=n) (h:=h)
   rcases e4 with ⟨rfl,e4⟩ | ⟨i,rfl,e4⟩
   ·exact ⟨D,j,hw,hf,he,.inr ⟨j,rfl,e2,e4⟩,ay.succ (fun N g=>dy.eq_2 ..) (ay.bind e1 (ay.aY (by simp) (ay.bind e3 (ay.aL (by decide) (ay.one (Gv.pure _))))))⟩
   ·have fP:D.a i j≠0:=by have:=e4.neg;grind
    obtain ⟨D',r,q1,q2,q3,q4,q5⟩:=ih (D.js i j) ⟨j,i,e2,e4,rfl⟩ (hw.js e4.lt e2.lt) (hf.js e4) (he.trans (.js e4.lt e2.lt fP))
    refine ⟨D',r,q1,q2,q3,q4,ay.succ (fun N g=>dy.eq_2 ..) (ay.bind e1 (ay.aY (by simp) (ay.bind e3 (ay.aY (by simp) (ay.bind (FV hm hk e4.lt e2.lt hs M1 hr fP) ?_)))))⟩
    simp only [RT,eV,k9,bP]
    exact ay.if trivial (ay.if trivial (ay.if trivial (ay.if trivial (ay.if trivial q5))))
end
end Go.Den
namespace Go.Den
open Go.Ab
theorem Qu {f:Nat→Nat} {k v:Nat} (hk:k≤1000):∀ d x,x+d=k→(∀ j,j < x→f j≠v)→∃ r,ay (fun N g=>cb N (LN f k) (v:Int) g (x:Int)) r∧((r = -1∧∀ j,j < k→f j≠v)∨∃ j:Nat,r=j∧j < k∧f j=v)
 | 0,x,hx,h=>⟨-1,ay.succ (fun N g=>cb.eq_2 ..) (ay.aY (MA (m:=x) (n:=k) (by omega) (eV _ _)) (ay.one (Gv.pure _))),.inl ⟨rfl,fun j hj=>h j (by omega)⟩⟩
 | d+1,x,hx,h=>by
  have rT:x < k:=by omega
  by_cases e:f x=v
  ·refine ⟨x,ay.succ (fun N g=>cb.eq_2 ..) (ay.aL (Lj (n:=k) rT (eV _ _)) (ay.if (inl rT (eV _ _)) (ay.aL ?_ (ay.one (Gv.pure _))))),.inr ⟨x,rfl,rT,e⟩⟩
   rw [an,rj _ _ rT,e];simp
  ·obtain ⟨r,h1,h2⟩:=Qu (f:=f) (v:=v) hk d (x+1) (by omega) fun j hj=>by
    by_cases q:j=x
    ·rw [q];exact e
    ·exact h j (by omega)
   refine ⟨r,ay.succ (fun N g=>cb.eq_2 ..) (ay.aL (Lj (n:=k) rT (eV _ _)) (ay.if (inl rT (eV _ _)) (ay.aY ?_ ?_))),h2⟩
   ·rw [an,rj _ _ rT];simp;omega
   ·rw [aK (show x < 9223372036854775807 by omega)];exact h1
theorem Ix {f:Nat→Nat} {k v:Nat} (hk:k≤1000):∃ r,Gv (fun N=>eh N (LN f k) (v:Int)) r∧((r = -1∧∀ j,j < k→f j≠v)∨∃ j:Nat,r=j∧j < k∧f j=v):=by
 obtain ⟨r,h1,h2⟩:=Qu (f:=f) (v:=v) hk k 0 (by omega) fun j hj=>absurd hj (cW _)
 exact ⟨r,h1.diag,h2⟩
theorem Qv {f:Nat→Rat} {k s:Nat} (hk:k≤1000) (hs:s≤MS) (hf:∀ j,j < k→RB (f j) s):∀ d x,x+d=k→(∀ j,j < x→f j=0) →
  ∃ r,ay (fun N g=>cd N (LQ f k) g (x:Int)) r∧((r = -1∧∀ j,j < k→f j=0)∨∃ j:Nat,r=j∧j < k∧f j≠0)
 | 0,x,hx,h=>⟨-1,ay.succ (fun N g=>cd.eq_2 ..) (ay.aY (MA (m:=x) (n:=k) (by omega) (bP _ _)) (ay.one (Gv.pure _))),.inl ⟨rfl,fun j hj=>h j (by omega)⟩⟩
 | d+1,x,hx,h=>by
  have rT:x < k:=by omega
  have hz:Gv (fun N=>kQ N (bA (f x))) (!decide (f x=0)):=Gv.bind (((hf x rT).q hs).zero (by decide)) (Gv.pure _)
  by_cases e:f x=0
  ·obtain ⟨r,h1,h2⟩:=Qv hk hs hf d (x+1) (by omega) fun j hj=>by
    by_cases q:j=x
    ·rw [q];exact e
    ·exact h j (by omega)
   refine ⟨r,ay.succ (fun N g=>cd.eq_2 ..) (ay.aL (Lj (n:=k) rT (bP _ _)) (ay.if (inl rT (bP _ _)) ?_)),h2⟩
   simp only [an,fw _ _ rT,aK (show x < 9223372036854775807 by omega)]
   exact ay.bind hz (ay.aY (by simp [e]) h1)
  ·refine ⟨x,ay.succ (fun N g=>cd.eq_2 ..) (ay.aL (Lj (n:=k) rT (bP _ _)) (ay.if (inl rT (bP _ _)) ?_)),.inr ⟨x,rfl,rT,e⟩⟩
   simp only [an,fw _ _ rT]
   exact ay.bind hz (ay.aL (by simp [e]) (ay.one (Gv.pure _)))
theorem U5 {f:Nat→Rat} {k s:Nat} (hk:k≤1000) (hs:s≤MS) (hf:∀ j,j < k→RB (f j) s) :
  ∃ r,Gv (fun N=>jA N (LQ f k)) r∧((r = -1∧∀ j,j < k→f j=0)∨∃ j:Nat,r=j∧j < k∧f j≠0):=by
 obtain ⟨r,h1,h2⟩:=Qv hk hs hf k 0 (by omega) fun j hj=>absurd hj (cW _)
 exact ⟨r,h1.diag,h2⟩
def sk (c j:Nat):Nat:=if j < c then j else j+1
section
variable {α:Type}
theorem ME (f:Nat→α) {k c:Nat} (hc:c≤k):(kE (Al f (k+1)) c (c+1)).take ((c - 0)+((Al f (k+1)).length - (c+1)))=Al (fun j=>f (sk c j)) k:=by
 refine List.ext_getElem? fun j=>?_
 have e1:((Al f (k+1)).take c).length=c:=by rw [n9,pR];omega
 have e3:∀ {n i:Nat} (g:Nat→α),(Al g n)[i]?=if i < n then some (g i) else none:=fun {n i} g=>by
  unfold Al
  by_cases h:i < n<;>simp [h]
 rw [o8,pR,e3]
 unfold kE
 by_cases h:j < c
 ·rw [if_pos (by omega),if_pos (by omega),List.append_assoc,ia (by omega),o8,if_pos h,e3,if_pos (by omega)]
  unfold sk;rw [if_pos h]
 ·by_cases h2:j < k
  ·have e2:((Al f (k+1)).drop (c+1)).length=k - c:=by rw [List.length_drop,pR];omega
   rw [if_pos (by omega),if_pos h2,List.append_assoc,jt (by omega),e1,ia (by omega),oa,e3,if_pos (by omega)]
   unfold sk;rw [if_neg h,show c+1+(j - c)=j+1 by omega]
  ·rw [if_neg (by omega),if_neg h2]
theorem MF (f:Nat→α) {k c:Nat} (hc:c≤k):(kE (Al f (k+1)) c (c+1)).length=k+1:=by
 rw [← DS ⟨by omega,by rw [pR];omega⟩,pR]
end
theorem SE (f:Nat→Nat) {k c:Nat} (hc:c≤k) (hk:k≤1000):Gv (fun N=>ji N (c:Int) (ag ((c:Int)+1)) (LN f (k+1))) (LN (fun j=>f (sk c j)) k,LN (fun j=>f (sk c j)) k):=by
 rw [aK (by omega)]
 have e:=MF (fun i=>((f i:Nat):Int)) hc
 have e2:=ME (fun i=>((f i:Nat):Int)) hc
 refine Gv.if (by rw [eV];omega) (Gv.aY (by simp;omega) ?_)
 simp only [an]
 refine Gv.if (by rw [eV];omega) (Gv.if (by omega) (Gv.if (by rw [eV];omega) (Gv.if (by omega) (Gv.if (by rw [eV];omega) (Gv.if (by rw [eV];omega) (Gv.if ?_ (Gv.if ?_ ((Gv.pure _).eq ?_))))))))
 ·rw [eV];unfold LN;rw [e];omega
 ·rw [eV];unfold LN;rw [e];omega
 ·unfold LN;rw [e2]
theorem SG (f:Nat→Rat) {k c:Nat} (hc:c≤k) (hk:k≤1000):Gv (fun N=>lj N (c:Int) (ag ((c:Int)+1)) (LQ f (k+1))) (LQ (fun j=>f (sk c j)) k,LQ (fun j=>f (sk c j)) k):=by
 rw [aK (by omega)]
 have e:=MF (fun i=>bA (f i)) hc
 have e2:=ME (fun i=>bA (f i)) hc
 refine Gv.if (by rw [bP];omega) (Gv.aY (by simp;omega) ?_)
 simp only [an]
 refine Gv.if (by rw [bP];omega) (Gv.if (by omega) (Gv.if (by rw [bP];omega) (Gv.if (by omega) (Gv.if (by rw [bP];omega) (Gv.if (by rw [bP];omega) (Gv.if ?_ (Gv.if ?_ ((Gv.pure _).eq ?_))))))))
 ·rw [bP];unfold LQ;rw [e];omega
 ·rw [bP];unfold LQ;rw [e];omega
 ·unfold LQ;rw [e2]
def bB.del (D:bB) (c:Nat):bB where
 gV:=D.gV
 fr:=fun j=>D.fr (sk c j)
 a:=fun i j=>D.a i (sk c j)
 b:=D.b
 g:=fun _=>0
 v:=0
def RS (ok:Bool) (n m k h:Nat) (D:bB):Bool×ly×List Int×List Int×List (List aa)×List aa :=
 (ok,⟨n,m,LN D.gV m,LN D.fr k,LA D.a m k,LQ D.b m,LQ D.g k,bA D.v,h⟩,LN D.gV m,LN D.fr k,LA D.a m k,LQ D.b m)
section
variable {n m k h c s:Nat} {D:bB}
theorem U6 (z:Int) (h1:-1000≤z) (h2:z≤1000):Gv (fun N=>fZ N z) (bA (z:Rat)):=yM (by omega) (by omega)
theorem tH:Gv (fun N=>fZ N 0) (bA 0):=yM (z:=0) (by decide) (by decide)
theorem Qw (hk:k≤1000) {v1 v3:Bool} {v2 v4:List Int}:∀ (d x:Nat) (L:List aa),x+d=k→L.length=k→(∀ j,j < x→L.getD j aa.d=bA 0) →
  ay (fun N g=>dJ N (n:Int) (m:Int) (LN D.gV m) (LQ D.b m) v1 v2 v3 v4 (h:Int) (LN (fun j=>D.fr (sk c j)) k,LN (fun j=>D.fr (sk c j)) k) (LA (fun i j=>D.a i (sk c j)) m k) g L (x:Int)) (RS true n m k h (D.del c))
 | 0,x,L,hx,hl,h0=>by
  refine ay.succ (fun N g=>dJ.eq_2 ..) (ay.aY (MA (m:=x) (n:=k) (by omega) (by rw [dj,eV])) (ay.bind tH (ay.one ((Gv.pure _).eq ?_))))
  rw [show L=LQ (fun _=>0) k from FT aa.d hl fun j hj=>h0 j (by omega)]
  rfl
 | d+1,x,L,hx,hl,h0=>by
  have rT:x < k:=by omega
  refine ay.succ (fun N g=>dJ.eq_2 ..) (ay.aL (Lj (n:=k) rT (by rw [dj,eV])) (ay.bind tH (ay.if (inl rT hl) ?_)))
  rw [aK (show x < 9223372036854775807 by omega)]
  refine Qw hk d (x+1) _ (by omega) (by rw [List.length_set];exact hl) fun j hj=>?_
  rw [an]
  by_cases e:x=j
  ·subst e;exact lx _ _ _ _ (by omega)
  ·rw [jm _ _ _ e];exact h0 j (by omega)
theorem Qx (hm:m≤1000) (hk:k≤1000) (hc:c≤k) {g0:List aa} {v1 v3:Bool} {v2 v4:List Int}:∀ (d x:Nat) (G:Nat→List aa),x+d=m→(∀ r,r < m→G r=if r < x then LQ (fun j=>D.a r (sk c j)) k else LQ (D.a r) (k+1)) →
  ay (fun N g=>dK N (n:Int) (m:Int) (LN D.gV m) (LA D.a m (k+1)) (LQ D.b m) g0 v1 v2 v3 v4 (h:Int) (c:Int) (LN (fun j=>D.fr (sk c j)) k,LN (fun j=>D.fr (sk c j)) k) g (Al G m) (x:Int)) (RS true n m k h (D.del c))
 | 0,x,G,hx,hG=>by
  refine ay.succ (fun N g=>dK.eq_2 ..) (ay.aY (MA (m:=x) (n:=m) (by omega) (k9 _ _ _)) ?_)
  simp only [eV]
  refine ay.if (by omega) ?_
  rw [show Al G m=LA (fun i j=>D.a i (sk c j)) m k from qg fun r hr=>by rw [hG r hr,if_pos (by omega)]]
  have:=(Qw hk (n:=n) (m:=m) (h:=h) (c:=c) (D:=D) (v1:=v1) (v2:=v2) (v3:=v3) (v4:=v4) k 0 (List.replicate k aa.d) (by omega) dj fun j hj=>absurd hj (cW _)).diag
  exact ay.one this
 | d+1,x,G,hx,hG=>by
  have sd:x < m:=by omega
  have e:G x=LQ (D.a x) (k+1):=by rw [hG x sd,if_neg (by omega)]
  refine ay.succ (fun N g=>dK.eq_2 ..) (ay.aL (Lj (n:=m) sd (k9 _ _ _)) (ay.if (by rw [pR];exact sd) (ay.if (inl sd (pR _ _)) ?_)))
  simp only [an,D2 _ _ sd,e]
  refine ay.bind (SG (D.a x) hc hk) ?_
  rw [aK (show x < 9223372036854775807 by omega),D3]
  refine Qx hm hk hc d (x+1) _ (by omega) fun r hr=>?_
  by_cases q:r=x
  ·rw [if_pos q,if_pos (by omega),q]
  ·rw [if_neg q,hG r hr]
   by_cases q2:r < x
   ·rw [if_pos q2,if_pos (by omega)]
   ·rw [if_neg q2,if_neg (by omega)]
theorem Qy (hm:m≤1000) (hk:k≤999) (hw:D.WF m (k+1)) (hc:c < k+1) (hh:D.fr c=h) :
  Gv (fun N=>iv N (n:Int) (m:Int) (LN D.gV m) (LN D.fr (k+1)) (LA D.a m (k+1)) (LQ D.b m) (LQ D.g (k+1)) (bA D.v).fN.fG (bA D.v).fN.fL (bA D.v).fD.fG (bA D.v).fD.fL (h:Int)) (RS true n m k h (D.del c)):=by
 obtain ⟨r,h1,h2⟩:=Ix (f:=D.fr) (k:=k+1) (v:=h) (by omega)
 rcases h2 with ⟨_,h2⟩ | ⟨j,rfl,hj,h2⟩
 ·exact absurd hh (h2 c hc)
 ·obtain rfl:j=c:=hw.fi j c hj hc (h2.trans hh.symm)
  refine Gv.bind h1 (Gv.bind (SE D.fr (by omega) (by omega)) ?_)
  have:=(Qx hm (show k≤1000 by omega) (show j≤k by omega) (n:=n) (h:=h) (D:=D) (g0:=LQ D.g (k+1)) (v1:=(bA D.v).fN.fG) (v2:=(bA D.v).fN.fL) (v3:=(bA D.v).fD.fG) (v4:=(bA D.v).fD.fL) m 0 (fun r=>LQ (D.a r) (k+1)) (by omega) fun r _=>by rw [if_neg (cW _)]).diag
  exact this
structure Bo (n m:Nat) (C:Nat→Nat→Rat) (B:Nat→Rat) (D:bB) (c:Nat):Prop where
 wf:D.WF m (2 * n+1)
 fea:D.J6 m
 eqv:(∃ z,bB.BA m (2 * n+1) (bB.fst n m C B z) D)
 lt:c < 2 * n+1
 fr:D.fr c=2 * n+m
variable {C:Nat→Nat→Rat} {B:Nat→Rat}
theorem Qz {e5:Nat} (h5:m≤e5∨2 * n+1≤e5) (hm:m≤1000) (hn:2 * n≤998) {z:Rat} (Ik:(bB.fst n m C B z).DJ m (2 * n+1) s) (h1:1≤s) (hs:5 * (5 ^ e5 * s)≤MS) (hw:D.WF m (2 * n+1)) (hf:D.J6 m) (he:bB.BA m (2 * n+1) (bB.fst n m C B z) D)
  (UZ:∀ i,i < m→D.gV i=2 * n+m→D.b i=0∧∃ j,j < 2 * n+1∧D.a i j≠0) :
  ∃ D' c,Bo n m C B D' c∧Gv (fun N=>fC N (n:Int) (m:Int) (LN D.gV m) (LN D.fr (2 * n+1)) (LA D.a m (2 * n+1)) (LQ D.b m) (LQ D.g (2 * n+1)) (bA D.v).fN.fG (bA D.v).fN.fL (bA D.v).fD.fG (bA D.v).fD.fL ((2 * n+m:Nat):Int)) (RS true n m (2 * n) (2 * n+m) (D'.del c)):=by
 have hr:=bB.Kb h5 hw (bB.FO n m C B z) he Ik h1
 have M1:1≤5 ^ e5 * s:=dU h1 (Nat.le_mul_of_pos_left _ (Nat.pow_pos (by decide)))
 obtain ⟨r,q1,q2⟩:=Ix (f:=D.gV) (k:=m) (v:=2 * n+m) hm
 rcases q2 with ⟨rfl,q2⟩ | ⟨i,rfl,hi,q2⟩
 ·obtain ⟨c,hc,N4⟩:=bB.yO hw (u:=2 * n+m) (by omega) fun ⟨i,hi,e⟩=>q2 i hi e
  exact ⟨D,c,⟨hw,hf,⟨z,he⟩,hc,N4⟩,Gv.bind q1 (Gv.aY (by decide) (Qy hm (by omega) hw hc N4))⟩
 ·obtain ⟨hb,j0,Xe,ZR⟩:=UZ i hi q2
  obtain ⟨r,q3,q4⟩:=U5 (f:=D.a i) (k:=2 * n+1) (by omega) (show 5 ^ e5 * s≤MS by omega) fun j hj=>hr.a i j hi hj
  rcases q4 with ⟨_,q4⟩ | ⟨j,rfl,hj,q4⟩
  ·exact absurd (q4 j0 Xe) ZR
  ·refine ⟨D.js i j,j,⟨hw.js hi hj,bB.Qn hf hb,⟨z,he.trans (.js hi hj q4)⟩,hj,by simp only [bB.js,if_true];exact q2⟩,Gv.bind q1 (Gv.aL (by simp) ?_)⟩
   simp only [an,wa _ _ hi]
   refine Gv.if (by rw [k9];exact hi) (Gv.if (inl hi (k9 _ _ _)) (Gv.bind q3 (Gv.bind (FV hm (by omega) hi hj hs M1 hr q4) ?_)))
   simp only [RT,eV,k9,bP]
   exact Gv.if trivial (Gv.if trivial (Gv.if trivial (Gv.if trivial (Gv.if trivial (Qy hm (by omega) (hw.js hi hj) hj (by simp only [bB.js,if_true];exact q2))))))
def WY (B:Nat→Rat) (x:Nat) (low:Int):Prop:=(low = -1∧∀ r,r < x→0≤B r)∨∃ l:Nat,low=l∧l < x∧B l < 0∧∀ r,r < x→B l≤B r
structure D4 (n m:Nat) (C:Nat→Nat→Rat) (B:Nat→Rat) (D:bB):Prop where
 wf:D.WF m (2 * n+1)
 eqv:bB.BA m (2 * n+1) (bB.fst n m C B (-1)) D
 g:∀ j,j < 2 * n+1→D.g j≤0
 v:D.v < 0
theorem MG (z:Rat) (hz:RB z s) (hr:(bB.fst n m C B 0).DJ m (2 * n+1) s):(bB.fst n m C B z).DJ m (2 * n+1) s:=by
 refine ⟨hr.a,hr.b,fun j hj=>?_,hr.v⟩
 have:=hr.g j hj
 simp only [bB.fst] at this ⊢
 split
 ·rw [if_pos (by assumption)] at this;exact this
 ·exact hz
theorem QA {e5:Nat} (h5:m≤e5∨2 * n+1≤e5) (hm:m≤1000) (hn:2 * n≤998) (hr:(bB.fst n m C B 0).DJ m (2 * n+1) s) (h1:1≤s) (hs:5 * (5 ^ e5 * s)≤MS):∀ (d x:Nat) (low:Int),x+d=m→WY B x low →
  ∃ r,ay (fun N g=>bt N (n:Int) (m:Int) (bA 0).fN.fG (bA 0).fN.fL (bA 0).fD.fG (bA 0).fD.fL ((2 * n+m:Nat):Int) (LN (bB.fst n m C B 0).gV m) (LN (bB.fst n m C B 0).fr (2 * n+1))
    (LA (bB.fst n m C B 0).a m (2 * n+1)) (LQ B m) (LQ (bB.fst n m C B 0).g (2 * n+1)) g low (x:Int)) r ∧
   ((∃ D,D4 n m C B D∧r=RS false n m (2 * n+1) (2 * n+m) D)∨∃ D c,Bo n m C B D c∧r=RS true n m (2 * n) (2 * n+m) (D.del c))
 | 0,x,low,hx,hI=>by
  have sd:x=m:=by omega
  subst sd
  have step:∀ {r},(∃ N0:Nat,True)→ay (fun N g=>bt N (n:Int) (x:Int) (bA 0).fN.fG (bA 0).fN.fL (bA 0).fD.fG (bA 0).fD.fL ((2 * n+x:Nat):Int) (LN (bB.fst n x C B 0).gV x) (LN (bB.fst n x C B 0).fr (2 * n+1))
    (LA (bB.fst n x C B 0).a x (2 * n+1)) (LQ B x) (LQ (bB.fst n x C B 0).g (2 * n+1)) (g+1) low (x:Int)) r→ay (fun N g=>bt N (n:Int) (x:Int) (bA 0).fN.fG (bA 0).fN.fL (bA 0).fD.fG (bA 0).fD.fL ((2 * n+x:Nat):Int) (LN (bB.fst n x C B 0).gV x) (LN (bB.fst n x C B 0).fr (2 * n+1))
    (LA (bB.fst n x C B 0).a x (2 * n+1)) (LQ B x) (LQ (bB.fst n x C B 0).g (2 * n+1)) g low (x:Int)) r:=fun _ h=>ay.succ (fun _ _=>rfl) h
  rcases hI with ⟨rfl,hB⟩ | ⟨l,rfl,hl,Ak,tc⟩
  ·obtain ⟨D,c,q1,q2⟩:=Qz (D:=bB.fst n x C B 0) h5 hm hn hr h1 hs (bB.FO n x C B 0) hB (.refl _ _ _) fun i hi e=>by
    simp only [bB.fst] at e;omega
   refine ⟨_,step ⟨0,trivial⟩ ?_,.inr ⟨D,c,q1,rfl⟩⟩
   simp only [bt]
   exact ay.aY (MA (m:=x) (n:=x) (aF _) (bP _ _)) (ay.aY (by decide) (ay.one q2))
  ·have hw:=bB.FO n x C B (-1)
   have PU:=MG (-1) (bB.WT.neg.le h1) hr
   have ea:(bB.fst n x C B (-1)).a l (2 * n)=1:=by simp only [bB.fst];rw [if_neg (by omega),if_neg (by omega)]
   have h0:(bB.fst n x C B (-1)).a l (2 * n)≠0:=by rw [ea];decide
   have hs5:s≤5 ^ e5 * s:=Nat.le_mul_of_pos_left _ (Nat.pow_pos (by decide))
   have aan:=FV (n:=n) (h:=2 * n+x) hm (show 2 * n+1≤1000 by omega) hl (show 2 * n < 2 * n+1 by omega) (show 5 * s≤MS by omega) h1 PU h0
   obtain ⟨D,r,q1,q2,q3,q4,q5⟩:=Qt (n:=n) (h:=2 * n+x) h5 hm (show 2 * n+1≤1000 by omega) hw PU h1 hs (hw.js hl (show 2 * n < 2 * n+1 by omega)) (bB.NK n x C B hl Ak tc) (.js hl (by omega) h0)
   have UQ:=bB.SC q1 q3 q2 (by
    rcases q4 with ⟨_,h⟩ | ⟨j,_,h,h'⟩
    ·exact .inl h
    ·exact .inr ⟨j,h,h'⟩)
   have hrD:=bB.Kb h5 q1 hw q3 PU h1
   have eg:(LQ (bB.fst n x C B 0).g (2 * n+1)).set (2 * n) (bA ((-1:Int):Rat))=LQ (bB.fst n x C B (-1)).g (2 * n+1):=by
    rw [Am]
    refine qN fun j hj=>?_
    simp only [bB.fst]
    by_cases e:j=2 * n
    ·rw [if_pos e,if_neg (by omega)];rfl
    ·rw [if_neg e,if_pos (by omega),if_pos (by omega)]
   have WZ:ag (((2 * n+1:Nat):Int) - 1)=((2 * n:Nat):Int):=by rw [aN (by omega) (by omega)];omega
   have main:∀ {r'},Gv (fun N=>(gL N (bA D.v)).bind fun fT=>cond (!fT) (some (RS false n x (2 * n+1) (2 * n+x) D)) (fC N (n:Int) (x:Int) (LN D.gV x) (LN D.fr (2 * n+1)) (LA D.a x (2 * n+1)) (LQ D.b x) (LQ D.g (2 * n+1)) (bA D.v).fN.fG (bA D.v).fN.fL (bA D.v).fD.fG (bA D.v).fD.fL ((2 * n+x:Nat):Int))) r' →
     ay (fun N g=>bt N (n:Int) (x:Int) (bA 0).fN.fG (bA 0).fN.fL (bA 0).fD.fG (bA 0).fD.fL ((2 * n+x:Nat):Int) (LN (bB.fst n x C B 0).gV x) (LN (bB.fst n x C B 0).fr (2 * n+1))
      (LA (bB.fst n x C B 0).a x (2 * n+1)) (LQ B x) (LQ (bB.fst n x C B 0).g (2 * n+1)) g ((l:Nat):Int) (x:Int)) r':=fun h=>by
    refine step ⟨0,trivial⟩ ?_
    simp only [bt,eV,WZ,an]
    refine ay.aY (MA (m:=x) (n:=x) (aF _) (bP _ _)) (ay.aL (by simp) (ay.bind (U6 (-1) (by decide) (by decide)) (ay.if (inl (show 2 * n < 2 * n+1 by omega) (bP _ _)) ?_)))
    rw [eg]
    refine ay.bind aan ?_
    simp only [RT,eV,k9,bP]
    refine ay.if trivial (ay.if trivial (ay.if trivial (ay.if trivial (ay.if trivial (ay.bind (q5.diag) ?_)))))
    simp only [RT,eV,k9,bP]
    exact ay.if trivial (ay.if trivial (ay.if trivial (ay.if trivial (ay.if trivial (ay.one h)))))
   by_cases hz:D.v=0
   ·have hh0:D.ext x (2 * n+1) bB.tn (2 * n+x)=0:=by have:=bB.FR q1 q3;grind
    obtain ⟨D',c,p1,p2⟩:=Qz h5 hm hn PU h1 hs q1 q2 q3 fun i hi e=>⟨by
     rw [← e,bB.tG q1 hi,bB.rS] at hh0;exact hh0,bB.Lp q1 q3 hi e⟩
    exact ⟨_,main (Gv.bind ((hrD.v.q (by omega)).zero (by decide)) (Gv.aY (by simp [hz]) p2)),.inr ⟨D',c,p1,rfl⟩⟩
   ·refine ⟨_,main (Gv.bind ((hrD.v.q (by omega)).zero (by decide)) (Gv.aL (by simp [hz]) (Gv.pure _))),.inl ⟨D,⟨q1,q3,UQ,?_⟩,rfl⟩⟩
    have e1:=bB.FR q1 q3
    have e2:=bB.Cy q1 q2 (2 * n+x) (by omega)
    grind
 | d+1,x,low,hx,hI=>by
  have sd:x < m:=by omega
  have hs5:s≤5 ^ e5 * s:=Nat.le_mul_of_pos_left _ (Nat.pow_pos (by decide))
  have hB:∀ r,r < m→RB (B r) s:=hr.b
  have hbx:=(hB x sd).q (show s≤MS by omega)
  have F6:0≤low→low < ((m:Nat):Int):=fun h0=>by
   rcases hI with ⟨e,_⟩ | ⟨b,e,hb,_⟩<;>omega
  have nx:∀ SH:Int,WY B (x+1) SH→(∃ cmp:Int,(B x < 0→∀ l:Nat,low=l→cmp=oZ (B x - B l))∧(¬ (B x < 0∧0≤low)→cmp=0)∧(cond (cond (decide (oZ (B x) < 0)) (cond (decide (low < 0)) true (decide (cmp < 0))) false) (x:Int) low)=SH) →
    ∃ r,ay (fun N g=>bt N (n:Int) (m:Int) (bA 0).fN.fG (bA 0).fN.fL (bA 0).fD.fG (bA 0).fD.fL ((2 * n+m:Nat):Int) (LN (bB.fst n m C B 0).gV m) (LN (bB.fst n m C B 0).fr (2 * n+1))
      (LA (bB.fst n m C B 0).a m (2 * n+1)) (LQ B m) (LQ (bB.fst n m C B 0).g (2 * n+1)) g low (x:Int)) r ∧
     ((∃ D,D4 n m C B D∧r=RS false n m (2 * n+1) (2 * n+m) D)∨∃ D c,Bo n m C B D c∧r=RS true n m (2 * n) (2 * n+m) (D.del c)):=fun SH g1 ⟨cmp,g2,g3,g4⟩=>by
   obtain ⟨r,g5,g6⟩:=QA h5 hm hn hr h1 hs d (x+1) SH (by omega) g1
   refine ⟨r,ay.succ (fun _ _=>rfl) ?_,g6⟩
   have aao:Gv (fun N=>cond ((decide (oZ (B x) < 0)) && ((decide (oZ (B x) < 0)) && (!(decide (low < 0))))) (oC N (bA (B x)) ((LQ B m).getD low.toNat aa.d)) (some 0)) cmp:=by
    by_cases q:B x < 0∧0≤low
    ·obtain ⟨q1,q2⟩:=q
     obtain ⟨l,rfl⟩:∃ l:Nat,low=l:=⟨low.toNat,by omega⟩
     have hlm:l < m:=by have:=F6 q2;omega
     rw [g2 q1 l rfl]
     refine Gv.aL (by simp [ow,q1]) ?_
     rw [an,fw _ _ hlm]
     exact hbx.cmp ((hB l hlm).q (show s≤MS by omega)) (IW (by decide))
    ·rw [g3 q]
     refine Gv.aY ?_ (Gv.pure 0)
     by_cases q1:B x < 0
     ·have:low < 0:=Int.not_le.1 fun q2=>q ⟨q1,q2⟩
      simp [this]
     ·simp [ow,q1]
   have:ay (fun N g=>bt N (n:Int) (m:Int) (bA 0).fN.fG (bA 0).fN.fL (bA 0).fD.fG (bA 0).fD.fL ((2 * n+m:Nat):Int) (LN (bB.fst n m C B 0).gV m) (LN (bB.fst n m C B 0).fr (2 * n+1))
      (LA (bB.fst n m C B 0).a m (2 * n+1)) (LQ B m) (LQ (bB.fst n m C B 0).g (2 * n+1)) (g+1) low (x:Int)) r:=by
    simp only [bt]
    refine ay.aL (Lj (n:=m) sd (bP _ _)) (ay.if (inl sd (bP _ _)) ?_)
    simp only [an,fw _ _ sd,iu,aK (show x < 9223372036854775807 by omega)]
    refine ay.bind (hbx.oZ (by decide)) (ay.if (fun _=>inl sd (bP _ _)) (ay.if (fun q=>?_) (ay.bind aao ?_)))
    ·simp at q
     rw [bP];exact ⟨by omega,F6 (by omega)⟩
    ·revert g4
     cases (cond (decide (oZ (B x) < 0)) (cond (decide (low < 0)) true (decide (cmp < 0))) false) with
     | true=>intro g4;refine ay.aL rfl ?_;simp only [cond_true] at g4;rw [g4];exact g5
     | false=>intro g4;refine ay.aY rfl ?_;simp only [cond_false] at g4;rw [g4];exact g5
   exact this
  by_cases hp:B x < 0
  ·have e1:decide (oZ (B x) < 0)=true:=decide_eq_true (ow.2 hp)
   rcases hI with ⟨rfl,hb⟩ | ⟨l,rfl,hl,hg,tc⟩
   ·refine nx x (.inr ⟨x,rfl,by omega,hp,fun r Au=>?_⟩) ⟨0,fun _ l e=>by omega,fun _=>rfl,by rw [e1];rfl⟩
    by_cases e:r=x
    ·rw [e];exact Rat.le_refl
    ·have:=hb r (by omega);grind
   ·have e2:decide (((l:Nat):Int) < 0)=false:=by simp
    by_cases gk:B x < B l
    ·refine nx x (.inr ⟨x,rfl,by omega,hp,fun r Au=>?_⟩) ⟨oZ (B x - B l),fun _ l' e=>by rw [show l'=l by omega],fun q=>absurd ⟨hp,by omega⟩ q,by rw [e1,e2,decide_eq_true (ow.2 (show B x - B l < 0 by grind))];rfl⟩
     by_cases e:r=x
     ·rw [e];exact Rat.le_refl
     ·have:=tc r (by omega);grind
    ·refine nx l (.inr ⟨l,rfl,by omega,hg,fun r Au=>?_⟩) ⟨oZ (B x - B l),fun _ l' e=>by rw [show l'=l by omega],fun q=>absurd ⟨hp,by omega⟩ q,by rw [e1,e2,decide_eq_false fun q=>by have:=ow.1 q;grind];rfl⟩
     by_cases e:r=x
     ·rw [e];grind
     ·exact tc r (by omega)
  ·have e1:decide (oZ (B x) < 0)=false:=decide_eq_false fun q=>hp (ow.1 q)
   refine nx low ?_ ⟨0,fun q=>absurd q hp,fun _=>rfl,by rw [e1];rfl⟩
   rcases hI with ⟨e,hb⟩ | ⟨l,e,hl,hg,tc⟩
   ·refine .inl ⟨e,fun r h1=>?_⟩
    by_cases e2:r=x
    ·rw [e2];exact Rat.not_lt.1 hp
    ·exact hb r (by omega)
   ·refine .inr ⟨l,e,by omega,hg,fun r h1=>?_⟩
    by_cases e2:r=x
    ·rw [e2];grind
    ·exact tc r (by omega)
theorem NM {e5:Nat} (h5:m≤e5∨2 * n+1≤e5) (hm:m≤1000) (hn:2 * n≤998) (hr:(bB.fst n m C B 0).DJ m (2 * n+1) s) (h1:1≤s) (hs:5 * (5 ^ e5 * s)≤MS) :
  ∃ r,Gv (fun N=>lH N (n:Int) (m:Int) (bA 0).fN.fG (bA 0).fN.fL (bA 0).fD.fG (bA 0).fD.fL ((2 * n+m:Nat):Int) (LN (bB.fst n m C B 0).gV m) (LN (bB.fst n m C B 0).fr (2 * n+1))
    (LA (bB.fst n m C B 0).a m (2 * n+1)) (LQ B m) (LQ (bB.fst n m C B 0).g (2 * n+1))) r ∧
   ((∃ D,D4 n m C B D∧r=RS false n m (2 * n+1) (2 * n+m) D)∨∃ D c,Bo n m C B D c∧r=RS true n m (2 * n) (2 * n+m) (D.del c)):=by
 obtain ⟨r,h2,h3⟩:=QA h5 hm hn hr h1 hs m 0 (-1) (by omega) (.inl ⟨rfl,fun j hj=>absurd hj (cW _)⟩)
 exact ⟨r,h2.diag,h3⟩
end
end Go.Den
namespace Go.Den
open Go.Ab
structure QB (r:af):Prop where
 len:r.eJ.length≤20
 co:∀ j,IR (r.eJ.getD j aa.d) 2
 bo:IR r.mq 2
structure abt (l:List af):Prop where
 len:l.length≤60
 row:∀ i,QB (l.getD i af.d)
theorem U7 {n:Nat}:IR aa.d n:=⟨⟨U.nil,Nat.zero_le _⟩,⟨U.nil,Nat.zero_le _⟩⟩
theorem QB.d:QB af.d:=⟨by decide,fun j=>by
 have:(af.d.eJ.getD j aa.d)=aa.d:=by cases j<;>rfl
 rw [this];exact U7,U7⟩
def tI (l:List af) (n:Int) (i:Nat):Prop:=(((l.getD i af.d).eJ.length:Nat):Int) > n
instance (l:List af) (n:Int) (i:Nat):Decidable (tI l n i):=by unfold tI;infer_instance
def qq (l:List af) (n:Int):Nat→Nat→Bool
 | 0,_=>false
 | k+1,i=>if tI l n i then true else qq l n k (i+1)
def qP (n:Int) (l:List af):Int:=if n < 0∨n > 12 then 2 else if l.length > 40 then 8 else cond (qq l n l.length 0) 11 0
theorem zy {l:List af} {n:Int}:∀ k i,qq l n k i=false→∀ j,i≤j→j < i+k→¬ tI l n j
 | 0,_,_,j,h1,h2=>by omega
 | k+1,i,h,j,h1,h2=>by
  rw [qq] at h
  split at h
  ·cases h
  ·by_cases NX:j=i
   ·rw [NX];assumption
   ·exact zy k (i+1) h j (by omega) (by omega)
theorem Hs {l:List af} {n:Int} (hl:l.length≤1000):∀ k i,i+k=l.length→∃ r,ay (fun N fuel=>ca N l n fuel (i:Int)) r∧decide (r≥0)=qq l n k i
 | 0,i,hi=>⟨-1,.step 0 fun N g _ _=>by
  have:i=l.length:=by omega
  subst this
  rw [ca,dV];rfl,rfl⟩
 | k+1,i,hi=>by
  have pS:i < l.length:=by omega
  obtain ⟨r,h1,h2⟩:=Hs (n:=n) hl k (i+1) (by omega)
  have hp:Gv (fun N=>og N (l.getD i af.d) n) (decide (tI l n i)):=Gv.pure _
  rw [qq]
  by_cases h:tI l n i
  ·rw [if_pos h]
   refine ⟨(i:Int),ay.succ (fun N g=>ca.eq_2 ..) (ay.aL (dec_lt pS) (ay.if (oE pS) (ay.bind hp (ay.aL (decide_eq_true h) (ay.one (Gv.pure _)))))),decide_eq_true (by omega)⟩
  ·rw [if_neg h]
   refine ⟨r,ay.succ (fun N g=>ca.eq_2 ..) (ay.aL (dec_lt pS) (ay.if (oE pS) (ay.bind hp (ay.aY (decide_eq_false h) ?_)))),h2⟩
   rw [aK (by omega)];exact h1
theorem Bp (n:Int) (l:List af):Gv (fun N=>nP N n l) (qP n l):=by
 unfold nP qP
 have e:cond (decide (n < 0)) true (decide (n > 12))=decide (n < 0∨n > 12):=by
  by_cases h:n < 0
  ·rw [decide_eq_true h,decide_eq_true (Or.inl h)];rfl
  ·rw [decide_eq_false h,cond_false];exact decide_eq_decide.2 ⟨Or.inr,fun h2=>h2.resolve_left h⟩
 rw [e]
 by_cases h:n < 0∨n > 12
 ·rw [if_pos h];exact Gv.aL (decide_eq_true h) (Gv.pure _)
 ·rw [if_neg h]
  refine Gv.aY (decide_eq_false h) ?_
  by_cases h2:l.length > 40
  ·rw [if_pos h2];exact Gv.aL (decide_eq_true (by omega)) (Gv.pure _)
  ·rw [if_neg h2]
   obtain ⟨r,h3,h4⟩:=Hs (l:=l) (n:=n) (by omega) l.length 0 (by omega)
   refine Gv.aY (decide_eq_false (by omega)) (Gv.bind (r:=decide (r≥0)) (Gv.bind h3.diag (Gv.pure _)) ?_)
   rw [h4]
   cases qq l n l.length 0 with
   | true=>exact Gv.aL rfl (Gv.pure _)
   | false=>exact Gv.aY rfl (Gv.pure _)
structure U8 (n:Nat) (l:List af):Prop where
 adr:n≤12
 len:l.length≤40
 co:∀ i,i < l.length→(l.getD i af.d).eJ.length≤n
theorem U9 {n:Int} {l:List af} (h:qP n l=0):0≤n∧U8 n.toNat l:=by
 unfold qP at h
 split at h
 ·cases h
 ·split at h
  ·cases h
  ·cases e:qq l n l.length 0 with
   | true=>rw [e] at h;cases h
   | false =>
    refine ⟨by omega,by omega,by omega,fun i hi=>?_⟩
    have:=zy _ _ e i (Nat.zero_le _) (by omega)
    unfold tI at this
    omega
def dF (c x:List aa):Nat→Nat→Rat→Rat
 | 0,_,a=>a
 | k+1,i,a=>dF c x k (i+1) (a+qv (c.getD i aa.d) * qv (x.getD i aa.d))
def aap (c x:List aa):Rat:=dF c x c.length 0 0
structure LB (l:List aa) (n:Nat):Prop where
 len:l.length≤60
 ir:∀ i,IR (l.getD i aa.d) n
theorem LB.rq {l:List aa} {n:Nat} (h:LB l n) (hn:1≤n) (i:Nat):RQ (l.getD i aa.d) (qv (l.getD i aa.d)) n:=⟨h.ir i,rfl,hn⟩
section
variable {c x:List aa}
end
theorem QB.lb {r:af} (h:QB r):LB r.eJ 12:=⟨by have:=h.len;omega,fun i=>(h.co i).le (by decide)⟩
def QC (l:List af) (x:List aa) (i:Nat):Prop:=0 < aap (l.getD i af.d).eJ x - qv (l.getD i af.d).mq
instance (l:List af) (x:List aa) (i:Nat):Decidable (QC l x i):=by unfold QC;infer_instance
section
variable {l:List af} {x:List aa}
end
end Go.Den
namespace Go.Den
open Go.Ab
def yv (y:List aa) (i:Nat):Rat:=qv (y.getD i aa.d)
def cf (l:List af) (i j:Nat):Rat:=qv ((l.getD i af.d).eJ.getD j aa.d)
def bv (l:List af) (i:Nat):Rat:=qv (l.getD i af.d).mq
def cS (l:List af) (y:List aa) (j:Nat):Nat→Rat
 | 0=>0
 | i+1=>cS l y j i+yv y i * cf l i j
theorem SI:qv aa.d=0:=by decide +kernel
theorem W2 {l:List af} {i j:Nat} (h:(l.getD i af.d).eJ.length≤j):cf l i j=0:=by
 unfold cf;rw [Bk h,SI]
section
variable {l:List af} {y:List aa}
end
end Go.Den
namespace Go.Den
open Go.Ab
section
variable {l:List af} {y:List aa} {n:Nat}
theorem Iy {q:Rat}:(oZ q == 0)=decide (q=0):=by
 by_cases h:q=0
 ·rw [h];rfl
 ·rw [decide_eq_false h];simp;exact fun h'=>h (FJ.1 h')
end
end Go.Den
namespace Go.Den
open Go.Ab
structure Bq (l:List af):Prop where
 co:∀ i j,RQ ((l.getD i af.d).eJ.getD j aa.d) (cf l i j) 40
 bo:∀ i,RQ (l.getD i af.d).mq (bv l i) 40
theorem vf {α:Type} (f:Nat→α) (n:Nat):Al f n ++ [f n]=Al f (n+1):=by
 unfold Al;rw [List.range_succ,List.map_append];rfl
section
variable {n:Nat} {l:List af}
abbrev D0 (n:Nat) (l:List af):bB:=bB.fst n l.length (cf l) (bv l) 0
def TB (n:Nat) (l:List af):ly :=
 ⟨n,((l.length:Nat):Int),LN (D0 n l).gV l.length,LN (D0 n l).fr (2 * n+1),LA (D0 n l).a l.length (2 * n+1),LQ (bv l) l.length,LQ (D0 n l).g (2 * n+1),bA 0,((2 * n+l.length:Nat):Int)⟩
theorem TD (hn:n≤12):ag (2 * (n:Int))=((2 * n:Nat):Int):=by rw [aN (by omega) (by omega)];omega
theorem QD (hn:n≤12) {t t2:List Int} {t3:List (List aa)} {t4:List aa} (hl:l.length≤40) (h1:t=LN (fun j=>j) (2 * n)) (h2:t2=LN (D0 n l).gV l.length) (h3:t3=LA (D0 n l).a l.length (2 * n+1)) (h4:t4=LQ (bv l) l.length) :
  ∀ (d x:Nat) (L:List aa),x+d=2 * n+1→L.length=2 * n+1→(∀ j,j < x→L.getD j aa.d=bA 0) →
  ay (fun N g=>kJ N (n:Int) l (bA 0) t t2 t3 t4 g L (x:Int)) (TB n l)
 | 0,x,L,hx,hL,h0=>by
  refine ay.succ (fun N g=>kJ.eq_2 ..) (ay.aY (MA (m:=x) (n:=2 * n+1) (by omega) (by rw [dj,TD hn,aK (by omega)];rfl)) (ay.one ((Gv.pure _).eq ?_)))
  have e1:ag (((2 * n:Nat):Int)+((l.length:Nat):Int))=((2 * n+l.length:Nat):Int):=by rw [aN (by omega) (by omega)];omega
  have e2:L=LQ (D0 n l).g (2 * n+1):=FT aa.d hL fun j hj=>by
   rw [h0 j (by omega)];simp only [bB.fst];split<;>rfl
  have e3:t ++ [((2 * n+l.length:Nat):Int)]=LN (D0 n l).fr (2 * n+1):=by
   have h:=vf (fun j=>(((D0 n l).fr j:Nat):Int)) (2 * n)
   have h5:(D0 n l).fr (2 * n)=2 * n+l.length:=by simp only [bB.fst];rw [if_neg (by omega)]
   rw [h5] at h
   unfold LN
   rw [← h,h1];unfold LN
   congr 1
   exact qg fun j hj=>by simp only [bB.fst];rw [if_pos hj]
  rw [TD hn,e1,e3,h2,h3,h4,e2];rfl
 | d+1,x,L,hx,hL,h0=>by
  have rT:x < 2 * n+1:=by omega
  refine ay.succ (fun N g=>kJ.eq_2 ..) (ay.aL (Lj (n:=2 * n+1) rT (by rw [dj,TD hn,aK (by omega)];rfl)) (ay.bind tH (ay.if (inl rT hL) ?_)))
  rw [aK (show x < 9223372036854775807 by omega)]
  refine QD hn hl h1 h2 h3 h4 d (x+1) _ (by omega) (by rw [List.length_set];exact hL) fun j hj=>?_
  rw [an]
  by_cases e:x=j
  ·subst e;exact lx _ _ _ _ (by omega)
  ·rw [jm _ _ _ e];exact h0 j (by omega)
theorem QE (hn:n≤12) (hl:Bq l) (Mq:l.length≤40) {i:Nat} (hi:i < l.length) (SJ:(l.getD i af.d).eJ.length≤n) {t t2:List Int} {t3:List (List aa)} {t4:List aa} (h3:t3.length=i) (h4:t4.length=i) {rn:aa}:∀ (d x:Nat) (L:List aa),x+d=n→L.length=2 * n+1 →
  (∀ j,j < x→L.getD j aa.d=bA (-(cf l i j))∧L.getD (n+j) aa.d=bA (cf l i j)) →
  Ev fun N g=>∀ K,fS N (n:Int) l rn t t2 t3 t4 (i:Int) K g L (x:Int)=K (t2 ++ [((2 * n+i:Nat):Int)]) (t3 ++ [LQ ((D0 n l).a i) (2 * n+1)]) (t4 ++ [bA (bv l i)]) ((i+1:Nat):Int)
 | 0,x,L,hx,hL,h0=>by
  have F6:=(hl.bo i).low (by decide)
  refine Ev.succ (((yM (z:=1) (by decide) (by decide)).ev.and F6.ev).mono fun N g ⟨q1,q2⟩ K=>?_)
  have e1:ag (((2 * n:Nat):Int)+(i:Int))=((2 * n+i:Nat):Int):=by rw [aN (by omega) (by omega)];omega
  have hb:kY N ⟨((l.getD i af.d).mq).fN,((l.getD i af.d).mq).fD⟩=some (bA (bv l i)):=q2
  have eL:L.set (2 * n) (bA ((1:Int):Rat))=LQ ((D0 n l).a i) (2 * n+1):=by
   refine FT aa.d (by rw [List.length_set];exact hL) fun j hj=>?_
   simp only [bB.fst]
   by_cases e:2 * n=j
   ·rw [← e,lx _ _ _ _ (by omega),if_neg (by omega),if_neg (by omega)];rfl
   ·rw [jm _ _ _ e]
    by_cases h:j < n
    ·rw [if_pos h];exact (h0 j (by omega)).1
    ·rw [if_neg h,if_pos (by omega)]
     have:=(h0 (j - n) (by omega)).2
     rwa [show n+(j - n)=j by omega] at this
  rw [fS,show decide ((x:Int) < (n:Int))=false from decide_eq_false (by omega),cond_false,q1,cn,TD hn,an,an,if_pos (inl (show 2 * n < 2 * n+1 by omega) hL),if_pos (by omega),hb,cn,if_pos (by omega),e1,eL,aK (by omega)]
 | d+1,x,L,hx,hL,h0=>by
  have hxn:x < n:=by omega
  have e1:ag ((n:Int)+(x:Int))=((n+x:Nat):Int):=by rw [aN (by omega) (by omega)];omega
  have hC:RB (cf l i x) 40:=(hl.co i x).rb
  have Ak:Gv (fun N=>fR N (bA (cf l i x))) (bA (-(cf l i x))):=by
   have:=oY (hC.q (show 40≤MS by decide)).ir (by decide) (IW (by decide));rwa [gS] at this
  have ih:=QE hn hl Mq hi SJ h3 h4 (t:=t) (t2:=t2) (rn:=rn) d (x+1) ((L.set x (bA (-(cf l i x)))).set (n+x) (bA (cf l i x))) (by omega) (by rw [List.length_set,List.length_set];exact hL) fun j hj=>by
   by_cases e:j=x
   ·subst e
    refine ⟨?_,lx _ _ _ _ (by rw [List.length_set];omega)⟩
    rw [jm _ _ _ (by omega),lx _ _ _ _ (by omega)]
   ·rw [jm _ _ _ (show n+x≠j by omega),jm _ _ _ (show x≠j by omega),jm _ _ _ (show n+x≠n+j by omega),jm _ _ _ (show x≠n+j by omega)]
    exact h0 j (by omega)
  have fin:∀ N g K,fR N (bA (cf l i x))=some (bA (-(cf l i x)))→(fS N (n:Int) l rn t t2 t3 t4 (i:Int) K g ((L.set x (bA (-(cf l i x)))).set (n+x) (bA (cf l i x))) ((x+1:Nat):Int)=K (t2 ++ [((2 * n+i:Nat):Int)]) (t3 ++ [LQ ((D0 n l).a i) (2 * n+1)]) (t4 ++ [bA (bv l i)]) ((i+1:Nat):Int)) →
    ni N (n:Int) l rn t t2 t3 t4 (i:Int) L (x:Int) (fS N (n:Int) l rn t t2 t3 t4 (i:Int) K g) K (bA (cf l i x))=K (t2 ++ [((2 * n+i:Nat):Int)]) (t3 ++ [LQ ((D0 n l).a i) (2 * n+1)]) (t4 ++ [bA (bv l i)]) ((i+1:Nat):Int):=fun N g K q1 q2=>by
   unfold ni
   rw [q1,cn,e1,an,an,if_pos (inl (show x < 2 * n+1 by omega) hL),if_pos (inl (show n+x < 2 * n+1 by omega) hL),aK (by omega)]
   exact q2
  by_cases hc:x < (l.getD i af.d).eJ.length
  ·have F6:=(hl.co i x).low (by decide)
   refine Ev.succ (((tH.ev.and Ak.ev).and (F6.ev.and ih)).mono fun N g ⟨⟨q1,q2⟩,q3,q4⟩ K=>?_)
   have q3':kY N ⟨(((l.getD i af.d).eJ).getD x aa.d).fN,(((l.getD i af.d).eJ).getD x aa.d).fD⟩=some (bA (cf l i x)):=q3
   rw [fS,show decide ((x:Int) < (n:Int))=true from decide_eq_true (by omega),cond_true,q1,cn,an,an,dec_lt hc,cond_true,if_pos (oE hc),q3',cn]
   exact fin N g K q2 (q4 K)
  ·have hz:cf l i x=0:=W2 (by omega)
   refine Ev.succ (((tH.ev.and Ak.ev).and ih).mono fun N g ⟨⟨q1,q2⟩,q4⟩ K=>?_)
   rw [fS,show decide ((x:Int) < (n:Int))=true from decide_eq_true (by omega),cond_true,q1,cn,an,decide_eq_false (by omega),cond_false,← hz]
   exact fin N g K q2 (q4 K)
theorem QF (hn:n≤12) (hl:Bq l) (Mq:l.length≤40) (SJ:∀ i,i < l.length→(l.getD i af.d).eJ.length≤n):∀ d x,x+d=l.length →
  ay (fun N g=>jx N (n:Int) l (bA 0) (LN (fun j=>j) (2 * n)) g (LN (D0 n l).gV x) (LA (D0 n l).a x (2 * n+1)) (LQ (bv l) x) (x:Int)) (TB n l)
 | 0,x,hx=>by
  have hx:x=l.length:=by omega
  subst hx
  refine ay.succ (fun N g=>jx.eq_2 ..) (ay.aY dV ?_)
  have ew:ag (ag (2 * (n:Int))+1)=((2 * n+1:Nat):Int):=by rw [TD hn,aK (by omega)]
  rw [ew,an]
  refine ay.if (by omega) (ay.one ?_)
  exact (QD hn Mq rfl rfl rfl rfl (2 * n+1) 0 (List.replicate (2 * n+1) aa.d) (by omega) dj fun j hj=>absurd hj (cW _)).diag
 | d+1,x,hx=>by
  have pW:x < l.length:=by omega
  have ew:ag (ag (2 * (n:Int))+1)=((2 * n+1:Nat):Int):=by rw [TD hn,aK (by omega)]
  obtain ⟨N1,h1⟩:=(QE hn hl Mq pW (SJ x pW) (t:=LN (fun j=>j) (2 * n)) (t2:=LN (D0 n l).gV x) (k9 (D0 n l).a x (2 * n+1)) (bP (bv l) x) (rn:=bA 0) n 0 (List.replicate (2 * n+1) aa.d) (by omega) dj fun j hj=>absurd hj (cW _))
  obtain ⟨N2,h2⟩:=QF hn hl Mq SJ d (x+1) (by omega)
  refine ay.succ (fun N g=>jx.eq_2 ..) (ay.aL (dec_lt pW) (ay.if (oE pW) (ay.if (by rw [eV];omega) ?_)))
  rw [ew,an]
  refine ay.if (by omega) ⟨N1+N2,fun N g hN hg=>?_⟩
  have e1:=vf (fun i=>(((D0 n l).gV i:Nat):Int)) x
  have e2:=vf (fun i=>LQ ((D0 n l).a i) (2 * n+1)) x
  have e3:=vf (fun i=>bA (bv l i)) x
  have QV:=h1 N N (by omega) (by omega) (jx N (n:Int) l (bA 0) (LN (fun j=>j) (2 * n)) g)
  refine QV.trans ?_
  have XT:=h2 N g (by omega) (by omega)
  unfold LN LA LQ at XT ⊢
  unfold LQ at e2
  rw [← e1,← e2,← e3] at XT
  exact XT
theorem QG (hn:n≤12) (hl:Bq l) (Mq:l.length≤40) (SJ:∀ i,i < l.length→(l.getD i af.d).eJ.length≤n):∀ d x,x+d=2 * n →
  ay (fun N g=>kK N (n:Int) l (bA 0) g (LN (fun j=>j) x) (x:Int)) (TB n l)
 | 0,x,hx=>by
  have hx:x=2 * n:=by omega
  subst hx
  refine ay.succ (fun N g=>kK.eq_2 ..) (ay.aY (by rw [TD hn];exact decide_eq_false (by omega)) (ay.if (by rw [eV];omega) (ay.one ?_)))
  exact (QF hn hl Mq SJ l.length 0 (by omega)).diag
 | d+1,x,hx=>by
  refine ay.succ (fun N g=>kK.eq_2 ..) (ay.aL (by rw [TD hn];exact decide_eq_true (by omega)) (ay.if (by rw [eV];omega) ?_))
  have e1:=vf (fun i=>((i:Nat):Int)) x
  have ih:=QG hn hl Mq SJ d (x+1) (by omega)
  rw [aK (by omega)]
  unfold LN at ih ⊢
  rw [← e1] at ih
  exact ih
theorem QH (hn:n≤12) (hl:Bq l) (Mq:l.length≤40) (SJ:∀ i,i < l.length→(l.getD i af.d).eJ.length≤n):Gv (fun N=>yA N (n:Int) l) (TB n l) :=
 tH.bind (QG hn hl Mq SJ (2 * n) 0 (by omega)).diag
theorem Lq (hl:Bq l):(D0 n l).DJ l.length (2 * n+1) 40:=by
 have hC:∀ i j,RB (cf l i j) 40:=fun i j=>(hl.co i j).rb
 refine ⟨fun i j _ _=>?_,fun i _=>(hl.bo i).rb,fun j _=>?_,RB.zero.le (by decide)⟩
 ·simp only [bB.fst]
  split
  ·exact (hC i j).neg
  ·split
   ·exact hC i _
   ·exact bB.WT.le (by decide)
 ·simp only [bB.fst];split<;>exact RB.zero.le (by decide)
end
section
variable {n m k h s:Nat} {D:bB}
theorem MH (hm:m≤1000) (hn:n≤400) (hk:k≤1000) (hs:s≤MS) (hw:D.WF m k) (hg:∀ j,j < k→RB (D.g j) s):∀ (d x:Nat) (L:List aa),x+d=m→L.length=m→(∀ i,i < x→L.getD i aa.d=bA (-(D.gc k (2 * n+i)))) →
  ay (fun N g=>bG N (n:Int) (m:Int) (bA D.v).fN.fG (bA D.v).fN.fL (bA D.v).fD.fG (bA D.v).fD.fL (h:Int) (LN D.gV m) (LN D.fr k) (LA D.a m k) (LQ D.b m) (LQ D.g k) g L (x:Int)) (LQ (fun i=>-(D.gc k (2 * n+i))) m)
 | 0,x,L,hx,hL,h0=>ay.succ (fun N g=>bG.eq_2 ..) (ay.aY (MA (m:=x) (n:=m) (by omega) (by rw [dj];rfl)) (ay.one ((Gv.pure _).eq (FT aa.d hL fun i hi=>h0 i (by omega)))))
 | d+1,x,L,hx,hL,h0=>by
  have sd:x < m:=by omega
  have ew:ag (ag (2 * (n:Int))+(x:Int))=((2 * n+x:Nat):Int):=by
   rw [show ag (2 * (n:Int))=((2 * n:Nat):Int) by rw [aN (by omega) (by omega)];omega,aN (by omega) (by omega)];omega
  obtain ⟨r,q1,q2⟩:=Ix (f:=D.fr) (k:=k) (v:=2 * n+x) hk
  have nx:∀ (y:aa),y=bA (-(D.gc k (2 * n+x)))→∀ L2:List aa,L2=L.set x y→ay (fun N g=>bG N (n:Int) (m:Int) (bA D.v).fN.fG (bA D.v).fN.fL (bA D.v).fD.fG (bA D.v).fD.fL (h:Int) (LN D.gV m) (LN D.fr k) (LA D.a m k) (LQ D.b m) (LQ D.g k) g L2 ((x+1:Nat):Int)) (LQ (fun i=>-(D.gc k (2 * n+i))) m):=fun y hy L2 e2=>by
   subst e2
   refine MH hm hn hk hs hw hg d (x+1) _ (by omega) (by rw [List.length_set];exact hL) fun i hi=>?_
   by_cases e:x=i
   ·subst e;rw [lx _ _ _ _ (by omega)];exact hy
   ·rw [jm _ _ _ e];exact h0 i (by omega)
  refine ay.succ (fun N g=>bG.eq_2 ..) (ay.aL (Lj (n:=m) sd (by rw [dj];rfl)) (ay.bind tH (ay.if (inl sd hL) ?_)))
  rw [ew]
  refine ay.bind q1 ?_
  simp only [eO,an,aK (show x < 9223372036854775807 by omega)]
  rcases q2 with ⟨rfl,q2⟩ | ⟨j,rfl,hj,q2⟩
  ·exact ay.aY (by decide) (nx _ (by rw [bB.Iv q2];rfl) _ rfl)
  ·have hgj:=hg j hj
   refine ay.aL (by simp) (ay.if (inl hj (bP _ _)) ?_)
   simp only [fw _ _ hj,an,List.set_set]
   refine ay.bind (r:=bA (-(D.g j))) (by have:=oY (hgj.q hs).ir (by decide) (IW (by decide));rwa [gS] at this) (ay.if (inl sd (by rw [List.length_set];exact hL)) ?_)
   exact nx _ (by rw [← q2,bB.Ql hw hj]) _ rfl
theorem SK (hm:m≤1000) (hn:n≤400) (hk:k≤1000) (hs:s≤MS) (hw:D.WF m k) (hg:∀ j,j < k→RB (D.g j) s) :
  Gv (fun N=>jk N (n:Int) (m:Int) (bA D.v).fN.fG (bA D.v).fN.fL (bA D.v).fD.fG (bA D.v).fD.fL (h:Int) (LN D.gV m) (LN D.fr k) (LA D.a m k) (LQ D.b m) (LQ D.g k)) (LQ (fun i=>-(D.gc k (2 * n+i))) m) :=
 Gv.if (by omega) (MH hm hn hk hs hw hg m 0 (List.replicate m aa.d) (by omega) dj fun i hi=>absurd hi (cW _)).diag
def BB (D:bB) (m u:Nat):Rat:=match D.N8 m u with
 | some i=>D.b i
 | none=>0
theorem MI (D:bB) (m k u:Nat):BB D m u=D.ext m k bB.tn u:=by
 unfold BB bB.ext
 cases D.N8 m u with
 | none=>rfl
 | some i=>simp only [bB.rS]
theorem TE (hm:m≤1000) (hw:∀ i i',i < m→i' < m→D.gV i=D.gV i'→i=i') (u:Nat) :
  Gv (fun N=>mX N (u:Int) (n:Int) (m:Int) (bA D.v).fN.fG (bA D.v).fN.fL (bA D.v).fD.fG (bA D.v).fD.fL (h:Int) (LN D.gV m) (LN D.fr k) (LA D.a m k) (LQ D.b m) (LQ D.g k)) (bA (BB D m u)):=by
 obtain ⟨r,q1,q2⟩:=Ix (f:=D.gV) (k:=m) (v:=u) hm
 refine Gv.bind q1 ?_
 rcases q2 with ⟨rfl,q2⟩ | ⟨i,rfl,hi,q2⟩
 ·refine Gv.aY (by decide) (tH.bind ((Gv.pure _).eq ?_))
  unfold BB;rw [bB.Bl q2]
 ·refine Gv.aL (by simp) (Gv.if (inl hi (bP _ _)) ((Gv.pure _).eq ?_))
  simp only [an,fw _ _ hi]
  unfold BB;rw [← q2,bB.DY hw hi]
theorem Ke (hm:m≤1000) (hn:n≤400) (hs:2 * s+1≤MS) (hw:∀ i i',i < m→i' < m→D.gV i=D.gV i'→i=i') (hp:∀ u,RB (BB D m u) s):∀ (d x:Nat) (L:List aa),x+d=n→L.length=n→(∀ i,i < x→L.getD i aa.d=bA (BB D m i - BB D m (n+i))) →
  ay (fun N g=>dY N (n:Int) (m:Int) (bA D.v).fN.fG (bA D.v).fN.fL (bA D.v).fD.fG (bA D.v).fD.fL (h:Int) (LN D.gV m) (LN D.fr k) (LA D.a m k) (LQ D.b m) (LQ D.g k) g L (x:Int)) (LQ (fun i=>BB D m i - BB D m (n+i)) n)
 | 0,x,L,hx,hL,h0=>ay.succ (fun N g=>dY.eq_2 ..) (ay.aY (MA (m:=x) (n:=n) (by omega) (by rw [dj];rfl)) (ay.one ((Gv.pure _).eq (FT aa.d hL fun i hi=>h0 i (by omega)))))
 | d+1,x,L,hx,hL,h0=>by
  have hxn:x < n:=by omega
  have ew:ag ((n:Int)+(x:Int))=((n+x:Nat):Int):=by rw [aN (by omega) (by omega)];omega
  have r1:=(hp x).q (show s≤MS by omega)
  have r2:=(hp (n+x)).q (show s≤MS by omega)
  refine ay.succ (fun N g=>dY.eq_2 ..) (ay.aL (Lj (n:=n) hxn (by rw [dj];rfl)) (ay.bind (TE hm hw x) ?_))
  rw [ew]
  refine ay.bind (TE hm hw (n+x)) (ay.bind (r1.sub r2 (IW (by decide))) (ay.if (inl hxn hL) ?_))
  rw [aK (show x < 9223372036854775807 by omega),an]
  refine Ke hm hn hs hw hp d (x+1) _ (by omega) (by rw [List.length_set];exact hL) fun i hi=>?_
  by_cases e:x=i
  ·subst e;exact lx _ _ _ _ (by omega)
  ·rw [jm _ _ _ e];exact h0 i (by omega)
theorem QI (hm:m≤1000) (hn:n≤400) (hs:2 * s+1≤MS) (hw:∀ i i',i < m→i' < m→D.gV i=D.gV i'→i=i') (hp:∀ u,RB (BB D m u) s) :
  Gv (fun N=>mw N (n:Int) (m:Int) (bA D.v).fN.fG (bA D.v).fN.fL (bA D.v).fD.fG (bA D.v).fD.fL (h:Int) (LN D.gV m) (LN D.fr k) (LA D.a m k) (LQ D.b m) (LQ D.g k)) (LQ (fun i=>BB D m i - BB D m (n+i)) n) :=
 Gv.if (by omega) (Ke hm hn hs hw hp n 0 (List.replicate n aa.d) (by omega) dj fun i hi=>absurd hi (cW _)).diag
end
end Go.Den
namespace Go.Den
open Go.Ab
section
variable {n:Nat} {l:List af}
structure QJ (q:Nat) (n:Nat) (l:List af) (y:Nat→Rat):Prop where
 nn:∀ i,i < l.length→0≤y i
 XU:∀ j,j < n→cu l.length (fun i=>y i * cf l i j)=0
 neg:cu l.length (fun i=>y i * bv l i) < 0
 rb:∀ i,i < l.length→RB (y i) q
structure Va (q:Nat) (n:Nat) (l:List af) (x:Nat→Rat):Prop where
 ok:∀ i,i < l.length→bB.w9 n (cf l) x i≤bv l i
 rb:∀ j,j < n→RB (x j) q
variable {e5:Nat}
abbrev ZZ (e5:Nat):Nat:=5 ^ e5 * 40
theorem XV (e5:Nat):40≤ZZ e5:=Nat.le_mul_of_pos_left _ (Nat.pow_pos (by decide))
theorem Iz {D:bB} (hl:Bq l) (h5:l.length≤e5∨2 * n+1≤e5) (h:D4 n l.length (cf l) (bv l) D):QJ (ZZ e5) n l (fun i=>-(D.gc (2 * n+1) (2 * n+i)))∧∀ j,j < 2 * n+1→RB (D.g j) (ZZ e5):=by
 obtain ⟨q1,q2,q3⟩:=bB.WX h.wf h.eqv h.g
 have hr:=bB.Kb h5 h.wf (bB.FO n l.length (cf l) (bv l) (-1)) h.eqv (MG (-1) (bB.WT.neg.le (by decide)) (Lq hl)) (by decide:1≤40)
 have hp:=XV e5
 refine ⟨⟨fun i _=>by have:=q1 (2 * n+i);grind,q2,by rw [q3];exact h.v,fun i _=>?_⟩,fun j hj=>hr.g j hj⟩
 by_cases e:∃ j,j < 2 * n+1∧D.fr j=2 * n+i
 ·obtain ⟨j,hj,e⟩:=e
  rw [← e,bB.Ql h.wf hj];exact (hr.g j hj).neg
 ·rw [bB.Iv fun j hj q=>e ⟨j,hj,q⟩];exact RB.zero.neg.le (dU (by decide) hp)
theorem GB {D:bB} {c:Nat} (hl:Bq l) (h5:l.length≤e5∨2 * n+1≤e5) (h:Bo n l.length (cf l) (bv l) D c):Va (2 * ZZ e5+1) n l (fun j=>BB D l.length j - BB D l.length (n+j))∧∀ u,RB (BB D l.length u) (ZZ e5):=by
 obtain ⟨z,he⟩:=h.eqv
 -- the goal does not matter
 have hr:∀ i,i < l.length→RB (D.b i) (ZZ e5):=fun i hi=>by
  have e0:bB.BA l.length (2 * n+1) (bB.fst n l.length (cf l) (bv l) 0) { D with g:=fun j=>if D.fr j=2 * n+l.length then 0 else 0,v:=0 }:=⟨fun x=>by
   rw [← bB.Kc n l.length (cf l) (bv l) z D x he];exact Iff.rfl,fun x _=>by
   rw [bB.Qm];unfold bB.gv
   rw [bR (g:=fun _=>0) fun j _=>by simp,nA];grind⟩
  have hw:bB.WF { D with g:=fun j=>if D.fr j=2 * n+l.length then 0 else 0,v:=0 } l.length (2 * n+1):=⟨h.wf.bi,h.wf.fi,h.wf.bf,h.wf.bl,h.wf.fl,h.wf.al⟩
  exact ((bB.Kb h5 hw (bB.FO n l.length (cf l) (bv l) 0) e0 (Lq hl) (by decide:1≤40)).b i hi)
 have hp:∀ u,RB (BB D l.length u) (ZZ e5):=fun u=>by
  by_cases e:∃ i,i < l.length∧D.gV i=u
  ·obtain ⟨i,hi,e⟩:=e
   unfold BB;rw [← e,bB.DY h.wf.bi hi];exact hr i hi
  ·unfold BB;rw [bB.Bl fun i hi q=>e ⟨i,hi,q⟩];exact RB.zero.le (dU (by decide) (XV e5))
 refine ⟨⟨fun i hi=>?_,fun j _=>((hp j).sub (hp (n+j))).le (by omega)⟩,hp⟩
 have hs:=(bB.Kc n l.length (cf l) (bv l) z D _ he).1 (bB.rR h.wf bB.tn)
 have hs:=(bB.D1 n l.length (cf l) (bv l) 0 _).1 hs i hi
 have h0:D.ext l.length (2 * n+1) bB.tn (2 * n+l.length)=0:=by rw [← h.fr,bB.uj h.wf h.lt];rfl
 have OL:=bB.Cy h.wf h.fea (2 * n+i) (by omega)
 rw [h0] at hs
 have e:(fun j=>BB D l.length j - BB D l.length (n+j))=fun j=>D.ext l.length (2 * n+1) bB.tn j - D.ext l.length (2 * n+1) bB.tn (n+j):=by
  funext j;rw [MI D _ (2 * n+1),MI D _ (2 * n+1)]
 rw [e]
 grind
theorem IA (D:bB) (c m u:Nat):BB (D.del c) m u=BB D m u:=by
 have e:∀ m,bB.N8 (D.del c) m u=bB.N8 D m u:=fun m=>by
  induction m with
  | zero=>rfl
  | succ m ih=>rw [bB.N8,bB.N8,ih];rfl
 unfold BB;rw [e];rfl
theorem Kf (hn:n≤12) (hl:Bq l) (Mq:l.length≤40) (h5:l.length≤e5∨2 * n+1≤e5) (hs:5 * ZZ e5≤MS) (hc:qP n l=0) :
  (∃ y,QJ (ZZ e5) n l y∧Gv (fun N=>pC N (n:Int) l) ([],LQ y l.length,29))∨∃ x,Va (2 * ZZ e5+1) n l x∧Gv (fun N=>pC N (n:Int) l) (LQ x n,[],0):=by
 obtain ⟨_,ok⟩:=U9 hc
 rw [an] at ok
 have hb:=QH (n:=n) hn hl Mq ok.co
 obtain ⟨r,q1,q2⟩:=NM (n:=n) (m:=l.length) (C:=cf l) (B:=bv l) (s:=40) (e5:=e5) h5 (by omega) (by omega) (Lq hl) (by decide) hs
 have xl:(qP (n:Int) l != 0)=false:=by rw [hc];rfl
 rcases q2 with ⟨D,q2,rfl⟩ | ⟨D,c,q2,rfl⟩
 ·obtain ⟨g1,g2⟩:=Iz hl h5 q2
  refine .inl ⟨_,g1,(Bp _ _).bind (Gv.aY xl (hb.bind (q1.bind ?_)))⟩
  simp only [RS,TB,eV,k9,bP]
  refine Gv.if trivial (Gv.if trivial (Gv.if trivial (Gv.aL rfl ((SK (by omega) (by omega) (by omega) (by omega:ZZ e5≤MS) q2.wf g2).bind (Gv.pure _)))))
 ·obtain ⟨g1,g2⟩:=GB hl h5 q2
  refine .inr ⟨_,g1,(Bp _ _).bind (Gv.aY xl (hb.bind (q1.bind ?_)))⟩
  simp only [RS,TB,eV,k9,bP]
  have hp:=XV e5
  have:=QI (n:=n) (k:=2 * n) (h:=2 * n+l.length) (D:=D.del c) (m:=l.length) (by omega) (by omega) (s:=ZZ e5) (by omega) q2.wf.bi (fun u=>by rw [IA];exact g2 u)
  have e:LQ (fun j=>BB (D.del c) l.length j - BB (D.del c) l.length (n+j)) n=LQ (fun j=>BB D l.length j - BB D l.length (n+j)) n:=qN fun j _=>by rw [IA,IA]
  rw [e] at this
  exact Gv.if trivial (Gv.if trivial (Gv.if trivial (Gv.aY rfl (this.bind (Gv.pure _)))))
end
end Go.Den
namespace Go.Den
open Go.Ab
def yP (s:ByteArray) (m:Nat):Bool :=
 cond (!(cond (cond (decide (ke s m≥97)) (decide (ke s m≤122)) false) true (cond (decide (ke s m≥65)) (decide (ke s m≤90)) false))) (cond ((m:Int) == 0) true (!(cond (cond (decide (ke s m≥48)) (decide (ke s m≤57)) false) true (ke s m == 45)))) false
def rk (s:ByteArray):Bool :=
 cond (cond (lk s ByteArray.empty) true (decide (((s.size:Nat):Int) > 12))) false (scan (fun m=>cond (yP s m) (some false) none) true s.size 0)
theorem CT (s:ByteArray):lk s ByteArray.empty=decide (((s.size:Nat):Int) < 1):=by
 rw [Bool.eq_iff_iff,Nw,decide_eq_true_eq]
 constructor
 ·rintro rfl;decide
 ·intro h
  have:s.size=0:=by omega
  cases s with | mk d => 
  have:d.size=0:=this
  simp [Array.size_eq_zero_iff.1 this];rfl
theorem QK {N:Nat} (hN:12 < N) (s:ByteArray):nR N s=some (rk s):=by
 unfold nR rk
 cases h:cond (lk s ByteArray.empty) true (decide (((s.size:Nat):Int) > 12))
 ·have hs:s.size≤12:=by
   cases h2:lk s ByteArray.empty<;>rw [h2] at h<;>simp at h;omega
  refine qf (L:=fun fuel=>gr N s fuel) _ _ (by omega) (fun fuel m hm=>?_) (fun fuel=>?_)
  ·simp only [gr,dec_lt hm,cond_true,if_pos (oE hm),aK (show m < 9223372036854775807 by omega),an]
   show cond (yP s m) _ _=_
   cases yP s m<;>rfl
  ·simp only [gr,dV,cond_false]
 ·rfl
theorem NN {N:Nat} (hN:12 < N) (s:ByteArray):sG N s=some (rk s):=by
 unfold sG rk
 rw [CT]
 cases h:cond (decide (((s.size:Nat):Int) < 1)) true (decide (((s.size:Nat):Int) > 12))
 ·have hs:s.size≤12:=by
   cases h2:decide (((s.size:Nat):Int) < 1)<;>rw [h2] at h<;>simp at h;omega
  refine qf (L:=fun fuel=>jH N s fuel) _ _ (by omega) (fun fuel m hm=>?_) (fun fuel=>?_)
  ·simp only [jH,zA,dec_lt hm,cond_true,if_pos (oE hm),aK (show m < 9223372036854775807 by omega),an]
   have e:yP s m=cond (!(cond (cond (decide (ke s m≥97)) (decide (ke s m≤122)) false) true (cond (decide (ke s m≥65)) (decide (ke s m≤90)) false))) (cond ((m:Int) == 0) true (cond (ke s m != 45) (cond (decide (ke s m < 48)) true (decide (ke s m > 57))) false)) false:=by
    unfold yP
    generalize ke s m=b
    rw [Bool.eq_iff_iff]
    simp [Bool.cond_eq_ite]
    omega
   rw [← e]
   cases yP s m<;>rfl
  ·simp only [jH,zA,dV,cond_false]
 ·rfl
end Go.Den
namespace Go.Den
open Go.Ab
def ek (x:ai):Int :=
 if -1000000≤x.jf∧x.jf≤1000000∧-1000000≤x.jR∧x.jR≤1000000∧-1000000≤x.bX∧x.bX≤1000000∧-1000000≤x.cz∧x.cz≤1000000∧1≤x.nH∧x.nH≤1000000000 then
  if x.jf=x.bX∧x.jR=x.cz then 9 else 0
 else 2
theorem IC (N:Nat) (x:ai):kT N x=some (ek x):=by
 unfold kT dP ek
 simp only [cn,yI,aA]
 simp only [Bool.cond_eq_ite]
 generalize x.jf=a,x.jR=b,x.bX=c,x.cz=d,x.nH=e
 simp
 split<;>split<;>try omega
 all_goals split<;>simp_all<;>try omega
theorem Lr (N:Nat) (x:ai):l6 N x=some (ek x):=by
 unfold l6 fW ek
 simp only [cn,yI,aA]
 simp only [Bool.cond_eq_ite]
 generalize x.jf=a,x.jR=b,x.bX=c,x.cz=d,x.nH=e
 simp
 split<;>split<;>try omega
 all_goals split<;>simp_all<;>try omega
def wb (l:List ai) (m:Nat):Bool:=scan (fun k=>cond (lk (l.getD k ai.d).fY (l.getD m ai.d).fY) (some true) none) false m 0
def n5 (l:List ai) (m:Nat):Option Int :=
 cond (!rk (l.getD m ai.d).fY) (some 4) (cond (wb l m) (some 5) (cond (ek (l.getD m ai.d) != 0) (some (ek (l.getD m ai.d))) none))
def eH (l:List ai):Int:=cond (decide (((l.length:Nat):Int) > 12)) 8 (scan (n5 l) 0 l.length 0)
theorem GC {N:Nat} (l:List ai) (m:Nat) (hm:m < l.length) (hN:l.length < N) (hl:l.length≤12):cl N ((l.take m).drop 0) (l.getD m ai.d)=some (wb l m):=by
 have hlen:((l.take m).drop 0).length=m:=by simp;omega
 have e:cK N ((l.take m).drop 0) (l.getD m ai.d)=some (scan (fun k=>cond (lk (l.getD k ai.d).fY (l.getD m ai.d).fY) (some (k:Int)) none) (-1) m 0):=by
  unfold cK
  refine qf (L:=fun fuel=>ba N ((l.take m).drop 0) (l.getD m ai.d) fuel) _ _ (by omega) (fun fuel k hk=>?_) (fun fuel=>?_)
  ·simp only [ba,hlen,dec_lt hk,cond_true,if_pos (oE hk),aK (show k < 9223372036854775807 by omega),an,Nx l m k _ hk,kS,eP,cn]
   cases lk (l.getD k ai.d).fY (l.getD m ai.d).fY<;>rfl
  ·simp only [ba,hlen,dV,cond_false]
 unfold cl
 rw [e,cn,Fw]
 rfl
theorem zz {N:Nat} (hN:13 < N) (l:List ai):eR N l=some (eH l):=by
 unfold eR lK eH
 cases h:decide (((l.length:Nat):Int) > 12)
 ·have hl:l.length≤12:=by simp at h;omega
  have e:dh N l N 0=some (scan (n5 l) 0 l.length 0):=by
   refine qf (L:=fun fuel=>dh N l fuel) _ _ (by omega) (fun fuel m hm=>?_) (fun fuel=>?_)
   ·simp only [dh,dec_lt hm,cond_true,if_pos (oE hm),aK (show m < 9223372036854775807 by omega),an,eP,cn,QK (show 12 < N by omega),GC l m hm (show l.length < N by omega) hl,IC,
     if_pos (show 0≤m∧m≤l.length from ⟨Nat.zero_le _,by omega⟩),if_pos (show 0≤(m:Int) from Int.natCast_nonneg _)]
    unfold n5
    cases rk (l.getD m ai.d).fY<;>cases wb l m<;>cases (ek (l.getD m ai.d) != 0)<;>rfl
   ·simp only [dh,dV,cond_false]
  rw [cond_false,cond_false,e];rfl
 ·rfl
theorem Kg {N:Nat} (hN:13 < N) (l:List ai):fc N l=some (eH l):=by
 unfold fc eH
 cases h:decide (((l.length:Nat):Int) > 12)
 ·have hl:l.length≤12:=by simp at h;omega
  rw [cond_false,cond_false]
  refine qf (L:=fun fuel=>eA N l fuel) _ _ (by omega) (fun fuel m hm=>?_) (fun fuel=>?_)
  ·have e:∀ K,dL N l (m:Int) K N 0=scan (fun k=>cond (lk (l.getD k ai.d).fY (l.getD m ai.d).fY) (some (some 5)) none) (cond (ek (l.getD m ai.d) != 0) (some (ek (l.getD m ai.d))) (K ((m+1:Nat):Int))) m 0:=fun K=>by
    refine JK (L:=fun fuel=>dL N l (m:Int) K fuel) _ _ (by omega) (fun fuel k hk=>?_) (fun fuel=>?_)
    ·simp only [dL,dec_lt hk,cond_true,if_pos (oE (show k < l.length by omega)),if_pos (oE hm),aK (show k < 9223372036854775807 by omega),an]
     cases lk (l.getD k ai.d).fY (l.getD m ai.d).fY<;>rfl
    ·simp only [dL,dV,cond_false,if_pos (oE hm),an,Lr,cn,aK (show m < 9223372036854775807 by omega)]
   simp only [eA,dec_lt hm,cond_true,if_pos (oE hm),an,NN (show 12 < N by omega),cn,e]
   rw [Hj]
   unfold n5 wb
   cases rk (l.getD m ai.d).fY<;>cases scan (fun k=>cond (lk (l.getD k ai.d).fY (l.getD m ai.d).fY) (some true) none) false m 0<;>cases (ek (l.getD m ai.d) != 0)<;>rfl
  ·simp only [eA,dV,cond_false]
 ·rfl
end Go.Den
namespace Go.Den
open Go.Ab
theorem Cz (N:Nat) (l:ai) (D:Nat) (hD:(ag ((ag ((ag (l.bX - l.jf)) * (ag (l.bX - l.jf))))+(ag ((ag (l.cz - l.jR)) * (ag (l.cz - l.jR))))))=(D:Int)) :
  ∀ (k m fuel R:Nat),m+k=23→k < fuel→2 ^ k ∣ R→R < 2 ^ 23→R * R < D→D≤(R+2 ^ k) * (R+2 ^ k)→∃ n:Nat,fV N l fuel (R:Int) (m:Int)=some ((n+1:Nat):Int)∧n * n < D∧D≤(n+1) * (n+1)
 | 0,m,fuel,R,hm,hf,hd,hR,h1,h2=>by
  obtain ⟨g,rfl⟩:∃ g,fuel=g+1:=⟨fuel - 1,by omega⟩
  refine ⟨R,?_,h1,by simpa using h2⟩
  have:¬ ((m:Int) < 23):=by omega
  simp only [fV,this,decide_false,cond_false,aK (show R < 9223372036854775807 by omega)]
 | k+1,m,fuel,R,hm,hf,hd,hR,h1,h2=>by
  obtain ⟨g,rfl⟩:∃ g,fuel=g+1:=⟨fuel - 1,by omega⟩
  have hk:k≤22:=by omega
  have hp:2 ^ k≤2 ^ 22:=Nat.pow_le_pow_right (by omega) hk
  have e22:ag (22 - (m:Int))=(k:Int):=by rw [aN (by omega) (by omega)];omega
  obtain ⟨q,rfl⟩:=hd
  have XW:2 ^ (k+1)=2 * 2 ^ k:=by rw [Nat.pow_succ];omega
  have hor:2 ^ (k+1) * q ||| 2 ^ k=2 ^ (k+1) * q+2 ^ k:=(Nat.two_pow_add_eq_or_of_lt (Nat.pow_lt_pow_right (by omega) (by omega)) q).symm
  have hq:q < 2 ^ (22 - k):=by
   have e:2 ^ 23=2 ^ (k+1) * 2 ^ (22 - k):=by rw [← Nat.pow_add];congr 1;omega
   rw [e] at hR
   exact Nat.lt_of_mul_lt_mul_left hR
  have hle:2 ^ (k+1) * q+2 ^ (k+1)≤2 ^ 23:=by
   have e:2 ^ 23=2 ^ (k+1) * 2 ^ (22 - k):=by rw [← Nat.pow_add];congr 1;omega
   rw [e,← Nat.mul_succ]
   exact Nat.mul_le_mul_left _ hq
  generalize hRR:2 ^ (k+1) * q=R at *
  have ec:ss .i64 (R:Int) (gJ .i64 1 (k:Int))=((R+2 ^ k:Nat):Int):=by
   rw [PQ (by omega),Sl (by omega) (by omega),hor]
  have hc:(R+2 ^ k) * (R+2 ^ k)≤2 ^ 23 * 2 ^ 23:=Nat.mul_le_mul (by omega) (by omega)
  have ecc:ag (((R+2 ^ k:Nat):Int) * ((R+2 ^ k:Nat):Int))=(((R+2 ^ k) * (R+2 ^ k):Nat):Int):=by
   rw [← Int.natCast_mul];exact yH (by omega)
  have CY:(m:Int) < 23:=by omega
  simp only [fV,CY,decide_true,cond_true,e22,if_pos (Int.natCast_nonneg k),ec,ecc,hD,l5,aK (show m < 9223372036854775807 by omega)]
  by_cases gk:(R+2 ^ k) * (R+2 ^ k) < D
  ·rw [show decide ((((R+2 ^ k) * (R+2 ^ k):Nat):Int) < (D:Int))=true from decide_eq_true (by exact_mod_cast gk),cond_true]
   refine Cz N l D hD k (m+1) g (R+2 ^ k) (by omega) (by omega) ?_ (by omega) gk ?_
   ·rw [← hRR,XW,Nat.mul_assoc]
    exact ⟨2 * q+1,by rw [Nat.mul_add,Nat.mul_one,Nat.mul_left_comm]⟩
   ·have:R+2 ^ k+2 ^ k=R+2 ^ (k+1):=by omega
    rw [this];exact h2
  ·rw [show decide ((((R+2 ^ k) * (R+2 ^ k):Nat):Int) < (D:Int))=false from decide_eq_false (by exact_mod_cast gk),cond_false]
   refine Cz N l D hD k (m+1) g R (by omega) (by omega) ?_ hR h1 (by omega)
   rw [← hRR,XW,Nat.mul_assoc]
   exact ⟨2 * q,by rw [Nat.mul_left_comm]⟩
theorem uk {x:ai} (h:ek x=0):-1000000≤x.jf∧x.jf≤1000000∧-1000000≤x.jR∧x.jR≤1000000∧-1000000≤x.bX∧x.bX≤1000000∧-1000000≤x.cz∧x.cz≤1000000∧¬ (x.jf=x.bX∧x.jR=x.cz):=by
 unfold ek at h
 split at h
 ·split at h
  ·cases h
  ·omega
 ·cases h
theorem D5 {N:Nat} (hN:23 < N) (l:ai) (h:ek l=0) :
  ∃ n:Nat,np N l=some ((n+1:Nat):Int)∧(n:Int) * n < (l.bX - l.jf) * (l.bX - l.jf)+(l.cz - l.jR) * (l.cz - l.jR) ∧
   (l.bX - l.jf) * (l.bX - l.jf)+(l.cz - l.jR) * (l.cz - l.jR)≤((n:Int)+1) * (n+1)∧n < 3000000 ∧
   (l.bX - l.jf) * (l.bX - l.jf)≤4000000000000∧(l.cz - l.jR) * (l.cz - l.jR)≤4000000000000:=by
 obtain ⟨a1,a2,a3,a4,a5,a6,a7,a8,a9⟩:=uk h
 have hX:=Ty (x:=l.bX - l.jf) (M:=2000000) (by omega) (by omega)
 have hY:=Ty (x:=l.cz - l.jR) (M:=2000000) (by omega) (by omega)
 have hX0:=sq_nonneg (l.bX - l.jf)
 have hY0:=sq_nonneg (l.cz - l.jR)
 have NI:0 < (l.bX - l.jf) * (l.bX - l.jf)+(l.cz - l.jR) * (l.cz - l.jR):=by
  by_cases hx:l.bX - l.jf=0
  ·have hy:l.cz - l.jR≠0:=by omega
   have:(l.cz - l.jR) * (l.cz - l.jR)≠0:=Int.mul_ne_zero hy hy
   omega
  ·have:(l.bX - l.jf) * (l.bX - l.jf)≠0:=Int.mul_ne_zero hx hx
   omega
 have e1:ag (l.bX - l.jf)=l.bX - l.jf:=aN (by omega) (by omega)
 have e2:ag (l.cz - l.jR)=l.cz - l.jR:=aN (by omega) (by omega)
 generalize hXX:(l.bX - l.jf) * (l.bX - l.jf)=XX at *
 generalize hYY:(l.cz - l.jR) * (l.cz - l.jR)=YY at *
 have e3:ag XX=XX:=aN (by omega) (by omega)
 have e4:ag YY=YY:=aN (by omega) (by omega)
 have e5:ag (XX+YY)=XX+YY:=aN (by omega) (by omega)
 obtain ⟨n,h1,h2,h3⟩:=Cz N l (XX+YY).toNat (by rw [e1,e2,hXX,hYY,e3,e4,e5];omega) 23 0 N 0 rfl hN ⟨0,rfl⟩ (by decide) (by omega) (by omega)
 refine ⟨n,h1,?_,?_,?_,by omega,by omega⟩
 ·have:((n * n:Nat):Int) < ((XX+YY).toNat:Int):=by exact_mod_cast h2
  rw [Int.natCast_mul] at this;omega
 ·have:((XX+YY).toNat:Int)≤(((n+1) * (n+1):Nat):Int):=by exact_mod_cast h3
  rw [Int.natCast_mul] at this;simp at this ⊢;omega
 ·apply Nat.lt_of_not_le
  intro hn
  have:=Nat.mul_le_mul hn hn
  omega
theorem SL {N:Nat} (hN:23 < N) (l:ai) (hl:eH [l]=0) :
  ∃ n:Nat,pD N l=some (((n+1:Nat):Int),0)∧(n:Int) * n < (l.bX - l.jf) * (l.bX - l.jf)+(l.cz - l.jR) * (l.cz - l.jR) ∧
   (l.bX - l.jf) * (l.bX - l.jf)+(l.cz - l.jR) * (l.cz - l.jR)≤((n:Int)+1) * (n+1)∧n < 3000000 ∧
   (l.bX - l.jf) * (l.bX - l.jf)≤4000000000000∧(l.cz - l.jR) * (l.cz - l.jR)≤4000000000000∧ek l=0:=by
 have hc:ek l=0:=by
  unfold eH at hl
  simp only [List.length_singleton,scan,n5,List.getD_cons_zero] at hl
  cases h1:rk l.fY
  ·rw [h1] at hl;simp at hl
  ·rw [h1] at hl
   rw [show wb [l] 0=false from rfl] at hl
   by_cases h:ek l=0
   ·exact h
   ·rw [show (ek l != 0)=true by simpa using h] at hl
    exact absurd hl h
 obtain ⟨n,h1,h2,h3,h4,h5,h6⟩:=D5 hN l hc
 refine ⟨n,?_,h2,h3,h4,h5,h6,hc⟩
 unfold pD
 rw [zz (by omega),hl,h1];rfl
theorem QL {N:Nat} (hN:23 < N):qC N=some true:=by
 have hz:eH [(⟨(⟨#[108]⟩:ByteArray),0,0,3000,4000,1000⟩:ai)]=0:=by
  have hn:rk (⟨#[108]⟩:ByteArray)=true:=by unfold rk;rw [CT];decide
  unfold eH
  simp only [List.length_singleton,scan,n5,List.getD_cons_zero,hn]
  decide
 obtain ⟨n,h1,h2,h3,h4,-,-⟩:=SL hN _ hz
 unfold qC
 rw [h1,cn]
 have:n=4999:=by
  simp only at h2 h3
  have a:n < 5000:=by
   apply Nat.lt_of_not_le
   intro hn
   have:=Nat.mul_le_mul hn hn
   have XT:((n * n:Nat):Int) < 25000000:=by rw [Int.natCast_mul];omega
   omega
  have b:4999≤n:=by
   apply Nat.le_of_not_lt
   intro hn
   have:=Nat.mul_le_mul (show n+1≤4999 by omega) (show n+1≤4999 by omega)
   have h3':(25000000:Int)≤(((n+1) * (n+1):Nat):Int):=by rw [Int.natCast_mul];simp only [Int.natCast_add,Int.natCast_one];omega
   omega
  omega
 subst this;rfl
def Ls (l:List ai):Bool:=scan (fun m=>cond (decide ((((l.getD m ai.d).fY.size:Nat):Int) > 40)) (some false) none) (decide (((l.length:Nat):Int)≤14)) l.length 0
theorem QM {N:Nat} (l:List ai) (hN:l.length < N) (hl:l.length≤9223372036854775807):qD N l=some (Ls l):=by
 unfold qD Ls
 refine qf (L:=fun fuel=>iZ N l fuel) _ _ hN (fun fuel m hm=>?_) (fun fuel=>?_)
 ·simp only [iZ,dec_lt hm,cond_true,if_pos (oE hm),aK (show m < 9223372036854775807 by omega),an]
  cases decide ((((l.getD m ai.d).fY.size:Nat):Int) > 40)<;>rfl
 ·simp only [iZ,dV,cond_false]
end Go.Den
namespace Go.Den
open Go.Ab
def Kh (z:Int):Prop:=-9223372036854775808≤z∧z≤9223372036854775807
theorem s7 {z:Int} (h:Kh z):Gv (fun N=>mA N z) (bA (z:Rat)):=(F2 h.1 h.2).bind (WK.bind ((Gv.pure _).eq rfl))
theorem RB.one:RB 1 1:=RB.int (z:=1) (ZB.small (by decide)) (by decide)
theorem fy {z:Int} (h:Kh z):RB (z:Rat) 4:=RB.int (ZB.word h.1 h.2) (by decide)
theorem Vb {z:Int} (h:Kh z):Gv (fun N=>vF N z) (zd z):=Mt h.1 h.2
theorem NO {z:Int} (h:Kh z):Gv (fun N=>qa N (zd z)) (bA (z:Rat)):=(ZB.word h.1 h.2).zi.whole (by decide) (by decide)
end Go.Den
namespace Go.Den
open Go.Ab
theorem MJ {m n:Nat} {D:Int} (h1:(m:Int) * m < D) (h2:D≤((m:Int)+1) * (m+1)) (h3:(n:Int) * n < D) (h4:D≤((n:Int)+1) * (n+1)):m=n:=by
 have key:∀ {a b:Nat},(a:Int) * a < D→D≤((b:Int)+1) * (b+1)→a≤b:=by
  intro a b h h'
  apply Nat.le_of_not_lt
  intro gk
  have:=Nat.mul_le_mul (show b+1≤a by omega) (show b+1≤a by omega)
  have e:(((b+1) * (b+1):Nat):Int)≤((a * a:Nat):Int):=by exact_mod_cast this
  rw [Int.natCast_mul,Int.natCast_mul] at e
  simp only [Int.natCast_add,Int.natCast_one] at e
  omega
 exact Nat.le_antisymm (key h1 h4) (key h3 h2)
theorem An (N:Nat) (l:ai) (D:Nat) (hD:(ag ((ag ((ag (l.bX - l.jf)) * (ag (l.bX - l.jf))))+(ag ((ag (l.cz - l.jR)) * (ag (l.cz - l.jR))))))=(D:Int)) :
  ∀ (k fuel R st:Nat),k < fuel→st=2 ^ k / 2→R+2 ^ k≤2 ^ 23→R * R < D→D≤(R+2 ^ k) * (R+2 ^ k)→∃ n:Nat,iS N l fuel (R:Int) (st:Int)=some ((n+1:Nat):Int)∧n * n < D∧D≤(n+1) * (n+1)
 | 0,fuel,R,st,hf,As,hR,h1,h2=>by
  obtain ⟨g,rfl⟩:∃ g,fuel=g+1:=⟨fuel - 1,by omega⟩
  have:st=0:=by rw [As]
  subst this
  refine ⟨R,?_,h1,by simpa using h2⟩
  rw [iS,decide_eq_false (by omega),cond_false,aK (by omega)]
 | k+1,fuel,R,st,hf,As,hR,h1,h2=>by
  obtain ⟨g,rfl⟩:∃ g,fuel=g+1:=⟨fuel - 1,by omega⟩
  have XW:2 ^ (k+1)=2 * 2 ^ k:=by rw [Nat.pow_succ];omega
  have Xc:0 < 2 ^ k:=Nat.pow_pos (by decide)
  have:st=2 ^ k:=by rw [As,XW];omega
  subst this
  have hc:(R+2 ^ k) * (R+2 ^ k)≤2 ^ 23 * 2 ^ 23:=Nat.mul_le_mul (by omega) (by omega)
  have e1:ag ((R:Int)+((2 ^ k:Nat):Int))=((R+2 ^ k:Nat):Int):=by rw [← Int.natCast_add];exact yH (by omega)
  have ecc:ag (((R+2 ^ k:Nat):Int) * ((R+2 ^ k:Nat):Int))=(((R+2 ^ k) * (R+2 ^ k):Nat):Int):=by
   rw [← Int.natCast_mul];exact yH (by omega)
  have e2:ag ((((2 ^ k:Nat):Int)).tdiv 2)=((2 ^ k / 2:Nat):Int):=by
   have:(((2 ^ k:Nat):Int)).tdiv 2=((2 ^ k / 2:Nat):Int):=rfl
   rw [this];exact yH (by omega)
  rw [iS,decide_eq_true (by omega),cond_true]
  simp only [e1,ecc,hD,nU,e2]
  by_cases gk:(R+2 ^ k) * (R+2 ^ k) < D
  ·rw [decide_eq_true (by exact_mod_cast gk),cond_true]
   refine An N l D hD k g (R+2 ^ k) _ (by omega) rfl (by omega) gk ?_
   have:R+2 ^ k+2 ^ k=R+2 ^ (k+1):=by omega
   rw [this];exact h2
  ·rw [decide_eq_false (by exact_mod_cast gk),cond_false]
   exact An N l D hD k g R _ (by omega) rfl (by omega) h1 (by omega)
theorem QN {N:Nat} (hN:24 < N) (l:ai) (h:ek l=0) :
  ∃ n:Nat,sI N l=some ((n+1:Nat):Int)∧(n:Int) * n < (l.bX - l.jf) * (l.bX - l.jf)+(l.cz - l.jR) * (l.cz - l.jR) ∧
   (l.bX - l.jf) * (l.bX - l.jf)+(l.cz - l.jR) * (l.cz - l.jR)≤((n:Int)+1) * (n+1):=by
 obtain ⟨a1,a2,a3,a4,a5,a6,a7,a8,a9⟩:=uk h
 obtain ⟨n0,-,b1,b2,-,b3,b4⟩:=D5 (N:=24) (by omega) l h
 have hX0:=sq_nonneg (l.bX - l.jf)
 have hY0:=sq_nonneg (l.cz - l.jR)
 have MY:(0:Int)≤(n0:Int) * n0:=sq_nonneg _
 have e1:ag (l.bX - l.jf)=l.bX - l.jf:=aN (by omega) (by omega)
 have e2:ag (l.cz - l.jR)=l.cz - l.jR:=aN (by omega) (by omega)
 generalize hXX:(l.bX - l.jf) * (l.bX - l.jf)=XX at *
 generalize hYY:(l.cz - l.jR) * (l.cz - l.jR)=YY at *
 have e3:ag XX=XX:=aN (by omega) (by omega)
 have e4:ag YY=YY:=aN (by omega) (by omega)
 have e5:ag (XX+YY)=XX+YY:=aN (by omega) (by omega)
 obtain ⟨n,h1,h2,h3⟩:=An N l (XX+YY).toNat (by rw [e1,e2,hXX,hYY,e3,e4,e5];omega) 23 N 0 4194304 (by omega) (by decide) (by decide) (by omega) (by omega)
 refine ⟨n,h1,?_,?_⟩
 ·have:((n * n:Nat):Int) < ((XX+YY).toNat:Int):=by exact_mod_cast h2
  rw [Int.natCast_mul] at this;omega
 ·have:((XX+YY).toNat:Int)≤(((n+1) * (n+1):Nat):Int):=by exact_mod_cast h3
  rw [Int.natCast_mul] at this;simp at this ⊢;omega
theorem SN (l:ai) (h:ek l=0):∃ s:Int,1≤s∧s≤3000000∧Gv (fun N=>np N l) s∧Gv (fun N=>sI N l) s:=by
 obtain ⟨n,h0,h1,h2,h3,-⟩:=D5 (N:=24) (by omega) l h
 refine ⟨((n+1:Nat):Int),by omega,by omega,.of 25 fun N hN=>?_,.of 25 fun N hN=>?_⟩
 ·obtain ⟨m,k0,k1,k2,-⟩:=D5 (N:=N) (by omega) l h
  rw [k0,MJ k1 k2 h1 h2]
 ·obtain ⟨m,k0,k1,k2⟩:=QN (N:=N) (by omega) l h
  rw [k0,MJ k1 k2 h1 h2]
def t3 (a b c:Rat):av:=⟨bA a,bA b,bA c⟩
theorem n6 {z:Int} (h:Kh z):Gv (fun N=>er N z) (bA (z:Rat)):=Gv.bind (Vb h) (Gv.bind (NO h) (Gv.pure _))
def px (l:ai) (s:Int):Rat:=(l.nH:Rat) / (s:Rat) * ((l.bX - l.jf:Int):Rat)
def py (l:ai) (s:Int):Rat:=(l.nH:Rat) / (s:Rat) * ((l.cz - l.jR:Int):Rat)
def pt (l:ai) (s:Int):Rat:=(l.jf:Rat) * py l s - (l.jR:Rat) * px l s
theorem NP {x:ai} (h:ek x=0):1≤x.nH∧x.nH≤1000000000:=by
 unfold ek at h
 split at h
 ·omega
 ·cases h
theorem DK {z:Int} (h:z.natAbs≤9000000000000000000):Kh z:=⟨by omega,by omega⟩
structure QO (l:ai) (x y t:Rat):Prop where
 rx:RB x 40
 ry:RB y 40
 rt:RB t 40
 code:Gv (fun N=>nr N l) (t3 x y t)
 doc:Gv (fun N=>sJ N l) (t3 x y t)
theorem Vc {l:ai} (h:ek l=0):∃ x y t,QO l x y t:=by
 obtain ⟨a1,a2,a3,a4,a5,a6,a7,a8,-⟩:=uk h
 obtain ⟨m1,m2⟩:=NP h
 obtain ⟨s,s1,s2,c1,c2⟩:=SN l h
 have hm:Kh l.nH:=DK (by omega)
 have hs:Kh s:=DK (by omega)
 have W4:Kh (l.bX - l.jf):=DK (by omega)
 have W5:Kh (l.cz - l.jR):=DK (by omega)
 have hX:Kh l.jf:=DK (by omega)
 have hY:Kh l.jR:=DK (by omega)
 have Q1:(s:Rat)≠0:=by exact_mod_cast (by omega:s≠0)
 have rp:=(fy hm).div (fy hs) Q1
 have rx:RB (px l s) 12:=rp.mul (fy W4)
 have ry:RB (py l s) 12:=rp.mul (fy W5)
 have rt:RB (pt l s) 33:=((fy hX).mul ry).sub ((fy hY).mul rx)
 have e1:ag (l.bX - l.jf)=l.bX - l.jf:=aN (by omega) (by omega)
 have e2:ag (l.cz - l.jR)=l.cz - l.jR:=aN (by omega) (by omega)
 refine ⟨px l s,py l s,pt l s,rx.le (by decide),ry.le (by decide),rt.le (by decide),?_,?_⟩
 ·have hr:=Qb hm.1 hm.2 hs.1 hs.2 (show s≠0 by omega)
  rw [Rat.divInt_eq_div] at hr
  refine Gv.bind c1 (Gv.bind hr ?_)
  rw [e1,e2]
  refine Gv.bind (n6 W4) (Gv.bind ((rp.rq (by decide)).mul ((fy W4).rq (by decide)) (by decide)) ?_)
  refine Gv.bind (n6 W5) (Gv.bind ((rp.rq (by decide)).mul ((fy W5).rq (by decide)) (by decide)) ?_)
  refine Gv.bind (n6 hX) (Gv.bind (((fy hX).rq (by decide)).mul (ry.rq (by decide)) (by decide)) ?_)
  refine Gv.bind (n6 hY) (Gv.bind (((fy hY).rq (by decide)).mul (rx.rq (by decide)) (by decide)) ?_)
  exact Gv.bind ((((fy hX).mul ry).rq (by decide)).sub (((fy hY).mul rx).rq (by decide)) (by decide)) (Gv.pure _)
 ·refine Gv.bind (s7 hm) (Gv.bind c2 (Gv.bind (s7 hs) (Gv.bind (((fy hm).rq (by decide)).Z9 ((fy hs).rq (by decide)) Q1 (by decide)) ?_)))
  rw [e1,e2]
  refine Gv.bind (s7 W4) (Gv.bind ((rp.rq (by decide)).w8 ((fy W4).rq (by decide)) (by decide)) ?_)
  refine Gv.bind (s7 W5) (Gv.bind ((rp.rq (by decide)).w8 ((fy W5).rq (by decide)) (by decide)) ?_)
  refine Gv.bind (s7 hX) (Gv.bind (((fy hX).rq (by decide)).w8 (ry.rq (by decide)) (by decide)) ?_)
  refine Gv.bind (s7 hY) (Gv.bind (((fy hY).rq (by decide)).w8 (rx.rq (by decide)) (by decide)) ?_)
  exact Gv.bind ((((fy hX).mul ry).rq (by decide)).WL (((fy hY).mul rx).rq (by decide)) (by decide)) (Gv.pure _)
def cO (w:bJ):Int :=
 if -1000000000≤w.jf∧w.jf≤1000000000∧-1000000000≤w.jR∧w.jR≤1000000000∧-1000000000000000≤w.kg∧w.kg≤1000000000000000 then 0 else 2
theorem IE (N:Nat) (w:bJ):gP N w=some (cO w):=by
 unfold gP dP pE cO
 simp only [cn,yI,aA]
 simp only [Bool.cond_eq_ite]
 generalize w.jf=a,w.jR=b,w.kg=c
 simp
 split<;>split<;>try omega
 all_goals simp_all<;>try omega
theorem Lv (N:Nat) (w:bJ):jo N w=some (cO w):=by
 unfold jo fW cO
 simp only [cn,yI,aA]
 simp only [Bool.cond_eq_ite]
 generalize w.jf=a,w.jR=b,w.kg=c
 simp
 split<;>split<;>try omega
 all_goals simp_all<;>try omega
theorem IG {w:bJ} (h:cO w=0):Kh w.jf∧Kh w.jR∧Kh w.kg:=by
 unfold cO at h
 split at h
 ·exact ⟨DK (by omega),DK (by omega),DK (by omega)⟩
 ·cases h
theorem QP {w:bJ} (h:cO w=0):Gv (fun N=>qj N w) (t3 w.jf w.jR w.kg):=by
 obtain ⟨a,b,c⟩:=IG h
 exact Gv.bind (n6 a) (Gv.bind (n6 b) (Gv.bind (n6 c) (Gv.pure _)))
theorem Ki {w:bJ} (h:cO w=0):Gv (fun N=>qF N w) (t3 w.jf w.jR w.kg):=by
 obtain ⟨a,b,c⟩:=IG h
 exact Gv.bind (s7 a) (Gv.bind (s7 b) (Gv.bind (s7 c) (Gv.pure _)))
def zr:aa:=⟨⟨false,[]⟩,⟨false,[]⟩⟩
theorem TF:IB ⟨false,[]⟩ 1:=⟨(fun x h=>by cases h),by decide⟩
theorem Ht:RQ zr 0 1:=⟨⟨TF,TF⟩,by decide,by decide⟩
structure W6 (l:List aa):Prop where
 ir:∀ i,i < l.length→IR (l.getD i aa.d) 12
theorem W6.rq {l:List aa} (h:W6 l) {i:Nat} (hi:i < l.length):RQ (l.getD i aa.d) (qv (l.getD i aa.d)) 12:=⟨h.ir i hi,rfl,by decide⟩
theorem SO:RB ((1:Int):Rat) 1:=RB.one
theorem w1:Kh 1:=DK (by decide)
def ya (l:List ai) (X Y T:Nat→Rat):Prop:=∀ i,i < l.length→QO (l.getD i ai.d) (X i) (Y i) (T i)
section
variable {l:List ai} {X Y T:Nat→Rat} {pa:List aa}
def pv (pa:List aa) (i:Nat):Rat:=qv (pa.getD i aa.d)
def rl (X Y T:Nat→Rat) (pa:List aa):Nat→Nat→Rat→Rat→Rat→Bool
 | 0,_,a,b,c=>cond (oZ a == 0) (cond (oZ b == 0) (oZ c == 0) false) false
 | k+1,i,a,b,c=>cond (cond (decide (oZ (pv pa i) < 0)) true (decide (oZ (pv pa i - ((1:Int):Rat)) > 0))) false (rl X Y T pa k (i+1) (a+pv pa i * X i) (b+pv pa i * Y i) (c+pv pa i * T i))
def nb (pa:List aa) (a b c:Rat):Rat:=((((0:Int):Rat)+pv pa 0 * a)+pv pa 1 * b)+pv pa 2 * c
theorem w0:Kh 0:=DK (by decide)
theorem Vd:RB ((0:Int):Rat) 1:=RB.zero
def qt (X Y T:Nat→Rat) (pa:List aa):Nat→Nat→Rat→Bool
 | 0,_,s=>decide (oZ s < 0)
 | k+1,i,s=>qt X Y T pa k (i+1) (cond (decide (oZ (nb pa (X i) (Y i) (T i)) > 0)) (s+nb pa (X i) (Y i) (T i)) s)
end
end Go.Den
namespace Go.Den
open Go.Ab
structure Lw (z:Nat) (l:List aa):Prop where
 one:1≤z
 top:z≤100000000000
 rq:∀ {i:Nat},i < l.length→RQ (l.getD i aa.d) (qv (l.getD i aa.d)) z
section
variable {l:List ai} {X Y T:Nat→Rat} {pa:List aa} {z:Nat}
theorem Br (hl:l.length≤14) (hq:ya l X Y T) (hp:Lw z pa) (hz:z≤1000000000) (hlen:pa.length=l.length):∀ (k i m:Nat) (a b c:Rat),i+k=l.length→RB a m→RB b m→RB c m→1≤m→m+k * (z+60)≤100000000000 →
  ay (fun N fuel=>fx N l pa fuel (t3 a b c) (i:Int)) (rl X Y T pa k i a b c)
 | 0,i,m,a,b,c,hi,ha,hb,hc,h1,hm=>by
  have M8:=hp.one
  have Q2:=hp.top
  have:i=l.length:=by omega
  subst this
  refine ay.succ (fun N g=>fx.eq_2 ..) (ay.aY dV (ay.one (Gv.bind ((ha.rq h1).Lh (by simp only [LM];omega)) ?_)))
  unfold rl
  cases ea:oZ a == 0 with
  | false=>exact Gv.bind (Gv.aY rfl (Gv.pure _)) (Gv.bind (Gv.aY rfl (Gv.pure _)) (Gv.pure _))
  | true =>
   refine Gv.bind (Gv.aL rfl ((hb.rq h1).Lh (by simp only [LM];omega))) ?_
   cases eb:oZ b == 0 with
   | false=>exact Gv.bind (Gv.aY rfl (Gv.pure _)) (Gv.pure _)
   | true=>exact Gv.bind (Gv.aL rfl ((hc.rq h1).Lh (by simp only [LM];omega))) (Gv.pure _)
 | k+1,i,m,a,b,c,hi,ha,hb,hc,h1,hm=>by
  rw [Nat.succ_mul] at hm
  have M8:=hp.one
  have Q2:=hp.top
  have pS:i < l.length:=by omega
  have hip:i < pa.length:=by omega
  have r:=hp.rq hip
  have q:=hq i pS
  have rb:=r.rb
  refine ay.succ (fun N g=>fx.eq_2 ..) (ay.aL (dec_lt pS) (ay.if (oE hip) ?_))
  rw [an,aK (by omega)]
  refine ay.bind (r.Lh (by simp only [LM];omega)) (ay.if (fun _=>oE hip) ?_)
  unfold rl
  change ay _ (cond (cond (decide (oZ (qv (pa.getD i aa.d)) < 0)) true (decide (oZ (qv (pa.getD i aa.d) - ((1:Int):Rat)) > 0))) false (rl X Y T pa k (i+1) (a+qv (pa.getD i aa.d) * X i) (b+qv (pa.getD i aa.d) * Y i) (c+qv (pa.getD i aa.d) * T i)))
  cases en:decide (oZ (qv (pa.getD i aa.d)) < 0) with
  | true=>exact ay.bind (Gv.aY rfl (Gv.pure _)) (ay.bind (Gv.aY rfl (Gv.pure _)) (ay.aL rfl (ay.one (Gv.pure _))))
  | false =>
   refine ay.bind (Gv.aL rfl (s7 w1)) (ay.bind (Gv.aL rfl (r.aaa (SO.rq (by decide)) (by simp only [LM];omega))) ?_)
   cases eg:decide (oZ (qv (pa.getD i aa.d) - ((1:Int):Rat)) > 0) with
   | true=>exact ay.aL rfl (ay.one (Gv.pure _))
   | false =>
    refine ay.aY rfl (ay.if (oE pS) (ay.bind q.doc ?_))
    have mx:=rb.mul q.rx
    have my:=rb.mul q.ry
    have mt:=rb.mul q.rt
    refine ay.bind (r.w8 (q.rx.rq (by decide)) (by simp only [LM];omega)) (ay.bind ((ha.rq h1).GA (mx.rq (by omega)) (by simp only [LM];omega)) ?_)
    refine ay.bind (r.w8 (q.ry.rq (by decide)) (by simp only [LM];omega)) (ay.bind ((hb.rq h1).GA (my.rq (by omega)) (by simp only [LM];omega)) ?_)
    refine ay.bind (r.w8 (q.rt.rq (by decide)) (by simp only [LM];omega)) (ay.bind ((hc.rq h1).GA (mt.rq (by omega)) (by simp only [LM];omega)) ?_)
    exact Br hl hq hp hz hlen k (i+1) (m+(z+60)) _ _ _ (by omega) ((ha.add mx).le (by omega)) ((hb.add my).le (by omega)) ((hc.add mt).le (by omega)) (by omega) (by omega)
theorem Hu (hp:Lw z pa) (hlen:pa.length=3) {a b c:Rat} (ha:RB a 40) (hb:RB b 40) (hc:RB c 40):RB (nb pa a b c) (3 * z+160):=by
 have M8:=hp.one
 have Q2:=hp.top
 have r0:=(hp.rq (i:=0) (by omega)).rb
 have r1:=(hp.rq (i:=1) (by omega)).rb
 have r2:=(hp.rq (i:=2) (by omega)).rb
 exact (((Vd.add (r0.mul ha)).add (r1.mul hb)).add (r2.mul hc)).le (by omega)
theorem Hv (hp:Lw z pa) (hz:z≤1000000000) (hlen:pa.length=3) {a b c:Rat} (ha:RB a 40) (hb:RB b 40) (hc:RB c 40):Gv (fun N=>qG N pa (t3 a b c)) (bA (nb pa a b c)):=by
 have M8:=hp.one
 have Q2:=hp.top
 have q0:=hp.rq (i:=0) (by omega)
 have q1:=hp.rq (i:=1) (by omega)
 have q2:=hp.rq (i:=2) (by omega)
 have m0:=q0.rb.mul ha
 have m1:=q1.rb.mul hb
 have m2:=q2.rb.mul hc
 have s0:=Vd.add m0
 have s1:=s0.add m1
 refine Gv.bind (s7 w0) (Gv.if ⟨by omega,by omega⟩ ?_)
 refine Gv.bind (q0.w8 (ha.rq (by decide)) (by simp only [LM];omega)) (Gv.bind ((Vd.rq (by decide)).GA (m0.rq (by omega)) (by simp only [LM];omega)) (Gv.if ⟨by omega,by omega⟩ ?_))
 refine Gv.bind (q1.w8 (hb.rq (by decide)) (by simp only [LM];omega)) (Gv.bind ((s0.rq (by omega)).GA (m1.rq (by omega)) (by simp only [LM];omega)) (Gv.if ⟨by omega,by omega⟩ ?_))
 exact Gv.bind (q2.w8 (hc.rq (by decide)) (by simp only [LM];omega)) (Gv.bind ((s1.rq (by omega)).GA (m2.rq (by omega)) (by simp only [LM];omega)) (Gv.pure _))
theorem yc (hl:l.length≤14) (hq:ya l X Y T) (hp:Lw z pa) (hz:z≤1000000000) (hlen:pa.length=3):∀ (k i m:Nat) (s:Rat),i+k=l.length→RB s m→1≤m→m+k * (3 * z+200)≤100000000000 →
  ay (fun N fuel=>fh N l pa fuel (bA s) (i:Int)) (qt X Y T pa k i s)
 | 0,i,m,s,hi,hs,h1,hm=>by
  have M8:=hp.one
  have Q2:=hp.top
  have:i=l.length:=by omega
  subst this
  exact ay.succ (fun N g=>fh.eq_2 ..) (ay.aY dV (ay.one (Gv.bind ((hs.rq h1).Lh (by simp only [LM];omega)) (Gv.pure _))))
 | k+1,i,m,s,hi,hs,h1,hm=>by
  rw [Nat.succ_mul] at hm
  have M8:=hp.one
  have Q2:=hp.top
  have pS:i < l.length:=by omega
  have q:=hq i pS
  have ra:=Hu hp hlen q.rx q.ry q.rt
  refine ay.succ (fun N g=>fh.eq_2 ..) (ay.aL (dec_lt pS) (ay.if (oE pS) ?_))
  rw [an]
  refine ay.bind q.doc (ay.bind (Hv hp hz hlen q.rx q.ry q.rt) (ay.bind ((ra.rq (by omega)).Lh (by simp only [LM];omega)) ?_))
  unfold qt
  cases eg:decide (oZ (nb pa (X i) (Y i) (T i)) > 0) with
  | true =>
   refine ay.aL rfl (ay.bind ((hs.rq h1).GA (ra.rq (by omega)) (by simp only [LM];omega)) ?_)
   unfold jP
   rw [aK (by omega)]
   exact yc hl hq hp hz hlen k (i+1) (m+(3 * z+200)) _ (by omega) ((hs.add ra).le (by omega)) (by omega) (by omega)
  | false =>
   refine ay.aY rfl ?_
   unfold jP
   rw [aK (by omega)]
   exact yc hl hq hp hz hlen k (i+1) (m+(3 * z+200)) _ (by omega) (hs.le (by omega)) (by omega) (by omega)
end
end Go.Den
namespace Go.Den
open Go.Ab
theorem Bs {α:Type} (a b:List α) (d:α) {i:Nat} (h:i < a.length):(a ++ b).getD i d=a.getD i d:=by simp [fk,ia h]
theorem Kj {α:Type} (a b:List α) (d:α) {i:Nat} (k:Nat) (h:i=a.length+k):(a ++ b).getD i d=b.getD k d:=by
 subst h;simp [fk,jt]
def Lx (n i:Nat) (q:Rat):List aa:=(List.replicate n aa.d).set i (bA q)
theorem MK (n i:Nat) (q:Rat):(Lx n i q).length=n:=by simp [Lx]
theorem ML {n i j:Nat} {q:Rat} (hi:i < n):qv ((Lx n i q).getD j aa.d)=if j=i then q else 0:=by
 unfold Lx
 by_cases h:j=i
 ·subst h;rw [if_pos rfl,lx _ _ _ _ (by simpa using hi),gS]
 ·rw [if_neg h,jm _ _ _ (fun e=>h e.symm)]
  by_cases hj:j < n
  ·rw [show (List.replicate n aa.d).getD j aa.d=aa.d by simp [fk,List.getElem?_replicate,hj]];exact SI
  ·rw [Bk (by simp;omega)];exact SI
def n7 (n:Nat):Nat→List af
 | 0=>[]
 | x+1=>n7 n x ++ [⟨Lx n x ((1:Int):Rat),bA ((1:Int):Rat)⟩,⟨Lx n x ((-1:Int):Rat),zr⟩]
def o5 (n:Nat) (f:Nat→Rat) (w:Rat):List af:=[⟨LQ f n,bA (0 - w)⟩,⟨LQ (fun i=>0 - f i) n,bA w⟩]
def fa (n:Nat) (X Y T:Nat→Rat) (a b c:Rat):List af:=((n7 n n ++ o5 n X a) ++ o5 n Y b) ++ o5 n T c
theorem cD (n:Nat):∀ x,(n7 n x).length=2 * x
 | 0=>rfl
 | x+1=>by rw [n7,lD,cD n x];simp;omega
theorem Hw (n:Nat):∀ x i,i < x→(n7 n x).getD (2 * i) af.d=⟨Lx n i ((1:Int):Rat),bA ((1:Int):Rat)⟩∧(n7 n x).getD (2 * i+1) af.d=⟨Lx n i ((-1:Int):Rat),zr⟩
 | x+1,i,h=>by
  rw [n7]
  by_cases e:i=x
  ·subst e
   rw [Kj _ _ _ 0 (by rw [cD];omega),Kj _ _ _ 1 (by rw [cD])]
   exact ⟨rfl,rfl⟩
  ·rw [Bs _ _ _ (by rw [cD];omega),Bs _ _ _ (by rw [cD];omega)]
   exact Hw n x i (by omega)
section
variable {n:Nat} {X Y T:Nat→Rat} {a b c:Rat}
theorem yQ:(fa n X Y T a b c).length=2 * n+6:=by simp [fa,o5,cD]
theorem MM {i:Nat} (h:i < n):(fa n X Y T a b c).getD (2 * i) af.d=⟨Lx n i ((1:Int):Rat),bA ((1:Int):Rat)⟩∧(fa n X Y T a b c).getD (2 * i+1) af.d=⟨Lx n i ((-1:Int):Rat),zr⟩:=by
 unfold fa
 rw [Bs _ _ _ (by simp [o5,cD];omega),Bs _ _ _ (by simp [o5,cD];omega),Bs _ _ _ (by simp [cD];omega),Bs _ _ _ (by simp [o5,cD];omega),Bs _ _ _ (by simp [o5,cD];omega),Bs _ _ _ (by simp [cD];omega)]
 exact Hw n n i h
theorem D6:(fa n X Y T a b c).getD (2 * n) af.d=⟨LQ X n,bA (0 - a)⟩∧(fa n X Y T a b c).getD (2 * n+1) af.d=⟨LQ (fun i=>0 - X i) n,bA a⟩:=by
 unfold fa
 rw [Bs _ _ _ (by simp [o5,cD]),Bs _ _ _ (by simp [o5,cD]),Kj _ _ _ 0 (by simp [cD]),Bs _ _ _ (by simp [o5,cD]),Bs _ _ _ (by simp [o5,cD]),Kj _ _ _ 1 (by simp [cD])]
 exact ⟨rfl,rfl⟩
theorem D7:(fa n X Y T a b c).getD (2 * n+2) af.d=⟨LQ Y n,bA (0 - b)⟩∧(fa n X Y T a b c).getD (2 * n+3) af.d=⟨LQ (fun i=>0 - Y i) n,bA b⟩:=by
 unfold fa
 rw [Bs _ _ _ (by simp [o5,cD]),Kj _ _ _ 0 (by simp [o5,cD]),Bs _ _ _ (by simp [o5,cD]),Kj _ _ _ 1 (by simp [o5,cD])]
 exact ⟨rfl,rfl⟩
theorem D8:(fa n X Y T a b c).getD (2 * n+4) af.d=⟨LQ T n,bA (0 - c)⟩∧(fa n X Y T a b c).getD (2 * n+5) af.d=⟨LQ (fun i=>0 - T i) n,bA c⟩:=by
 unfold fa
 rw [Kj _ _ _ 0 (by simp [o5,cD]),Kj _ _ _ 1 (by simp [o5,cD])]
 exact ⟨rfl,rfl⟩
theorem N9 {i j:Nat} (h:i < n):cf (fa n X Y T a b c) (2 * i) j=(if j=i then 1 else 0)∧cf (fa n X Y T a b c) (2 * i+1) j=(if j=i then -1 else 0)∧bv (fa n X Y T a b c) (2 * i)=1∧bv (fa n X Y T a b c) (2 * i+1)=0:=by
 unfold cf bv
 rw [(MM h).1,(MM h).2]
 refine ⟨?_,?_,?_,?_⟩
 ·show qv ((Lx n i _).getD j _)=_;rw [ML h];rfl
 ·show qv ((Lx n i _).getD j _)=_;rw [ML h];rfl
 ·exact gS _
 ·exact SI
theorem XY {j:Nat} (h:j < n):cf (fa n X Y T a b c) (2 * n) j=X j∧cf (fa n X Y T a b c) (2 * n+1) j=0 - X j∧bv (fa n X Y T a b c) (2 * n)=0 - a∧bv (fa n X Y T a b c) (2 * n+1)=a:=by
 unfold cf bv
 rw [D6.1,D6.2]
 refine ⟨?_,?_,gS _,gS _⟩
 ·show qv ((LQ X n).getD j _)=_;rw [fw _ _ h,gS]
 ·show qv ((LQ (fun i=>0 - X i) n).getD j _)=_;rw [fw _ _ h,gS]
theorem cfY {j:Nat} (h:j < n):cf (fa n X Y T a b c) (2 * n+2) j=Y j∧cf (fa n X Y T a b c) (2 * n+3) j=0 - Y j:=by
 unfold cf
 rw [D7.1,D7.2]
 refine ⟨?_,?_⟩
 ·show qv ((LQ Y n).getD j _)=_;rw [fw _ _ h,gS]
 ·show qv ((LQ (fun i=>0 - Y i) n).getD j _)=_;rw [fw _ _ h,gS]
theorem cfT {j:Nat} (h:j < n):cf (fa n X Y T a b c) (2 * n+4) j=T j∧cf (fa n X Y T a b c) (2 * n+5) j=0 - T j:=by
 unfold cf
 rw [D8.1,D8.2]
 refine ⟨?_,?_⟩
 ·show qv ((LQ T n).getD j _)=_;rw [fw _ _ h,gS]
 ·show qv ((LQ (fun i=>0 - T i) n).getD j _)=_;rw [fw _ _ h,gS]
theorem bvH:bv (fa n X Y T a b c) (2 * n)=0 - a∧bv (fa n X Y T a b c) (2 * n+1)=a∧bv (fa n X Y T a b c) (2 * n+2)=0 - b∧bv (fa n X Y T a b c) (2 * n+3)=b∧bv (fa n X Y T a b c) (2 * n+4)=0 - c∧bv (fa n X Y T a b c) (2 * n+5)=c:=by
 unfold bv
 rw [D6.1,D6.2,D7.1,D7.2,D8.1,D8.2]
 exact ⟨gS _,gS _,gS _,gS _,gS _,gS _⟩
theorem JF (g:Nat→Rat):∀ x,cu (2 * x) g=cu x fun i=>g (2 * i)+g (2 * i+1)
 | 0=>rfl
 | x+1=>by rw [show 2 * (x+1)=2 * x+1+1 by omega,cu,cu,JF g x,cu];grind
theorem QQ {n:Nat} {f g:Nat→Rat} (h:∀ i,i < n→f i≤g i):cu n f≤cu n g:=by
 induction n with
 | zero=>exact Rat.le_refl
 | succ n ih=>rw [cu,cu];have:=ih fun i hi=>h i (by omega);have:=h n (by omega);grind
theorem Kk {x:Nat→Rat} {q:Nat} (h:Va q n (fa n X Y T a b c) x) :
  (∀ i,i < n→0≤x i∧x i≤1)∧a+cu n (fun j=>x j * X j)=0∧b+cu n (fun j=>x j * Y j)=0∧c+cu n (fun j=>x j * T j)=0:=by
 have ok:∀ r,r < 2 * n+6→cu n (fun j=>cf (fa n X Y T a b c) r j * x j)≤bv (fa n X Y T a b c) r:=fun r hr=>h.ok r (by rw [yQ];exact hr)
 have key:∀ {r s:Nat} {f:Nat→Rat} {w:Rat},r < 2 * n+6→s < 2 * n+6→(∀ j,j < n→cf (fa n X Y T a b c) r j=f j∧cf (fa n X Y T a b c) s j=0 - f j)→bv (fa n X Y T a b c) r=0 - w→bv (fa n X Y T a b c) s=w→w+cu n (fun j=>x j * f j)=0:=by
  intro r s f w hr hs hc b1 b2
  have h1:=ok r hr
  have h2:=ok s hs
  rw [b1,bR (g:=fun j=>x j * f j) fun j hj=>by rw [(hc j hj).1];grind] at h1
  rw [b2,bR (g:=fun j=>(-1) * (x j * f j)) fun j hj=>by rw [(hc j hj).2];grind,pQ] at h2
  grind
 obtain ⟨b1,b2,b3,b4,b5,b6⟩:=bvH (n:=n) (X:=X) (Y:=Y) (T:=T) (a:=a) (b:=b) (c:=c)
 refine ⟨fun i hi=>?_,key (by omega) (by omega) (fun j hj=>⟨(XY hj).1,(XY hj).2.1⟩) b1 b2,key (by omega) (by omega) (fun j hj=>cfY hj) b3 b4,key (by omega) (by omega) (fun j hj=>cfT hj) b5 b6⟩
 have h1:=ok (2 * i) (by omega)
 have h2:=ok (2 * i+1) (by omega)
 rw [(N9 (j:=0) hi).2.2.1,kW hi _ fun j hj fP=>by rw [(N9 hi).1,if_neg fP];grind,(N9 hi).1,if_pos rfl] at h1
 rw [(N9 (j:=0) hi).2.2.2,kW hi _ fun j hj fP=>by rw [(N9 hi).2.1,if_neg fP];grind,(N9 hi).2.1,if_pos rfl] at h2
 constructor<;>grind
def Ve (v:Rat):Rat:=if 0 < v then v else 0
theorem Ly {y:Nat→Rat} {q:Nat} (h:QJ q n (fa n X Y T a b c) y) :
  let p:=y (2 * n+1) - y (2 * n);let r:=y (2 * n+3) - y (2 * n+2);let s:=y (2 * n+5) - y (2 * n+4)
  (p * a+r * b+s * c)+cu n (fun j=>Ve (p * X j+r * Y j+s * T j)) < 0:=by
 intro p r s
 have nn:∀ i,i < 2 * n+6→0≤y i:=fun i hi=>h.nn i (by rw [yQ];exact hi)
 have XU:=h.XU
 have neg:=h.neg
 rw [yQ] at XU neg
 have tail:∀ g:Nat→Rat,cu (2 * n+6) g=cu n (fun i=>g (2 * i)+g (2 * i+1))+(g (2 * n)+g (2 * n+1)+g (2 * n+2)+g (2 * n+3)+g (2 * n+4)+g (2 * n+5)):=fun g=>by
  rw [show 2 * n+6=2 * n+1+1+1+1+1+1 by omega,cu,cu,cu,cu,cu,cu,JF];grind
 obtain ⟨b1,b2,b3,b4,b5,b6⟩:=bvH (n:=n) (X:=X) (Y:=Y) (T:=T) (a:=a) (b:=b) (c:=c)
 rw [tail,b1,b2,b3,b4,b5,b6,bR (g:=fun i=>y (2 * i)) fun i hi=>by rw [(N9 (j:=0) hi).2.2.1,(N9 (j:=0) hi).2.2.2];grind] at neg
 have hj:∀ j,j < n→Ve (p * X j+r * Y j+s * T j)≤y (2 * j):=fun j hj=>by
  have h1:=XU j hj
  rw [tail,(XY hj).1,(XY hj).2.1,(cfY hj).1,(cfY hj).2,(cfT hj).1,(cfT hj).2,kW hj _ fun i hi fP=>by rw [(N9 hi).1,(N9 hi).2.1,if_neg (Ne.symm fP),if_neg (Ne.symm fP)];grind,(N9 hj).1,(N9 hj).2.1,if_pos rfl,if_pos rfl] at h1
  have n1:=nn (2 * j) (by omega)
  have n2:=nn (2 * j+1) (by omega)
  unfold Ve
  split
  ·show (y (2 * n+1) - y (2 * n)) * X j+(y (2 * n+3) - y (2 * n+2)) * Y j+(y (2 * n+5) - y (2 * n+4)) * T j≤_
   grind
  ·exact n1
 have:=QQ hj
 show ((y (2 * n+1) - y (2 * n)) * a+(y (2 * n+3) - y (2 * n+2)) * b+(y (2 * n+5) - y (2 * n+4)) * c)+_ < 0
 grind
end
end Go.Den
namespace Go.Den
open Go.Ab
theorem yR (k i:Nat) (g:Nat→Rat):cu (k+1) (fun j=>g (i+j))=g i+cu k fun j=>g (i+1+j):=by
 rw [show k+1=1+k by omega,x8]
 have e:cu 1 (fun j=>g (i+j))=g i:=by show 0+g (i+0)=_;rw [Nat.add_zero];grind
 rw [e]
 congr 1
 exact bR fun j _=>by rw [show i+(1+j)=i+1+j by omega]
section
variable {X Y T:Nat→Rat} {pa:List aa}
theorem FY:∀ (k i:Nat) (a b c:Rat),rl X Y T pa k i a b c=true↔(∀ j,i≤j→j < i+k→0≤pv pa j∧pv pa j≤1) ∧
  a+cu k (fun j=>pv pa (i+j) * X (i+j))=0∧b+cu k (fun j=>pv pa (i+j) * Y (i+j))=0∧c+cu k (fun j=>pv pa (i+j) * T (i+j))=0
 | 0,i,a,b,c=>by
  unfold rl
  rw [Iy,Iy,Iy]
  show cond (decide (a=0)) (cond (decide (b=0)) (decide (c=0)) false) false=true↔_∧a+0=0∧b+0=0∧c+0=0
  rw [show a+0=a by grind,show b+0=b by grind,show c+0=c by grind]
  by_cases h1:a=0<;>by_cases h2:b=0<;>by_cases h3:c=0<;>simp [h1,h2,h3]<;>omega
 | k+1,i,a,b,c=>by
  unfold rl
  rw [yR k i fun j=>pv pa j * X j,yR k i fun j=>pv pa j * Y j,yR k i fun j=>pv pa j * T j]
  have e1:(oZ (pv pa i) < 0)↔pv pa i < 0:=ow
  have e2:(oZ (pv pa i - ((1:Int):Rat)) > 0)↔1 < pv pa i:=by
   rw [show (oZ (pv pa i - ((1:Int):Rat)) > 0)=(0 < oZ (pv pa i - ((1:Int):Rat))) from rfl,Bi]
   show 0 < pv pa i - (1:Rat)↔_
   constructor<;>intro h<;>grind
  by_cases h1:pv pa i < 0
  ·rw [decide_eq_true (e1.2 h1)]
   refine ⟨fun h=>by simp at h,fun h=>?_⟩
   have:=(h.1 i (aF _) (by omega)).1
   grind
  ·rw [decide_eq_false fun q=>h1 (e1.1 q)]
   by_cases h2:1 < pv pa i
   ·rw [decide_eq_true (e2.2 h2)]
    refine ⟨fun h=>by simp at h,fun h=>?_⟩
    have:=(h.1 i (aF _) (by omega)).2
    grind
   ·rw [decide_eq_false fun q=>h2 (e2.1 q)]
    simp only [cond_false]
    rw [FY k (i+1)]
    refine ⟨fun ⟨g1,g2,g3,g4⟩=>⟨fun j q1 q2=>?_,by grind,by grind,by grind⟩,fun ⟨g1,g2,g3,g4⟩=>⟨fun j q1 q2=>g1 j (by omega) (by omega),by grind,by grind,by grind⟩⟩
    by_cases e:j=i
    ·subst e;exact ⟨Rat.not_lt.1 h1,Rat.not_lt.1 h2⟩
    ·exact g1 j (by omega) (by omega)
theorem CU:∀ (k i:Nat) (s:Rat),qt X Y T pa k i s=decide (s+cu k (fun j=>Ve (nb pa (X (i+j)) (Y (i+j)) (T (i+j)))) < 0)
 | 0,i,s=>by
  unfold qt
  show decide (oZ s < 0)=decide (s+0 < 0)
  rw [show s+0=s by grind]
  exact decide_eq_decide.2 ow
 | k+1,i,s=>by
  unfold qt
  rw [yR k i fun j=>Ve (nb pa (X j) (Y j) (T j)),CU k (i+1)]
  have e:cond (decide (oZ (nb pa (X i) (Y i) (T i)) > 0)) (s+nb pa (X i) (Y i) (T i)) s=s+Ve (nb pa (X i) (Y i) (T i)):=by
   unfold Ve
   by_cases h:0 < nb pa (X i) (Y i) (T i)
   ·rw [decide_eq_true (Bi.2 h),if_pos h];rfl
   ·rw [decide_eq_false fun q=>h (Bi.1 q),if_neg h]
    show s=s+0
    grind
  rw [e]
  exact decide_eq_decide.2 (by constructor<;>intro h<;>grind)
end
end Go.Den
namespace Go.Den
open Go.Ab
structure NQ (n:Nat) (r:af):Prop where
 len:r.eJ.length≤n
 co:∀ x∈r.eJ,IR x 40
 bo:IR r.mq 40
theorem QR {R:List af} {n:Nat} (h:∀ r∈R,NQ n r):Bq R:=by
 refine ⟨fun i j=>⟨?_,rfl,by decide⟩,fun i=>⟨?_,rfl,by decide⟩⟩
 ·by_cases hi:i < R.length
  ·have g:=h _ (xY R i af.d hi)
   by_cases hj:j < (R.getD i af.d).eJ.length
   ·exact g.co _ (xY _ j aa.d hj)
   ·rw [Bk (by omega)];exact U7
  ·rw [show R.getD i af.d=af.d by simp [fk,n8 (show R.length≤i by omega)]]
   rw [Bk (show (af.d).eJ.length≤j from Nat.zero_le _)];exact U7
 ·by_cases hi:i < R.length
  ·exact (h _ (xY R i af.d hi)).bo
  ·rw [show R.getD i af.d=af.d by simp [fk,n8 (show R.length≤i by omega)]]
   exact U7
theorem FZ {R:List af} {n:Nat} (h:∀ r∈R,NQ n r):∀ k i,i+k=R.length→qq R n k i=false
 | 0,_,_=>rfl
 | k+1,i,hi=>by
  rw [qq,if_neg,FZ h k (i+1) (by omega)]
  have:=(h _ (xY R i af.d (by omega))).len
  unfold tI;omega
theorem GD {R:List af} {n:Nat} (hn:n≤12) (hR:R.length≤40) (h:∀ r∈R,NQ n r):qP n R=0:=by
 unfold qP
 rw [if_neg (by omega),if_neg (by omega),FZ h R.length 0 (by omega)];rfl
theorem QS {f:Nat→Rat} {n:Nat} {x:aa} (h:x∈LQ f n):∃ i,i < n∧x=bA (f i):=by
 unfold LQ Al at h
 obtain ⟨i,h1,h2⟩:=List.mem_map.1 h
 exact ⟨i,vn.1 h1,h2.symm⟩
theorem MN {q:Rat} {m:Nat} (h:RB q m):RB (0 - q) m:=by rw [show 0 - q = -q by grind];exact h.neg
theorem TG {n i:Nat} {q:Rat} (h:RB q 40):∀ x∈Lx n i q,IR x 40:=fun x hx=>by
 rcases List.mem_or_eq_of_mem_set hx with h1 | rfl
 ·rw [(List.mem_replicate.1 h1).2];exact U7
 ·exact h.ir
theorem MO (n:Nat):∀ x,∀ r∈n7 n x,NQ n r
 | 0,r,h=>by cases h
 | x+1,r,h=>by
  rw [n7] at h
  rcases List.mem_append.1 h with h | h
  ·exact MO n x r h
  ·have r1:RB ((1:Int):Rat) 40:=RB.one.le (by decide)
   have r2:RB ((-1:Int):Rat) 40:=(RB.one.neg).le (by decide)
   simp only [kz,List.not_mem_nil,or_false] at h
   rcases h with rfl | rfl
   ·exact ⟨by show (Lx n x _).length≤n;rw [MK];exact aF _,TG r1,r1.ir⟩
   ·exact ⟨by show (Lx n x _).length≤n;rw [MK];exact aF _,TG r2,U7⟩
theorem IH {n:Nat} {f:Nat→Rat} {w:Rat} (hf:∀ i,i < n→RB (f i) 40) (hw:RB w 40):∀ r∈o5 n f w,NQ n r:=fun r h=>by
 unfold o5 at h
 simp only [kz,List.not_mem_nil,or_false] at h
 rcases h with rfl | rfl
 ·exact ⟨by show (LQ f n).length≤n;rw [bP];exact aF _,fun x hx=>by obtain ⟨i,hi,rfl⟩:=QS hx;exact (hf i hi).ir,(MN hw).ir⟩
 ·exact ⟨by show (LQ _ n).length≤n;rw [bP];exact aF _,fun x hx=>by obtain ⟨i,hi,rfl⟩:=QS hx;exact (MN (hf i hi)).ir,hw.ir⟩
section
variable {l:List ai} {w:bJ} {X Y T:Nat→Rat} {e5:Nat}
theorem SP {n:Nat} {a b c:Rat} (hX:∀ i,i < n→RB (X i) 40) (hY:∀ i,i < n→RB (Y i) 40) (hT:∀ i,i < n→RB (T i) 40) (ha:RB a 40) (hb:RB b 40) (hc:RB c 40):∀ r∈fa n X Y T a b c,NQ n r:=fun r h=>by
 unfold fa at h
 rcases List.mem_append.1 h with h | h
 ·rcases List.mem_append.1 h with h | h
  ·rcases List.mem_append.1 h with h | h
   ·exact MO n n r h
   ·exact IH hX ha r h
  ·exact IH hY hb r h
 ·exact IH hT hc r h
theorem yS (f:Nat→Rat) (n:Nat):LQ f n ++ [bA (f n)]=LQ f (n+1):=vf (fun i=>bA (f i)) n
def Ao (X Y T:Nat→Rat) (n z:Nat) (w:bJ) (m:bF):Prop :=
 (m.ig=true∧m.j9.length=n∧m.ij=[]∧Lw z m.j9∧rl X Y T m.j9 n 0 w.jf w.jR w.kg=true) ∨
 (m.ig=false∧m.j9=[]∧m.ij.length=3∧Lw z m.ij∧qt X Y T m.ij n 0 (nb m.ij w.jf w.jR w.kg)=true)
theorem Lw.of {f:Nat→Rat} {n z:Nat} (h1:1≤z) (h2:z≤100000000000) (h:∀ i,i < n→RB (f i) z):Lw z (LQ f n):=⟨h1,h2,fun {i} hi=>by
 rw [bP] at hi
 rw [fw _ _ hi,gS];exact (h i hi).rq h1⟩
theorem MP {f:Nat→Rat} {n i:Nat} (h:i < n):pv (LQ f n) i=f i:=by unfold pv;rw [fw _ _ h,gS]
section
variable {a b c:Rat}
theorem SQ (hl:l.length≤12) (h5:2 * l.length+1≤e5) (hz:ZZ e5≤49000000000) (hq:ya l X Y T) (ha:RB a 40) (hb:RB b 40) (hc:RB c 40)
  (hwa:a=w.jf) (hwb:b=w.jR) (hwc:c=w.kg) {s0 s1 s2:aa} (e0:s0=bA (0 - a)) (e1:s1=bA (0 - b)) (e2:s2=bA (0 - c)) :
  ∃ m,Ao X Y T l.length (2 * ZZ e5+1) w m∧∀ (k x:Nat),x+k=l.length→ay (fun N g=>dq N l (t3 a b c) (n7 l.length l.length) s0 (LQ X l.length) (LQ (fun i=>0 - X i) l.length) s1 (LQ Y l.length) (LQ (fun i=>0 - Y i) l.length) s2 g (LQ T x) (LQ (fun i=>0 - T i) x) (x:Int)) m:=by
 subst e0 e1 e2
 have hg:=SP (X:=X) (Y:=Y) (T:=T) (n:=l.length) (fun i hi=>(hq i hi).rx) (fun i hi=>(hq i hi).ry) (fun i hi=>(hq i hi).rt) ha hb hc
 have hlen:(fa l.length X Y T a b c).length=2 * l.length+6:=yQ
 have hn:∀ k,k < 2 * l.length+6→k < (fa l.length X Y T a b c).length:=fun k hk=>by rw [hlen];exact hk
 have M8:=XV e5
 have more:∀ {m},ay (fun N g=>dq N l (t3 a b c) (n7 l.length l.length) (bA (0 - a)) (LQ X l.length) (LQ (fun i=>0 - X i) l.length) (bA (0 - b)) (LQ Y l.length) (LQ (fun i=>0 - Y i) l.length) (bA (0 - c)) g (LQ T l.length) (LQ (fun i=>0 - T i) l.length) ((l.length:Nat):Int)) m →
   ∀ (k x:Nat),x+k=l.length→ay (fun N g=>dq N l (t3 a b c) (n7 l.length l.length) (bA (0 - a)) (LQ X l.length) (LQ (fun i=>0 - X i) l.length) (bA (0 - b)) (LQ Y l.length) (LQ (fun i=>0 - Y i) l.length) (bA (0 - c)) g (LQ T x) (LQ (fun i=>0 - T i) x) (x:Int)) m:=fun h=>by
  intro k
  induction k with
  | zero =>
   intro x hx
   obtain rfl:x=l.length:=by omega
   exact h
  | succ k ih =>
   intro x hx
   have pW:x < l.length:=by omega
   refine ay.succ (fun N g=>dq.eq_2 ..) (ay.aL (dec_lt pW) (ay.if (oE pW) ?_))
   rw [an,aK (by omega)]
   refine ay.bind (hq x pW).code (ay.if (by rw [bP];omega) (ay.bind (Ht.sub ((hq x pW).rt.rq (by decide)) (by decide)) (ay.if (by rw [bP];omega) ?_)))
   show ay (fun N g=>dq N l (t3 a b c) (n7 l.length l.length) (bA (0 - a)) (LQ X l.length) (LQ (fun i=>0 - X i) l.length) (bA (0 - b)) (LQ Y l.length) (LQ (fun i=>0 - Y i) l.length) (bA (0 - c)) g (LQ T x ++ [bA (T x)]) (LQ (fun i=>0 - T i) x ++ [bA (0 - T x)]) ((x+1:Nat):Int)) _
   rw [yS,yS (fun i=>0 - T i)]
   exact ih (x+1) (by omega)
 rcases Kf (n:=l.length) (l:=fa l.length X Y T a b c) (e5:=e5) hl (QR hg) (by rw [hlen];omega) (.inr h5) (by show 5 * ZZ e5≤1000000000000;omega) (GD hl (by rw [hlen];omega) hg) with ⟨y,q1,q2⟩ | ⟨x,q1,q2⟩
 ·have rb:∀ i j,i < 2 * l.length+6→j < 2 * l.length+6→RB (y i - y j) (2 * ZZ e5+1):=fun i j hi hj=>((q1.rb i (hn i hi)).sub (q1.rb j (hn j hj))).le (by omega)
  have sub:∀ i j,i < 2 * l.length+6→j < 2 * l.length+6→Gv (fun N=>eN N (bA (y i)) (bA (y j))) (bA (y i - y j)):=fun i j hi hj =>
   ((q1.rb i (hn i hi)).rq (by omega)).sub ((q1.rb j (hn j hj)).rq (by omega)) (by simp only [SM];omega)
  refine ⟨⟨false,[],[bA (y (2 * l.length+1) - y (2 * l.length)),bA (y (2 * l.length+3) - y (2 * l.length+2)),bA (y (2 * l.length+5) - y (2 * l.length+4))]⟩,.inr ⟨rfl,rfl,rfl,⟨by omega,by omega,fun {i} hi=>?_⟩,?_⟩,more ?_⟩
  ·match i,hi with
   | 0,_=>exact ⟨(rb _ _ (by omega) (by omega)).ir,rfl,by omega⟩
   | 1,_=>exact ⟨(rb _ _ (by omega) (by omega)).ir,rfl,by omega⟩
   | 2,_=>exact ⟨(rb _ _ (by omega) (by omega)).ir,rfl,by omega⟩
  ·have h:=Ly q1
   rw [CU]
   refine decide_eq_true ?_
   have e:∀ u v t:Rat,nb [bA (y (2 * l.length+1) - y (2 * l.length)),bA (y (2 * l.length+3) - y (2 * l.length+2)),bA (y (2 * l.length+5) - y (2 * l.length+4))] u v t=(y (2 * l.length+1) - y (2 * l.length)) * u+(y (2 * l.length+3) - y (2 * l.length+2)) * v+(y (2 * l.length+5) - y (2 * l.length+4)) * t:=fun u v t=>by
    unfold nb pv
    show (((0:Rat)+qv (bA _) * u)+qv (bA _) * v)+qv (bA _) * t=_
    rw [gS,gS,gS];grind
   simp only [e,Nat.zero_add,← hwa,← hwb,← hwc]
   exact h
  ·refine ay.succ (fun N g=>dq.eq_2 ..) (ay.aY dV (ay.if (by simp [cD];omega) (ay.one (Gv.bind q2 ?_))))
   have d0:ag (2 * ((l.length:Nat):Int))=((2 * l.length:Nat):Int):=by rw [aN (by omega) (by omega)];omega
   have d1:ag (((2 * l.length:Nat):Int)+0)=((2 * l.length:Nat):Int):=by rw [aN (by omega) (by omega)];omega
   have d2:ag (((2 * l.length:Nat):Int)+2)=((2 * l.length+2:Nat):Int):=by rw [aN (by omega) (by omega)];omega
   have d3:ag (((2 * l.length:Nat):Int)+4)=((2 * l.length+4:Nat):Int):=by rw [aN (by omega) (by omega)];omega
   simp only [d0,d1,d2,d3,aK (show 2 * l.length < 9223372036854775807 by omega),aK (show 2 * l.length+2 < 9223372036854775807 by omega),aK (show 2 * l.length+4 < 9223372036854775807 by omega),an,
    fw _ _ (hn (2 * l.length) (by omega)),fw _ _ (hn (2 * l.length+1) (by omega)),fw _ _ (hn (2 * l.length+2) (by omega)),fw _ _ (hn (2 * l.length+2+1) (by omega)),fw _ _ (hn (2 * l.length+4) (by omega)),fw _ _ (hn (2 * l.length+4+1) (by omega))]
   have tp:∀ k,k < 2 * l.length+6→0≤((k:Nat):Int)∧((k:Nat):Int) < (((LQ y (fa l.length X Y T a b c).length).length:Nat):Int):=fun k hk=>inl hk (by rw [bP,hlen])
   refine Gv.aY rfl (Gv.if (tp _ (by omega)) (Gv.if (tp _ (by omega)) (Gv.bind (sub _ _ (by omega) (by omega)) (Gv.if (tp _ (by omega)) (Gv.if (tp _ (by omega)) (Gv.bind (sub _ _ (by omega) (by omega)) (Gv.if (by simp) (Gv.if (tp _ (by omega)) (Gv.if (tp _ (by omega)) (Gv.bind (sub _ _ (by omega) (by omega)) (Gv.if (by simp) (Gv.pure _))))))))))))
 ·obtain ⟨p1,p2,p3,p4⟩:=Kk q1
  refine ⟨⟨true,LQ x l.length,[]⟩,.inl ⟨rfl,bP _ _,rfl,Lw.of (by omega) (by omega) q1.rb,?_⟩,more ?_⟩
  ·refine (FY _ _ _ _ _).2 ⟨fun j _ hj=>by rw [MP (by omega)];exact p1 j (by omega),?_,?_,?_⟩
   ·rw [← hwa,← p2];congr 1;exact bR fun j hj=>by rw [Nat.zero_add,MP hj]
   ·rw [← hwb,← p3];congr 1;exact bR fun j hj=>by rw [Nat.zero_add,MP hj]
   ·rw [← hwc,← p4];congr 1;exact bR fun j hj=>by rw [Nat.zero_add,MP hj]
  ·exact ay.succ (fun N g=>dq.eq_2 ..) (ay.aY dV (ay.if (by simp [cD];omega) (ay.one (Gv.bind q2 (Gv.aL rfl (Gv.pure _))))))
theorem SR (hl:l.length≤12) (hq:ya l X Y T) (hc:RB c 4) {s0 s1:aa} {m:bF}
  (h:ay (fun N g=>dq N l (t3 a b c) (n7 l.length l.length) s0 (LQ X l.length) (LQ (fun i=>0 - X i) l.length) s1 (LQ Y l.length) (LQ (fun i=>0 - Y i) l.length) (bA (0 - c)) g [] [] 0) m) :
  ∀ (k x:Nat),x+k=l.length→ay (fun N g=>eW N l (t3 a b c) (n7 l.length l.length) s0 (LQ X l.length) (LQ (fun i=>0 - X i) l.length) s1 g (LQ Y x) (LQ (fun i=>0 - Y i) x) (x:Int)) m:=by
 intro k
 induction k with
 | zero =>
  intro x hx;obtain rfl:x=l.length:=by omega
  exact ay.succ (fun N g=>eW.eq_2 ..) (ay.aY dV (ay.if (by simp [cD];omega) (ay.one (Gv.bind (Ht.sub (hc.rq (by decide)) (by decide)) h.diag))))
 | succ k ih =>
  intro x hx
  have pW:x < l.length:=by omega
  refine ay.succ (fun N g=>eW.eq_2 ..) (ay.aL (dec_lt pW) (ay.if (oE pW) ?_))
  rw [an,aK (by omega)]
  refine ay.bind (hq x pW).code (ay.if (by rw [bP];omega) (ay.bind (Ht.sub ((hq x pW).ry.rq (by decide)) (by decide)) (ay.if (by rw [bP];omega) ?_)))
  show ay (fun N g=>eW N l (t3 a b c) (n7 l.length l.length) s0 (LQ X l.length) (LQ (fun i=>0 - X i) l.length) s1 g (LQ Y x ++ [bA (Y x)]) (LQ (fun i=>0 - Y i) x ++ [bA (0 - Y x)]) ((x+1:Nat):Int)) _
  rw [yS,yS (fun i=>0 - Y i)]
  exact ih (x+1) (by omega)
theorem SS (hl:l.length≤12) (hq:ya l X Y T) (hb:RB b 4) {s0:aa} {m:bF}
  (h:ay (fun N g=>eW N l (t3 a b c) (n7 l.length l.length) s0 (LQ X l.length) (LQ (fun i=>0 - X i) l.length) (bA (0 - b)) g [] [] 0) m) :
  ∀ (k x:Nat),x+k=l.length→ay (fun N g=>eX N l (t3 a b c) (n7 l.length l.length) s0 g (LQ X x) (LQ (fun i=>0 - X i) x) (x:Int)) m:=by
 intro k
 induction k with
 | zero =>
  intro x hx;obtain rfl:x=l.length:=by omega
  exact ay.succ (fun N g=>eX.eq_2 ..) (ay.aY dV (ay.if (by rw [cD];omega) (ay.one (Gv.bind (Ht.sub (hb.rq (by decide)) (by decide)) h.diag))))
 | succ k ih =>
  intro x hx
  have pW:x < l.length:=by omega
  refine ay.succ (fun N g=>eX.eq_2 ..) (ay.aL (dec_lt pW) (ay.if (oE pW) ?_))
  rw [an,aK (by omega)]
  refine ay.bind (hq x pW).code (ay.if (by rw [bP];omega) (ay.bind (Ht.sub ((hq x pW).rx.rq (by decide)) (by decide)) (ay.if (by rw [bP];omega) ?_)))
  show ay (fun N g=>eX N l (t3 a b c) (n7 l.length l.length) s0 g (LQ X x ++ [bA (X x)]) (LQ (fun i=>0 - X i) x ++ [bA (0 - X x)]) ((x+1:Nat):Int)) _
  rw [yS,yS (fun i=>0 - X i)]
  exact ih (x+1) (by omega)
theorem SU (hl:l.length≤12) (ha:RB a 4) {m:bF}
  (h:ay (fun N g=>eX N l (t3 a b c) (n7 l.length l.length) (bA (0 - a)) g [] [] 0) m) :
  ∀ (k x:Nat),x+k=l.length→ay (fun N g=>gW N l (t3 a b c) g (n7 l.length x) (x:Int)) m:=by
 intro k
 induction k with
 | zero =>
  intro x hx;obtain rfl:x=l.length:=by omega
  exact ay.succ (fun N g=>gW.eq_2 ..) (ay.aY dV (ay.one (Gv.bind (Ht.sub (ha.rq (by decide)) (by decide)) h.diag)))
 | succ k ih =>
  intro x hx
  have pW:x < l.length:=by omega
  refine ay.succ (fun N g=>gW.eq_2 ..) (ay.aL (dec_lt pW) (ay.if (by omega) (ay.bind (n6 w1) (ay.bind (n6 w1) (ay.bind (n6 (z:=-1) (DK (by decide))) ?_)))))
  refine ay.if (by rw [dj];exact oE pW) (ay.if (by rw [cD];omega) ?_)
  rw [an,aK (by omega)]
  exact ih (x+1) (by omega)
end
theorem SV (hl:l.length≤12) (h5:2 * l.length+1≤e5) (hz:ZZ e5≤49000000000) (hq:ya l X Y T) (hw:cO w=0) :
  ∃ m,Ao X Y T l.length (2 * ZZ e5+1) w m∧Gv (fun N=>lL N l w) m:=by
 obtain ⟨b1,b2,b3⟩:=IG hw
 have r1:=fy b1
 have r2:=fy b2
 have r3:=fy b3
 obtain ⟨m,h1,h2⟩:=SQ hl h5 hz hq (r1.le (show 4≤40 by decide)) (r2.le (show 4≤40 by decide)) (r3.le (show 4≤40 by decide)) (w:=w) rfl rfl rfl rfl rfl rfl
 exact ⟨m,h1,Gv.bind (QP hw) ((SU hl r1 (SS hl hq r2 (SR hl hq r3 (h2 l.length 0 (by omega)) l.length 0 (by omega)) l.length 0 (by omega)) l.length 0 (by omega)).diag)⟩
end
end Go.Den
namespace Go.Den
open Go.Ab
theorem Ap {l:List ai} (h:eH l=0):l.length≤12∧∀ i,i < l.length→ek (l.getD i ai.d)=0:=by
 unfold eH at h
 cases hc:decide (((l.length:Nat):Int) > 12) with
 | true=>rw [hc] at h;cases h
 | false =>
  rw [hc,cond_false] at h
  refine ⟨by simp at hc;omega,fun i hi=>?_⟩
  have hs:∀ j,n5 l j≠some 0:=fun j hj=>by
   unfold n5 at hj
   cases e1:rk (l.getD j ai.d).fY<;>rw [e1] at hj
   ·cases hj
   ·cases e2:wb l j<;>rw [e2] at hj
    ·cases e3:ek (l.getD j ai.d) != 0<;>rw [e3] at hj
     ·cases hj
     ·simp only [Bool.not_true,cond_false,cond_true,aA] at hj
      rw [hj] at e3;cases e3
    ·cases hj
  rcases JJ (f:=n5 l) (z:=(0:Int)) l.length 0 with ⟨j,r,_,_,h3,_,h5⟩ | ⟨h1,_⟩
  ·rw [h5] at h;subst h;exact absurd h3 (hs j)
  ·have:=h1 i (Nat.zero_le _) (by omega)
   unfold n5 at this
   cases e1:rk (l.getD i ai.d).fY<;>rw [e1] at this
   ·cases this
   ·cases e2:wb l i<;>rw [e2] at this
    ·cases e3:ek (l.getD i ai.d) != 0<;>rw [e3] at this
     ·simpa using e3
     ·cases this
    ·cases this
theorem SW {l:List ai} (h:eH l=0):∃ X Y T:Nat→Rat,ya l X Y T:=by
 have key:∀ i,∃ p:Rat×Rat×Rat,i < l.length→QO (l.getD i ai.d) p.1 p.2.1 p.2.2:=fun i=>by
  by_cases hi:i < l.length
  ·obtain ⟨x,y,t,hq⟩:=Vc ((Ap h).2 i hi)
   exact ⟨(x,y,t),fun _=>hq⟩
  ·exact ⟨(0,0,0),fun h=>absurd h hi⟩
 obtain ⟨f,hf⟩:=Classical.axiomOfChoice key
 exact ⟨fun i=>(f i).1,fun i=>(f i).2.1,fun i=>(f i).2.2,fun i hi=>hf i hi⟩
end Go.Den
namespace Go.Den
open Go.Ab
section
variable {l:List ai} {w:bJ} {X Y T:Nat→Rat} {m:bF} {z:Nat}
def Bt (X Y T:Nat→Rat) (l:List ai) (w:bJ) (m:bF):Int :=
 cond m.ig (cond (decide (m.j9.length=l.length)) (cond (rl X Y T m.j9 l.length 0 w.jf w.jR w.kg) 0 24) 11) (cond (decide (m.ij.length=3)) (cond (qt X Y T m.ij l.length 0 (nb m.ij w.jf w.jR w.kg)) 0 24) 11)
theorem Bu (l:List ai):Gv (fun N=>eR N l) (eH l):=.of 14 fun N hN=>zz (by omega) l
theorem yT (l:List ai):Gv (fun N=>fc N l) (eH l):=.of 14 fun N hN=>Kg (by omega) l
theorem II (w:bJ):Gv (fun N=>gP N w) (cO w):=.of 0 fun N _=>IE N w
theorem Kl (w:bJ):Gv (fun N=>jo N w) (cO w):=.of 0 fun N _=>Lv N w
theorem W7 {n z L:Nat} (h:(n+1) * (3 * z+200)≤L):4+n * (z+60)≤L:=by
 have:=Nat.mul_le_mul (aF n) (show z+60≤3 * z+200 by omega)
 rw [Nat.succ_mul] at h;omega
theorem W8 {n z L:Nat} (h:(n+1) * (3 * z+200)≤L):3 * z+160+n * (3 * z+200)≤L:=by
 rw [Nat.succ_mul] at h;omega
theorem NR (hl:eH l=0) (hw:cO w=0) (hq:ya l X Y T) (h1:Lw z m.j9) (h2:Lw z m.ij) (M8:z≤1000000000) (hz:(l.length+1) * (3 * z+200)≤100000000000):Gv (fun N=>iG N l w m) (Bt X Y T l w m):=by
 have e1:(eH l != 0)=false:=by simp [hl]
 have e2:(cO w != 0)=false:=by simp [hw]
 have hlen:=(Ap hl).1
 obtain ⟨b1,b2,b3⟩:=IG hw
 have q1:=fy b1
 have q2:=fy b2
 have q3:=fy b3
 unfold Bt
 refine Gv.bind (yT l) (Gv.aY e1 (Gv.bind (Kl w) (Gv.aY e2 ?_)))
 cases hH:m.ig with
 | true =>
  refine Gv.aL rfl ?_
  by_cases hp:m.j9.length=l.length
  ·have e3:(((m.j9.length:Nat):Int) != ((l.length:Nat):Int))=false:=by simp [hp]
   have c2:Gv (fun N=>pJ N l w m.j9) (rl X Y T m.j9 l.length 0 w.jf w.jR w.kg) :=
    Gv.bind (Ki hw) ((Br (by omega) hq h1 M8 hp l.length 0 4 _ _ _ (by omega) q1 q2 q3 (by decide) (W7 hz)).diag)
   rw [decide_eq_true hp]
   cases hv:rl X Y T m.j9 l.length 0 w.jf w.jR w.kg with
   | true=>rw [hv] at c2;exact Gv.aY e3 (Gv.bind c2 (Gv.aY rfl (Gv.pure _)))
   | false=>rw [hv] at c2;exact Gv.aY e3 (Gv.bind c2 (Gv.aL rfl (Gv.pure _)))
  ·have e3:(((m.j9.length:Nat):Int) != ((l.length:Nat):Int))=true:=by simp;omega
   rw [decide_eq_false hp]
   exact Gv.aL e3 (Gv.pure _)
 | false =>
  refine Gv.aY rfl ?_
  by_cases hp:m.ij.length=3
  ·have e3:(((m.ij.length:Nat):Int) != 3)=false:=by simp [hp]
   have ra:=Hu h2 hp (q1.le (show 4≤40 by decide)) (q2.le (show 4≤40 by decide)) (q3.le (show 4≤40 by decide))
   have c2:Gv (fun N=>qk N l w m.ij) (qt X Y T m.ij l.length 0 (nb m.ij w.jf w.jR w.kg)) :=
    Gv.bind (Ki hw) (Gv.bind (Hv h2 M8 hp (q1.le (by decide)) (q2.le (by decide)) (q3.le (by decide))) ((yc (by omega) hq h2 M8 hp l.length 0 _ _ (by omega) ra (by omega) (W8 hz)).diag))
   rw [decide_eq_true hp]
   cases hv:qt X Y T m.ij l.length 0 (nb m.ij w.jf w.jR w.kg) with
   | true=>rw [hv] at c2;exact Gv.aY e3 (Gv.bind c2 (Gv.aY rfl (Gv.pure _)))
   | false=>rw [hv] at c2;exact Gv.aY e3 (Gv.bind c2 (Gv.aL rfl (Gv.pure _)))
  ·have e3:(((m.ij.length:Nat):Int) != 3)=true:=by simp;omega
   rw [decide_eq_false hp]
   exact Gv.aL e3 (Gv.pure _)
theorem Ao.code {n:Nat} (h:Ao X Y T n z w m) (hn:n=l.length):Bt X Y T l w m=0:=by
 subst hn
 unfold Bt
 rcases h with ⟨h1,h2,_,_,h5⟩ | ⟨h1,_,h3,_,h5⟩
 ·rw [h1,decide_eq_true h2,h5];rfl
 ·rw [h1,decide_eq_true h3,h5];rfl
theorem Lw.nil (h1:1≤z) (h2:z≤100000000000):Lw z []:=⟨h1,h2,fun {i} hi=>absurd hi (cW _)⟩
theorem Ao.parts {n:Nat} (h:Ao X Y T n z w m):Lw z m.j9∧Lw z m.ij:=by
 rcases h with ⟨_,_,h3,h4,_⟩ | ⟨_,h2,_,h4,_⟩
 ·rw [h3];exact ⟨h4,.nil h4.one h4.top⟩
 ·rw [h2];exact ⟨.nil h4.one h4.top,h4⟩
end
end Go.Den
namespace Go.Den
open Go.Ab
section
variable {l:List ai} {w:List bJ} {X Y T:Nat→Rat}
abbrev CV (w:List bJ) (i:Nat):bJ:=w.getD i bJ.d
theorem yd (hn:w.length≤1000) {r:Int×Int} (h:(∀ j,j < w.length→cO (CV w j)=0)→Gv (fun N=>cA N l w N 0) r):∀ k i,i+k=w.length→(∀ j,j < i→cO (CV w j)=0) →
  (∃ j,j < w.length∧cO (CV w j)≠0∧(∀ j',j' < j→cO (CV w j')=0)∧ay (fun N g=>cR N l w g (i:Int)) (0,cO (CV w j)))∨((∀ j,j < w.length→cO (CV w j)=0)∧ay (fun N g=>cR N l w g (i:Int)) r)
 | 0,i,hi,h0=>by
  obtain rfl:i=w.length:=by omega
  exact .inr ⟨h0,ay.succ (fun N g=>cR.eq_2 ..) (ay.aY dV (ay.one (h h0)))⟩
 | k+1,i,hi,h0=>by
  have pS:i < w.length:=by omega
  by_cases e:cO (CV w i)=0
  ·have e2:(cO (CV w i) != 0)=false:=by rw [e];rfl
   have lift:∀ {r'},ay (fun N g=>cR N l w g ((i+1:Nat):Int)) r'→ay (fun N g=>cR N l w g (i:Int)) r':=fun q=>by
    refine ay.succ (fun N g=>cR.eq_2 ..) (ay.aL (dec_lt pS) (ay.if (oE pS) ?_))
    rw [an,aK (by omega)]
    exact ay.bind (II _) (ay.aY e2 q)
   rcases yd hn h k (i+1) (by omega) (fun j hj=>by
    by_cases q:j=i
    ·rw [q];exact e
    ·exact h0 j (by omega)) with ⟨j,q1,q2,q3,q4⟩ | ⟨q1,q2⟩
   ·exact .inl ⟨j,q1,q2,q3,lift q4⟩
   ·exact .inr ⟨q1,lift q2⟩
  ·have e2:(cO (CV w i) != 0)=true:=by simpa using e
   refine .inl ⟨i,pS,e,h0,ay.succ (fun N g=>cR.eq_2 ..) (ay.aL (dec_lt pS) (ay.if (oE pS) ?_))⟩
   rw [an]
   exact ay.bind (II _) (ay.aL e2 (ay.one (Gv.pure _)))
theorem CA (hn:w.length≤1000) {q:Int×Int} {b:Bool}
  (W9:∀ j,j < w.length→cO (CV w j)≠0→(∀ j',j' < j→cO (CV w j')=0)→(cond (q.2 == cO (CV w j)) (q.1 == 0) false)=b)
  (mK:(∀ j,j < w.length→cO (CV w j)=0)→Gv (fun N=>cond (cond (cond (q.2 != 0) true (decide (q.1 < (-1)))) true (decide (q.1≥((w.length:Nat):Int)))) (some false) (dM N l w q N 0)) b):∀ k i,i+k=w.length→(∀ j,j < i→cO (CV w j)=0) →
  ay (fun N g=>cm N l w q g 0 (i:Int)) b
 | 0,i,hi,h0=>by
  obtain rfl:i=w.length:=by omega
  exact ay.succ (fun N g=>cm.eq_2 ..) (ay.aY (by rw [dV];rfl) (ay.aY rfl (ay.one (mK h0))))
 | k+1,i,hi,h0=>by
  have pS:i < w.length:=by omega
  refine ay.succ (fun N g=>cm.eq_2 ..) (ay.aL (by rw [dec_lt pS];rfl) (ay.if (oE pS) ?_))
  rw [an,aK (by omega)]
  refine ay.bind (Kl _) ?_
  by_cases e:cO (CV w i)=0
  ·rw [e]
   exact CA hn W9 mK k (i+1) (by omega) fun j hj=>by
    by_cases q:j=i
    ·rw [q];exact e
    ·exact h0 j (by omega)
  ·have e2:(cO (CV w i) != 0)=true:=by simpa using e
   have e3:(cO (CV w i) == 0)=false:=by simpa using e
   refine ay.succ (fun N g=>cm.eq_2 ..) (ay.aY ?_ (ay.aL e2 (ay.one ((Gv.pure _).eq (W9 i pS e h0)))))
   rw [e3]
   cases decide (((i+1:Nat):Int) < ((w.length:Nat):Int))<;>rfl
theorem CW (hn:w.length≤1000) {M:Nat→bF} (hM:∀ i,i < w.length→Gv (fun N=>lL N l (CV w i)) (M i)):∀ k i,i+k=w.length→(∀ j,j < i→(M j).ig=true) →
  (∃ j:Nat,j < w.length∧(M j).ig=false∧(∀ j',j' < j→(M j').ig=true)∧ay (fun N g=>cA N l w g (i:Int)) ((j:Int),0))∨((∀ j,j < w.length→(M j).ig=true)∧ay (fun N g=>cA N l w g (i:Int)) (-1,0))
 | 0,i,hi,h0=>by
  obtain rfl:i=w.length:=by omega
  exact .inr ⟨h0,ay.succ (fun N g=>cA.eq_2 ..) (ay.aY dV (ay.one (Gv.pure _)))⟩
 | k+1,i,hi,h0=>by
  have pS:i < w.length:=by omega
  cases e:(M i).ig with
  | true =>
   have lift:∀ {r'},ay (fun N g=>cA N l w g ((i+1:Nat):Int)) r'→ay (fun N g=>cA N l w g (i:Int)) r':=fun q=>by
    refine ay.succ (fun N g=>cA.eq_2 ..) (ay.aL (dec_lt pS) (ay.if (oE pS) ?_))
    rw [an,aK (by omega)]
    exact ay.bind (hM i pS) (ay.aY (by rw [e];rfl) q)
   rcases CW hn hM k (i+1) (by omega) (fun j hj=>by
    by_cases q:j=i
    ·rw [q];exact e
    ·exact h0 j (by omega)) with ⟨j,q1,q2,q3,q4⟩ | ⟨q1,q2⟩
   ·exact .inl ⟨j,q1,q2,q3,lift q4⟩
   ·exact .inr ⟨q1,lift q2⟩
  | false =>
   refine .inl ⟨i,pS,e,h0,ay.succ (fun N g=>cA.eq_2 ..) (ay.aL (dec_lt pS) (ay.if (oE pS) ?_))⟩
   rw [an]
   exact ay.bind (hM i pS) (ay.aL (by rw [e];rfl) (ay.one (Gv.pure _)))
theorem Hx (hn:w.length≤1000) {M:Nat→bF} {q:Int×Int}
  (hM:∀ i,i < w.length→Gv (fun N=>pF N l (CV w i)) (M i,0)) (hC:∀ i,i < w.length→Gv (fun N=>iG N l (CV w i) (M i)) 0)
  (C7:∀ j:Nat,j < w.length→(M j).ig=false→(∀ j',j' < j→(M j').ig=true)→q.1=(j:Int)) (mK:(∀ j,j < w.length→(M j).ig=true)→q.1 = -1):∀ k i,i+k=w.length→(∀ j,j < i→(M j).ig=true) →
  ay (fun N g=>dM N l w q g (i:Int)) true
 | 0,i,hi,h0=>by
  obtain rfl:i=w.length:=by omega
  exact ay.succ (fun N g=>dM.eq_2 ..) (ay.aY dV (ay.one ((Gv.pure _).eq (by rw [mK h0];rfl))))
 | k+1,i,hi,h0=>by
  have pS:i < w.length:=by omega
  refine ay.succ (fun N g=>dM.eq_2 ..) (ay.aL (dec_lt pS) (ay.if (oE pS) ?_))
  rw [an,aK (by omega)]
  refine ay.bind (hM i pS) (ay.if (fun _=>oE pS) (ay.bind (Gv.aL rfl (hC i pS)) (ay.aY rfl ?_)))
  cases e:(M i).ig with
  | true =>
   exact ay.aY rfl (Hx hn hM hC C7 mK k (i+1) (by omega) fun j hj=>by
    by_cases q:j=i
    ·rw [q];exact e
    ·exact h0 j (by omega))
  | false=>exact ay.aL rfl (ay.one ((Gv.pure _).eq (by rw [C7 i pS e h0];simp)))
end
theorem CB (l:List ai) (w:List bJ) (hl:(wL ai.wf) l) (_:(wL bJ.wf) w):∃ N,lr N l w=some true:=by
 refine Gv.ex ?_
 refine Gv.bind (.of 24 fun N hN=>QL (by omega)) (Gv.aY rfl ?_)
 refine Gv.bind (.of (l.length+1) fun N hN=>QM l (by omega) hl.1) ?_
 cases Ls l with
 | false=>exact Gv.aL rfl (Gv.pure _)
 | true =>
  by_cases c1:4 < l.length∧l.length≤12
  ·refine Gv.aL ?_ (Gv.pure _)
   rw [decide_eq_true (show ((l.length:Nat):Int) > 4 by omega),decide_eq_true (show ((l.length:Nat):Int)≤12 by omega)];rfl
  have f1:(cond (!true) true (cond (decide (((l.length:Nat):Int) > 4)) (decide (((l.length:Nat):Int)≤12)) false))=false:=by
   by_cases h7:((l.length:Nat):Int) > 4
   ·rw [decide_eq_true h7,decide_eq_false (show ¬ ((l.length:Nat):Int)≤12 by omega)];rfl
   ·rw [decide_eq_false h7];rfl
  rw [f1]
  by_cases c2:4 < w.length∧w.length≤24
  ·refine Gv.aL ?_ (Gv.pure _)
   rw [decide_eq_true (show ((w.length:Nat):Int) > 4 by omega),decide_eq_true (show ((w.length:Nat):Int)≤24 by omega)];rfl
  have f2:(cond false true (cond (decide (((w.length:Nat):Int) > 4)) (decide (((w.length:Nat):Int)≤24)) false))=false:=by
   by_cases h7:((w.length:Nat):Int) > 4
   ·rw [decide_eq_true h7,decide_eq_false (show ¬ ((w.length:Nat):Int)≤24 by omega)];rfl
   ·rw [decide_eq_false h7];rfl
  rw [f2]
  by_cases c3:((w.length:Nat):Int) > 40
  ·exact Gv.aL (by rw [decide_eq_true c3];rfl) (Gv.pure _)
  refine Gv.aY (by rw [decide_eq_false c3];rfl) ?_
  have stop:∀ {e:Int},e≠0→Gv (fun N=>dN N l w (0,e) e) true:=fun {e} he=>by
   have e2:(e != 0)=true:=by simpa using he
   have e3:(e == 0)=false:=by simpa using he
   refine (ay.succ (f:=fun N g=>cm N l w (0,e) g e 0) (fun N g=>cm.eq_2 ..) (ay.aY ?_ (ay.aL e2 (ay.one ((Gv.pure _).eq (by simp)))))).diag
   rw [e3];cases decide ((0:Int) < ((w.length:Nat):Int))<;>rfl
  by_cases hL:eH l=0
  ·have e1:(eH l != 0)=false:=by simp [hL]
   have XZ:(eH l == 0)=true:=by simp [hL]
   by_cases X0:((w.length:Nat):Int) > 24
   ·exact Gv.bind (Gv.bind (Bu l) (Gv.aY e1 (Gv.aL (decide_eq_true X0) (Gv.pure _)))) (Gv.bind (yT l) (Gv.aL (by rw [XZ,decide_eq_true X0];rfl) (stop (by decide))))
   ·have hw4:w.length≤4:=by omega
    have hlen:=(Ap hL).1
    have hl4:l.length≤4:=by omega
    obtain ⟨X,Y,T,hq⟩:=SW hL
    have fin:∀ {r:Int×Int},Gv (fun N=>cR N l w N 0) r→Gv (fun N=>cm N l w r N 0 0) true→Gv (fun N=>(nT N l w).bind fun cx=>(fc N l).bind fun bm=>cond (cond (bm == 0) (decide (((w.length:Nat):Int) > 24)) false) (dN N l w cx 8) (dN N l w cx bm)) true:=fun {r} q1 q2=>by
     refine Gv.bind (Gv.bind (Bu l) (Gv.aY e1 (Gv.aY (decide_eq_false X0) q1))) (Gv.bind (yT l) (Gv.aY (by rw [XZ,decide_eq_false X0];rfl) ?_))
     rw [hL];exact q2
    by_cases mK:∀ j,j < w.length→cO (CV w j)=0
    · -- all winds are in range
     have key:∀ i,∃ m,i < w.length→Ao X Y T l.length (2 * ZZ 9+1) (CV w i) m∧Gv (fun N=>lL N l (CV w i)) m:=fun i=>by
      by_cases hi:i < w.length
      ·obtain ⟨m,q1,q2⟩:=SV (e5:=9) (by omega) (by omega) (by decide) hq (mK i hi)
       exact ⟨m,fun _=>⟨q1,q2⟩⟩
      ·exact ⟨⟨false,[],[]⟩,fun q=>absurd q hi⟩
     obtain ⟨M,hM⟩:=Classical.axiomOfChoice key
     have hH:∀ i,i < w.length→Gv (fun N=>pF N l (CV w i)) (M i,0):=fun i hi=>by
      have e2:(cO (CV w i) != 0)=false:=by rw [mK i hi];rfl
      exact Gv.bind (Bu l) (Gv.aY e1 (Gv.bind (II _) (Gv.aY e2 (Gv.bind (hM i hi).2 (Gv.pure _)))))
     have hC:∀ i,i < w.length→Gv (fun N=>iG N l (CV w i) (M i)) 0:=fun i hi=>by
      obtain ⟨r1,r2⟩:=(hM i hi).1.parts
      have:=NR hL (mK i hi) hq r1 r2 (by decide) (dU (Nat.mul_le_mul (show l.length+1≤5 by omega) (aF _)) (by decide))
      rwa [(hM i hi).1.code rfl] at this
     have go:∀ {r:Int×Int},Gv (fun N=>cA N l w N 0) r→r.2=0→-1≤r.1→r.1 < ((w.length:Nat):Int) →
       (∀ j:Nat,j < w.length→(M j).ig=false→(∀ j',j' < j→(M j').ig=true)→r.1=(j:Int))→((∀ j,j < w.length→(M j).ig=true)→r.1 = -1)→Gv (fun N=>(nT N l w).bind fun cx=>(fc N l).bind fun bm=>cond (cond (bm == 0) (decide (((w.length:Nat):Int) > 24)) false) (dN N l w cx 8) (dN N l w cx bm)) true:=fun {r} q0 q1 q2 q3 q4 q5=>by
      rcases yd (l:=l) (by omega) (fun _=>q0) w.length 0 (by omega) (fun j hj=>absurd hj (cW _)) with ⟨j,p1,p2,_,_⟩ | ⟨_,p2⟩
      ·exact absurd (mK j p1) p2
      ·refine fin p2.diag (CA (by omega) (b:=true) (fun j p1 p2 _=>absurd (mK j p1) p2) (fun _=>?_) w.length 0 (by omega) (fun j hj=>absurd hj (cW _))).diag
       refine Gv.aY ?_ (Hx (by omega) hH hC q4 q5 w.length 0 (by omega) (fun j hj=>absurd hj (cW _))).diag
       rw [q1,decide_eq_false (show ¬ r.1 < -1 by omega),decide_eq_false (show ¬ r.1≥((w.length:Nat):Int) by omega)];rfl
     rcases CW (l:=l) (by omega) (fun i hi=>(hM i hi).2) w.length 0 (by omega) (fun j hj=>absurd hj (cW _)) with ⟨j,p1,p2,p3,p4⟩ | ⟨p1,p2⟩
     ·refine go p4.diag rfl (show (-1:Int)≤(j:Int) by omega) (show (j:Int) < _ by omega) (fun j' h1 h2 h3=>?_) (fun h=>by rw [h j p1] at p2;cases p2)
      show (j:Int)=(j':Int)
      by_cases e:j=j'
      ·rw [e]
      ·by_cases e2:j < j'
       ·rw [h3 j e2] at p2;cases p2
       ·rw [p3 j' (by omega)] at h2;cases h2
     ·exact go p2.diag rfl (by decide) (show (-1:Int) < _ by omega) (fun j h1 h2 _=>by rw [p1 j h1] at h2;cases h2) (fun _=>rfl)
    · -- a wind out of range
     rcases yd (l:=l) (r:=(0,0)) (by omega) (fun q=>absurd q mK) w.length 0 (by omega) (fun j hj=>absurd hj (cW _)) with ⟨j,p1,p2,p3,p4⟩ | ⟨p1,_⟩
     ·refine fin p4.diag (CA (by omega) (b:=true) (fun j' h1 h2 h3=>?_) (fun q=>absurd q mK) w.length 0 (by omega) (fun j hj=>absurd hj (cW _))).diag
      have:j=j':=by
       by_cases e:j=j'
       ·exact e
       ·by_cases e2:j < j'
        ·exact absurd (h3 j e2) p2
        ·exact absurd (p3 j' (by omega)) h2
      subst this
      simp
     ·exact absurd p1 mK
  ·have e1:(eH l != 0)=true:=by simpa using hL
   have XZ:(eH l == 0)=false:=by simpa using hL
   exact Gv.bind (Gv.bind (Bu l) (Gv.aL e1 (Gv.pure _))) (Gv.bind (yT l) (Gv.aY (by rw [XZ];rfl) (stop hL)))
end Go.Den
