/- The plain law: the Lean function of the law returns true for every input, and what it needs. No conditions. -/
import Derived.Test.YtlgddcmiekcdiaaGreatBerthHoldsPk
set_option linter.unusedVariables false
set_option linter.unusedSimpArgs false
namespace Go.Den
open Go.Ab
namespace eK
structure NP (D:eK) (m k s:Nat):Prop where
 a:∀ i j,i < m→j < k→RB (D.a i j) s
 b:∀ i,i < m→RB (D.b i) s
 g:∀ j,j < k→RB (D.g j) s
 v:RB D.v s
theorem Xa:RB 1 1:=RB.int (z:=1) (ZB.small (by decide)) (by decide)
theorem NP.pK {D:eK} {m k s i j:Nat} (h:D.NP m k s) (h1:1≤s) (hi:i < m) (hj:j < k) (h0:D.a i j≠0) {c:Nat} (hc:c < k):RB (D.pK i j c) (2 * s):=by
 unfold eK.pK
 split
 ·exact (Xa.div (h.a i j hi hj) h0).le (by omega)
 ·exact ((h.a i c hi hc).div (h.a i j hi hj) h0).neg.le (by omega)
theorem NP.nO {D:eK} {m k s i j:Nat} (h:D.NP m k s) (h1:1≤s) (hi:i < m) (hj:j < k) (h0:D.a i j≠0):(D.nO i j).NP m k (5 * s):=by
 have hp:RB (D.pb i j) (2 * s):=((h.b i hi).div (h.a i j hi hj) h0).neg.le (by omega)
 refine ⟨fun r c hr hc=>?_,fun r hr=>?_,fun c hc=>?_,((h.v).add ((h.g j hj).mul hp)).le (by omega)⟩
 ·have hw:=h.pK h1 hi hj h0 hc
  simp only [eK.nO]
  split
  ·exact hw.le (by omega)
  ·split
   ·exact ((h.a r j hr hj).mul hw).le (by omega)
   ·exact ((h.a r c hr hc).add ((h.a r j hr hj).mul hw)).le (by omega)
 ·simp only [eK.nO]
  split
  ·exact hp.le (by omega)
  ·exact ((h.b r hr).add ((h.a r j hr hj).mul hp)).le (by omega)
 ·have hw:=h.pK h1 hi hj h0 hc
  simp only [eK.nO]
  split
  ·exact ((h.g j hj).mul hw).le (by omega)
  ·exact ((h.g c hc).add ((h.g j hj).mul hw)).le (by omega)
open Classical in
noncomputable def DQ (p:Nat→Prop):Nat→Nat
 | 0=>0
 | n+1=>DQ p n+if p n then 1 else 0
theorem L4 {p:Nat→Prop}:∀ n,DQ p n≤n
 | 0=>a7 _
 | n+1=>by have:=L4 (p:=p) n;rw [DQ];split<;>omega
theorem Dn {p q:Nat→Prop}:∀ {n:Nat},(∀ i,i < n→q i→p i)→DQ q n≤DQ p n
 | 0,_=>a7 _
 | n+1,h=>by
  have:=Dn (p:=p) (q:=q) (n:=n) fun i hi=>h i (by omega)
  have hn:=h n (by omega)
  rw [DQ,DQ]
  by_cases h1:q n
  ·simp only [h1,hn h1,if_true];omega
  ·simp only [h1,if_false];omega
theorem L5 {p q:Nat→Prop}:∀ {n i:Nat},(∀ i,i < n→q i→p i)→i < n→p i→¬ q i→DQ q n < DQ p n
 | 0,i,_,hi,_,_=>by omega
 | n+1,i,h,hi,h1,h2=>by
  have hn:=h n (by omega)
  rw [DQ,DQ]
  by_cases e:i=n
  ·subst e
   have:=Dn (p:=p) (q:=q) (n:=i) fun i hi=>h i (by omega)
   simp only [h1,h2,if_true,if_false];omega
  ·have:=L5 (p:=p) (q:=q) (n:=n) (i:=i) (fun i hi=>h i (by omega)) (by omega) h1 h2
   by_cases h3:q n
   ·simp only [h3,hn h3,if_true];omega
   ·simp only [h3,if_false];omega
theorem G7 {p:Nat→Prop}:∀ {n:Nat},DQ p n=0→∀ i,i < n→¬ p i
 | 0,_,i,hi=>by omega
 | n+1,h,i,hi=>by
  rw [DQ] at h
  by_cases e:i=n
  ·subst e;intro hp;simp only [hp,if_true] at h;omega
  ·exact G7 (n:=n) (by omega) i (by omega)
def dir (D:eK) (m k j:Nat) (u:Nat):Rat:=D.ext m k (one (D.fr j)) u - D.ext m k L0 u
theorem NQ {D:eK} {m k i j:Nat} (h:D.WF m k) (hi:i < m) (hj:j < k):D.dir m k j (D.r7 i)=D.a i j:=by
 unfold dir;rw [BJ h hi,BJ h hi,row_one h hj,FF];grind
theorem FG {D:eK} {m k c j:Nat} (h:D.WF m k) (hc:c < k) (hj:j < k):D.dir m k j (D.fr c)=if c=j then 1 else 0:=by
 unfold dir;rw [Dl h hc,Dl h hc]
 unfold one L0
 by_cases e:c=j
 ·subst e;rw [if_pos rfl,if_pos rfl];grind
 ·rw [if_neg e,if_neg fun q=>e (h.fi _ _ hc hj q)];grind
theorem G8 {D D':eK} {m k j:Nat} (h':D'.WF m k) (e:EE m k D' D) (hz:∀ c,c < k→D'.dir m k j (D.fr c)=0) {i:Nat} (hi:i < m):D'.dir m k j (D.r7 i)=0:=by
 have s1:=(e.OC _).1 (FE h' (one (D'.fr j)))
 have s0:=(e.OC _).1 (FE h' L0)
 unfold dir
 rw [Dm s1 (y:=D'.ext m k L0) (fun c hc=>by have:=hz c hc;unfold dir at this;grind) hi,Dm s0 (y:=D'.ext m k L0) (fun _ _=>rfl) hi]
 grind
theorem EF {D D':eK} {m k:Nat} (h:D.WF m k) (h':D'.WF m k) (e:EE m k D D') (hb:∀ u,D.Hh m u→D'.Hh m u) {j:Nat} (hj:j < k):∃ j',j' < k∧D'.fr j'=D.fr j:=by
 refine BK h' (h.fl j hj) fun ⟨i',pM,q⟩=>?_
 have:=G8 (D:=D') (D':=D) (j:=j) h e (fun c hc=>?_) pM
 ·rw [q,FG h hj hj,if_pos rfl] at this;exact absurd this (by decide)
 ·obtain ⟨c',ml,q2⟩:=BK h (h'.fl c hc) fun ⟨i,hi,q3⟩=>by
   obtain ⟨i2,QH,q4⟩:=hb _ ⟨i,hi,q3⟩
   exact h'.bf i2 c QH hc q4
  rw [← q2,FG h ml hj,if_neg fun q5=>h'.bf i' c pM hc (by rw [q,← q2,q5])]
theorem G9 {m k:Nat} {D:eK} (h:D.WF m k):∀ (n:Nat) {D':eK} {s:Nat},D'.WF m k→EE m k D' D→D'.NP m k s→1≤s→DQ (fun i=>¬ D'.Hh m (D.r7 i)) m≤n→D.NP m k (5 ^ n * s)
 | n,D',s,h',e,hs,h1,hc=>by
  by_cases hz:DQ (fun i=>¬ D'.Hh m (D.r7 i)) m=0
  ·have hb:∀ u,D.Hh m u→D'.Hh m u:=fun u ⟨i,hi,q⟩=>q ▸ Classical.not_not.1 (G7 hz i hi)
   obtain ⟨u1,u2,u3,u4⟩:=uniq h h' e.symm hb
   have hn:s≤5 ^ n * s:=Nat.le_mul_of_pos_left _ (Nat.pow_pos (by decide))
   refine ⟨fun i j hi hj=>?_,fun i hi=>?_,fun j hj=>?_,by rw [u4];exact hs.v.le hn⟩
   ·obtain ⟨i',pM,q⟩:=hb _ ⟨i,hi,rfl⟩
    obtain ⟨j',wF,q2⟩:=EF h h' e.symm hb hj
    rw [u2 i j i' j' hi pM hj wF q.symm q2.symm];exact (hs.a _ _ pM wF).le hn
   ·obtain ⟨i',pM,q⟩:=hb _ ⟨i,hi,rfl⟩
    rw [u1 i i' hi pM q.symm];exact (hs.b _ pM).le hn
   ·obtain ⟨j',wF,q2⟩:=EF h h' e.symm hb hj
    rw [u3 j j' hj wF q2.symm];exact (hs.g _ wF).le hn
  ·obtain ⟨i,hi,Ua⟩:∃ i,i < m∧¬ D'.Hh m (D.r7 i):=Classical.byContradiction fun q=>hz (by
    have:DQ (fun i=>¬ D'.Hh m (D.r7 i)) m≤DQ (fun _=>False) m:=Dn fun i hi hp=>q ⟨i,hi,hp⟩
    have h0:∀ n,DQ (fun _=>False) n=0:=fun n=>by
     induction n with
     | zero=>rfl
     | succ n ih=>rw [DQ,ih];simp
    rw [h0] at this;omega)
   obtain ⟨j',wF,hv⟩:=BK h' (h.bl i hi) Ua
   obtain ⟨r,hr,h0,J7⟩:∃ r,r < m∧D'.a r j'≠0∧¬ D.Hh m (D'.r7 r):=Classical.byContradiction fun q=>by
    have:=G8 (D:=D) (D':=D') (j:=j') h' e (fun c hc=>?_) hi
    ·rw [← hv,FG h' wF wF,if_pos rfl] at this;exact absurd this (by decide)
    ·rcases h'.al _ (h.fl c hc) with ⟨r,hr,q2⟩ | ⟨c',ml,q2⟩
     ·rw [← q2,NQ h' hr wF]
      refine Classical.byContradiction fun q3=>q ⟨r,hr,q3,fun ⟨i2,QH,q4⟩=>h.bf i2 c QH hc (q4.trans q2)⟩
     ·rw [← q2,FG h' ml wF,if_neg fun q3=>h.bf i c hi hc (by rw [← hv,← q2,q3])]
   have fY:DQ (fun i=>¬ (D'.nO r j').Hh m (D.r7 i)) m < DQ (fun i=>¬ D'.Hh m (D.r7 i)) m:=by
    refine L5 (i:=i) (fun i' pM hp hq=>hp ((Je h' hr).2 (.inl ⟨hq,fun q=>J7 ⟨i',pM,q⟩⟩))) hi Ua fun hp=>hp ((Je h' hr).2 (.inr hv.symm))
   obtain ⟨n,rfl⟩:∃ n',n=n'+1:=⟨n - 1,by omega⟩
   have:=G9 h n (h'.nO hr wF) ((EE.nO hr wF h0).symm.trans e) (hs.nO h1 hr wF h0) (by omega) (by omega)
   rwa [← Nat.mul_assoc,← Nat.pow_succ] at this
theorem size {m k s:Nat} {D D':eK} (h:D.WF m k) (h':D'.WF m k) (e:EE m k D' D) (hs:D'.NP m k s) (h1:1≤s):D.NP m k (5 ^ m * s):=G9 h m h' e hs h1 (L4 m)
end eK
end Go.Den
namespace Go.Den
open Go.Ab
namespace eK
section
variable (n m:Nat) (C:Nat→Nat→Rat) (B:Nat→Rat)
def fst (z:Rat):eK where
 r7:=fun i=>2 * n+i
 fr:=fun j=>if j < 2 * n then j else 2 * n+m
 a:=fun i j=>if j < n then -(C i j) else if j < 2 * n then C i (j - n) else 1
 b:=B
 g:=fun j=>if j < 2 * n then 0 else z
 v:=0
def Uz (p:Nat→Rat) (i:Nat):Rat:=jP n fun j=>C i j * p j
variable {n m C B} {D:eK} (hw:D.WF m (2 * n+1)) (he:EE m (2 * n+1) (fst n m C B (-1)) D)
include hw he in
include hw he in
include hw he in
include hw he in
include hw he in
include hw he in
end
end eK
end Go.Den
namespace Go.Den
open Go.Ab
section
variable {α:Type}
def Rz (f:Nat→α) (n:Nat):List α:=(List.range n).map f
theorem NR (f:Nat→α) (n:Nat):(Rz f n).length=n:=by simp [Rz]
theorem NS (f:Nat→α) {n i:Nat} (d:α) (h:i < n):(Rz f n).getD i d=f i:=by simp [Rz,h]
end
def LQ (f:Nat→Rat) (n:Nat):List aa:=Rz (fun i=>x5 (f i)) n
theorem PY (f:Nat→Rat) (n:Nat):(LQ f n).length=n:=NR _ _
theorem PZ (f:Nat→Rat) {n i:Nat} (d:aa) (h:i < n):(LQ f n).getD i d=x5 (f i):=NS _ _ h
theorem RB.q {p:Rat} {s:Nat} (h:RB p s) (hs:s≤MS):RQ (x5 p) p MS:=(h.le hs).rq (by decide)
section
variable {k j s:Nat} {f:Rat} {F R:Nat→Rat}
end
section
variable {n m k h i j s:Nat} {D:eK}
end
end Go.Den
namespace Go.Den
open Go.Ab
section
variable {n m k h j s:Nat} {D:eK}
end
end Go.Den
namespace Go.Den
open Go.Ab
def sk (c j:Nat):Nat:=if j < c then j else j+1
section
variable {α:Type}
end
def eK.del (D:eK) (c:Nat):eK where
 r7:=D.r7
 fr:=fun j=>D.fr (sk c j)
 a:=fun i j=>D.a i (sk c j)
 b:=D.b
 g:=fun _=>0
 v:=0
section
variable {n m k h c s:Nat} {D:eK}
structure Si (n m:Nat) (C:Nat→Nat→Rat) (B:Nat→Rat) (D:eK) (c:Nat):Prop where
 wf:D.WF m (2 * n+1)
 Xz:D.Ql m
 eqv:(∃ z,eK.EE m (2 * n+1) (eK.fst n m C B z) D)
 lt:c < 2 * n+1
 fr:D.fr c=2 * n+m
variable {C:Nat→Nat→Rat} {B:Nat→Rat}
structure Sj (n m:Nat) (C:Nat→Nat→Rat) (B:Nat→Rat) (D:eK):Prop where
 wf:D.WF m (2 * n+1)
 eqv:eK.EE m (2 * n+1) (eK.fst n m C B (-1)) D
 g:∀ j,j < 2 * n+1→D.g j≤0
 v:D.v < 0
end
end Go.Den
namespace Go.Den
open Go.Ab
structure L6 (r:ag):Prop where
 len:r.iz.length≤20
 co:∀ j,IR (r.iz.getD j aa.d) 2
 bo:IR r.mm 2
structure Vo (l:List ag):Prop where
 len:l.length≤60
 row:∀ i,L6 (l.getD i ag.d)
theorem Vp {n:Nat}:IR aa.d n:=⟨⟨U.nil,Nat.zero_le _⟩,⟨U.nil,Nat.zero_le _⟩⟩
theorem L6.d:L6 ag.d:=⟨by decide,fun j=>by
 have:(ag.d.iz.getD j aa.d)=aa.d:=by cases j<;>rfl
 rw [this];exact Vp,Vp⟩
def Jf (l:List ag) (n:Int) (i:Nat):Prop:=(((l.getD i ag.d).iz.length:Nat):Int) > n
instance (l:List ag) (n:Int) (i:Nat):Decidable (Jf l n i):=by unfold Jf;infer_instance
structure UA (n:Nat) (l:List ag):Prop where
 Xb:n≤12
 len:l.length≤40
 co:∀ i,i < l.length→(l.getD i ag.d).iz.length≤n
def dF (c x:List aa):Nat→Nat→Rat→Rat
 | 0,_,a=>a
 | k+1,i,a=>dF c x k (i+1) (a+qv (c.getD i aa.d) * qv (x.getD i aa.d))
def UB (c x:List aa):Rat:=dF c x c.length 0 0
structure LB (l:List aa) (n:Nat):Prop where
 len:l.length≤60
 ir:∀ i,IR (l.getD i aa.d) n
theorem LB.rq {l:List aa} {n:Nat} (h:LB l n) (hn:1≤n) (i:Nat):RQ (l.getD i aa.d) (qv (l.getD i aa.d)) n:=⟨h.ir i,rfl,hn⟩
section
variable {c x:List aa}
end
theorem L6.lb {r:ag} (h:L6 r):LB r.iz 12:=⟨by have:=h.len;omega,fun i=>(h.co i).le (by decide)⟩
def L7 (l:List ag) (x:List aa) (i:Nat):Prop:=0 < UB (l.getD i ag.d).iz x - qv (l.getD i ag.d).mm
instance (l:List ag) (x:List aa) (i:Nat):Decidable (L7 l x i):=by unfold L7;infer_instance
section
variable {l:List ag} {x:List aa}
end
end Go.Den
namespace Go.Den
open Go.Ab
def yv (y:List aa) (i:Nat):Rat:=qv (y.getD i aa.d)
def cf (l:List ag) (i j:Nat):Rat:=qv ((l.getD i ag.d).iz.getD j aa.d)
def bv (l:List ag) (i:Nat):Rat:=qv (l.getD i ag.d).mm
def cS (l:List ag) (y:List aa) (j:Nat):Nat→Rat
 | 0=>0
 | i+1=>cS l y j i+yv y i * cf l i j
section
variable {l:List ag} {y:List aa}
end
end Go.Den
namespace Go.Den
open Go.Ab
section
variable {l:List ag} {y:List aa} {n:Nat}
end
end Go.Den
namespace Go.Den
open Go.Ab
structure Vq (l:List ag):Prop where
 co:∀ i j,RQ ((l.getD i ag.d).iz.getD j aa.d) (cf l i j) 40
 bo:∀ i,RQ (l.getD i ag.d).mm (bv l i) 40
section
variable {n:Nat} {l:List ag}
end
section
variable {n m k h s:Nat} {D:eK}
end
end Go.Den
namespace Go.Den
open Go.Ab
section
variable {n:Nat} {l:List ag}
structure Vr (q:Nat) (n:Nat) (l:List ag) (y:Nat→Rat):Prop where
 nn:∀ i,i < l.length→0≤y i
 XA:∀ j,j < n→jP l.length (fun i=>y i * cf l i j)=0
 neg:jP l.length (fun i=>y i * bv l i) < 0
 rb:∀ i,i < l.length→RB (y i) q
structure Xc (q:Nat) (n:Nat) (l:List ag) (x:Nat→Rat):Prop where
 ok:∀ i,i < l.length→eK.Uz n (cf l) x i≤bv l i
 rb:∀ j,j < n→RB (x j) q
variable {e5:Nat}
end
end Go.Den
namespace Go.Den
open Go.Ab
end Go.Den
namespace Go.Den
open Go.Ab
end Go.Den
namespace Go.Den
open Go.Ab
end Go.Den
namespace Go.Den
open Go.Ab
def UC (z:Int):Prop:=-9223372036854775808≤z∧z≤9223372036854775807
theorem RB.one:RB 1 1:=RB.int (z:=1) (ZB.small (by decide)) (by decide)
end Go.Den
namespace Go.Den
open Go.Ab
def t3 (a b c:Rat):aq:=⟨x5 a,x5 b,x5 c⟩
def px (l:ao) (s:Int):Rat:=(l.tv:Rat) / (s:Rat) * ((l.iJ - l.q7:Int):Rat)
def py (l:ao) (s:Int):Rat:=(l.tv:Rat) / (s:Rat) * ((l.lY - l.uR:Int):Rat)
def pt (l:ao) (s:Int):Rat:=(l.q7:Rat) * py l s - (l.uR:Rat) * px l s
theorem RA {z:Int} (h:z.natAbs≤9000000000000000000):UC z:=⟨by omega,by omega⟩
structure Vs (l:ao) (x y t:Rat):Prop where
 rx:RB x 40
 ry:RB y 40
 rt:RB t 40
 code:Gv (fun N=>jm N l) (t3 x y t)
 doc:Gv (fun N=>ql N l) (t3 x y t)
structure NT (l:List aa):Prop where
 ir:∀ i,i < l.length→IR (l.getD i aa.d) 12
theorem NT.rq {l:List aa} (h:NT l) {i:Nat} (hi:i < l.length):RQ (l.getD i aa.d) (qv (l.getD i aa.d)) 12:=⟨h.ir i hi,rfl,by decide⟩
theorem w1:UC 1:=RA (by decide)
section
variable {l:List ao} {X Y T:Nat→Rat} {pa:List aa}
def pv (pa:List aa) (i:Nat):Rat:=qv (pa.getD i aa.d)
def Ia (X Y T:Nat→Rat) (pa:List aa):Nat→Nat→Rat→Rat→Rat→Bool
 | 0,_,a,b,c=>cond (LX a == 0) (cond (LX b == 0) (LX c == 0) false) false
 | k+1,i,a,b,c=>cond (cond (decide (LX (pv pa i) < 0)) true (decide (LX (pv pa i - ((1:Int):Rat)) > 0))) false (Ia X Y T pa k (i+1) (a+pv pa i * X i) (b+pv pa i * Y i) (c+pv pa i * T i))
def FH (pa:List aa) (a b c:Rat):Rat:=((((0:Int):Rat)+pv pa 0 * a)+pv pa 1 * b)+pv pa 2 * c
theorem w0:UC 0:=RA (by decide)
def FI (X Y T:Nat→Rat) (pa:List aa):Nat→Nat→Rat→Bool
 | 0,_,s=>decide (LX s < 0)
 | k+1,i,s=>FI X Y T pa k (i+1) (cond (decide (LX (FH pa (X i) (Y i) (T i)) > 0)) (s+FH pa (X i) (Y i) (T i)) s)
end
end Go.Den
namespace Go.Den
open Go.Ab
structure NU (z:Nat) (l:List aa):Prop where
 one:1≤z
 top:z≤100000000000
 rq:∀ {i:Nat},i < l.length→RQ (l.getD i aa.d) (qv (l.getD i aa.d)) z
section
variable {l:List ao} {X Y T:Nat→Rat} {pa:List aa} {z:Nat}
end
end Go.Den
namespace Go.Den
open Go.Ab
section
variable {n:Nat} {X Y T:Nat→Rat} {a b c:Rat}
theorem zP (g:Nat→Rat):∀ x,jP (2 * x) g=jP x fun i=>g (2 * i)+g (2 * i+1)
 | 0=>rfl
 | x+1=>by rw [show 2 * (x+1)=2 * x+1+1 by omega,jP,jP,zP g x,jP];grind
end
end Go.Den
namespace Go.Den
open Go.Ab
section
variable {X Y T:Nat→Rat} {pa:List aa}
end
end Go.Den
namespace Go.Den
open Go.Ab
structure Xd (n:Nat) (r:ag):Prop where
 len:r.iz.length≤n
 co:∀ x∈r.iz,IR x 40
 bo:IR r.mm 40
section
variable {l:List ao} {w:dE} {X Y T:Nat→Rat} {e5:Nat}
def FJ (X Y T:Nat→Rat) (n z:Nat) (w:dE) (m:aN):Prop :=
 (m.aH=true∧m.bG.length=n∧m.dI=[]∧NU z m.bG∧Ia X Y T m.bG n 0 w.q7 w.uR w.rC=true) ∨
 (m.aH=false∧m.bG=[]∧m.dI.length=3∧NU z m.dI∧FI X Y T m.dI n 0 (FH m.dI w.q7 w.uR w.rC)=true)
theorem NU.of {f:Nat→Rat} {n z:Nat} (h1:1≤z) (h2:z≤100000000000) (h:∀ i,i < n→RB (f i) z):NU z (LQ f n):=⟨h1,h2,fun {i} hi=>by
 rw [PY] at hi
 rw [PZ _ _ hi,H6];exact (h i hi).rq h1⟩
section
variable {a b c:Rat}
end
end
end Go.Den
namespace Go.Den
open Go.Ab
end Go.Den
namespace Go.Den
open Go.Ab
section
variable {l:List ao} {w:dE} {X Y T:Nat→Rat} {m:aN} {z:Nat}
def Ha (X Y T:Nat→Rat) (l:List ao) (w:dE) (m:aN):Int :=
 cond m.aH (cond (decide (m.bG.length=l.length)) (cond (Ia X Y T m.bG l.length 0 w.q7 w.uR w.rC) 0 24) 11) (cond (decide (m.dI.length=3)) (cond (FI X Y T m.dI l.length 0 (FH m.dI w.q7 w.uR w.rC)) 0 24) 11)
theorem FJ.code {n:Nat} (h:FJ X Y T n z w m) (hn:n=l.length):Ha X Y T l w m=0:=by
 subst hn
 unfold Ha
 rcases h with ⟨h1,h2,_,_,h5⟩ | ⟨h1,_,h3,_,h5⟩
 ·rw [h1,decide_eq_true h2,h5];rfl
 ·rw [h1,decide_eq_true h3,h5];rfl
theorem NU.nil (h1:1≤z) (h2:z≤100000000000):NU z []:=⟨h1,h2,fun {i} hi=>absurd hi (iw _)⟩
theorem FJ.parts {n:Nat} (h:FJ X Y T n z w m):NU z m.bG∧NU z m.dI:=by
 rcases h with ⟨_,_,h3,h4,_⟩ | ⟨_,h2,_,h4,_⟩
 ·rw [h3];exact ⟨h4,.nil h4.one h4.top⟩
 ·rw [h2];exact ⟨.nil h4.one h4.top,h4⟩
end
end Go.Den
namespace Go.Den
open Go.Ab
theorem NT.q {pa:List aa} (h:NT pa):NU 12 pa:=⟨by decide,by decide,fun {i} hi=>h.rq hi⟩
end Go.Den
