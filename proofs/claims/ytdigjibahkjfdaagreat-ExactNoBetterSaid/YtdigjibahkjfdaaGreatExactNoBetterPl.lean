/- The plain law: the Lean function of the law returns true for every input, and what it needs. No conditions. -/
import Derived.Test.YtdigjibahkjfdaaGreatExactNoBetterPk
set_option linter.unusedVariables false
set_option linter.unusedSimpArgs false
namespace Go.Den
open Go.Ab
namespace bp
structure Ff (D:bp) (k j:Nat):Prop where
 lt:j < k
 pos:0 < D.g j
 min:∀ j',j' < k→0 < D.g j'→D.fr j≤D.fr j'
def ratio (D:bp) (j i:Nat):Rat:=D.b i / -(D.a i j)
structure Cn (D:bp) (m j i:Nat):Prop where
 lt:i < m
 neg:D.a i j < 0
 min:∀ i',i' < m→D.a i' j < 0→D.ratio j i < D.ratio j i'∨D.ratio j i=D.ratio j i'∧D.eV i≤D.eV i'
def KA (D:bp) (m:Nat):Prop:=∀ i,i < m→0≤D.b i
def Step (m k:Nat) (D D':bp):Prop:=∃ j i,D.Ff k j∧D.Cn m j i∧D'=D.iu i j
theorem Nz {x y a:Rat} (ha:0 < a) (h:x≤y / a):x * a≤y:=by
 have e:y / a * a=y:=by grind
 have:=Rat.mul_le_mul_of_nonneg_right h (Rat.le_of_lt ha)
 rwa [e] at this
theorem G7 {x a:Rat} (ha:0 < a) (h:0≤x):0≤x / a:=by
 rw [Rat.div_def]
 exact Rat.mul_nonneg h (Rat.le_of_lt (Rat.inv_pos.2 ha))
theorem L0 (D:bp) (i j:Nat):D.pb i j=D.ratio j i:=by
 unfold pb ratio
 by_cases h:D.a i j=0
 ·rw [h];simp [Rat.div_def]
 ·have:-(D.a i j)≠0:=by grind
  grind
theorem KA.ratio {D:bp} {m i j:Nat} (h:D.KA m) (hi:i < m) (hn:D.a i j < 0):0≤D.ratio j i:=G7 (by grind) (h i hi)
theorem Cn.le {D:bp} {m j i r:Nat} (h:D.Cn m j i) (hr:r < m) (hn:D.a r j < 0):D.ratio j i≤D.ratio j r:=by
 rcases h.min r hr hn with h1 | ⟨h1,_⟩
 ·exact Rat.le_of_lt h1
 ·rw [h1];exact Rat.le_refl
theorem KA.iu {D:bp} {m i j:Nat} (h:D.KA m) (hl:D.Cn m j i):(D.iu i j).KA m:=fun r hr=>by
 have h0:=h.ratio hl.lt hl.neg
 simp only [bp.iu,L0]
 split
 ·exact h0
 ·by_cases hn:D.a r j < 0
  ·have h1:=Nz (a:=-(D.a r j)) (by grind) (hl.le hr hn)
   have:=h r hr
   grind
  ·have h1:=Rat.mul_nonneg (Rat.not_lt.1 hn) h0
   have:=h r hr
   grind
theorem Co {D:bp} {m k i j u:Nat} (h:D.WF m k) (hi:i < m):(D.iu i j).vA m u↔(D.vA m u∧u≠D.eV i)∨u=D.fr j:=by
 constructor
 ·rintro ⟨r,hr,e⟩
  simp only [bp.iu] at e
  split at e
  ·exact .inr e.symm
  ·rename_i hn
   exact .inl ⟨⟨r,hr,e⟩,fun q=>hn (h.bi _ _ hr hi (e.trans q))⟩
 ·rintro (⟨⟨r,hr,e⟩,hn⟩ | e)
  ·exact ⟨r,hr,by simp only [bp.iu];rw [if_neg fun q=>hn (by rw [← e,q])];exact e⟩
  ·exact ⟨i,hi,by simp only [bp.iu,if_pos];exact e.symm⟩
theorem SQ:∀ (M:Nat) (f:Nat→Nat),(∀ i,f i < M)→∃ i j,i < j∧f i=f j
 | 0,f,h=>absurd (h 0) (dP _)
 | M+1,f,h=>by
  by_cases hM:∃ N,∀ i,N≤i→f i≠M
  ·obtain ⟨N,hN⟩:=hM
   obtain ⟨i,j,h1,h2⟩:=SQ M (fun i=>f (i+N)) fun i=>by
    have:=h (i+N);have:=hN (i+N) (by omega);omega
   exact ⟨i+N,j+N,by omega,h2⟩
  ·have hM:∀ N,∃ i,N≤i∧f i=M:=fun N=>mM fun q=>hM ⟨N,fun i hi e=>q ⟨i,hi,e⟩⟩
   obtain ⟨i,_,h1⟩:=hM 0
   obtain ⟨j,h2,h3⟩:=hM (i+1)
   exact ⟨i,j,by omega,h1.trans h3.symm⟩
open Classical in
noncomputable def enc (p:Nat→Prop):Nat→Nat
 | 0=>0
 | n+1=>2 * enc p n+if p n then 1 else 0
theorem SR (p:Nat→Prop):∀ n,enc p n < 2 ^ n
 | 0=>by simp [enc]
 | n+1=>by
  have:=SR p n
  rw [enc,Nat.pow_succ]
  split<;>omega
theorem J9 {p q:Nat→Prop}:∀ {n:Nat},enc p n=enc q n→∀ u,u < n→(p u↔q u)
 | 0,_,u,hu=>by omega
 | n+1,h,u,hu=>by
  rw [enc,enc] at h
  by_cases e:u=n
  ·subst e
   by_cases h1:p u<;>by_cases h2:q u<;>simp only [h1,h2,if_true,if_false] at h ⊢<;>omega
  ·refine J9 (n:=n) ?_ u (by omega)
   split at h<;>split at h<;>omega
theorem SS {f:Nat→Nat} {a:Nat}:∀ n,∃ x,a≤x∧x≤a+n∧∀ y,a≤y→y≤a+n→f y≤f x
 | 0=>⟨a,aP _,aP _,fun y h1 h2=>by rw [show y=a by omega];exact aP _⟩
 | n+1=>by
  obtain ⟨x,h1,h2,h3⟩:=SS (f:=f) (a:=a) n
  by_cases h:f x≤f (a+(n+1))
  ·refine ⟨a+(n+1),by omega,aP _,fun y q1 q2=>?_⟩
   by_cases e:y=a+(n+1)
   ·rw [e];exact aP _
   ·exact dp (h3 y q1 (by omega)) h
  ·refine ⟨x,h1,by omega,fun y q1 q2=>?_⟩
   by_cases e:y=a+(n+1)
   ·rw [e];omega
   ·exact h3 y q1 (by omega)
theorem L1:∀ {n:Nat} {f:Nat→Rat},0 < bJ n f→∃ j,j < n∧0 < f j
 | 0,f,h=>by simp only [bJ] at h;exact absurd h (by decide)
 | n+1,f,h=>by
  by_cases h1:0 < f n
  ·exact ⟨n,by omega,h1⟩
  ·rw [bJ] at h
   obtain ⟨j,hj,h2⟩:=L1 (n:=n) (f:=f) (by grind)
   exact ⟨j,by omega,h2⟩
theorem NA {m k:Nat} {s:Nat→bp} (hw:(s 0).WF m k) (hf:(s 0).KA m) (hs:∀ n,Step m k (s n) (s (n+1))):False:=by
 obtain ⟨J,hJ⟩:=Classical.axiomOfChoice hs
 obtain ⟨I,st⟩:=Classical.axiomOfChoice hJ
 clear hJ hs
 have h0:∀ n,(s n).a (I n) (J n)≠0:=fun n=>by have:=(st n).2.1.neg;grind
 have G8:∀ n,(s n).WF m k:=fun n=>by
  induction n with
  | zero=>exact hw
  | succ n ih=>rw [(st n).2.2];exact ih.iu (st n).2.1.lt (st n).1.lt
 have hfe:∀ n,(s n).KA m:=fun n=>by
  induction n with
  | zero=>exact hf
  | succ n ih=>rw [(st n).2.2];exact ih.iu (st n).2.1
 have he:∀ n,Am m k (s 0) (s n):=fun n=>by
  induction n with
  | zero=>exact .refl _ _ _
  | succ n ih=>rw [(st n).2.2];exact ih.trans (.iu (st n).2.1.lt (st n).1.lt (h0 n))
 have hee:∀ a b,Am m k (s a) (s b):=fun a b=>(he a).symm.trans (he b)
 have hB:∀ n u,(s (n+1)).vA m u↔((s n).vA m u∧u≠(s n).eV (I n))∨u=(s n).fr (J n):=fun n u=>by
  rw [(st n).2.2];exact Co (G8 n) (st n).2.1.lt
 have aaI:∀ n j,j < k→¬ (s n).vA m ((s n).fr j):=fun n j hj ⟨i,hi,e⟩=>(G8 n).bf i j hi hj e
 -- a basis comes again
 obtain ⟨A,B,hAB,Yn⟩:=SQ (2 ^ (m+k)) (fun n=>enc (fun u=>(s n).vA m u) (m+k)) fun n=>SR _ _
 have hbs:∀ u,(s A).vA m u→(s B).vA m u:=fun u hu=>by
  obtain ⟨i,hi,e⟩:=id hu
  exact (J9 Yn u (e ▸ (G8 A).bl i hi)).1 hu
 have aeh:∀ u,(s B).vA m u→(s A).vA m u:=fun u hu=>by
  obtain ⟨i,hi,e⟩:=id hu
  exact (J9 Yn u (e ▸ (G8 B).bl i hi)).2 hu
 have hv:(s A).v=(s B).v:=(uniq (G8 A) (G8 B) (hee A B) hbs).2.2.2
 have hpb:∀ n,0≤(s n).ratio (J n) (I n):=fun n=>(hfe n).ratio (st n).2.1.lt (st n).2.1.neg
 have XB:∀ n,(s (n+1)).v=(s n).v+(s n).g (J n) * (s n).ratio (J n) (I n):=fun n=>by rw [(st n).2.2,← L0];rfl
 have aaJ:∀ n,(s n).v≤(s (n+1)).v:=fun n=>by
  have:=Rat.mul_nonneg (Rat.le_of_lt (st n).1.pos) (hpb n)
  have:=XB n
  grind
 have aaK:∀ a d,(s a).v≤(s (a+d)).v:=fun a d=>by
  induction d with
  | zero=>exact Rat.le_refl
  | succ d ih=>exact Rat.le_trans ih (aaJ _)
 have U9:∀ n,A≤n→n < B→(s n).ratio (J n) (I n)=0:=fun n h1 h2=>by
  have e1:=aaK A (n - A)
  have e2:=aaK (n+1) (B - (n+1))
  rw [show A+(n - A)=n by omega] at e1
  rw [show n+1+(B - (n+1))=B by omega] at e2
  have e3:=XB n
  have e4:=hpb n
  have e5:=(st n).1.pos
  have e6:(s n).g (J n) * (s n).ratio (J n) (I n)=0:=by
   have:=Rat.mul_nonneg (Rat.le_of_lt e5) e4
   grind
  rcases Rat.mul_eq_zero.1 e6 with h | h
  ·rw [h] at e5;exact absurd e5 (by decide)
  ·exact h
 have hbi:∀ n,A≤n→n < B→(s n).b (I n)=0:=fun n h1 h2=>by
  have e:=U9 n h1 h2
  have hn:=(st n).2.1.neg
  unfold ratio at e
  have:(s n).b (I n) / -((s n).a (I n) (J n)) * -((s n).a (I n) (J n))=(s n).b (I n):=by grind
  rw [e] at this
  grind
 -- one point for all
 let x0:=(s A).ext m k qX
 have RC:∀ n,(s n).Cm m k x0:=fun n=>((hee A n).Kz _).1 (oW (G8 A) qX)
 have hxf:∀ d,A+d≤B→∀ j,j < k→x0 ((s (A+d)).fr j)=0:=fun d=>by
  induction d with
  | zero=>intro _ j hj;exact vw (G8 A) hj qX
  | succ d ih =>
   intro hd j hj
   have ih:=ih (by omega)
   show x0 ((s (A+d+1)).fr j)=0
   rw [(st (A+d)).2.2]
   simp only [bp.iu]
   split
   ·rw [zg (y:=qX) (RC (A+d)) ih (st (A+d)).2.1.lt,s8]
    exact hbi _ (by omega) (by omega)
   ·exact ih j hj
 have hxf:∀ n,A≤n→n≤B→∀ j,j < k→x0 ((s n).fr j)=0:=fun n h1 h2=>by
  have:=hxf (n - A) (by omega)
  rwa [show A+(n - A)=n by omega] at this
 have hxb:∀ n,A≤n→n≤B→∀ i,i < m→(s n).b i=x0 ((s n).eV i):=fun n h1 h2 i hi=>by
  rw [zg (y:=qX) (RC n) (hxf n h1 h2) hi,s8]
 -- what stays out, what stays in
 have out:∀ a d u,¬ (s a).vA m u→(∀ n,a≤n→n < a+d→(s n).fr (J n)≠u)→¬ (s (a+d)).vA m u:=fun a d u h1=>by
  induction d with
  | zero=>intro _;exact h1
  | succ d ih =>
   intro h2 h3
   rcases (hB (a+d) u).1 h3 with ⟨h4,_⟩ | h4
   ·exact ih (fun n q1 q2=>h2 n q1 (by omega)) h4
   ·exact h2 (a+d) (by omega) (by omega) h4.symm
 have inn:∀ a d u,(s a).vA m u→(∀ n,a≤n→n < a+d→(s n).eV (I n)≠u)→(s (a+d)).vA m u:=fun a d u h1=>by
  induction d with
  | zero=>intro _;exact h1
  | succ d ih =>
   intro h2
   exact (hB (a+d) u).2 (.inl ⟨ih (fun n q1 q2=>h2 n q1 (by omega)),fun q=>h2 (a+d) (by omega) (by omega) q.symm⟩)
 -- the greatest one that comes in
 obtain ⟨q,FK,dQ,iZ⟩:=SS (f:=fun n=>(s n).fr (J n)) (a:=A) (B - A - 1)
 have dQ:q < B:=by omega
 have iZ:∀ n,A≤n→n < B→(s n).fr (J n)≤(s q).fr (J q):=fun n h1 h2=>iZ n h1 (by omega)
 generalize ht:(s q).fr (J q)=t at iZ
 have htq:¬ (s q).vA m t:=ht ▸ aaI q _ (st q).1.lt
 have enters:∀ u p,A≤p→p < B→(s p).vA m u→¬ (s q).vA m u→∃ n,A≤n∧n < B∧(s n).fr (J n)=u:=fun u p h1 h2 h3 h4=>mM fun ec=>by
  have ec:∀ n,A≤n→n < B→(s n).fr (J n)≠u:=fun n q1 q2 e=>ec ⟨n,q1,q2,e⟩
  have e1:=out q (B - q) u h4 fun n q1 q2=>ec n (by omega) (by omega)
  rw [show q+(B - q)=B by omega] at e1
  have e2:=out A (p - A) u (fun h=>e1 (hbs u h)) fun n q1 q2=>ec n (by omega) (by omega)
  rw [show A+(p - A)=p by omega] at e2
  exact e2 h3
 obtain ⟨p,ug,vE,hp3⟩:∃ p,A≤p∧p < B∧(s p).eV (I p)=t:=mM fun ec=>by
  have ec:∀ n,A≤n→n < B→(s n).eV (I n)≠t:=fun n q1 q2 e=>ec ⟨n,q1,q2,e⟩
  have e0:(s (q+1)).vA m t:=(hB q t).2 (.inr ht.symm)
  have e1:=inn (q+1) (B - (q+1)) t e0 fun n q1 q2=>ec n (by omega) (by omega)
  rw [show q+1+(B - (q+1))=B by omega] at e1
  have e2:=inn A (q - A) t (aeh t e1) fun n q1 q2=>ec n (by omega) (by omega)
  rw [show A+(q - A)=q by omega] at e2
  exact htq e2
 -- the direction of the step in which it goes out
 have hjp:=(st p).1.lt
 have y1:=oW (G8 p) (one ((s p).fr (J p)))
 have y0:=oW (G8 p) qX
 have g1:(s p).v+(s p).g (J p)=(s q).gv k ((s p).ext m k (one ((s p).fr (J p)))):=by
  rw [← (hee p q).gv _ y1,zf (G8 p),J8 (G8 p) hjp]
 have g0:(s p).v=(s q).gv k ((s p).ext m k qX):=by rw [← (hee p q).gv _ y0,zf (G8 p),DN]
 let d:Nat→Rat:=fun u=>(s p).ext m k (one ((s p).fr (J p))) u - (s p).ext m k qX u
 have hd:(s p).g (J p)=bJ k fun j=>(s q).g j * d ((s q).fr j):=by
  have e:bJ k (fun j=>(s q).g j * (s p).ext m k (one ((s p).fr (J p))) ((s q).fr j))=bJ k (fun j=>(s q).g j * d ((s q).fr j)+(s q).g j * (s p).ext m k qX ((s q).fr j)):=aA fun j _=>by
   show _=_ * (_ - _)+_
   grind
  rw [rR] at e
  unfold gv at g1 g0
  rw [e] at g1
  rw [g0] at g1
  grind
 obtain ⟨j,hj,PU⟩:=L1 (by rw [← hd];exact (st p).1.pos)
 generalize hr:(s q).fr j=r at PU
 have hrq:¬ (s q).vA m r:=hr ▸ aaI q j hj
 have hru:r < m+k:=hr ▸ (G8 q).fl j hj
 -- Bland's choice at q
 have blq:t≤r∨(s q).g j≤0:=by
  by_cases h:0 < (s q).g j
  ·exact .inl (by rw [← ht,← hr];exact (st q).1.min j hj h)
  ·exact .inr (Rat.not_lt.1 h)
 have aek:∀ i,i < m→(s p).eV i=t→(s p).a i (J p) < 0:=fun i hi e=>by
  rw [(G8 p).bi i (I p) hi (st p).2.1.lt (e.trans hp3.symm)];exact (st p).2.1.neg
 rcases (G8 p).al r hru with ⟨i,hi,e⟩ | ⟨c,hc,e⟩
 ·have WD:d r=(s p).a i (J p):=by
   show (s p).ext m k _ r - (s p).ext m k qX r=_
   rw [← e,uS (G8 p) hi,uS (G8 p) hi,row_one (G8 p) hjp,s8];grind
  rw [WD] at PU
  obtain ⟨n,n1,n2,n3⟩:=enters r p ug vE ⟨i,hi,e⟩ hrq
  have hrt:r≤t:=n3 ▸ iZ n n1 n2
  by_cases aaL:r=t
  ·have h1:=aek i hi (e.trans aaL)
   have h2:0 < (s q).g j:=by
    rw [(G8 q).fi j (J q) hj (st q).1.lt (hr.trans (aaL.trans ht.symm))];exact (st q).1.pos
   have:=Rat.mul_pos h2 (show 0 < -((s p).a i (J p)) by grind)
   grind
  ·have hg:(s q).g j≤0:=blq.resolve_left (by omega)
   have ha:(s p).a i (J p) < 0:=Rat.not_le.1 fun h=>by
    have:=Rat.mul_nonneg (show 0≤-((s q).g j) by grind) h
    grind
   have hbr:(s p).b i=0:=by
    rw [hxb p ug (by omega) i hi,e,← hr];exact hxf q FK (by omega) j hj
   have hz:(s p).ratio (J p) i=0:=by unfold ratio;rw [hbr];grind
   rcases (st p).2.1.min i hi ha with h | ⟨_,h⟩
   ·rw [U9 p ug vE,hz] at h;exact absurd h (by decide)
   ·rw [hp3,e] at h;omega
 ·have WD:d r=one ((s p).fr (J p)) r:=by
   show (s p).ext m k _ r - (s p).ext m k qX r=_
   rw [← e,vw (G8 p) hc,vw (G8 p) hc];unfold qX;grind
  rw [WD] at PU
  unfold one at PU
  split at PU
  ·rename_i ZV
   have hle:r≤t:=ZV ▸ iZ p ug vE
   have ec:r≠t:=fun h=>(G8 p).bf (I p) (J p) (st p).2.1.lt hjp (by rw [hp3,← ZV,h])
   have hg:(s q).g j≤0:=blq.resolve_left (by omega)
   grind
  ·grind
theorem SU {m k:Nat} {D:bp} (hw:D.WF m k) (hf:D.KA m):Acc (fun a b=>Step m k b a) D:=mM fun hn=>by
 have nx:∀ x:{ x:bp // ¬ Acc (fun a b=>Step m k b a) x },∃ y:{ x:bp // ¬ Acc (fun a b=>Step m k b a) x },Step m k x.1 y.1:=fun x=>mM fun q=>x.2 (.intro _ fun y hy=>mM fun Hy=>q ⟨⟨y,Hy⟩,hy⟩)
 let s:Nat→{ x:bp // ¬ Acc (fun a b=>Step m k b a) x }:=fun n=>Nat.rec ⟨D,hn⟩ (fun _ x=>Classical.choose (nx x)) n
 exact NA (s:=fun n=>(s n).1) hw hf fun n=>Classical.choose_spec (nx (s n))
end bp
end Go.Den
namespace Go.Den
open Go.Ab
namespace bp
structure G9 (D:bp) (m k s:Nat):Prop where
 a:∀ i j,i < m→j < k→RB (D.a i j) s
 b:∀ i,i < m→RB (D.b i) s
 g:∀ j,j < k→RB (D.g j) s
 v:RB D.v s
theorem Yo:RB 1 1:=RB.int (z:=1) (ZB.small (by decide)) (by decide)
theorem G9.nI {D:bp} {m k s i j:Nat} (h:D.G9 m k s) (h1:1≤s) (hi:i < m) (hj:j < k) (h0:D.a i j≠0) {c:Nat} (hc:c < k):RB (D.nI i j c) (2 * s):=by
 unfold bp.nI
 split
 ·exact (Yo.div (h.a i j hi hj) h0).le (by omega)
 ·exact ((h.a i c hi hc).div (h.a i j hi hj) h0).neg.le (by omega)
theorem G9.iu {D:bp} {m k s i j:Nat} (h:D.G9 m k s) (h1:1≤s) (hi:i < m) (hj:j < k) (h0:D.a i j≠0):(D.iu i j).G9 m k (5 * s):=by
 have hp:RB (D.pb i j) (2 * s):=((h.b i hi).div (h.a i j hi hj) h0).neg.le (by omega)
 refine ⟨fun r c hr hc=>?_,fun r hr=>?_,fun c hc=>?_,((h.v).add ((h.g j hj).mul hp)).le (by omega)⟩
 ·have hw:=h.nI h1 hi hj h0 hc
  simp only [bp.iu]
  split
  ·exact hw.le (by omega)
  ·split
   ·exact ((h.a r j hr hj).mul hw).le (by omega)
   ·exact ((h.a r c hr hc).add ((h.a r j hr hj).mul hw)).le (by omega)
 ·simp only [bp.iu]
  split
  ·exact hp.le (by omega)
  ·exact ((h.b r hr).add ((h.a r j hr hj).mul hp)).le (by omega)
 ·have hw:=h.nI h1 hi hj h0 hc
  simp only [bp.iu]
  split
  ·exact ((h.g j hj).mul hw).le (by omega)
  ·exact ((h.g c hc).add ((h.g j hj).mul hw)).le (by omega)
open Classical in
noncomputable def Cp (p:Nat→Prop):Nat→Nat
 | 0=>0
 | n+1=>Cp p n+if p n then 1 else 0
theorem NB {p:Nat→Prop}:∀ n,Cp p n≤n
 | 0=>aP _
 | n+1=>by have:=NB (p:=p) n;rw [Cp];split<;>omega
theorem Cq {p q:Nat→Prop}:∀ {n:Nat},(∀ i,i < n→q i→p i)→Cp q n≤Cp p n
 | 0,_=>aP _
 | n+1,h=>by
  have:=Cq (p:=p) (q:=q) (n:=n) fun i hi=>h i (by omega)
  have hn:=h n (by omega)
  rw [Cp,Cp]
  by_cases h1:q n
  ·simp only [h1,hn h1,if_true];omega
  ·simp only [h1,if_false];omega
theorem NC {p q:Nat→Prop}:∀ {n i:Nat},(∀ i,i < n→q i→p i)→i < n→p i→¬ q i→Cp q n < Cp p n
 | 0,i,_,hi,_,_=>by omega
 | n+1,i,h,hi,h1,h2=>by
  have hn:=h n (by omega)
  rw [Cp,Cp]
  by_cases e:i=n
  ·subst e
   have:=Cq (p:=p) (q:=q) (n:=i) fun i hi=>h i (by omega)
   simp only [h1,h2,if_true,if_false];omega
  ·have:=NC (p:=p) (q:=q) (n:=n) (i:=i) (fun i hi=>h i (by omega)) (by omega) h1 h2
   by_cases h3:q n
   ·simp only [h3,hn h3,if_true];omega
   ·simp only [h3,if_false];omega
theorem Ha {p:Nat→Prop}:∀ {n:Nat},Cp p n=0→∀ i,i < n→¬ p i
 | 0,_,i,hi=>by omega
 | n+1,h,i,hi=>by
  rw [Cp] at h
  by_cases e:i=n
  ·subst e;intro hp;simp only [hp,if_true] at h;omega
  ·exact Ha (n:=n) (by omega) i (by omega)
def dir (D:bp) (m k j:Nat) (u:Nat):Rat:=D.ext m k (one (D.fr j)) u - D.ext m k qX u
theorem Ka {D:bp} {m k i j:Nat} (h:D.WF m k) (hi:i < m) (hj:j < k):D.dir m k j (D.eV i)=D.a i j:=by
 unfold dir;rw [uS h hi,uS h hi,row_one h hj,s8];grind
theorem Bj {D:bp} {m k c j:Nat} (h:D.WF m k) (hc:c < k) (hj:j < k):D.dir m k j (D.fr c)=if c=j then 1 else 0:=by
 unfold dir;rw [vw h hc,vw h hc]
 unfold one qX
 by_cases e:c=j
 ·subst e;rw [if_pos rfl,if_pos rfl];grind
 ·rw [if_neg e,if_neg fun q=>e (h.fi _ _ hc hj q)];grind
theorem Hb {D D':bp} {m k j:Nat} (h':D'.WF m k) (e:Am m k D' D) (hz:∀ c,c < k→D'.dir m k j (D.fr c)=0) {i:Nat} (hi:i < m):D'.dir m k j (D.eV i)=0:=by
 have s1:=(e.Kz _).1 (oW h' (one (D'.fr j)))
 have s0:=(e.Kz _).1 (oW h' qX)
 unfold dir
 rw [zg s1 (y:=D'.ext m k qX) (fun c hc=>by have:=hz c hc;unfold dir at this;grind) hi,zg s0 (y:=D'.ext m k qX) (fun _ _=>rfl) hi]
 grind
theorem z6 {D D':bp} {m k:Nat} (h:D.WF m k) (h':D'.WF m k) (e:Am m k D D') (hb:∀ u,D.vA m u→D'.vA m u) {j:Nat} (hj:j < k):∃ j',j' < k∧D'.fr j'=D.fr j:=by
 refine z5 h' (h.fl j hj) fun ⟨i',oY,q⟩=>?_
 have:=Hb (D:=D') (D':=D) (j:=j) h e (fun c hc=>?_) oY
 ·rw [q,Bj h hj hj,if_pos rfl] at this;exact absurd this (by decide)
 ·obtain ⟨c',jr,q2⟩:=z5 h (h'.fl c hc) fun ⟨i,hi,q3⟩=>by
   obtain ⟨i2,TS,q4⟩:=hb _ ⟨i,hi,q3⟩
   exact h'.bf i2 c TS hc q4
  rw [← q2,Bj h jr hj,if_neg fun q5=>h'.bf i' c oY hc (by rw [q,← q2,q5])]
theorem L3 {m k:Nat} {D:bp} (h:D.WF m k):∀ (n:Nat) {D':bp} {s:Nat},D'.WF m k→Am m k D' D→D'.G9 m k s→1≤s→Cp (fun i=>¬ D'.vA m (D.eV i)) m≤n→D.G9 m k (5 ^ n * s)
 | n,D',s,h',e,hs,h1,hc=>by
  by_cases hz:Cp (fun i=>¬ D'.vA m (D.eV i)) m=0
  ·have hb:∀ u,D.vA m u→D'.vA m u:=fun u ⟨i,hi,q⟩=>q ▸ Classical.not_not.1 (Ha hz i hi)
   obtain ⟨u1,u2,u3,u4⟩:=uniq h h' e.symm hb
   have hn:s≤5 ^ n * s:=Nat.le_mul_of_pos_left _ (Nat.pow_pos (by decide))
   refine ⟨fun i j hi hj=>?_,fun i hi=>?_,fun j hj=>?_,by rw [u4];exact hs.v.le hn⟩
   ·obtain ⟨i',oY,q⟩:=hb _ ⟨i,hi,rfl⟩
    obtain ⟨j',sJ,q2⟩:=z6 h h' e.symm hb hj
    rw [u2 i j i' j' hi oY hj sJ q.symm q2.symm];exact (hs.a _ _ oY sJ).le hn
   ·obtain ⟨i',oY,q⟩:=hb _ ⟨i,hi,rfl⟩
    rw [u1 i i' hi oY q.symm];exact (hs.b _ oY).le hn
   ·obtain ⟨j',sJ,q2⟩:=z6 h h' e.symm hb hj
    rw [u3 j j' hj sJ q2.symm];exact (hs.g _ sJ).le hn
  ·obtain ⟨i,hi,Y4⟩:∃ i,i < m∧¬ D'.vA m (D.eV i):=mM fun q=>hz (by
    have:Cp (fun i=>¬ D'.vA m (D.eV i)) m≤Cp (fun _=>False) m:=Cq fun i hi hp=>q ⟨i,hi,hp⟩
    have h0:∀ n,Cp (fun _=>False) n=0:=fun n=>by
     induction n with
     | zero=>rfl
     | succ n ih=>rw [Cp,ih];simp
    rw [h0] at this;omega)
   obtain ⟨j',sJ,hv⟩:=z5 h' (h.bl i hi) Y4
   obtain ⟨r,hr,h0,Pk⟩:∃ r,r < m∧D'.a r j'≠0∧¬ D.vA m (D'.eV r):=mM fun q=>by
    have:=Hb (D:=D) (D':=D') (j:=j') h' e (fun c hc=>?_) hi
    ·rw [← hv,Bj h' sJ sJ,if_pos rfl] at this;exact absurd this (by decide)
    ·rcases h'.al _ (h.fl c hc) with ⟨r,hr,q2⟩ | ⟨c',jr,q2⟩
     ·rw [← q2,Ka h' hr sJ]
      refine mM fun q3=>q ⟨r,hr,q3,fun ⟨i2,TS,q4⟩=>h.bf i2 c TS hc (q4.trans q2)⟩
     ·rw [← q2,Bj h' jr sJ,if_neg fun q3=>h.bf i c hi hc (by rw [← hv,← q2,q3])]
   have ft:Cp (fun i=>¬ (D'.iu r j').vA m (D.eV i)) m < Cp (fun i=>¬ D'.vA m (D.eV i)) m:=by
    refine NC (i:=i) (fun i' oY hp hq=>hp ((Co h' hr).2 (.inl ⟨hq,fun q=>Pk ⟨i',oY,q⟩⟩))) hi Y4 fun hp=>hp ((Co h' hr).2 (.inr hv.symm))
   obtain ⟨n,rfl⟩:∃ n',n=n'+1:=⟨n - 1,by omega⟩
   have:=L3 h n (h'.iu hr sJ) ((Am.iu hr sJ h0).symm.trans e) (hs.iu h1 hr sJ h0) (by omega) (by omega)
   rwa [← Nat.mul_assoc,← Nat.pow_succ] at this
theorem size {m k s:Nat} {D D':bp} (h:D.WF m k) (h':D'.WF m k) (e:Am m k D' D) (hs:D'.G9 m k s) (h1:1≤s):D.G9 m k (5 ^ m * s):=L3 h m h' e hs h1 (NB m)
end bp
end Go.Den
namespace Go.Den
open Go.Ab
theorem I3 (m n:Nat) (f:Nat→Nat→Rat):bJ m (fun i=>bJ n fun j=>f i j)=bJ n fun j=>bJ m fun i=>f i j:=by
 induction m with
 | zero=>show (0:Rat)=_;rw [show (fun j=>bJ 0 fun i=>f i j)=fun _=>(0:Rat) from rfl,gQ]
 | succ m ih=>simp only [bJ];rw [ih,← rR]
theorem nJ (m n:Nat) (f:Nat→Rat):bJ (m+n) f=bJ m f+bJ n fun i=>f (m+i):=by
 induction n with
 | zero=>show bJ m f=bJ m f+0;grind
 | succ n ih=>rw [show m+(n+1)=m+n+1 by omega,bJ,bJ,ih];grind
theorem zh (n:Nat) (f g:Nat→Rat):bJ n (fun i=>f i - g i)=bJ n f - bJ n g:=by
 have e:(fun i=>f i - g i)=fun i=>f i+(-1) * g i:=by funext i;grind
 rw [e,rR,ja];grind
namespace bp
def sc (t:Rat) (u:Nat):Nat→Rat:=fun w=>if w=u then t else 0
theorem Yp {D:bp} {m k j:Nat} (h:D.WF m k) (hj:j < k) (t:Rat) (i:Nat):D.row k (sc t (D.fr j)) i=D.b i+D.a i j * t:=by
 unfold row sc
 rw [jv hj _ fun c hc ec=>by rw [if_neg fun e=>ec (h.fi _ _ hc hj e)];grind]
 rw [if_pos rfl]
theorem aaM {D:bp} {m k j:Nat} (h:D.WF m k) (hj:j < k) (t:Rat):D.gv k (sc t (D.fr j))=D.v+D.g j * t:=by
 unfold gv sc
 rw [jv hj _ fun c hc ec=>by rw [if_neg fun e=>ec (h.fi _ _ hc hj e)];grind]
 rw [if_pos rfl]
def gc (D:bp) (k u:Nat):Rat:=bJ k fun j=>if D.fr j=u then D.g j else 0
theorem L4 {D:bp} {m k j:Nat} (h:D.WF m k) (hj:j < k):D.gc k (D.fr j)=D.g j:=by
 unfold gc
 rw [jv hj _ fun c hc ec=>if_neg fun e=>ec (h.fi _ _ hc hj e),if_pos rfl]
theorem Cr {D:bp} {k u:Nat} (h:∀ j,j < k→D.fr j≠u):D.gc k u=0:=by
 unfold gc
 rw [aA (g:=fun _=>0) fun j hj=>if_neg (h j hj),gQ]
theorem SV {D:bp} {m k:Nat} (h:D.WF m k) (x:Nat→Rat):D.gv k x=D.v+bJ (m+k) fun u=>D.gc k u * x u:=by
 unfold gv;congr 1
 have e:(fun u=>D.gc k u * x u)=fun u=>bJ k fun j=>x u * (if D.fr j=u then D.g j else 0):=by
  funext u;rw [ja];unfold gc;grind
 rw [e,I3]
 refine aA fun j hj=>?_
 rw [jv (h.fl j hj) _ fun u _ hu=>by rw [if_neg fun q=>hu q.symm];grind]
 rw [if_pos rfl];grind
section
variable (n m:Nat) (C:Nat→Nat→Rat) (B:Nat→Rat)
def fst (z:Rat):bp where
 eV:=fun i=>2 * n+i
 fr:=fun j=>if j < 2 * n then j else 2 * n+m
 a:=fun i j=>if j < n then -(C i j) else if j < 2 * n then C i (j - n) else 1
 b:=B
 g:=fun j=>if j < 2 * n then 0 else z
 v:=0
theorem DP (z:Rat):(fst n m C B z).WF m (2 * n+1):=by
 refine ⟨fun i i' _ _ e=>?_,fun j j' hj sJ e=>?_,fun i j hi hj e=>?_,fun i hi=>?_,fun j hj=>?_,fun u hu=>?_⟩
 ·simp only [fst] at e;omega
 ·simp only [fst] at e;split at e<;>split at e<;>omega
 ·simp only [fst] at e;split at e<;>omega
 ·simp only [fst];omega
 ·simp only [fst];split<;>omega
 ·by_cases h:u < 2 * n
  ·exact .inr ⟨u,by omega,by simp only [fst];rw [if_pos h]⟩
  ·by_cases h2:u=2 * n+m
   ·exact .inr ⟨2 * n,by omega,by simp only [fst];rw [if_neg (by omega)];exact h2.symm⟩
   ·exact .inl ⟨u - 2 * n,by omega,by simp only [fst];omega⟩
def jd (p:Nat→Rat) (i:Nat):Rat:=bJ n fun j=>C i j * p j
theorem O1 (z:Rat) (x:Nat→Rat) (i:Nat):(fst n m C B z).row (2 * n+1) x i=B i - jd n C (fun j=>x j - x (n+j)) i+x (2 * n+m):=by
 unfold row jd
 have e2:bJ (2 * n) (fun j=>(fst n m C B z).a i j * x ((fst n m C B z).fr j)) = - bJ n fun j=>C i j * (x j - x (n+j)):=by
  rw [show 2 * n=n+n by omega,nJ]
  have e3:bJ n (fun j=>(fst n m C B z).a i j * x ((fst n m C B z).fr j))=bJ n fun j=>(-1) * (C i j * x j):=aA fun j hj=>by
   simp only [fst];rw [if_pos hj,if_pos (by omega)];grind
  have e4:bJ n (fun j=>(fst n m C B z).a i (n+j) * x ((fst n m C B z).fr (n+j)))=bJ n fun j=>C i j * x (n+j):=aA fun j hj=>by
   simp only [fst];rw [if_neg (by omega),if_pos (by omega),if_pos (by omega),show n+j - n=j by omega]
  rw [e3,e4,ja,show (fun j=>C i j * (x j - x (n+j)))=fun j=>C i j * x j - C i j * x (n+j) by funext j;grind,zh]
  grind
 rw [bJ,e2]
 have e5:(fst n m C B z).a i (2 * n)=1:=by simp only [fst];rw [if_neg (by omega),if_neg (by omega)]
 have e6:(fst n m C B z).fr (2 * n)=2 * n+m:=by simp only [fst];rw [if_neg (by omega)]
 have e7:(fst n m C B z).b i=B i:=rfl
 rw [e5,e6,e7];grind
theorem ND (z:Rat) (x:Nat→Rat):(fst n m C B z).gv (2 * n+1) x=z * x (2 * n+m):=by
 unfold gv
 rw [jv (j:=2 * n) (by omega) _ fun j hj ec=>by simp only [fst];rw [if_pos (by omega)];grind]
 have e5:(fst n m C B z).g (2 * n)=z:=by simp only [fst];rw [if_neg (by omega)]
 have e6:(fst n m C B z).fr (2 * n)=2 * n+m:=by simp only [fst];rw [if_neg (by omega)]
 have e7:(fst n m C B z).v=0:=rfl
 rw [e5,e6,e7];grind
theorem Cs (z:Rat) (x:Nat→Rat):(fst n m C B z).Cm m (2 * n+1) x↔∀ i,i < m→x (2 * n+i)=B i - jd n C (fun j=>x j - x (n+j)) i+x (2 * n+m):=by
 unfold Cm
 constructor
 ·intro h i hi;rw [← O1 n m C B z];exact h i hi
 ·intro h i hi;rw [O1];exact h i hi
theorem Hc (z:Rat) (D:bp) (x:Nat→Rat) (h:Am m (2 * n+1) (fst n m C B z) D):D.Cm m (2 * n+1) x↔(fst n m C B 0).Cm m (2 * n+1) x:=by
 rw [← h.Kz,Cs,Cs]
def zk (y:Nat→Rat) (u:Nat):Rat:=if 2 * n≤u∧u < 2 * n+m then B (u - 2 * n) - jd n C (fun j=>y j - y (n+j)) (u - 2 * n)+y (2 * n+m) else y u
theorem Hd (z:Rat) (y:Nat→Rat):(fst n m C B z).Cm m (2 * n+1) (zk n m C B y):=(Cs n m C B z _).2 fun i hi=>by
 have e1:zk n m C B y (2 * n+i)=B i - jd n C (fun j=>y j - y (n+j)) i+y (2 * n+m):=by
  unfold zk;rw [if_pos ⟨by omega,by omega⟩,show 2 * n+i - 2 * n=i by omega]
 have e2:zk n m C B y (2 * n+m)=y (2 * n+m):=by unfold zk;rw [if_neg (by omega)]
 have e3:jd n C (fun j=>zk n m C B y j - zk n m C B y (n+j)) i=jd n C (fun j=>y j - y (n+j)) i:=by
  unfold jd
  refine aA fun j hj=>?_
  show C i j * (zk n m C B y j - zk n m C B y (n+j))=C i j * (y j - y (n+j))
  unfold zk;rw [if_neg (by omega),if_neg (by omega)]
 rw [e1,e2,e3]
theorem Qd {low:Nat} (hl:low < m) (rP:B low < 0) (uk:∀ r,r < m→B low≤B r):((fst n m C B (-1)).iu low (2 * n)).KA m:=fun r hr=>by
 have e5:∀ r,(fst n m C B (-1)).a r (2 * n)=1:=fun r=>by simp only [fst];rw [if_neg (by omega),if_neg (by omega)]
 have e7:∀ r,(fst n m C B (-1)).b r=B r:=fun _=>rfl
 simp only [bp.iu,pb,e5,e7]
 have:=uk r hr
 split<;>grind
variable {n m C B} {D:bp} (hw:D.WF m (2 * n+1)) (he:Am m (2 * n+1) (fst n m C B (-1)) D)
include hw he in
theorem NF {x:Nat→Rat} (hx:D.Cm m (2 * n+1) x):D.gv (2 * n+1) x = -(x (2 * n+m)):=by
 have:=hw
 rw [← he.gv x ((he.Kz x).2 hx),ND];grind
theorem He {m k:Nat} (hw:D.WF m k) {y:Nat→Rat} (hr:∀ i,i < m→0≤D.row k y i) (hy:∀ u,0≤y u) (u:Nat) (hu:u < m+k):0≤D.ext m k y u:=by
 rcases hw.al u hu with ⟨i,hi,e⟩ | ⟨j,hj,e⟩
 ·rw [← e,uS hw hi];exact hr i hi
 ·rw [← e,vw hw hj];exact hy _
theorem z7 {m k:Nat} (hw:D.WF m k) (hf:D.KA m) (u:Nat) (hu:u < m+k):0≤D.ext m k qX u :=
 He hw (y:=qX) (fun i hi=>by rw [s8];exact hf i hi) (fun _=>Rat.le_refl) u hu
include hw he in
theorem Hf:D.v = -(D.ext m (2 * n+1) qX (2 * n+m)):=by
 rw [← NF hw he (oW hw qX),zf hw,DN]
include hw he in
theorem VU (hf:D.KA m) (aaN:(∀ j,j < 2 * n+1→D.g j≤0)∨∃ j,D.Ff (2 * n+1) j∧∀ i,i < m→0≤D.a i j):∀ j,j < 2 * n+1→D.g j≤0:=by
 rcases aaN with h | ⟨j,hj,ha⟩
 ·exact h
 ·exfalso
  have hv:D.v≤0:=by rw [Hf hw he];have:=z7 hw hf (2 * n+m) (by omega);grind
  have hp:=hj.pos
  have ht:0≤(1 - D.v) / D.g j:=G7 hp (by grind)
  have hs:=oW hw (sc ((1 - D.v) / D.g j) (D.fr j))
  have h1:=NF hw he hs
  rw [zf hw,aaM hw hj.lt] at h1
  have h2:=He hw (y:=sc ((1 - D.v) / D.g j) (D.fr j)) (fun i hi=>by
   rw [Yp hw hj.lt]
   have:=Rat.mul_nonneg (ha i hi) ht
   have:=hf i hi
   grind) (fun u=>by unfold sc;split<;>grind) (2 * n+m) (by omega)
  have h3:D.g j * ((1 - D.v) / D.g j)=1 - D.v:=by grind
  rw [h3] at h1
  grind
include hw he in
theorem aaO (hg:∀ j,j < 2 * n+1→D.g j≤0):(∀ u,D.gc (2 * n+1) u≤0)∧(∀ j,j < n→bJ m (fun i=>-(D.gc (2 * n+1) (2 * n+i)) * C i j)=0)∧bJ m (fun i=>-(D.gc (2 * n+1) (2 * n+i)) * B i)=D.v:=by
 have T9:∀ u,D.gc (2 * n+1) u≤0:=fun u=>by
  by_cases h:∃ j,j < 2 * n+1∧D.fr j=u
  ·obtain ⟨j,hj,rfl⟩:=h
   rw [L4 hw hj];exact hg j hj
  ·rw [Cr fun j hj e=>h ⟨j,hj,e⟩];exact Rat.le_refl
 generalize hG:D.gc (2 * n+1)=G at T9 ⊢
 have key:∀ y:Nat→Rat,-(y (2 * n+m))=D.v+(bJ (2 * n) (fun u=>G u * y u)+bJ m (fun i=>G (2 * n+i) * (B i - jd n C (fun j=>y j - y (n+j)) i+y (2 * n+m)))+G (2 * n+m) * y (2 * n+m)):=fun y=>by
  have h1:=NF hw he ((he.Kz _).1 (Hd n m C B (-1) y))
  rw [SV hw,hG,show m+(2 * n+1)=(2 * n+m)+1 by omega,bJ,nJ] at h1
  have e1:∀ u,u < 2 * n→zk n m C B y u=y u:=fun u hu=>by unfold zk;rw [if_neg (by omega)]
  have e2:zk n m C B y (2 * n+m)=y (2 * n+m):=by unfold zk;rw [if_neg (by omega)]
  have e3:∀ i,i < m→zk n m C B y (2 * n+i)=B i - jd n C (fun j=>y j - y (n+j)) i+y (2 * n+m):=fun i hi=>by
   unfold zk;rw [if_pos ⟨by omega,by omega⟩,show 2 * n+i - 2 * n=i by omega]
  rw [aA (n:=2 * n) (g:=fun u=>G u * y u) fun u hu=>by rw [e1 u hu],aA (n:=m) (g:=fun i=>G (2 * n+i) * (B i - jd n C (fun j=>y j - y (n+j)) i+y (2 * n+m))) fun i hi=>by rw [e3 i hi],e2] at h1
  exact h1.symm
 have k0:=key qX
 have d0:∀ i,jd n C (fun j=>qX j - qX (n+j)) i=0:=fun i=>by
  unfold jd qX
  rw [aA (g:=fun _=>0) fun j _=>by grind,gQ]
 have z0:bJ m (fun i=>G (2 * n+i) * (B i - jd n C (fun j=>qX j - qX (n+j)) i+qX (2 * n+m)))=bJ m fun i=>G (2 * n+i) * B i:=aA fun i _=>by
  rw [d0];unfold qX;grind
 rw [z0,aA (n:=2 * n) (g:=fun _=>0) fun u _=>by unfold qX;grind,gQ] at k0
 have k0:bJ m (fun i=>G (2 * n+i) * B i) = -D.v:=by unfold qX at k0;grind
 have un:∀ (u:Nat) (s:Rat),u < 2 * n→(∀ i,i < m→jd n C (fun j=>one u j - one u (n+j)) i=s * C i (if u < n then u else u - n))→G u=s * bJ m fun i=>G (2 * n+i) * C i (if u < n then u else u - n):=fun u s hu hd=>by
  have k1:=key (one u)
  have z1:one u (2 * n+m)=0:=if_neg (by omega)
  rw [z1,jv hu (fun w=>G w * one u w) fun w _ ec=>by unfold one;rw [if_neg ec];grind] at k1
  rw [aA (n:=m) (g:=fun i=>G (2 * n+i) * B i+(-s) * (G (2 * n+i) * C i (if u < n then u else u - n))) fun i hi=>by rw [hd i hi];grind,rR,ja,k0] at k1
  have:one u u=1:=if_pos rfl
  rw [this] at k1
  grind
 have rP:∀ f:Nat→Rat,bJ m (fun i=>-(G (2 * n+i)) * f i) = -(bJ m fun i=>G (2 * n+i) * f i):=fun f=>by
  rw [show (fun i=>-(G (2 * n+i)) * f i)=fun i=>(-1) * (G (2 * n+i) * f i) by funext i;grind,ja];grind
 refine ⟨T9,fun j hj=>?_,by rw [rP,k0];grind⟩
 have a1:=un j 1 (by omega) fun i hi=>by
  unfold jd
  rw [jv hj _ fun c hc ec=>by show C i c * (one j c - one j (n+c))=0;unfold one;rw [if_neg ec,if_neg (by omega)];grind]
  show C i j * (one j j - one j (n+j))=_
  unfold one;rw [if_pos rfl,if_neg (by omega),if_pos hj];grind
 have a2:=un (n+j) (-1) (by omega) fun i hi=>by
  unfold jd
  rw [jv hj _ fun c hc ec=>by show C i c * (one (n+j) c - one (n+j) (n+c))=0;unfold one;rw [if_neg (by omega),if_neg (by omega)];grind]
  show C i j * (one (n+j) j - one (n+j) (n+j))=_
  unfold one;rw [if_pos rfl,if_neg (by omega),if_neg (by omega),show n+j - n=j by omega];grind
 rw [if_pos hj] at a1
 rw [if_neg (by omega),show n+j - n=j by omega] at a2
 have b1:=T9 j
 have b2:=T9 (n+j)
 rw [rP]
 grind
include hw he in
include hw he in
theorem NG {i:Nat} (hi:i < m) (hb:D.eV i=2 * n+m):∃ j,j < 2 * n+1∧D.a i j≠0:=mM fun hn=>by
 have hz:∀ j,j < 2 * n+1→D.a i j=0:=fun j hj=>mM fun q=>hn ⟨j,hj,q⟩
 have hc:∀ x,D.Cm m (2 * n+1) x→x (2 * n+m)=D.b i:=fun x hx=>by
  rw [← hb,hx i hi];unfold row
  rw [aA (g:=fun _=>0) fun j hj=>by rw [hz j hj];grind,gQ];grind
 have c0:=hc _ ((he.Kz _).1 (Hd n m C B (-1) qX))
 have c1:=hc _ ((he.Kz _).1 (Hd n m C B (-1) (one (2 * n+m))))
 have:=hw
 unfold zk at c0 c1
 rw [if_neg (by omega)] at c0 c1
 unfold qX at c0
 unfold one at c1
 rw [if_pos rfl] at c1
 rw [← c0] at c1
 exact absurd c1 (by decide)
theorem SW {m i j:Nat} (hf:D.KA m) (h0:D.b i=0):(D.iu i j).KA m:=fun r hr=>by
 have hp:D.pb i j=0:=by unfold pb;rw [h0,Rat.div_def,Rat.zero_mul];rfl
 simp only [bp.iu,hp]
 have:=hf r hr
 split
 ·exact Rat.le_refl
 ·grind
end
end bp
end Go.Den
namespace Go.Den
open Go.Ab
section
variable {α:Type}
def Bq (f:Nat→α) (n:Nat):List α:=(List.range n).map f
theorem qn (f:Nat→α) (n:Nat):(Bq f n).length=n:=by simp [Bq]
theorem Fg (f:Nat→α) {n i:Nat} (d:α) (h:i < n):(Bq f n).getD i d=f i:=by simp [Bq,h]
theorem qL {f g:Nat→α} {n:Nat} (h:∀ i,i < n→f i=g i):Bq f n=Bq g n:=by
 unfold Bq;exact List.map_congr_left fun i hi=>h i (mO.1 hi)
theorem DQ {l:List α} {f:Nat→α} {n:Nat} (d:α) (hl:l.length=n) (h:∀ i,i < n→l.getD i d=f i):l=Bq f n:=by
 refine List.ext_getElem (by rw [hl,qn]) fun i h1 h2=>?_
 have:=h i (by omega)
 rw [ee,ke h1,Option.getD_some] at this
 rw [this];simp [Bq]
theorem Fh (f:Nat→α) (n i:Nat) (v:α):(Bq f n).set i v=Bq (fun a=>if a=i then v else f a) n:=by
 refine List.ext_getElem (by simp [Bq]) fun a h1 h2=>?_
 rw [List.getElem_set]
 by_cases e:i=a
 ·subst e;simp [Bq]
 ·rw [if_neg e];simp [Bq];intro q;exact absurd q.symm e
end
def LQ (f:Nat→Rat) (n:Nat):List aa:=Bq (fun i=>aX (f i)) n
def LN (f:Nat→Nat) (n:Nat):List Int:=Bq (fun i=>(f i:Int)) n
def LA (a:Nat→Nat→Rat) (m k:Nat):List (List aa):=Bq (fun i=>LQ (a i) k) m
theorem bP (f:Nat→Rat) (n:Nat):(LQ f n).length=n:=qn _ _
theorem eO (f:Nat→Nat) (n:Nat):(LN f n).length=n:=qn _ _
theorem jb (a:Nat→Nat→Rat) (m k:Nat):(LA a m k).length=m:=qn _ _
theorem gZ (f:Nat→Rat) {n i:Nat} (d:aa) (h:i < n):(LQ f n).getD i d=aX (f i):=Fg _ _ h
theorem qM (f:Nat→Nat) {n i:Nat} (d:Int) (h:i < n):(LN f n).getD i d=(f i:Int):=Fg _ _ h
theorem uf (a:Nat→Nat→Rat) {m k i:Nat} (d:List aa) (h:i < m):(LA a m k).getD i d=LQ (a i) k:=Fg _ _ h
theorem ml {f g:Nat→Rat} {n:Nat} (h:∀ i,i < n→f i=g i):LQ f n=LQ g n:=qL fun i hi=>by rw [h i hi]
theorem SX {a b:Nat→Nat→Rat} {m k:Nat} (h:∀ i j,i < m→j < k→a i j=b i j):LA a m k=LA b m k:=qL fun i hi=>ml fun j hj=>h i j hi hj
theorem xB (f:Nat→Rat) (n i:Nat) (q:Rat):(LQ f n).set i (aX q)=LQ (fun a=>if a=i then q else f a) n:=by
 unfold LQ;rw [Fh];exact qL fun a _=>by by_cases e:a=i<;>simp [e]
theorem Yq (f:Nat→Nat) (n i q:Nat):(LN f n).set i (q:Int)=LN (fun a=>if a=i then q else f a) n:=by
 unfold LN;rw [Fh];exact qL fun a _=>by by_cases e:a=i<;>simp [e]
theorem SY (a:Nat→Nat→Rat) (m k i:Nat) (r:Nat→Rat):(LA a m k).set i (LQ r k)=LA (fun x=>if x=i then r else a x) m k:=by
 unfold LA;rw [Fh];exact qL fun a _=>by by_cases e:a=i<;>simp [e]
theorem RB.q {p:Rat} {s:Nat} (h:RB p s) (hs:s≤MS):RQ (aX p) p MS:=(h.le hs).rq (by decide)
section
variable {k j s:Nat} {f:Rat} {F R:Nat→Rat}
theorem Kb (hk:k≤1000) (hs:5 * s≤MS) (h1:1≤s) (hf:RB f s) (hF:∀ c,c < k→RB (F c) s) (hR:∀ c,c < k→RB (R c) (2 * s)) {c0:List aa} (h0:c0.length=k):∀ (d x:Nat) (G:Nat→Rat),x+d=k →
  (∀ c,c < k→G c=if c < x then if c=j then f * R j else F c+f * R c else F c) →
  aH (fun N g=>cW N (j:Int) (aX f) c0 (LQ R k) g (LQ G k) (x:Int)) (LQ (fun c=>if c=j then f * R j else F c+f * R c) k)
 | 0,x,G,hx,hG=>aH.succ (fun N g=>cW.eq_2 ..) (aH.aL (LY (m:=x) (n:=k) (by omega) h0) ((aH.one (Gv.pure _)).eq (ml fun c hc=>by rw [hG c hc,if_pos (by omega)])))
 | d+1,x,G,hx,hG=>by
  have qo:x < k:=by omega
  have hm:RB (f * R x) (3 * s):=(hf.mul (hR x qo)).le (by omega)
  have hfm:=(hf.q (by omega)).mul ((hR x qo).q (by omega)) (E2 (by decide))
  have eG:G x=F x:=by rw [hG x qo,if_neg (sN x)]
  refine aH.succ (fun N g=>cW.eq_2 ..) (aH.ax (Ky (n:=k) qo h0) ?_)
  simp only [aj,gZ _ _ qo,eG,bh (show x < 9223372036854775807 by omega),fF,xB]
  by_cases e:x=j
  ·refine aH.ax (by simp [e]) (aH.if (inl qo (bP _ _)) (aH.bind hfm (aH.if (inl qo (bP _ _)) ?_)))
   simp only [xB]
   refine Kb hk hs h1 hf hF hR h0 d (x+1) _ (by omega) fun c hc=>?_
   by_cases q:c=x
   ·rw [if_pos q,if_pos (by omega),if_pos (q.trans e),e]
   ·rw [if_neg q,hG c hc]
    by_cases q2:c < x
    ·simp only [q2,show c < x+1 by omega,if_true]
    ·rw [if_neg q2,if_neg (by omega)]
  ·refine aH.aL (by simp;omega) (aH.if (inl qo (bP _ _)) (aH.bind (((hR x qo).q (by omega)).zero (by decide)) ?_))
   by_cases z:R x=0
   ·refine aH.aL (by simp [z]) (Kb hk hs h1 hf hF hR h0 d (x+1) _ (by omega) fun c hc=>?_)
    rw [hG c hc]
    by_cases q2:c < x
    ·simp only [q2,show c < x+1 by omega,if_true]
    ·rw [if_neg q2]
     by_cases q:c=x
     ·rw [if_pos (by omega),if_neg (by omega),q,z];grind
     ·rw [if_neg (by omega)]
   ·refine aH.ax (by simp [z]) (aH.if (inl qo (bP _ _)) (aH.bind hfm (aH.bind (((hF x qo).q (by omega)).add (hm.q (by omega)) (E2 (by decide))) ?_)))
    simp only [xB]
    refine Kb hk hs h1 hf hF hR h0 d (x+1) _ (by omega) fun c hc=>?_
    by_cases q:c=x
    ·rw [if_pos q,if_pos (by omega),if_neg (by omega),q]
    ·rw [if_neg q,hG c hc]
     by_cases q2:c < x
     ·simp only [q2,show c < x+1 by omega,if_true]
     ·rw [if_neg q2,if_neg (by omega)]
theorem SZ (hk:k≤1000) (hs:5 * s≤MS) (h1:1≤s) (hf:RB f s) (hF:∀ c,c < k→RB (F c) s) (hR:∀ c,c < k→RB (R c) (2 * s)) :
  Gv (fun N=>ik N (j:Int) (aX f) (LQ F k) (LQ R k)) (LQ (fun c=>if c=j then f * R j else F c+f * R c) k) :=
 (Kb hk hs h1 hf hF hR (bP F k) k 0 F (by omega) fun c _=>(if_neg (dP c)).symm).diag
end
def RT (n m k h:Nat) (D:bp):jq×List Int×List Int×List (List aa)×List aa×List aa :=
 (⟨n,m,LN D.eV m,LN D.fr k,LA D.a m k,LQ D.b m,LQ D.g k,aX D.v,h⟩,LN D.eV m,LN D.fr k,LA D.a m k,LQ D.b m,LQ D.g k)
section
variable {n m k h i j s:Nat} {D:bp}
theorem L5 (hi:i < m) (hj:j < k) {A:Nat→Nat→Rat} {b:Nat→Rat} (hA:∀ r c,r < m→c < k→r≠i→A r c=(D.iu i j).a r c) (hb:∀ r,r < m→b r=(D.iu i j).b r) {G:Nat→Rat} (hG:∀ c,c < k→G c=(D.iu i j).g c) {v:Rat} (hv:v=(D.iu i j).v) (N:Nat) :
  gi N (i:Int) (j:Int) (n:Int) (m:Int) (h:Int) (LN D.eV m) (LN D.fr k) (LA A m k) (LQ (D.nI i j) k) (LQ b m) (LQ G k) (aX v).fN.fG (aX v).fN.fL (aX v).fD.fG (aX v).fD.fL=some (RT n m k h (D.iu i j)):=by
 unfold gi
 rw [if_pos (inl hj (eO _ _)),if_pos (inl hi (eO _ _))]
 simp only [aj,qM _ _ hi,qM _ _ hj,Yq,SY]
 have e1:=SX (a:=fun x=>if x=i then D.nI i j else A x) (b:=(D.iu i j).a) (m:=m) (k:=k) fun r c Av hc=>by
  by_cases q:r=i
  ·simp only [q,if_true,bp.iu]
  ·simp only [q,if_false];exact hA r c Av hc q
 rw [e1,ml hb,ml hG,hv]
 rfl
theorem Ct (hm:m≤1000) (hk:k≤1000) (hi:i < m) (hj:j < k) (hs:5 * s≤MS) (h1:1≤s) (hr:D.G9 m k s) (h0:D.a i j≠0):∀ (d x:Nat) (A:Nat→Nat→Rat) (b:Nat→Rat),x+d=m →
  (∀ r c,r < m→c < k→A r c=if r < x∧r≠i then (D.iu i j).a r c else D.a r c)→(∀ r,r < m→b r=if r=i∨r < x then (D.iu i j).b r else D.b r) →
  aH (fun N g=>cw N (i:Int) (j:Int) (n:Int) (m:Int) (aX D.v).fN.fG (aX D.v).fN.fL (aX D.v).fD.fG (aX D.v).fD.fL (h:Int) (LN D.eV m) (LN D.fr k) (LA D.a m k) (LQ D.g k)
   g (LA A m k) (LQ (D.nI i j) k) (LQ b m) (x:Int)) (RT n m k h (D.iu i j))
 | 0,x,A,b,hx,hA,hb=>by
  have hp:RB (D.pb i j) (2 * s):=((hr.b i hi).div (hr.a i j hi hj) h0).neg.le (by omega)
  have ebi:b i=D.pb i j:=by rw [hb i hi,if_pos (.inl rfl)];simp [bp.iu]
  have X0:∀ r c,r < m→c < k→r≠i→A r c=(D.iu i j).a r c:=fun r c Av hc q=>by rw [hA r c Av hc,if_pos ⟨by omega,q⟩]
  have lP:∀ r,r < m→b r=(D.iu i j).b r:=fun r Av=>by rw [hb r Av,if_pos (.inr (by omega))]
  refine aH.succ (fun N g=>cw.eq_2 ..) (aH.aL (LY (m:=x) (n:=m) (by omega) (jb _ _ _)) ?_)
  simp only [aj,gZ _ _ hj,gZ _ _ hi,ebi]
  refine aH.if (inl hj (bP _ _)) (aH.bind (((hr.g j hj).q (by omega)).zero (by decide)) ?_)
  by_cases z:D.g j=0
  ·refine aH.aL (by simp [z]) (aH.if (by rw [jb];exact hi) (aH.one ⟨0,fun N _=>L5 hi hj X0 lP (fun c _=>?_) ?_ N⟩))
   ·simp only [bp.iu,z]
    by_cases q:c=j
    ·rw [if_pos q,q,z];grind
    ·rw [if_neg q];grind
   ·simp only [bp.iu,z];grind
  ·refine aH.ax (by simp [z]) (aH.if (inl hi (bP _ _)) (aH.bind (((hr.g j hj).q (by omega)).mul (hp.q (by omega)) (E2 (by decide))) (aH.bind ((hr.v.q (by omega)).add ((((hr.g j hj).mul hp).le (aP _)).q (by omega)) (E2 (by decide)))
    (aH.bind (SZ hk hs h1 (hr.g j hj) (fun c hc=>hr.g c hc) (fun c hc=>hr.nI h1 hi hj h0 hc)) (aH.if (by rw [bP,bP]) (aH.if (by rw [jb];exact hi) (aH.one ⟨0,fun N _=>L5 hi hj X0 lP (fun c _=>?_) rfl N⟩)))))))
   simp only [bp.iu]
   by_cases q:c=j
   ·rw [if_pos q,if_pos q,q]
   ·rw [if_neg q,if_neg q]
 | d+1,x,A,b,hx,hA,hb=>by
  have rX:x < m:=by omega
  have hp:RB (D.pb i j) (2 * s):=((hr.b i hi).div (hr.a i j hi hj) h0).neg.le (by omega)
  have ebi:b i=D.pb i j:=by rw [hb i hi,if_pos (.inl rfl)];simp [bp.iu]
  refine aH.succ (fun N g=>cw.eq_2 ..) (aH.ax (Ky (n:=m) rX (jb _ _ _)) ?_)
  by_cases e:x=i
  ·simp only [aj,bh (show x < 9223372036854775807 by omega),dD]
   refine aH.ax (by simp [e]) (aH.if (inl rX (jb _ _ _)) (aH.if (inl hj (bP _ _)) (aH.bind (Gv.aL (by simp [e]) (Gv.pure false)) (aH.aL (by simp [e]) (Ct hm hk hi hj hs h1 hr h0 d (x+1) A b (by omega) (fun r c Av hc=>?_) fun r Av=>?_)))))
   ·rw [hA r c Av hc]
    by_cases q:r < x∧r≠i
    ·rw [if_pos q,if_pos ⟨by omega,q.2⟩]
    ·rw [if_neg q,if_neg (by omega)]
   ·rw [hb r Av]
    by_cases q:r=i∨r < x
    ·rw [if_pos q,if_pos (by omega)]
    ·rw [if_neg q,if_neg (by omega)]
  ·have aem:LQ (A x) k=LQ (D.a x) k:=ml fun c hc=>by rw [hA x c rX hc,if_neg (by omega)]
   have ebx:b x=D.b x:=by rw [hb x rX,if_neg (by omega)]
   simp only [aj,bh (show x < 9223372036854775807 by omega),dD,uf _ _ rX,aem,gZ _ _ rX,gZ _ _ hi,ebi,ebx,gZ _ _ hj]
   have ec:((x:Int) != (i:Int))=true:=by simp;omega
   refine aH.aL (by simp;omega) (aH.if (by rw [jb];exact rX) (aH.if (inl rX (jb _ _ _)) (aH.if (inl hj (bP _ _)) (aH.bind (Gv.ax ec (((hr.a x j rX hj).q (by omega)).zero (by decide))) ?_))))
   by_cases z:D.a x j=0
   ·refine aH.aL (by simp [z]) (Ct hm hk hi hj hs h1 hr h0 d (x+1) A b (by omega) (fun r c Av hc=>?_) fun r Av=>?_)
    ·rw [hA r c Av hc]
     by_cases q:r < x∧r≠i
     ·rw [if_pos q,if_pos ⟨by omega,q.2⟩]
     ·rw [if_neg q]
      by_cases q2:r=x
      ·rw [if_pos ⟨by omega,by omega⟩,q2]
       simp only [bp.iu,if_neg e,z]
       split
       ·rename_i q3;rw [q3,z];grind
       ·grind
      ·rw [if_neg (by omega)]
    ·rw [hb r Av]
     by_cases q:r=i∨r < x
     ·rw [if_pos q,if_pos (by omega)]
     ·rw [if_neg q]
      by_cases q2:r=x
      ·rw [if_pos (by omega),q2]
       simp only [bp.iu,if_neg e,z];grind
      ·rw [if_neg (by omega)]
   ·refine aH.ax (by rw [ec];simp [z]) (aH.if (inl rX (bP _ _)) (aH.if (inl hi (bP _ _)) (aH.bind (((hr.a x j rX hj).q (by omega)).mul (hp.q (by omega)) (E2 (by decide)))
     (aH.bind (((hr.b x rX).q (by omega)).add ((((hr.a x j rX hj).mul hp).le (aP _)).q (by omega)) (E2 (by decide)))
     (aH.bind (SZ hk hs h1 (hr.a x j rX hj) (fun c hc=>hr.a x c rX hc) (fun c hc=>hr.nI h1 hi hj h0 hc)) (aH.if (by rw [bP,bP]) ?_))))))
    simp only [SY,xB]
    refine Ct hm hk hi hj hs h1 hr h0 d (x+1) _ _ (by omega) (fun r c Av hc=>?_) fun r Av=>?_
    ·by_cases q2:r=x
     ·have q4:x < x+1∧x≠i:=⟨by omega,e⟩
      simp only [q2,q4,if_true,if_false,bp.iu,and_self,ne_eq,not_false_eq_true]
      by_cases q3:c=j
      ·simp only [q3,if_true]
      ·simp only [q3,if_false]
     ·simp only [q2,if_false]
      rw [hA r c Av hc]
      by_cases q:r < x∧r≠i
      ·rw [if_pos q,if_pos ⟨by omega,q.2⟩]
      ·rw [if_neg q,if_neg (by omega)]
    ·by_cases q2:r=x
     ·rw [if_pos q2,if_pos (by omega),q2]
      simp only [bp.iu,if_neg e]
     ·rw [if_neg q2,hb r Av]
      by_cases q:r=i∨r < x
      ·rw [if_pos q,if_pos (by omega)]
      ·rw [if_neg q,if_neg (by omega)]
theorem Hg (hm:m≤1000) (hk:k≤1000) (hi:i < m) (hj:j < k) (hs:5 * s≤MS) (h1:1≤s) (hr:D.G9 m k s) (h0:D.a i j≠0):∀ (d x:Nat) (R:Nat→Rat),x+d=k→(∀ c,c < k→R c=if c < x∧c≠j then D.nI i j c else D.a i c) →
  aH (fun N g=>dE N (i:Int) (j:Int) (n:Int) (m:Int) (aX D.v).fN.fG (aX D.v).fN.fL (aX D.v).fD.fG (aX D.v).fD.fL (h:Int) (LN D.eV m) (LN D.fr k) (LA D.a m k) (LQ D.b m) (LQ D.g k)
   g (LQ R k) (x:Int)) (RT n m k h (D.iu i j))
 | 0,x,R,hx,hR=>by
  have hp:RB (D.b i / D.a i j) (2 * s):=((hr.b i hi).div (hr.a i j hi hj) h0).le (by omega)
  have hc:=(hr.a i j hi hj).q (show s≤MS by omega)
  refine aH.succ (fun N g=>dE.eq_2 ..) (aH.aL (LY (m:=x) (n:=k) (by omega) (by simp only [aj,uf _ _ hi,bP])) ?_)
  simp only [aj,uf _ _ hi,gZ _ _ hi,gZ _ _ hj]
  refine aH.bind (lM (z:=1) (by decide) (by decide)) (aH.bind ((bp.Yo.q (by decide)).JJ hc h0 (E2 (by decide))) (aH.if (inl hj (bP _ _)) (aH.if (inl hi (bP _ _))
   (aH.bind (((hr.b i hi).q (by omega)).JJ hc h0 (E2 (by decide))) (aH.bind (by have:=nH (hp.q (show 2 * s≤MS by omega)).ir (by decide) (E2 (by decide));rwa [jo] at this) ?_)))))
  simp only [xB]
  have e1:=ml (f:=fun a=>if a=j then (1:Rat) / D.a i j else R a) (g:=D.nI i j) (n:=k) fun c hc=>by
   by_cases q:c=j
   ·rw [if_pos q];unfold bp.nI;rw [if_pos q]
   ·rw [if_neg q,hR c hc,if_pos ⟨by omega,q⟩]
  have:=(Ct hm hk hi hj hs h1 hr h0 m 0 D.a (fun a=>if a=i then -(D.b i / D.a i j) else D.b a) (by omega) (fun r c _ _=>by rw [if_neg (by omega)]) (fun r Av=>by
   by_cases q:r=i
   ·rw [if_pos q,if_pos (.inl q)];simp only [bp.iu,if_pos q];rfl
   ·rw [if_neg q,if_neg (by omega)]) (n:=n) (h:=h)).diag
  rw [← e1] at this
  exact aH.one this
 | d+1,x,R,hx,hR=>by
  have qo:x < k:=by omega
  have hc:=(hr.a i j hi hj).q (show s≤MS by omega)
  have hd:RB (D.a i x / D.a i j) (2 * s):=((hr.a i x hi qo).div (hr.a i j hi hj) h0).le (by omega)
  have ex:R x=D.a i x:=by rw [hR x qo,if_neg (by omega)]
  refine aH.succ (fun N g=>dE.eq_2 ..) (aH.ax (Ky (n:=k) qo (by simp only [aj,uf _ _ hi,bP])) ?_)
  simp only [aj,uf _ _ hi,gZ _ _ qo,ex,gZ _ _ hj,bh (show x < 9223372036854775807 by omega),iQ]
  by_cases e:x=j
  ·refine aH.aL (by simp;omega) (Hg hm hk hi hj hs h1 hr h0 d (x+1) R (by omega) fun c hc=>?_)
   rw [hR c hc]
   by_cases q:c < x∧c≠j
   ·rw [if_pos q,if_pos ⟨by omega,q.2⟩]
   ·rw [if_neg q,if_neg (by omega)]
  ·refine aH.ax (by simp;omega) (aH.if (inl qo (bP _ _)) (aH.bind (((hr.a i x hi qo).q (by omega)).JJ hc h0 (E2 (by decide))) (aH.bind (by have:=nH (hd.q (show 2 * s≤MS by omega)).ir (by decide) (E2 (by decide));rwa [jo] at this) ?_)))
   simp only [xB]
   refine Hg hm hk hi hj hs h1 hr h0 d (x+1) _ (by omega) fun c hc=>?_
   by_cases q2:c=x
   ·rw [if_pos q2,if_pos ⟨by omega,by omega⟩,q2];unfold bp.nI;rw [if_neg e]
   ·rw [if_neg q2,hR c hc]
    by_cases q:c < x∧c≠j
    ·rw [if_pos q,if_pos ⟨by omega,q.2⟩]
    ·rw [if_neg q,if_neg (by omega)]
theorem Hh (hm:m≤1000) (hk:k≤1000) (hi:i < m) (hj:j < k) (hs:5 * s≤MS) (h1:1≤s) (hr:D.G9 m k s) (h0:D.a i j≠0) :
  Gv (fun N=>jg N (i:Int) (j:Int) (n:Int) (m:Int) (aX D.v).fN.fG (aX D.v).fN.fL (aX D.v).fD.fG (aX D.v).fD.fL (h:Int) (LN D.eV m) (LN D.fr k) (LA D.a m k) (LQ D.b m) (LQ D.g k)) (RT n m k h (D.iu i j)):=by
 have:=(Hg hm hk hi hj hs h1 hr h0 k 0 (D.a i) (by omega) (fun c _=>by rw [if_neg (by omega)]) (n:=n) (h:=h)).diag
 refine Gv.if (by rw [jb];exact hi) (Gv.if (inl hi (jb _ _ _)) (Gv.if (inl hj (by simp only [aj,uf _ _ hi,bP])) ?_))
 simp only [aj,uf _ _ hi]
 exact this
end
end Go.Den
namespace Go.Den
open Go.Ab
section
variable {n m k h j s:Nat} {D:bp}
def Qe (D:bp) (x:Nat) (dJ:Int):Prop:=(dJ = -1∧∀ j,j < x→D.g j≤0)∨∃ b:Nat,dJ=b∧b < x∧0 < D.g b∧∀ j',j' < x→0 < D.g j'→D.fr b≤D.fr j'
theorem S3 (hk:k≤1000) (hs:s≤MS) (hr:D.G9 m k s):∀ (d x:Nat) (dJ:Int),x+d=k→Qe D x dJ →
  ∃ r,aH (fun N g=>bM N (n:Int) (m:Int) (aX D.v).fN.fG (aX D.v).fN.fL (aX D.v).fD.fG (aX D.v).fD.fL (h:Int) (LN D.eV m) (LN D.fr k) (LA D.a m k) (LQ D.b m) (LQ D.g k) g dJ (x:Int)) r∧Qe D k r
 | 0,x,dJ,hx,hI=>⟨dJ,aH.succ (fun N g=>bM.eq_2 ..) (aH.aL (LY (m:=x) (n:=k) (by omega) (eO _ _)) (aH.one (Gv.pure _))),by rw [show k=x by omega];exact hI⟩
 | d+1,x,dJ,hx,hI=>by
  have qo:x < k:=by omega
  have Y9:=((hr.g x qo).q hs).pR (by decide)
  have nx:∀ rS:Int,Qe D (x+1) rS→(cond (cond (decide (pR (D.g x) > 0)) (cond (decide (dJ < 0)) true (decide ((LN D.fr k).getD x 0 < (LN D.fr k).getD dJ.toNat 0))) false) (x:Int) dJ)=rS →
    ∃ r,aH (fun N g=>bM N (n:Int) (m:Int) (aX D.v).fN.fG (aX D.v).fN.fL (aX D.v).fD.fG (aX D.v).fD.fL (h:Int) (LN D.eV m) (LN D.fr k) (LA D.a m k) (LQ D.b m) (LQ D.g k) (g+1) dJ (x:Int)) r∧Qe D k r:=fun rS h1 h2=>by
   obtain ⟨r,h3,h4⟩:=S3 hk hs hr d (x+1) rS (by omega) h1
   refine ⟨r,?_,h4⟩
   have hb:0≤dJ→dJ < ((k:Nat):Int):=fun h0=>by
    rcases hI with ⟨e,_⟩ | ⟨b,e,hb,_⟩<;>omega
   have:aH (fun N g=>bM N (n:Int) (m:Int) (aX D.v).fN.fG (aX D.v).fN.fL (aX D.v).fD.fG (aX D.v).fD.fL (h:Int) (LN D.eV m) (LN D.fr k) (LA D.a m k) (LQ D.b m) (LQ D.g k) (g+1) dJ (x:Int)) r:=by
    simp only [bM]
    refine aH.ax (Ky (n:=k) qo (eO _ _)) (aH.if (inl qo (bP _ _)) ?_)
    simp only [aj,gZ _ _ qo,gj,bh (show x < 9223372036854775807 by omega)]
    refine aH.bind Y9 (aH.if (fun _=>inl qo (eO _ _)) (aH.if (fun q=>?_) ?_))
    ·simp at q
     rw [eO];exact ⟨by omega,hb (by omega)⟩
    ·revert h2
     cases (cond (decide (pR (D.g x) > 0)) (cond (decide (dJ < 0)) true (decide ((LN D.fr k).getD x 0 < (LN D.fr k).getD dJ.toNat 0))) false) with
     | true=>intro h2;refine aH.ax rfl ?_;simp only [cond_true] at h2;rw [h2];exact h3
     | false=>intro h2;refine aH.aL rfl ?_;simp only [cond_false] at h2;rw [h2];exact h3
   exact this
  have fin:∀ {rS:Int},Qe D (x+1) rS→(cond (cond (decide (pR (D.g x) > 0)) (cond (decide (dJ < 0)) true (decide ((LN D.fr k).getD x 0 < (LN D.fr k).getD dJ.toNat 0))) false) (x:Int) dJ)=rS →
    ∃ r,aH (fun N g=>bM N (n:Int) (m:Int) (aX D.v).fN.fG (aX D.v).fN.fL (aX D.v).fD.fG (aX D.v).fD.fL (h:Int) (LN D.eV m) (LN D.fr k) (LA D.a m k) (LQ D.b m) (LQ D.g k) g dJ (x:Int)) r∧Qe D k r:=fun h1 h2=>by
   obtain ⟨r,h3,h4⟩:=nx _ h1 h2
   exact ⟨r,aH.succ (fun _ _=>rfl) h3,h4⟩
  by_cases hp:0 < D.g x
  ·have e1:decide (pR (D.g x) > 0)=true:=decide_eq_true (Fe.2 hp)
   rcases hI with ⟨rfl,hb⟩ | ⟨b,rfl,hb,hg,uk⟩
   ·refine fin (rS:=x) (.inr ⟨x,rfl,by omega,hp,fun j' h1 h2=>?_⟩) (by rw [e1];rfl)
    by_cases e:j'=x
    ·rw [e];exact aP _
    ·exact absurd h2 (Rat.not_lt.2 (hb j' (by omega)))
   ·have e2:decide (((b:Nat):Int) < 0)=false:=by simp
    by_cases ft:D.fr x < D.fr b
    ·refine fin (rS:=x) (.inr ⟨x,rfl,by omega,hp,fun j' h1 h2=>?_⟩) (by
      rw [e1,e2,qM _ _ qo,aj,qM _ _ (show b < k by omega),decide_eq_true (show ((D.fr x:Nat):Int) < ((D.fr b:Nat):Int) by omega)];rfl)
     by_cases e:j'=x
     ·rw [e];exact aP _
     ·have:=uk j' (by omega) h2;omega
    ·refine fin (rS:=b) (.inr ⟨b,rfl,by omega,hg,fun j' h1 h2=>?_⟩) (by
      rw [e1,e2,qM _ _ qo,aj,qM _ _ (show b < k by omega),decide_eq_false (show ¬ ((D.fr x:Nat):Int) < ((D.fr b:Nat):Int) by omega)];rfl)
     by_cases e:j'=x
     ·rw [e];omega
     ·exact uk j' (by omega) h2
  ·have e1:decide (pR (D.g x) > 0)=false:=decide_eq_false fun q=>hp (Fe.1 q)
   refine fin (rS:=dJ) ?_ (by rw [e1];rfl)
   rcases hI with ⟨e,hb⟩ | ⟨b,e,hb,hg,uk⟩
   ·refine .inl ⟨e,fun j' h1=>?_⟩
    by_cases e2:j'=x
    ·rw [e2];exact Rat.not_lt.1 hp
    ·exact hb j' (by omega)
   ·refine .inr ⟨b,e,by omega,hg,fun j' h1 h2=>?_⟩
    by_cases e2:j'=x
    ·rw [e2] at h2;exact absurd h2 hp
    ·exact uk j' (by omega) h2
theorem Yr (hk:k≤1000) (hs:s≤MS) (hr:D.G9 m k s):∃ r,Gv (fun N=>k5 N (n:Int) (m:Int) (aX D.v).fN.fG (aX D.v).fN.fL (aX D.v).fD.fG (aX D.v).fD.fL (h:Int) (LN D.eV m) (LN D.fr k) (LA D.a m k) (LQ D.b m) (LQ D.g k)) r ∧
  ((r = -1∧∀ j,j < k→D.g j≤0)∨∃ j:Nat,r=j∧D.Ff k j):=by
 obtain ⟨r,h1,h2⟩:=S3 hk hs hr k 0 (-1) (by omega) (.inl ⟨rfl,fun j hj=>absurd hj (dP _)⟩) (n:=n) (h:=h)
 refine ⟨r,h1.diag,?_⟩
 rcases h2 with h | ⟨b,e,q1,q2,q3⟩
 ·exact .inl h
 ·exact .inr ⟨b,e,q1,q2,q3⟩
def VV (D:bp) (j x:Nat) (dJ:Int) (least:aa):Prop:=(dJ = -1∧∀ i,i < x→0≤D.a i j)∨∃ b:Nat,dJ=b∧b < x∧D.a b j < 0∧least=aX (D.ratio j b) ∧
 ∀ i',i' < x→D.a i' j < 0→D.ratio j b < D.ratio j i'∨D.ratio j b=D.ratio j i'∧D.eV b≤D.eV i'
theorem S4 (hm:m≤1000) (hj:j < k) (hs:2 * s≤MS) (hr:D.G9 m k s):∀ (d x:Nat) (dJ:Int) (least:aa),x+d=m→VV D j x dJ least →
  ∃ r l,aH (fun N g=>bU N (j:Int) (n:Int) (m:Int) (aX D.v).fN.fG (aX D.v).fN.fL (aX D.v).fD.fG (aX D.v).fD.fL (h:Int) (LN D.eV m) (LN D.fr k) (LA D.a m k) (LQ D.b m) (LQ D.g k) g dJ least (x:Int)) r∧VV D j m r l
 | 0,x,dJ,least,hx,hI=>⟨dJ,least,aH.succ (fun N g=>bU.eq_2 ..) (aH.aL (LY (m:=x) (n:=m) (by omega) (eO _ _)) (aH.one (Gv.pure _))),by rw [show m=x by omega];exact hI⟩
 | d+1,x,dJ,least,hx,hI=>by
  have rX:x < m:=by omega
  have ha:=(hr.a x j rX hj).q (show s≤MS by omega)
  have Y9:=ha.pR (by decide)
  have ng:Gv (fun N=>ej N (aX (D.a x j))) (aX (-(D.a x j))):=by have:=nH ha.ir (by decide) (E2 (by decide));rwa [jo] at this
  have nx:∀ (rS:Int) (Hi:aa),VV D j (x+1) rS Hi→(0≤D.a x j→rS=dJ∧Hi=least) →
    (D.a x j < 0→∀ c7:Int,(dJ < 0∧c7 = -1∨∃ b:Nat,dJ=b∧b < m∧c7=pR (D.ratio j x - D.ratio j b)) →
     cond (cond (decide (c7 < 0)) true (cond (c7 == 0) (decide ((LN D.eV m).getD x 0 < (LN D.eV m).getD dJ.toNat 0)) false)) ((x:Int),aX (D.ratio j x)) (dJ,least)=(rS,Hi)) →
    ∃ r l,aH (fun N g=>bU N (j:Int) (n:Int) (m:Int) (aX D.v).fN.fG (aX D.v).fN.fL (aX D.v).fD.fG (aX D.v).fD.fL (h:Int) (LN D.eV m) (LN D.fr k) (LA D.a m k) (LQ D.b m) (LQ D.g k) g dJ least (x:Int)) r∧VV D j m r l:=fun rS Hi h1 h2 h5=>by
   obtain ⟨r,l,h3,h4⟩:=S4 hm hj hs hr d (x+1) rS Hi (by omega) h1
   refine ⟨r,l,aH.succ (fun N g=>bU.eq_2 ..) (aH.ax (Ky (n:=m) rX (eO _ _)) ?_),h4⟩
   simp only [aj,uf _ _ rX,gZ _ _ hj,gZ _ _ rX,bP,jb,ek,bh (show x < 9223372036854775807 by omega)]
   refine aH.if rX (aH.if (lQ rX) (aH.if (lQ hj) (aH.bind Y9 ?_)))
   by_cases hz:0≤D.a x j
   ·have e:decide (pR (D.a x j)≥0)=true:=decide_eq_true (Int.not_lt.1 fun q=>by have:=lF.1 q;grind)
    obtain ⟨e1,e2⟩:=h2 hz
    refine aH.ax e ?_
    rw [e1,e2] at h3;exact h3
   ·have rP:D.a x j < 0:=Rat.not_le.1 hz
    have e:decide (pR (D.a x j)≥0)=false:=decide_eq_false fun q=>by have:=lF.2 rP;omega
    have h0:-(D.a x j)≠0:=by grind
    have hov:=((hr.b x rX).q (show s≤MS by omega)).JJ (((hr.a x j rX hj).neg).q (show s≤MS by omega)) h0 (E2 (by decide))
    refine aH.aL e (aH.if (lQ rX) (aH.bind ng (aH.bind hov ?_)))
    have hJ3:∀ c7:Int,(dJ < 0∧c7 = -1∨∃ b:Nat,dJ=b∧b < m∧c7=pR (D.ratio j x - D.ratio j b))→aH (fun N g=>fq N (j:Int) (n:Int) (m:Int) (aX D.v).fN.fG (aX D.v).fN.fL (aX D.v).fD.fG (aX D.v).fD.fL (h:Int) (LN D.eV m) (LN D.fr k) (LA D.a m k) (LQ D.b m) (LQ D.g k) dJ least (x:Int) (aX (D.b x / -(D.a x j)))
      (bU N (j:Int) (n:Int) (m:Int) (aX D.v).fN.fG (aX D.v).fN.fL (aX D.v).fD.fG (aX D.v).fD.fL (h:Int) (LN D.eV m) (LN D.fr k) (LA D.a m k) (LQ D.b m) (LQ D.g k) g) c7) r:=fun c7 hc=>by
     have h6:=h5 rP c7 hc
     simp only [fq,ek,aj,bh (show x < 9223372036854775807 by omega)]
     refine aH.if (fun _=>inl rX (eO _ _)) (aH.if (fun q=>?_) ?_)
     ·rw [eO]
      rcases hc with ⟨_,e⟩ | ⟨b,e,hb,_⟩
      ·simp [e] at q
      ·omega
     ·revert h6
      cases (cond (decide (c7 < 0)) true (cond (c7 == 0) (decide ((LN D.eV m).getD x 0 < (LN D.eV m).getD dJ.toNat 0)) false)) with
      | true=>intro h6;simp only [cond_true,ay] at h6;refine aH.ax rfl ?_;rw [← h6.1,← h6.2] at h3;exact h3
      | false=>intro h6;simp only [cond_false,ay] at h6;refine aH.aL rfl ?_;rw [← h6.1,← h6.2] at h3;exact h3
    rcases hI with ⟨e1,_⟩ | ⟨b,e1,hb,hbn,e2,_⟩
    ·exact aH.aL (by simp [e1]) (hJ3 (-1) (.inl ⟨by omega,rfl⟩))
    ·have Za:b < m:=by omega
     have q1:RB (D.ratio j x) (2 * s):=by unfold bp.ratio;exact ((hr.b x rX).div (hr.a x j rX hj).neg h0).le (by omega)
     have q2:RB (D.ratio j b) (2 * s):=by unfold bp.ratio;exact ((hr.b b Za).div (hr.a b j Za hj).neg (by grind)).le (by omega)
     refine aH.ax (by simp [e1]) (aH.bind (r:=pR (D.ratio j x - D.ratio j b)) ?_ (hJ3 _ (.inr ⟨b,e1,Za,rfl⟩)))
     rw [e2]
     exact (q1.q hs).cmp (q2.q hs) (E2 (by decide))
  by_cases hz:0≤D.a x j
  ·refine nx dJ least ?_ (fun _=>⟨rfl,rfl⟩) fun q=>by grind
   rcases hI with ⟨e,hb⟩ | ⟨b,e,hb,hg,e3,uk⟩
   ·refine .inl ⟨e,fun j' h1=>?_⟩
    by_cases e2:j'=x
    ·rw [e2];exact hz
    ·exact hb j' (by omega)
   ·refine .inr ⟨b,e,by omega,hg,e3,fun j' h1 h2=>?_⟩
    by_cases e2:j'=x
    ·rw [e2] at h2;grind
    ·exact uk j' (by omega) h2
  ·have rP:D.a x j < 0:=Rat.not_le.1 hz
   rcases hI with ⟨rfl,hb⟩ | ⟨b,rfl,hb,hg,rfl,uk⟩
   ·refine nx x (aX (D.ratio j x)) (.inr ⟨x,rfl,by omega,rP,rfl,fun j' h1 h2=>?_⟩) (fun q=>by grind) fun _ c7 hc=>?_
    ·by_cases e:j'=x
     ·rw [e];exact .inr ⟨rfl,aP _⟩
     ·have:=hb j' (by omega);grind
    ·rcases hc with ⟨_,e⟩ | ⟨b,e,_⟩
     ·rw [e];rfl
     ·omega
   ·have c7e:∀ c7:Int,(((b:Nat):Int) < 0∧c7 = -1∨∃ b':Nat,((b:Nat):Int)=b'∧b' < m∧c7=pR (D.ratio j x - D.ratio j b'))→c7=pR (D.ratio j x - D.ratio j b):=fun c7 hc=>by
     rcases hc with ⟨e,_⟩ | ⟨b',e,_,e2⟩
     ·omega
     ·rw [e2,show b'=b by omega]
    have Za:b < m:=by omega
    by_cases h1:D.ratio j x < D.ratio j b
    ·refine nx x (aX (D.ratio j x)) (.inr ⟨x,rfl,by omega,rP,rfl,fun j' q1 q2=>?_⟩) (fun q=>by grind) fun _ c7 hc=>?_
     ·by_cases e:j'=x
      ·rw [e];exact .inr ⟨rfl,aP _⟩
      ·rcases uk j' (by omega) q2 with q3 | ⟨q3,_⟩
       ·exact .inl (by grind)
       ·exact .inl (by grind)
     ·rw [c7e c7 hc,decide_eq_true (lF.2 (show D.ratio j x - D.ratio j b < 0 by grind))];rfl
    ·have MC:decide (pR (D.ratio j x - D.ratio j b) < 0)=false:=decide_eq_false fun q=>by have:=lF.1 q;grind
     by_cases h2:D.ratio j x=D.ratio j b
     ·have Oe:(pR (D.ratio j x - D.ratio j b) == 0)=true:=by rw [beq_iff_eq];exact Ck.2 (by grind)
      by_cases h3:D.eV x < D.eV b
      ·refine nx x (aX (D.ratio j x)) (.inr ⟨x,rfl,by omega,rP,rfl,fun j' q1 q2=>?_⟩) (fun q=>by grind) fun _ c7 hc=>?_
       ·by_cases e:j'=x
        ·rw [e];exact .inr ⟨rfl,aP _⟩
        ·rcases uk j' (by omega) q2 with q3 | ⟨q3,q4⟩
         ·exact .inl (by grind)
         ·exact .inr ⟨by grind,by omega⟩
       ·rw [c7e c7 hc,MC,Oe,qM _ _ rX,aj,qM _ _ Za,decide_eq_true (show ((D.eV x:Nat):Int) < ((D.eV b:Nat):Int) by omega)];rfl
      ·refine nx b (aX (D.ratio j b)) (.inr ⟨b,rfl,by omega,hg,rfl,fun j' q1 q2=>?_⟩) (fun q=>by grind) fun _ c7 hc=>?_
       ·by_cases e:j'=x
        ·rw [e];exact .inr ⟨h2.symm,by omega⟩
        ·exact uk j' (by omega) q2
       ·rw [c7e c7 hc,MC,Oe,qM _ _ rX,aj,qM _ _ Za,decide_eq_false (show ¬ ((D.eV x:Nat):Int) < ((D.eV b:Nat):Int) by omega)];rfl
     ·have Oe:(pR (D.ratio j x - D.ratio j b) == 0)=false:=by
       rw [beq_eq_false_iff_ne];intro q;have:=Ck.1 q;grind
      refine nx b (aX (D.ratio j b)) (.inr ⟨b,rfl,by omega,hg,rfl,fun j' q1 q2=>?_⟩) (fun q=>by grind) fun _ c7 hc=>?_
      ·by_cases e:j'=x
       ·rw [e];exact .inl (by grind)
       ·exact uk j' (by omega) q2
      ·rw [c7e c7 hc,MC,Oe];rfl
theorem Ys (hm:m≤1000) (hj:j < k) (hs:2 * s≤MS) (hr:D.G9 m k s):∃ r,Gv (fun N=>lC N (j:Int) (n:Int) (m:Int) (aX D.v).fN.fG (aX D.v).fN.fL (aX D.v).fD.fG (aX D.v).fD.fL (h:Int) (LN D.eV m) (LN D.fr k) (LA D.a m k) (LQ D.b m) (LQ D.g k)) r ∧
  ((r = -1∧∀ i,i < m→0≤D.a i j)∨∃ i:Nat,r=i∧D.Cn m j i):=by
 obtain ⟨r,l,h1,h2⟩:=S4 hm hj hs hr m 0 (-1) _ (by omega) (.inl ⟨rfl,fun j hj=>absurd hj (dP _)⟩) (n:=n) (h:=h)
 refine ⟨r,h1.diag,?_⟩
 rcases h2 with h | ⟨b,e,q1,q2,_,q3⟩
 ·exact .inl h
 ·exact .inr ⟨b,e,q1,q2,q3⟩
def Stop (D:bp) (m k:Nat) (r:Int):Prop:=(r = -1∧∀ j,j < k→D.g j≤0)∨∃ j:Nat,r=j∧D.Ff k j∧∀ i,i < m→0≤D.a i j
theorem L6 (hm:m≤1000) (hk:k≤1000) {D0:bp} (h0:D0.WF m k) (H7:D0.G9 m k s) (h1:1≤s) (hs:5 * (5 ^ m * s)≤MS) (hw:D.WF m k) (hf:D.KA m) (he:bp.Am m k D0 D) :
  ∃ D' r,D'.WF m k∧D'.KA m∧bp.Am m k D0 D'∧Stop D' m k r∧aH (fun N g=>dG N g (n:Int) (m:Int) (LN D.eV m) (LN D.fr k) (LA D.a m k) (LQ D.b m) (LQ D.g k) (aX D.v).fN.fG (aX D.v).fN.fL (aX D.v).fD.fG (aX D.v).fD.fL (h:Int)) (r,RT n m k h D'):=by
 induction bp.SU hw hf with
 | intro D _ ih =>
  have hr:=bp.size hw h0 he H7 h1
  have HG:1≤5 ^ m * s:=dp h1 (Nat.le_mul_of_pos_left _ (Nat.pow_pos (by decide)))
  obtain ⟨r,e1,e2⟩:=Yr hk (by omega) hr (n:=n) (h:=h)
  rcases e2 with ⟨rfl,e2⟩ | ⟨j,rfl,e2⟩
  ·exact ⟨D,-1,hw,hf,he,.inl ⟨rfl,e2⟩,aH.succ (fun N g=>dG.eq_2 ..) (aH.bind e1 (aH.ax (by decide) (aH.one (Gv.pure _))))⟩
  ·obtain ⟨r,e3,e4⟩:=Ys hm e2.lt (by omega) hr (n:=n) (h:=h)
   rcases e4 with ⟨rfl,e4⟩ | ⟨i,rfl,e4⟩
   ·exact ⟨D,j,hw,hf,he,.inr ⟨j,rfl,e2,e4⟩,aH.succ (fun N g=>dG.eq_2 ..) (aH.bind e1 (aH.aL (by simp) (aH.bind e3 (aH.ax (by decide) (aH.one (Gv.pure _))))))⟩
   ·have ec:D.a i j≠0:=by have:=e4.neg;grind
    obtain ⟨D',r,q1,q2,q3,q4,q5⟩:=ih (D.iu i j) ⟨j,i,e2,e4,rfl⟩ (hw.iu e4.lt e2.lt) (hf.iu e4) (he.trans (.iu e4.lt e2.lt ec))
    refine ⟨D',r,q1,q2,q3,q4,aH.succ (fun N g=>dG.eq_2 ..) (aH.bind e1 (aH.aL (by simp) (aH.bind e3 (aH.aL (by simp) (aH.bind (Hh hm hk e4.lt e2.lt hs HG hr ec) ?_)))))⟩
    simp only [RT,eO,jb,bP]
    exact aH.if trivial (aH.if trivial (aH.if trivial (aH.if trivial (aH.if trivial q5))))
end
end Go.Den
namespace Go.Den
open Go.Ab
theorem S5 {f:Nat→Nat} {k v:Nat} (hk:k≤1000):∀ d x,x+d=k→(∀ j,j < x→f j≠v)→∃ r,aH (fun N g=>cA N (LN f k) (v:Int) g (x:Int)) r∧((r = -1∧∀ j,j < k→f j≠v)∨∃ j:Nat,r=j∧j < k∧f j=v)
 | 0,x,hx,h=>⟨-1,aH.succ (fun N g=>cA.eq_2 ..) (aH.aL (LY (m:=x) (n:=k) (by omega) (eO _ _)) (aH.one (Gv.pure _))),.inl ⟨rfl,fun j hj=>h j (by omega)⟩⟩
 | d+1,x,hx,h=>by
  have qo:x < k:=by omega
  by_cases e:f x=v
  ·refine ⟨x,aH.succ (fun N g=>cA.eq_2 ..) (aH.ax (Ky (n:=k) qo (eO _ _)) (aH.if (inl qo (eO _ _)) (aH.ax ?_ (aH.one (Gv.pure _))))),.inr ⟨x,rfl,qo,e⟩⟩
   rw [aj,qM _ _ qo,e];simp
  ·obtain ⟨r,h1,h2⟩:=S5 (f:=f) (v:=v) hk d (x+1) (by omega) fun j hj=>by
    by_cases q:j=x
    ·rw [q];exact e
    ·exact h j (by omega)
   refine ⟨r,aH.succ (fun N g=>cA.eq_2 ..) (aH.ax (Ky (n:=k) qo (eO _ _)) (aH.if (inl qo (eO _ _)) (aH.aL ?_ ?_))),h2⟩
   ·rw [aj,qM _ _ qo];simp;omega
   ·rw [bh (show x < 9223372036854775807 by omega)];exact h1
theorem Bk {f:Nat→Nat} {k v:Nat} (hk:k≤1000):∃ r,Gv (fun N=>bV N (LN f k) (v:Int)) r∧((r = -1∧∀ j,j < k→f j≠v)∨∃ j:Nat,r=j∧j < k∧f j=v):=by
 obtain ⟨r,h1,h2⟩:=S5 (f:=f) (v:=v) hk k 0 (by omega) fun j hj=>absurd hj (dP _)
 exact ⟨r,h1.diag,h2⟩
theorem S6 {f:Nat→Rat} {k s:Nat} (hk:k≤1000) (hs:s≤MS) (hf:∀ j,j < k→RB (f j) s):∀ d x,x+d=k→(∀ j,j < x→f j=0) →
  ∃ r,aH (fun N g=>cC N (LQ f k) g (x:Int)) r∧((r = -1∧∀ j,j < k→f j=0)∨∃ j:Nat,r=j∧j < k∧f j≠0)
 | 0,x,hx,h=>⟨-1,aH.succ (fun N g=>cC.eq_2 ..) (aH.aL (LY (m:=x) (n:=k) (by omega) (bP _ _)) (aH.one (Gv.pure _))),.inl ⟨rfl,fun j hj=>h j (by omega)⟩⟩
 | d+1,x,hx,h=>by
  have qo:x < k:=by omega
  have hz:Gv (fun N=>k6 N (aX (f x))) (!decide (f x=0)):=Gv.bind (((hf x qo).q hs).zero (by decide)) (Gv.pure _)
  by_cases e:f x=0
  ·obtain ⟨r,h1,h2⟩:=S6 hk hs hf d (x+1) (by omega) fun j hj=>by
    by_cases q:j=x
    ·rw [q];exact e
    ·exact h j (by omega)
   refine ⟨r,aH.succ (fun N g=>cC.eq_2 ..) (aH.ax (Ky (n:=k) qo (bP _ _)) (aH.if (inl qo (bP _ _)) ?_)),h2⟩
   simp only [aj,gZ _ _ qo,bh (show x < 9223372036854775807 by omega)]
   exact aH.bind hz (aH.aL (by simp [e]) h1)
  ·refine ⟨x,aH.succ (fun N g=>cC.eq_2 ..) (aH.ax (Ky (n:=k) qo (bP _ _)) (aH.if (inl qo (bP _ _)) ?_)),.inr ⟨x,rfl,qo,e⟩⟩
   simp only [aj,gZ _ _ qo]
   exact aH.bind hz (aH.ax (by simp [e]) (aH.one (Gv.pure _)))
theorem Yt {f:Nat→Rat} {k s:Nat} (hk:k≤1000) (hs:s≤MS) (hf:∀ j,j < k→RB (f j) s) :
  ∃ r,Gv (fun N=>jF N (LQ f k)) r∧((r = -1∧∀ j,j < k→f j=0)∨∃ j:Nat,r=j∧j < k∧f j≠0):=by
 obtain ⟨r,h1,h2⟩:=S6 hk hs hf k 0 (by omega) fun j hj=>absurd hj (dP _)
 exact ⟨r,h1.diag,h2⟩
def sk (c j:Nat):Nat:=if j < c then j else j+1
section
variable {α:Type}
theorem O2 (f:Nat→α) {k c:Nat} (hc:c≤k):(kQ (Bq f (k+1)) c (c+1)).take ((c - 0)+((Bq f (k+1)).length - (c+1)))=Bq (fun j=>f (sk c j)) k:=by
 refine List.ext_getElem? fun j=>?_
 have e1:((Bq f (k+1)).take c).length=c:=by rw [oH,qn];omega
 have e3:∀ {n i:Nat} (g:Nat→α),(Bq g n)[i]?=if i < n then some (g i) else none:=fun {n i} g=>by
  unfold Bq
  by_cases h:i < n<;>simp [h]
 rw [kg,qn,e3]
 unfold kQ
 by_cases h:j < c
 ·rw [if_pos (by omega),if_pos (by omega),wP,eE (by omega),kg,if_pos h,e3,if_pos (by omega)]
  unfold sk;rw [if_pos h]
 ·by_cases h2:j < k
  ·have e2:((Bq f (k+1)).drop (c+1)).length=k - c:=by rw [List.length_drop,qn];omega
   rw [if_pos (by omega),if_pos h2,wP,gF (by omega),e1,eE (by omega),kf,e3,if_pos (by omega)]
   unfold sk;rw [if_neg h,show c+1+(j - c)=j+1 by omega]
  ·rw [if_neg (by omega),if_neg h2]
theorem O3 (f:Nat→α) {k c:Nat} (hc:c≤k):(kQ (Bq f (k+1)) c (c+1)).length=k+1:=by
 rw [← E7 ⟨by omega,by rw [qn];omega⟩,qn]
end
theorem VW (f:Nat→Nat) {k c:Nat} (hc:c≤k) (hk:k≤1000):Gv (fun N=>jh N (c:Int) (ao ((c:Int)+1)) (LN f (k+1))) (LN (fun j=>f (sk c j)) k,LN (fun j=>f (sk c j)) k):=by
 rw [bh (by omega)]
 have e:=O3 (fun i=>((f i:Nat):Int)) hc
 have e2:=O2 (fun i=>((f i:Nat):Int)) hc
 refine Gv.if (by rw [eO];omega) (Gv.aL (by simp;omega) ?_)
 simp only [aj]
 refine Gv.if (by rw [eO];omega) (Gv.if (by omega) (Gv.if (by rw [eO];omega) (Gv.if (by omega) (Gv.if (by rw [eO];omega) (Gv.if (by rw [eO];omega) (Gv.if ?_ (Gv.if ?_ ((Gv.pure _).eq ?_))))))))
 ·rw [eO];unfold LN;rw [e];omega
 ·rw [eO];unfold LN;rw [e];omega
 ·unfold LN;rw [e2]
theorem VX (f:Nat→Rat) {k c:Nat} (hc:c≤k) (hk:k≤1000):Gv (fun N=>lD N (c:Int) (ao ((c:Int)+1)) (LQ f (k+1))) (LQ (fun j=>f (sk c j)) k,LQ (fun j=>f (sk c j)) k):=by
 rw [bh (by omega)]
 have e:=O3 (fun i=>aX (f i)) hc
 have e2:=O2 (fun i=>aX (f i)) hc
 refine Gv.if (by rw [bP];omega) (Gv.aL (by simp;omega) ?_)
 simp only [aj]
 refine Gv.if (by rw [bP];omega) (Gv.if (by omega) (Gv.if (by rw [bP];omega) (Gv.if (by omega) (Gv.if (by rw [bP];omega) (Gv.if (by rw [bP];omega) (Gv.if ?_ (Gv.if ?_ ((Gv.pure _).eq ?_))))))))
 ·rw [bP];unfold LQ;rw [e];omega
 ·rw [bP];unfold LQ;rw [e];omega
 ·unfold LQ;rw [e2]
def bp.del (D:bp) (c:Nat):bp where
 eV:=D.eV
 fr:=fun j=>D.fr (sk c j)
 a:=fun i j=>D.a i (sk c j)
 b:=D.b
 g:=fun _=>0
 v:=0
def RS (ok:Bool) (n m k h:Nat) (D:bp):Bool×jq×List Int×List Int×List (List aa)×List aa :=
 (ok,⟨n,m,LN D.eV m,LN D.fr k,LA D.a m k,LQ D.b m,LQ D.g k,aX D.v,h⟩,LN D.eV m,LN D.fr k,LA D.a m k,LQ D.b m)
section
variable {n m k h c s:Nat} {D:bp}
theorem S7 (z:Int) (h1:-1000≤z) (h2:z≤1000):Gv (fun N=>da N z) (aX (z:Rat)):=lM (by omega) (by omega)
theorem s9:Gv (fun N=>da N 0) (aX 0):=lM (z:=0) (by decide) (by decide)
theorem S8 (hk:k≤1000) {v1 v3:Bool} {v2 v4:List Int}:∀ (d x:Nat) (L:List aa),x+d=k→L.length=k→(∀ j,j < x→L.getD j aa.d=aX 0) →
  aH (fun N g=>dR N (n:Int) (m:Int) (LN D.eV m) (LQ D.b m) v1 v2 v3 v4 (h:Int) (LN (fun j=>D.fr (sk c j)) k,LN (fun j=>D.fr (sk c j)) k) (LA (fun i j=>D.a i (sk c j)) m k) g L (x:Int)) (RS true n m k h (D.del c))
 | 0,x,L,hx,hl,h0=>by
  refine aH.succ (fun N g=>dR.eq_2 ..) (aH.aL (LY (m:=x) (n:=k) (by omega) (by rw [de,eO])) (aH.bind s9 (aH.one ((Gv.pure _).eq ?_))))
  rw [show L=LQ (fun _=>0) k from DQ aa.d hl fun j hj=>h0 j (by omega)]
  rfl
 | d+1,x,L,hx,hl,h0=>by
  have qo:x < k:=by omega
  refine aH.succ (fun N g=>dR.eq_2 ..) (aH.ax (Ky (n:=k) qo (by rw [de,eO])) (aH.bind s9 (aH.if (inl qo hl) ?_)))
  rw [bh (show x < 9223372036854775807 by omega)]
  refine S8 hk d (x+1) _ (by omega) (by rw [List.length_set];exact hl) fun j hj=>?_
  rw [aj]
  by_cases e:x=j
  ·subst e;exact lN _ _ _ _ (by omega)
  ·rw [jj _ _ _ e];exact h0 j (by omega)
theorem S9 (hm:m≤1000) (hk:k≤1000) (hc:c≤k) {g0:List aa} {v1 v3:Bool} {v2 v4:List Int}:∀ (d x:Nat) (G:Nat→List aa),x+d=m→(∀ r,r < m→G r=if r < x then LQ (fun j=>D.a r (sk c j)) k else LQ (D.a r) (k+1)) →
  aH (fun N g=>dS N (n:Int) (m:Int) (LN D.eV m) (LA D.a m (k+1)) (LQ D.b m) g0 v1 v2 v3 v4 (h:Int) (c:Int) (LN (fun j=>D.fr (sk c j)) k,LN (fun j=>D.fr (sk c j)) k) g (Bq G m) (x:Int)) (RS true n m k h (D.del c))
 | 0,x,G,hx,hG=>by
  refine aH.succ (fun N g=>dS.eq_2 ..) (aH.aL (LY (m:=x) (n:=m) (by omega) (jb _ _ _)) ?_)
  simp only [eO]
  refine aH.if (by omega) ?_
  rw [show Bq G m=LA (fun i j=>D.a i (sk c j)) m k from qL fun r hr=>by rw [hG r hr,if_pos (by omega)]]
  have:=(S8 hk (n:=n) (m:=m) (h:=h) (c:=c) (D:=D) (v1:=v1) (v2:=v2) (v3:=v3) (v4:=v4) k 0 (List.replicate k aa.d) (by omega) de fun j hj=>absurd hj (dP _)).diag
  exact aH.one this
 | d+1,x,G,hx,hG=>by
  have rX:x < m:=by omega
  have e:G x=LQ (D.a x) (k+1):=by rw [hG x rX,if_neg (by omega)]
  refine aH.succ (fun N g=>dS.eq_2 ..) (aH.ax (Ky (n:=m) rX (jb _ _ _)) (aH.if (by rw [qn];exact rX) (aH.if (inl rX (qn _ _)) ?_)))
  simp only [aj,Fg _ _ rX,e]
  refine aH.bind (VX (D.a x) hc hk) ?_
  rw [bh (show x < 9223372036854775807 by omega),Fh]
  refine S9 hm hk hc d (x+1) _ (by omega) fun r hr=>?_
  by_cases q:r=x
  ·rw [if_pos q,if_pos (by omega),q]
  ·rw [if_neg q,hG r hr]
   by_cases q2:r < x
   ·rw [if_pos q2,if_pos (by omega)]
   ·rw [if_neg q2,if_neg (by omega)]
theorem Ta (hm:m≤1000) (hk:k≤999) (hw:D.WF m (k+1)) (hc:c < k+1) (hh:D.fr c=h) :
  Gv (fun N=>ic N (n:Int) (m:Int) (LN D.eV m) (LN D.fr (k+1)) (LA D.a m (k+1)) (LQ D.b m) (LQ D.g (k+1)) (aX D.v).fN.fG (aX D.v).fN.fL (aX D.v).fD.fG (aX D.v).fD.fL (h:Int)) (RS true n m k h (D.del c)):=by
 obtain ⟨r,h1,h2⟩:=Bk (f:=D.fr) (k:=k+1) (v:=h) (by omega)
 rcases h2 with ⟨_,h2⟩ | ⟨j,rfl,hj,h2⟩
 ·exact absurd hh (h2 c hc)
 ·obtain rfl:j=c:=hw.fi j c hj hc (h2.trans hh.symm)
  refine Gv.bind h1 (Gv.bind (VW D.fr (by omega) (by omega)) ?_)
  have:=(S9 hm (show k≤1000 by omega) (show j≤k by omega) (n:=n) (h:=h) (D:=D) (g0:=LQ D.g (k+1)) (v1:=(aX D.v).fN.fG) (v2:=(aX D.v).fN.fL) (v3:=(aX D.v).fD.fG) (v4:=(aX D.v).fD.fL) m 0 (fun r=>LQ (D.a r) (k+1)) (by omega) fun r _=>by rw [if_neg (dP _)]).diag
  exact this
structure xC (n m:Nat) (C:Nat→Nat→Rat) (B:Nat→Rat) (D:bp) (c:Nat):Prop where
 wf:D.WF m (2 * n+1)
 fea:D.KA m
 eqv:(∃ z,bp.Am m (2 * n+1) (bp.fst n m C B z) D)
 lt:c < 2 * n+1
 fr:D.fr c=2 * n+m
variable {C:Nat→Nat→Rat} {B:Nat→Rat}
theorem Tb (hm:m≤1000) (hn:2 * n≤998) {z:Rat} (H7:(bp.fst n m C B z).G9 m (2 * n+1) s) (h1:1≤s) (hs:5 * (5 ^ m * s)≤MS) (hw:D.WF m (2 * n+1)) (hf:D.KA m) (he:bp.Am m (2 * n+1) (bp.fst n m C B z) D)
  (U9:∀ i,i < m→D.eV i=2 * n+m→D.b i=0∧∃ j,j < 2 * n+1∧D.a i j≠0) :
  ∃ D' c,xC n m C B D' c∧Gv (fun N=>fH N (n:Int) (m:Int) (LN D.eV m) (LN D.fr (2 * n+1)) (LA D.a m (2 * n+1)) (LQ D.b m) (LQ D.g (2 * n+1)) (aX D.v).fN.fG (aX D.v).fN.fL (aX D.v).fD.fG (aX D.v).fD.fL ((2 * n+m:Nat):Int)) (RS true n m (2 * n) (2 * n+m) (D'.del c)):=by
 have hr:=bp.size hw (bp.DP n m C B z) he H7 h1
 have HG:1≤5 ^ m * s:=dp h1 (Nat.le_mul_of_pos_left _ (Nat.pow_pos (by decide)))
 obtain ⟨r,q1,q2⟩:=Bk (f:=D.eV) (k:=m) (v:=2 * n+m) hm
 rcases q2 with ⟨rfl,q2⟩ | ⟨i,rfl,hi,q2⟩
 ·obtain ⟨c,hc,Me⟩:=bp.z5 hw (u:=2 * n+m) (by omega) fun ⟨i,hi,e⟩=>q2 i hi e
  exact ⟨D,c,⟨hw,hf,⟨z,he⟩,hc,Me⟩,Gv.bind q1 (Gv.aL (by decide) (Ta hm (by omega) hw hc Me))⟩
 ·obtain ⟨hb,j0,hj0,ha0⟩:=U9 i hi q2
  obtain ⟨r,q3,q4⟩:=Yt (f:=D.a i) (k:=2 * n+1) (by omega) (show 5 ^ m * s≤MS by omega) fun j hj=>hr.a i j hi hj
  rcases q4 with ⟨_,q4⟩ | ⟨j,rfl,hj,q4⟩
  ·exact absurd (q4 j0 hj0) ha0
  ·refine ⟨D.iu i j,j,⟨hw.iu hi hj,bp.SW hf hb,⟨z,he.trans (.iu hi hj q4)⟩,hj,by simp only [bp.iu,if_true];exact q2⟩,Gv.bind q1 (Gv.ax (by simp) ?_)⟩
   simp only [aj,uf _ _ hi]
   refine Gv.if (by rw [jb];exact hi) (Gv.if (inl hi (jb _ _ _)) (Gv.bind q3 (Gv.bind (Hh hm (by omega) hi hj hs HG hr q4) ?_)))
   simp only [RT,eO,jb,bP]
   exact Gv.if trivial (Gv.if trivial (Gv.if trivial (Gv.if trivial (Gv.if trivial (Ta hm (by omega) (hw.iu hi hj) hj (by simp only [bp.iu,if_true];exact q2))))))
def aaP (B:Nat→Rat) (x:Nat) (low:Int):Prop:=(low = -1∧∀ r,r < x→0≤B r)∨∃ l:Nat,low=l∧l < x∧B l < 0∧∀ r,r < x→B l≤B r
structure Fi (n m:Nat) (C:Nat→Nat→Rat) (B:Nat→Rat) (D:bp):Prop where
 wf:D.WF m (2 * n+1)
 eqv:bp.Am m (2 * n+1) (bp.fst n m C B (-1)) D
 g:∀ j,j < 2 * n+1→D.g j≤0
 v:D.v < 0
theorem O4 (z:Rat) (hz:RB z s) (hr:(bp.fst n m C B 0).G9 m (2 * n+1) s):(bp.fst n m C B z).G9 m (2 * n+1) s:=by
 refine ⟨hr.a,hr.b,fun j hj=>?_,hr.v⟩
 have:=hr.g j hj
 simp only [bp.fst] at this ⊢
 split
 ·rw [if_pos (by assumption)] at this;exact this
 ·exact hz
theorem Tc (hm:m≤1000) (hn:2 * n≤998) (hr:(bp.fst n m C B 0).G9 m (2 * n+1) s) (h1:1≤s) (hs:5 * (5 ^ m * s)≤MS):∀ (d x:Nat) (low:Int),x+d=m→aaP B x low →
  ∃ r,aH (fun N g=>bF N (n:Int) (m:Int) (aX 0).fN.fG (aX 0).fN.fL (aX 0).fD.fG (aX 0).fD.fL ((2 * n+m:Nat):Int) (LN (bp.fst n m C B 0).eV m) (LN (bp.fst n m C B 0).fr (2 * n+1))
    (LA (bp.fst n m C B 0).a m (2 * n+1)) (LQ B m) (LQ (bp.fst n m C B 0).g (2 * n+1)) g low (x:Int)) r ∧
   ((∃ D,Fi n m C B D∧r=RS false n m (2 * n+1) (2 * n+m) D)∨∃ D c,xC n m C B D c∧r=RS true n m (2 * n) (2 * n+m) (D.del c))
 | 0,x,low,hx,hI=>by
  have rX:x=m:=by omega
  subst rX
  have step:∀ {r},(∃ N0:Nat,True)→aH (fun N g=>bF N (n:Int) (x:Int) (aX 0).fN.fG (aX 0).fN.fL (aX 0).fD.fG (aX 0).fD.fL ((2 * n+x:Nat):Int) (LN (bp.fst n x C B 0).eV x) (LN (bp.fst n x C B 0).fr (2 * n+1))
    (LA (bp.fst n x C B 0).a x (2 * n+1)) (LQ B x) (LQ (bp.fst n x C B 0).g (2 * n+1)) (g+1) low (x:Int)) r→aH (fun N g=>bF N (n:Int) (x:Int) (aX 0).fN.fG (aX 0).fN.fL (aX 0).fD.fG (aX 0).fD.fL ((2 * n+x:Nat):Int) (LN (bp.fst n x C B 0).eV x) (LN (bp.fst n x C B 0).fr (2 * n+1))
    (LA (bp.fst n x C B 0).a x (2 * n+1)) (LQ B x) (LQ (bp.fst n x C B 0).g (2 * n+1)) g low (x:Int)) r:=fun _ h=>aH.succ (fun _ _=>rfl) h
  rcases hI with ⟨rfl,hB⟩ | ⟨l,rfl,hl,rP,uk⟩
  ·obtain ⟨D,c,q1,q2⟩:=Tb (D:=bp.fst n x C B 0) hm hn hr h1 hs (bp.DP n x C B 0) hB (.refl _ _ _) fun i hi e=>by
    simp only [bp.fst] at e;omega
   refine ⟨_,step ⟨0,trivial⟩ ?_,.inr ⟨D,c,q1,rfl⟩⟩
   simp only [bF]
   exact aH.aL (LY (m:=x) (n:=x) (aP _) (bP _ _)) (aH.aL (by decide) (aH.one q2))
  ·have hw:=bp.DP n x C B (-1)
   have Sl:=O4 (-1) (bp.Yo.neg.le h1) hr
   have ea:(bp.fst n x C B (-1)).a l (2 * n)=1:=by simp only [bp.fst];rw [if_neg (by omega),if_neg (by omega)]
   have h0:(bp.fst n x C B (-1)).a l (2 * n)≠0:=by rw [ea];decide
   have hs5:s≤5 ^ x * s:=Nat.le_mul_of_pos_left _ (Nat.pow_pos (by decide))
   have aen:=Hh (n:=n) (h:=2 * n+x) hm (show 2 * n+1≤1000 by omega) hl (show 2 * n < 2 * n+1 by omega) (show 5 * s≤MS by omega) h1 Sl h0
   obtain ⟨D,r,q1,q2,q3,q4,q5⟩:=L6 (n:=n) (h:=2 * n+x) hm (show 2 * n+1≤1000 by omega) hw Sl h1 hs (hw.iu hl (show 2 * n < 2 * n+1 by omega)) (bp.Qd n x C B hl rP uk) (.iu hl (by omega) h0)
   have Yc:=bp.VU q1 q3 q2 (by
    rcases q4 with ⟨_,h⟩ | ⟨j,_,h,h'⟩
    ·exact .inl h
    ·exact .inr ⟨j,h,h'⟩)
   have hrD:=bp.size q1 hw q3 Sl h1
   have eg:(LQ (bp.fst n x C B 0).g (2 * n+1)).set (2 * n) (aX ((-1:Int):Rat))=LQ (bp.fst n x C B (-1)).g (2 * n+1):=by
    rw [xB]
    refine ml fun j hj=>?_
    simp only [bp.fst]
    by_cases e:j=2 * n
    ·rw [if_pos e,if_neg (by omega)];rfl
    ·rw [if_neg e,if_pos (by omega),if_pos (by omega)]
   have aaQ:ao (((2 * n+1:Nat):Int) - 1)=((2 * n:Nat):Int):=by rw [bC (by omega) (by omega)];omega
   have main:∀ {r'},Gv (fun N=>(fX N (aX D.v)).bind fun eS=>cond (!eS) (some (RS false n x (2 * n+1) (2 * n+x) D)) (fH N (n:Int) (x:Int) (LN D.eV x) (LN D.fr (2 * n+1)) (LA D.a x (2 * n+1)) (LQ D.b x) (LQ D.g (2 * n+1)) (aX D.v).fN.fG (aX D.v).fN.fL (aX D.v).fD.fG (aX D.v).fD.fL ((2 * n+x:Nat):Int))) r' →
     aH (fun N g=>bF N (n:Int) (x:Int) (aX 0).fN.fG (aX 0).fN.fL (aX 0).fD.fG (aX 0).fD.fL ((2 * n+x:Nat):Int) (LN (bp.fst n x C B 0).eV x) (LN (bp.fst n x C B 0).fr (2 * n+1))
      (LA (bp.fst n x C B 0).a x (2 * n+1)) (LQ B x) (LQ (bp.fst n x C B 0).g (2 * n+1)) g ((l:Nat):Int) (x:Int)) r':=fun h=>by
    refine step ⟨0,trivial⟩ ?_
    simp only [bF,eO,aaQ,aj]
    refine aH.aL (LY (m:=x) (n:=x) (aP _) (bP _ _)) (aH.ax (by simp) (aH.bind (S7 (-1) (by decide) (by decide)) (aH.if (inl (show 2 * n < 2 * n+1 by omega) (bP _ _)) ?_)))
    rw [eg]
    refine aH.bind aen ?_
    simp only [RT,eO,jb,bP]
    refine aH.if trivial (aH.if trivial (aH.if trivial (aH.if trivial (aH.if trivial (aH.bind (q5.diag) ?_)))))
    simp only [RT,eO,jb,bP]
    exact aH.if trivial (aH.if trivial (aH.if trivial (aH.if trivial (aH.if trivial (aH.one h)))))
   by_cases hz:D.v=0
   ·have hh0:D.ext x (2 * n+1) bp.qX (2 * n+x)=0:=by have:=bp.Hf q1 q3;grind
    obtain ⟨D',c,p1,p2⟩:=Tb hm hn Sl h1 hs q1 q2 q3 fun i hi e=>⟨by
     rw [← e,bp.uS q1 hi,bp.s8] at hh0;exact hh0,bp.NG q1 q3 hi e⟩
    exact ⟨_,main (Gv.bind ((hrD.v.q (by omega)).zero (by decide)) (Gv.aL (by simp [hz]) p2)),.inr ⟨D',c,p1,rfl⟩⟩
   ·refine ⟨_,main (Gv.bind ((hrD.v.q (by omega)).zero (by decide)) (Gv.ax (by simp [hz]) (Gv.pure _))),.inl ⟨D,⟨q1,q3,Yc,?_⟩,rfl⟩⟩
    have e1:=bp.Hf q1 q3
    have e2:=bp.z7 q1 q2 (2 * n+x) (by omega)
    grind
 | d+1,x,low,hx,hI=>by
  have rX:x < m:=by omega
  have hs5:s≤5 ^ m * s:=Nat.le_mul_of_pos_left _ (Nat.pow_pos (by decide))
  have hB:∀ r,r < m→RB (B r) s:=hr.b
  have hbx:=(hB x rX).q (show s≤MS by omega)
  have CR:0≤low→low < ((m:Nat):Int):=fun h0=>by
   rcases hI with ⟨e,_⟩ | ⟨b,e,hb,_⟩<;>omega
  have nx:∀ VY:Int,aaP B (x+1) VY→(∃ cmp:Int,(B x < 0→∀ l:Nat,low=l→cmp=pR (B x - B l))∧(¬ (B x < 0∧0≤low)→cmp=0)∧(cond (cond (decide (pR (B x) < 0)) (cond (decide (low < 0)) true (decide (cmp < 0))) false) (x:Int) low)=VY) →
    ∃ r,aH (fun N g=>bF N (n:Int) (m:Int) (aX 0).fN.fG (aX 0).fN.fL (aX 0).fD.fG (aX 0).fD.fL ((2 * n+m:Nat):Int) (LN (bp.fst n m C B 0).eV m) (LN (bp.fst n m C B 0).fr (2 * n+1))
      (LA (bp.fst n m C B 0).a m (2 * n+1)) (LQ B m) (LQ (bp.fst n m C B 0).g (2 * n+1)) g low (x:Int)) r ∧
     ((∃ D,Fi n m C B D∧r=RS false n m (2 * n+1) (2 * n+m) D)∨∃ D c,xC n m C B D c∧r=RS true n m (2 * n) (2 * n+m) (D.del c)):=fun VY g1 ⟨cmp,g2,g3,g4⟩=>by
   obtain ⟨r,g5,g6⟩:=Tc hm hn hr h1 hs d (x+1) VY (by omega) g1
   refine ⟨r,aH.succ (fun _ _=>rfl) ?_,g6⟩
   have Yu:Gv (fun N=>cond ((decide (pR (B x) < 0)) && ((decide (pR (B x) < 0)) && (!(decide (low < 0))))) (gI N (aX (B x)) ((LQ B m).getD low.toNat aa.d)) (some 0)) cmp:=by
    by_cases q:B x < 0∧0≤low
    ·obtain ⟨q1,q2⟩:=q
     obtain ⟨l,rfl⟩:∃ l:Nat,low=l:=⟨low.toNat,by omega⟩
     have hlm:l < m:=by have:=CR q2;omega
     rw [g2 q1 l rfl]
     refine Gv.ax (by simp [lF,q1]) ?_
     rw [aj,gZ _ _ hlm]
     exact hbx.cmp ((hB l hlm).q (show s≤MS by omega)) (E2 (by decide))
    ·rw [g3 q]
     refine Gv.aL ?_ (Gv.pure 0)
     by_cases q1:B x < 0
     ·have:low < 0:=Int.not_le.1 fun q2=>q ⟨q1,q2⟩
      simp [this]
     ·simp [lF,q1]
   have:aH (fun N g=>bF N (n:Int) (m:Int) (aX 0).fN.fG (aX 0).fN.fL (aX 0).fD.fG (aX 0).fD.fL ((2 * n+m:Nat):Int) (LN (bp.fst n m C B 0).eV m) (LN (bp.fst n m C B 0).fr (2 * n+1))
      (LA (bp.fst n m C B 0).a m (2 * n+1)) (LQ B m) (LQ (bp.fst n m C B 0).g (2 * n+1)) (g+1) low (x:Int)) r:=by
    simp only [bF]
    refine aH.ax (Ky (n:=m) rX (bP _ _)) (aH.if (inl rX (bP _ _)) ?_)
    simp only [aj,gZ _ _ rX,ia,bh (show x < 9223372036854775807 by omega)]
    refine aH.bind (hbx.pR (by decide)) (aH.if (fun _=>inl rX (bP _ _)) (aH.if (fun q=>?_) (aH.bind Yu ?_)))
    ·simp at q
     rw [bP];exact ⟨by omega,CR (by omega)⟩
    ·revert g4
     cases (cond (decide (pR (B x) < 0)) (cond (decide (low < 0)) true (decide (cmp < 0))) false) with
     | true=>intro g4;refine aH.ax rfl ?_;simp only [cond_true] at g4;rw [g4];exact g5
     | false=>intro g4;refine aH.aL rfl ?_;simp only [cond_false] at g4;rw [g4];exact g5
   exact this
  by_cases hp:B x < 0
  ·have e1:decide (pR (B x) < 0)=true:=decide_eq_true (lF.2 hp)
   rcases hI with ⟨rfl,hb⟩ | ⟨l,rfl,hl,hg,uk⟩
   ·refine nx x (.inr ⟨x,rfl,by omega,hp,fun r Av=>?_⟩) ⟨0,fun _ l e=>by omega,fun _=>rfl,by rw [e1];rfl⟩
    by_cases e:r=x
    ·rw [e];exact Rat.le_refl
    ·have:=hb r (by omega);grind
   ·have e2:decide (((l:Nat):Int) < 0)=false:=by simp
    by_cases ft:B x < B l
    ·refine nx x (.inr ⟨x,rfl,by omega,hp,fun r Av=>?_⟩) ⟨pR (B x - B l),fun _ l' e=>by rw [show l'=l by omega],fun q=>absurd ⟨hp,by omega⟩ q,by rw [e1,e2,decide_eq_true (lF.2 (show B x - B l < 0 by grind))];rfl⟩
     by_cases e:r=x
     ·rw [e];exact Rat.le_refl
     ·have:=uk r (by omega);grind
    ·refine nx l (.inr ⟨l,rfl,by omega,hg,fun r Av=>?_⟩) ⟨pR (B x - B l),fun _ l' e=>by rw [show l'=l by omega],fun q=>absurd ⟨hp,by omega⟩ q,by rw [e1,e2,decide_eq_false fun q=>by have:=lF.1 q;grind];rfl⟩
     by_cases e:r=x
     ·rw [e];grind
     ·exact uk r (by omega)
  ·have e1:decide (pR (B x) < 0)=false:=decide_eq_false fun q=>hp (lF.1 q)
   refine nx low ?_ ⟨0,fun q=>absurd q hp,fun _=>rfl,by rw [e1];rfl⟩
   rcases hI with ⟨e,hb⟩ | ⟨l,e,hl,hg,uk⟩
   ·refine .inl ⟨e,fun r h1=>?_⟩
    by_cases e2:r=x
    ·rw [e2];exact Rat.not_lt.1 hp
    ·exact hb r (by omega)
   ·refine .inr ⟨l,e,by omega,hg,fun r h1=>?_⟩
    by_cases e2:r=x
    ·rw [e2];grind
    ·exact uk r (by omega)
theorem Qf (hm:m≤1000) (hn:2 * n≤998) (hr:(bp.fst n m C B 0).G9 m (2 * n+1) s) (h1:1≤s) (hs:5 * (5 ^ m * s)≤MS) :
  ∃ r,Gv (fun N=>l5 N (n:Int) (m:Int) (aX 0).fN.fG (aX 0).fN.fL (aX 0).fD.fG (aX 0).fD.fL ((2 * n+m:Nat):Int) (LN (bp.fst n m C B 0).eV m) (LN (bp.fst n m C B 0).fr (2 * n+1))
    (LA (bp.fst n m C B 0).a m (2 * n+1)) (LQ B m) (LQ (bp.fst n m C B 0).g (2 * n+1))) r ∧
   ((∃ D,Fi n m C B D∧r=RS false n m (2 * n+1) (2 * n+m) D)∨∃ D c,xC n m C B D c∧r=RS true n m (2 * n) (2 * n+m) (D.del c)):=by
 obtain ⟨r,h2,h3⟩:=Tc hm hn hr h1 hs m 0 (-1) (by omega) (.inl ⟨rfl,fun j hj=>absurd hj (dP _)⟩)
 exact ⟨r,h2.diag,h3⟩
end
end Go.Den
namespace Go.Den
open Go.Ab
structure Kc (r:aE):Prop where
 len:r.bj.length≤20
 co:∀ j,IR (r.bj.getD j aa.d) 2
 bo:IR r.bK 2
structure lA (l:List aE):Prop where
 len:l.length≤60
 row:∀ i,Kc (l.getD i aE.d)
theorem ird {n:Nat}:IR aa.d n:=⟨⟨U.nil,Nat.zero_le _⟩,⟨U.nil,Nat.zero_le _⟩⟩
theorem Kc.d:Kc aE.d:=⟨by decide,fun j=>by
 have:(aE.d.bj.getD j aa.d)=aa.d:=by cases j<;>rfl
 rw [this];exact ird,ird⟩
theorem Td {l:List aE} {i:Nat} (h:l.length≤i):l.getD i aE.d=aE.d:=by
 simp [List.getD,List.getElem?_eq_none_iff.2 h]
def uT (l:List aE) (n:Int) (i:Nat):Prop:=(((l.getD i aE.d).bj.length:Nat):Int) > n
instance (l:List aE) (n:Int) (i:Nat):Decidable (uT l n i):=by unfold uT;infer_instance
def qY (l:List aE) (n:Int):Nat→Nat→Bool
 | 0,_=>false
 | k+1,i=>if uT l n i then true else qY l n k (i+1)
def eD (n:Int) (l:List aE):Int:=if n < 0∨n > 12 then 2 else if l.length > 40 then 8 else cond (qY l n l.length 0) 11 0
theorem AA {l:List aE} {n:Int}:∀ k i,qY l n k i=false→∀ j,i≤j→j < i+k→¬ uT l n j
 | 0,_,_,j,h1,h2=>by omega
 | k+1,i,h,j,h1,h2=>by
  rw [qY] at h
  split at h
  ·cases h
  ·by_cases Hz:j=i
   ·rw [Hz];assumption
   ·exact AA k (i+1) h j (by omega) (by omega)
theorem I4 {l:List aE} {n:Int} (hl:l.length≤1000):∀ k i,i+k=l.length→∃ r,aH (fun N fuel=>cz N l n fuel (i:Int)) r∧decide (r≥0)=qY l n k i
 | 0,i,hi=>⟨-1,.step 0 fun N g _ _=>by
  have:i=l.length:=by omega
  subst this
  rw [cz,fa];rfl,rfl⟩
 | k+1,i,hi=>by
  have mn:i < l.length:=by omega
  obtain ⟨r,h1,h2⟩:=I4 (n:=n) hl k (i+1) (by omega)
  have hp:Gv (fun N=>oL N (l.getD i aE.d) n) (decide (uT l n i)):=Gv.pure _
  rw [qY]
  by_cases h:uT l n i
  ·rw [if_pos h]
   refine ⟨(i:Int),aH.succ (fun N g=>cz.eq_2 ..) (aH.ax (dec_lt mn) (aH.if (lQ mn) (aH.bind hp (aH.ax (decide_eq_true h) (aH.one (Gv.pure _)))))),decide_eq_true (by omega)⟩
  ·rw [if_neg h]
   refine ⟨r,aH.succ (fun N g=>cz.eq_2 ..) (aH.ax (dec_lt mn) (aH.if (lQ mn) (aH.bind hp (aH.aL (decide_eq_false h) ?_)))),h2⟩
   rw [bh (by omega)];exact h1
theorem ta (n:Int) (l:List aE):Gv (fun N=>iw N n l) (eD n l):=by
 unfold iw eD
 have e:cond (decide (n < 0)) true (decide (n > 12))=decide (n < 0∨n > 12):=by
  by_cases h:n < 0
  ·rw [decide_eq_true h,decide_eq_true (Or.inl h)];rfl
  ·rw [decide_eq_false h,cond_false];exact decide_eq_decide.2 ⟨Or.inr,fun h2=>h2.resolve_left h⟩
 rw [e]
 by_cases h:n < 0∨n > 12
 ·rw [if_pos h];exact Gv.ax (decide_eq_true h) (Gv.pure _)
 ·rw [if_neg h]
  refine Gv.aL (decide_eq_false h) ?_
  by_cases h2:l.length > 40
  ·rw [if_pos h2];exact Gv.ax (decide_eq_true (by omega)) (Gv.pure _)
  ·rw [if_neg h2]
   obtain ⟨r,h3,h4⟩:=I4 (l:=l) (n:=n) (by omega) l.length 0 (by omega)
   refine Gv.aL (decide_eq_false (by omega)) (Gv.bind (r:=decide (r≥0)) (Gv.bind h3.diag (Gv.pure _)) ?_)
   rw [h4]
   cases qY l n l.length 0 with
   | true=>exact Gv.ax rfl (Gv.pure _)
   | false=>exact Gv.aL rfl (Gv.pure _)
theorem AB {l:List aE} {n:Int} (hl:l.length≤1000):∀ k i,i+k=l.length→aH (fun N fuel=>fg N n l fuel (i:Int)) (cond (qY l n k i) 11 0)
 | 0,i,hi=>.step 0 fun N g _ _=>by
  have:i=l.length:=by omega
  subst this
  rw [fg,fa];rfl
 | k+1,i,hi=>by
  have mn:i < l.length:=by omega
  refine aH.succ (fun N g=>fg.eq_2 ..) (aH.ax (dec_lt mn) (aH.if (lQ mn) ?_))
  rw [aj,qY]
  by_cases h:uT l n i
  ·rw [if_pos h];exact aH.ax (decide_eq_true h) (aH.one (Gv.pure _))
  ·rw [if_neg h]
   refine aH.aL (decide_eq_false h) ?_
   rw [bh (by omega)];exact AB hl k (i+1) (by omega)
theorem AD (n:Int) (l:List aE):Gv (fun N=>kK N n l) (eD n l):=by
 unfold kK eD
 have e:cond (decide (n < 0)) true (decide (n > 12))=decide (n < 0∨n > 12):=by
  by_cases h:n < 0
  ·rw [decide_eq_true h,decide_eq_true (Or.inl h)];rfl
  ·rw [decide_eq_false h,cond_false];exact decide_eq_decide.2 ⟨Or.inr,fun h2=>h2.resolve_left h⟩
 rw [e]
 by_cases h:n < 0∨n > 12
 ·rw [if_pos h];exact Gv.ax (decide_eq_true h) (Gv.pure _)
 ·rw [if_neg h]
  refine Gv.aL (decide_eq_false h) ?_
  by_cases h2:l.length > 40
  ·rw [if_pos h2];exact Gv.ax (decide_eq_true (by omega)) (Gv.pure _)
  ·rw [if_neg h2]
   exact Gv.aL (decide_eq_false (by omega)) (AB (by omega) l.length 0 (by omega)).diag
structure xD (n:Nat) (l:List aE):Prop where
 Yv:n≤12
 len:l.length≤40
 co:∀ i,i < l.length→(l.getD i aE.d).bj.length≤n
theorem Hj {n:Int} {l:List aE} (h:eD n l=0):0≤n∧xD n.toNat l:=by
 unfold eD at h
 split at h
 ·cases h
 ·split at h
  ·cases h
  ·cases e:qY l n l.length 0 with
   | true=>rw [e] at h;cases h
   | false =>
    refine ⟨by omega,by omega,by omega,fun i hi=>?_⟩
    have:=AA _ _ e i (Nat.zero_le _) (by omega)
    unfold uT at this
    omega
def dF (c x:List aa):Nat→Nat→Rat→Rat
 | 0,_,a=>a
 | k+1,i,a=>dF c x k (i+1) (a+qv (c.getD i aa.d) * qv (x.getD i aa.d))
def Bl (c x:List aa):Rat:=dF c x c.length 0 0
structure LB (l:List aa) (n:Nat):Prop where
 len:l.length≤60
 ir:∀ i,IR (l.getD i aa.d) n
theorem LB.rq {l:List aa} {n:Nat} (h:LB l n) (hn:1≤n) (i:Nat):RQ (l.getD i aa.d) (qv (l.getD i aa.d)) n:=⟨h.ir i,rfl,hn⟩
section
variable {c x:List aa}
theorem Te (hc:LB c 12) (hx:LB x 400000) (hle:c.length≤x.length):∀ (k i m:Nat) (a:Rat),i+k=c.length→RB a m→1≤m→m+k * 400013≤100000000→aH (fun N fuel=>nw N c x fuel (aX a) (i:Int)) (aX (dF c x k i a))
 | 0,i,m,a,hi,_,_,_=>.step 0 fun N g _ _=>by
  have:i=c.length:=by omega
  subst this
  rw [nw,fa];rfl
 | k+1,i,m,a,hi,ha,h1,hm=>by
  have mn:i < c.length:=by omega
  have hlen:=hc.len
  have r1:=hc.rq (by decide) i
  have r2:=hx.rq (by decide) i
  refine aH.succ (fun N g=>nw.eq_2 ..) (aH.ax (dec_lt mn) (aH.if (lQ mn) (aH.if (lQ (by omega)) ?_)))
  rw [aj,bh (by omega)]
  refine aH.bind (r1.mul r2 (by decide)) (aH.bind ((ha.rq h1).add ((r1.rb.mul r2.rb).rq (by decide)) (by simp only [SM];omega)) ?_)
  exact Te hc hx hle k (i+1) (m+400013) _ (by omega) ((ha.add (r1.rb.mul r2.rb)).le (by omega)) (by omega) (by omega)
theorem Tf (hc:LB c 12) (hx:LB x 400000) (hle:c.length≤x.length):Gv (fun N=>BV N c x) (aX (Bl c x)):=by
 have:=hc.len
 exact Gv.bind (r:=aX 0) (lM (z:=0) (by decide) (by decide)) (Te hc hx hle c.length 0 1 0 (by omega) RB.zero (by decide) (by omega)).diag
theorem Hk (hc:LB c 12) (hx:LB x 400000) (hle:c.length≤x.length):∀ (k i m:Nat) (a:Rat),i+k=c.length→RB a m→1≤m→m+k * 400013≤100000000→aH (fun N fuel=>gl N c x fuel (aX a) (i:Int)) (aX (dF c x k i a))
 | 0,i,m,a,hi,_,_,_=>.step 0 fun N g _ _=>by
  have:i=c.length:=by omega
  subst this
  rw [gl,fa];rfl
 | k+1,i,m,a,hi,ha,h1,hm=>by
  have mn:i < c.length:=by omega
  have hlen:=hc.len
  have r1:=hc.rq (by decide) i
  have r2:=hx.rq (by decide) i
  refine aH.succ (fun N g=>gl.eq_2 ..) (aH.ax (by rw [dec_lt mn,dec_lt (by omega)];rfl) (aH.if (lQ mn) (aH.if (lQ (by omega)) ?_)))
  rw [aj,bh (by omega)]
  refine aH.bind (r1.Nw r2 (by decide)) (aH.bind ((ha.rq h1).VQ ((r1.rb.mul r2.rb).rq (by decide)) (by simp only [LM];omega)) ?_)
  exact Hk hc hx hle k (i+1) (m+400013) _ (by omega) ((ha.add (r1.rb.mul r2.rb)).le (by omega)) (by omega) (by omega)
theorem Hl (hc:LB c 12) (hx:LB x 400000) (hle:c.length≤x.length):Gv (fun N=>ox N c x) (aX (Bl c x)):=by
 have:=hc.len
 exact rQ0.bind (Hk hc hx hle c.length 0 1 0 (by omega) RB.zero (by decide) (by omega)).diag
theorem WN (hc:LB c 12) (hx:LB x 400000):∀ (k i m:Nat) (a:Rat),RB a m→RB (dF c x k i a) (m+k * 400013)
 | 0,_,_,_,h=>h.le (by omega)
 | k+1,i,m,a,h=>by
  rw [dF]
  exact (WN hc hx k (i+1) (m+400013) _ ((h.add ((hc.rq (by decide) i).rb.mul (hx.rq (by decide) i).rb)).le (by omega))).le (by omega)
theorem Kd (hc:LB c 12) (hx:LB x 400000):RB (Bl c x) 24000781:=by
 have:=hc.len
 exact (WN hc hx c.length 0 1 0 RB.zero).le (by omega)
end
theorem Kc.lb {r:aE} (h:Kc r):LB r.bj 12:=⟨by have:=h.len;omega,fun i=>(h.co i).le (by decide)⟩
theorem Kc.WO {r:aE} (h:Kc r):RQ r.bK (qv r.bK) 2:=⟨h.bo,rfl,by decide⟩
def vz (l:List aE) (x:List aa) (i:Nat):Prop:=0 < Bl (l.getD i aE.d).bj x - qv (l.getD i aE.d).bK
instance (l:List aE) (x:List aa) (i:Nat):Decidable (vz l x i):=by unfold vz;infer_instance
def kI (l:List aE) (x:List aa):Nat→Nat→Bool
 | 0,_=>false
 | k+1,i=>if vz l x i then true else kI l x k (i+1)
section
variable {l:List aE} {x:List aa}
theorem Tg (hl:lA l) (hx:LB x 400000) (ok:∀ i,i < l.length→(l.getD i aE.d).bj.length≤x.length):∀ k i,i+k=l.length→∃ r,aH (fun N fuel=>bW N l x fuel (i:Int)) r∧decide (r≥0)=kI l x k i
 | 0,i,hi=>⟨-1,.step 0 fun N g _ _=>by
  have:i=l.length:=by omega
  subst this
  rw [bW,fa];rfl,rfl⟩
 | k+1,i,hi=>by
  have mn:i < l.length:=by omega
  have hlen:=hl.len
  obtain ⟨r,h1,h2⟩:=Tg hl hx ok k (i+1) (by omega)
  have hb:=hl.row i
  have hp:Gv (fun N=>oS N (l.getD i aE.d) x) (decide (vz l x i)):=by
   refine (Tf hb.lb hx (ok i mn)).bind ((((Kd hb.lb hx).rq (by decide)).cmp hb.WO (by decide)).bind ((Gv.pure _).eq ?_))
   rw [Ef];rfl
  rw [kI]
  by_cases h:vz l x i
  ·rw [if_pos h]
   refine ⟨(i:Int),aH.succ (fun N g=>bW.eq_2 ..) (aH.ax (dec_lt mn) (aH.if (lQ mn) (aH.bind hp (aH.ax (decide_eq_true h) (aH.one (Gv.pure _)))))),decide_eq_true (by omega)⟩
  ·rw [if_neg h]
   refine ⟨r,aH.succ (fun N g=>bW.eq_2 ..) (aH.ax (dec_lt mn) (aH.if (lQ mn) (aH.bind hp (aH.aL (decide_eq_false h) ?_)))),h2⟩
   rw [bh (by omega)];exact h1
theorem Cu (hl:lA l) (hx:LB x 400000) (ok:∀ i,i < l.length→(l.getD i aE.d).bj.length≤x.length):Gv (fun N=>oy N l x) (!kI l x l.length 0):=by
 obtain ⟨r,h3,h4⟩:=Tg hl hx ok l.length 0 (by omega)
 refine Gv.bind (r:=decide (r≥0)) (Gv.bind h3.diag (Gv.pure _)) ?_
 rw [h4];exact Gv.pure _
theorem L7 (hl:lA l) (hx:LB x 400000) (ok:∀ i,i < l.length→(l.getD i aE.d).bj.length≤x.length):∀ k i,i+k=l.length→aH (fun N fuel=>iY N l x fuel (i:Int)) (!kI l x k i)
 | 0,i,hi=>.step 0 fun N g _ _=>by
  have:i=l.length:=by omega
  subst this
  rw [iY,fa];rfl
 | k+1,i,hi=>by
  have mn:i < l.length:=by omega
  have hlen:=hl.len
  have hb:=hl.row i
  refine aH.succ (fun N g=>iY.eq_2 ..) (aH.ax (dec_lt mn) (aH.if (lQ mn) ?_))
  rw [aj,kI,bh (by omega)]
  refine aH.bind (Hl hb.lb hx (ok i mn)) (aH.bind (((Kd hb.lb hx).rq (by decide)).aaF hb.WO (by decide)) ?_)
  rw [Ef]
  by_cases h:vz l x i
  ·rw [if_pos h]
   exact aH.ax (decide_eq_true h) (aH.one (Gv.pure _))
  ·rw [if_neg h]
   exact aH.aL (decide_eq_false h) (L7 hl hx ok k (i+1) (by omega))
theorem Th (hl:lA l) (hx:LB x 400000) (ok:∀ i,i < l.length→(l.getD i aE.d).bj.length≤x.length):Gv (fun N=>uH N l x) (!kI l x l.length 0) :=
 (L7 hl hx ok l.length 0 (by omega)).diag
def z8 (l:List aE) (x:List aa):Int:=if eD x.length l≠0 then eD x.length l else cond (kI l x l.length 0) 24 0
theorem H9 (hl:lA l) (hx:LB x 400000):Gv (fun N=>qa N l x) (z8 l x):=by
 refine (ta _ _).bind ?_
 unfold z8
 by_cases h:eD x.length l≠0
 ·rw [if_pos h];exact Gv.ax (by simpa using h) (Gv.pure _)
 ·rw [if_neg h]
  have h0:=Hj (Decidable.not_not.1 h)
  refine Gv.aL (by simpa using h) ((Cu hl hx (fun i hi=>by have:=h0.2.co i hi;omega)).bind ?_)
  cases kI l x l.length 0 with
  | true=>exact Gv.ax rfl (Gv.pure _)
  | false=>exact Gv.aL rfl (Gv.pure _)
end
end Go.Den
namespace Go.Den
open Go.Ab
def yv (y:List aa) (i:Nat):Rat:=qv (y.getD i aa.d)
def cf (l:List aE) (i j:Nat):Rat:=qv ((l.getD i aE.d).bj.getD j aa.d)
def bv (l:List aE) (i:Nat):Rat:=qv (l.getD i aE.d).bK
def cS (l:List aE) (y:List aa) (j:Nat):Nat→Rat
 | 0=>0
 | i+1=>cS l y j i+yv y i * cf l i j
def bS (l:List aE) (y:List aa):Nat→Rat
 | 0=>0
 | i+1=>bS l y i+yv y i * bv l i
theorem aaR:qv aa.d=0:=by decide +kernel
theorem WQ {l:List aE} {i j:Nat} (h:(l.getD i aE.d).bj.length≤j):cf l i j=0:=by
 unfold cf;rw [ze h,aaR]
def lf (n:Nat) (f:Nat→Rat):List aa:=(List.range n).map fun j=>aX (f j)
theorem zl {n:Nat} {f:Nat→Rat}:(lf n f).length=n:=by simp [lf]
theorem Ke {n:Nat} {f:Nat→Rat} {j:Nat} (h:j < n):(lf n f).getD j aa.d=aX (f j):=by simp [lf,List.getD,h]
theorem Hm {n:Nat} {f g:Nat→Rat} (h:∀ j,j < n→f j=g j):lf n f=lf n g:=by
 unfold lf
 exact List.map_congr_left fun j hj=>by rw [h j (mO.1 hj)]
theorem Yw {n:Nat} {f:Nat→Rat} {j:Nat} {v:Rat}:(lf n f).set j (aX v)=lf n (fun t=>if t=j then v else f t):=by
 apply List.ext_getElem
 ·simp [lf]
 ·intro t h1 h2
  simp only [lf,List.getElem_set,List.getElem_map,List.getElem_range]
  by_cases h:j=t
  ·rw [if_pos h,if_pos h.symm]
  ·rw [if_neg h,if_neg (fun e=>h e.symm)]
theorem VZ {n:Nat} {f:Nat→Rat}:lf n f ++ [aX (f n)]=lf (n+1) f:=by
 unfold lf;rw [List.range_succ,List.map_append];rfl
section
variable {l:List aE} {y:List aa}
theorem L8 (hl:lA l) (i j:Nat):RQ ((l.getD i aE.d).bj.getD j aa.d) (cf l i j) 2:=⟨(hl.row i).co j,rfl,by decide⟩
theorem Hn (hy:LB y 400000) (i:Nat):RQ (y.getD i aa.d) (yv y i) 400000:=hy.rq (by decide) i
theorem Ti (hl:lA l) (hy:LB y 400000) (j:Nat):∀ i,RB (cS l y j i) (1+400003 * i)
 | 0=>RB.zero
 | i+1=>((Ti hl hy j i).add ((Hn hy i).rb.mul (L8 hl i j).rb)).le (by omega)
theorem Tj (hl:lA l) (hy:LB y 400000):∀ i,RB (bS l y i) (1+400003 * i)
 | 0=>RB.zero
 | i+1=>((Tj hl hy i).add ((Hn hy i).rb.mul (hl.row i).WO.rb)).le (by omega)
theorem L9 {n:Nat} (hn:n≤1000) {R:List aa×aa×Bool} (hR:Gv (fun N=>ey N l y N (lf n fun _=>0) (aX 0) 0) R):∀ k j,j+k=n→aH (fun N fuel=>gV N n l y fuel (lf j (fun _=>0) ++ List.replicate k aa.d) (j:Int)) R
 | 0,j,hj=>by
  have hj:j=n:=by omega
  subst hj
  refine aH.succ (fun N g=>gV.eq_2 ..) (aH.aL ?_ (aH.one (Gv.bind (r:=aX 0) (lM (z:=0) (by decide) (by decide)) ?_)))
  ·rw [de,aj];exact fa
  ·simpa using hR
 | k+1,j,hj=>by
  have Wk:(lf j (fun _=>0) ++ List.replicate (k+1) aa.d).length=n:=by simp [zl];omega
  refine aH.succ (fun N g=>gV.eq_2 ..) (aH.ax ?_ (aH.bind (r:=aX 0) (lM (z:=0) (by decide) (by decide)) (aH.if (lQ (by omega)) ?_)))
  ·rw [de,aj];exact dec_lt (by omega)
  ·rw [aj,bh (by omega)]
   have e:(lf j (fun _=>0) ++ List.replicate (k+1) aa.d).set j (aX 0)=lf (j+1) (fun _=>0) ++ List.replicate k aa.d:=by
    rw [List.set_append_right _ _ (by rw [zl];exact aP _),zl,Nat.sub_self,List.replicate_succ,List.set_cons_zero,← VZ,wP];rfl
   rw [e]
   exact L9 hn hR k (j+1) (by omega)
theorem Tk (hl:lA l) (hy:LB y 400000) {n i:Nat} (yh:i < l.length) (hiy:i < y.length) (z9:(l.getD i aE.d).bj.length≤n) (hn:n≤12) (B:Rat) (hB:RB B 24000181):∀ k j,j+k=(l.getD i aE.d).bj.length→∃ N0,∀ N fuel,N0≤N→N0≤fuel→∀ K:List aa→aa→Int→Option (List aa×aa×Bool),
  gU N l y (aX B) (i:Int) K fuel (lf n fun t=>if t < j then cS l y t (i+1) else cS l y t i) (j:Int)=K (lf n fun t=>cS l y t (i+1)) (aX (B+yv y i * bv l i)) ((i+1:Nat):Int)
 | 0,j,hj=>by
  have hj:j=(l.getD i aE.d).bj.length:=by omega
  subst hj
  have hlen:=hl.len
  obtain ⟨N1,h1⟩:=(Hn hy i).mul (hl.row i).WO (by decide)
  obtain ⟨N2,h2⟩:=(hB.rq (by decide)).add (((Hn hy i).rb.mul (hl.row i).WO.rb).rq (by decide)) (by decide)
  refine ⟨N1+N2+1,fun N fuel hN hf K=>?_⟩
  obtain ⟨g,rfl⟩:∃ g,fuel=g+1:=⟨fuel - 1,by omega⟩
  have It:=h1 N (by omega)
  have V2:=h2 N (by omega)
  dsimp only at It V2
  rw [gU,aj,fa,cond_false,if_pos (lQ hiy)]
  have e1:dy N (⟨((y.getD i aa.d).fN),((y.getD i aa.d).fD)⟩:aa) (⟨(((l.getD i aE.d).bK).fN),(((l.getD i aE.d).bK).fD)⟩:aa)=some (aX (yv y i * qv (l.getD i aE.d).bK)):=It
  rw [e1,bO,V2,bO,bh (by omega)]
  congr 1
  refine Hm fun t _=>?_
  split
  ·rfl
  ·rw [cS,WQ (by omega)];grind
 | k+1,j,hj=>by
  have hlen:=hl.len
  have Qo:j < (l.getD i aE.d).bj.length:=by omega
  obtain ⟨N1,h1⟩:=(Hn hy i).mul (L8 hl i j) (by decide)
  have hs:RB (cS l y j i) 24000181:=(Ti hl hy j i).le (by omega)
  obtain ⟨N2,h2⟩:=(hs.rq (by decide)).add (((Hn hy i).rb.mul (L8 hl i j).rb).rq (by decide)) (by decide)
  obtain ⟨N3,h3⟩:=Tk hl hy yh hiy z9 hn B hB k (j+1) (by omega)
  refine ⟨N1+N2+N3+1,fun N fuel hN hf K=>?_⟩
  obtain ⟨g,rfl⟩:∃ g,fuel=g+1:=⟨fuel - 1,by omega⟩
  have It:=h1 N (by omega)
  have V2:=h2 N (by omega)
  dsimp only at It V2
  have e0:(lf n fun t=>if t < j then cS l y t (i+1) else cS l y t i).getD j aa.d=aX (cS l y j i):=by rw [Ke (by omega),if_neg (by omega)]
  rw [gU,aj,dec_lt Qo,cond_true,if_pos (lQ Qo),if_pos (lQ (by rw [zl];omega)),if_pos (lQ hiy),aj,e0]
  have e1:dy N (⟨((y.getD i aa.d).fN),((y.getD i aa.d).fD)⟩:aa) (⟨((((l.getD i aE.d).bj).getD j aa.d).fN),((((l.getD i aE.d).bj).getD j aa.d).fD)⟩:aa)=some (aX (yv y i * cf l i j)):=It
  have e2:dn N (⟨(aX (cS l y j i)).fN,(aX (cS l y j i)).fD⟩:aa) (aX (yv y i * cf l i j))=some (aX (cS l y j i+yv y i * cf l i j)):=V2
  rw [e1,bO,e2,bO,bh (by omega),Yw]
  have e3:(lf n fun t=>if t=j then cS l y j i+yv y i * cf l i j else if t < j then cS l y t (i+1) else cS l y t i)=lf n fun t=>if t < j+1 then cS l y t (i+1) else cS l y t i:=by
   refine Hm fun t _=>?_
   by_cases h:t=j
   ·subst h;rw [if_pos rfl,if_pos (by omega),cS]
   ·rw [if_neg h]
    by_cases h2:t < j
    ·rw [if_pos h2,if_pos (by omega)]
    ·rw [if_neg h2,if_neg (by omega)]
  rw [e3]
  exact h3 N g (by omega) (by omega) K
def sE (y:List aa):Nat→Nat→Bool
 | 0,_=>false
 | k+1,i=>if yv y i < 0 then true else sE y k (i+1)
theorem O5 (hl:lA l) (hy:LB y 400000) {n:Nat} (ok:xD n l) (hyl:y.length=l.length):∀ k i,i+k=l.length→∃ r,aH (fun N fuel=>ey N l y fuel (lf n fun t=>cS l y t i) (aX (bS l y i)) (i:Int)) r ∧
  ((sE y k i=true∧r.2.2=false)∨(sE y k i=false∧r=(lf n fun t=>cS l y t l.length,aX (bS l y l.length),true)))
 | 0,i,hi=>by
  have hi:i=l.length:=by omega
  subst hi
  exact ⟨_,aH.succ (fun N g=>ey.eq_2 ..) (aH.aL fa (aH.one (Gv.pure _))),.inr ⟨rfl,rfl⟩⟩
 | k+1,i,hi=>by
  have mn:i < l.length:=by omega
  have hlen:=hl.len
  have Y9:=(Hn hy i).pR (by decide)
  rw [sE]
  by_cases h:yv y i < 0
  ·rw [if_pos h]
   refine ⟨([],aX (bS l y i),false),aH.succ (fun N g=>ey.eq_2 ..) (aH.ax (dec_lt mn) (aH.if (lQ mn) (aH.if (lQ (by omega)) (aH.bind (r:=pR (yv y i)) Y9 ?_)))),.inl ⟨rfl,rfl⟩⟩
   rw [Ee];exact aH.ax (decide_eq_true h) (aH.one (Gv.pure _))
  ·rw [if_neg h]
   obtain ⟨r,h1,h2⟩:=O5 hl hy ok hyl k (i+1) (by omega)
   refine ⟨r,aH.succ (fun N g=>ey.eq_2 ..) (aH.ax (dec_lt mn) (aH.if (lQ mn) (aH.if (lQ (by omega)) (aH.bind (r:=pR (yv y i)) Y9 ?_)))),h2⟩
   rw [Ee]
   refine aH.aL (decide_eq_false h) ?_
   have hB:RB (bS l y i) 24000181:=(Tj hl hy i).le (by omega)
   obtain ⟨N0,h3⟩:=Tk hl hy mn (by omega) (ok.co i mn) ok.Yv (bS l y i) hB _ 0 (Nat.zero_add _)
   obtain ⟨N1,h1⟩:=h1
   refine ⟨N0+N1,fun N fuel hN hf=>?_⟩
   have:=h3 N N (by omega) (by omega) (ey N l y fuel)
   have e:(lf n fun t=>if t < 0 then cS l y t (i+1) else cS l y t i)=lf n fun t=>cS l y t i:=Hm fun t _=>by rw [if_neg (by omega)]
   rw [e] at this
   exact this.trans (h1 N fuel (by omega) (by omega))
theorem Eg (hl:lA l) (hy:LB y 400000) {n:Nat} (ok:xD n l) (hyl:y.length=l.length):∃ r,Gv (fun N=>qc N n l y) r ∧
  ((sE y l.length 0=true∧r.2.2=false)∨(sE y l.length 0=false∧r=(lf n fun t=>cS l y t l.length,aX (bS l y l.length),true))):=by
 have hn:=ok.Yv
 obtain ⟨r,h1,h2⟩:=O5 hl hy ok hyl l.length 0 (by omega)
 refine ⟨r,Gv.if ⟨by omega,by omega,by omega⟩ ?_,h2⟩
 have:=(L9 (n:=n) (by omega) h1.diag n 0 (by omega)).diag
 rw [aj]
 exact this
end
end Go.Den
namespace Go.Den
open Go.Ab
def Ma (x:aa):Bool:=cond (decide (((x.fN.fL.length:Nat):Int) > 2)) true (decide (((x.fD.fL.length:Nat):Int) > 2))
theorem O6 {x:aa} (h:aa.wf x) (hb:Ma x=false):IR x 2:=by
 unfold Ma at hb
 by_cases h1:x.fN.fL.length≤2
 ·rw [decide_eq_false (by omega),cond_false] at hb
  have h2:=lB hb
  exact ⟨IB.OU h.1 h1,IB.OU h.2 (by omega)⟩
 ·rw [decide_eq_true (by omega)] at hb;cases hb
theorem I5 {p:cQ} {i:Nat} (yh:i < p.jT.length) (z9:(p.jT.getD i aE.d).bj.length≤20) (hlen:p.jT.length≤60) (hw:∀ x∈(p.jT.getD i aE.d).bj,aa.wf x):∀ k j,j+k=(p.jT.getD i aE.d).bj.length →
  (∀ N fuel K,k < fuel→bN N p (i:Int) K fuel (j:Int)=some false)∨((∀ N fuel K,k < fuel→bN N p (i:Int) K fuel (j:Int)=K ((i+1:Nat):Int))∧∀ t,j≤t→IR ((p.jT.getD i aE.d).bj.getD t aa.d) 2)
 | 0,j,hj=>.inr ⟨fun N fuel K hf=>by
  have hj:j=(p.jT.getD i aE.d).bj.length:=by omega
  subst hj
  obtain ⟨g,rfl⟩:∃ g,fuel=g+1:=⟨fuel - 1,by omega⟩
  rw [bN,if_pos (lQ yh),aj,fa,cond_false,bh (by omega)],fun t ht=>by rw [ze (by omega)];exact ird⟩
 | k+1,j,hj=>by
  have Qo:j < (p.jT.getD i aE.d).bj.length:=by omega
  have step:∀ N g K,bN N p (i:Int) K (g+1) (j:Int)=cond (Ma ((p.jT.getD i aE.d).bj.getD j aa.d)) (some false) (bN N p (i:Int) K g ((j+1:Nat):Int)):=fun N g K=>by
   rw [bN,if_pos (lQ yh),aj,dec_lt Qo,cond_true,if_pos (lQ Qo),if_pos (fun _=>lQ yh),if_pos (fun _=>lQ Qo),aj,bh (by omega)]
   rfl
  cases hb:Ma ((p.jT.getD i aE.d).bj.getD j aa.d) with
  | true =>
   refine .inl fun N fuel K hf=>?_
   obtain ⟨g,rfl⟩:∃ g,fuel=g+1:=⟨fuel - 1,by omega⟩
   rw [step,hb];rfl
  | false =>
   have hir:=O6 (OZ hw Qo) hb
   rcases I5 yh z9 hlen hw k (j+1) (by omega) with h | ⟨h,h2⟩
   ·refine .inl fun N fuel K hf=>?_
    obtain ⟨g,rfl⟩:∃ g,fuel=g+1:=⟨fuel - 1,by omega⟩
    rw [step,hb];exact h N g K (by omega)
   ·refine .inr ⟨fun N fuel K hf=>?_,fun t ht=>?_⟩
    ·obtain ⟨g,rfl⟩:∃ g,fuel=g+1:=⟨fuel - 1,by omega⟩
     rw [step,hb];exact h N g K (by omega)
    ·by_cases htj:t=j
     ·rw [htj];exact hir
     ·exact h2 t (by omega)
theorem I6 {p:cQ} (hlen:p.jT.length≤60) (hw:∀ x∈p.jT,aE.wf x):∀ k i,i+k=p.jT.length →
  aH (fun N fuel=>bt N p fuel (i:Int)) false∨(aH (fun N fuel=>bt N p fuel (i:Int)) true∧(∀ t,i≤t→Kc (p.jT.getD t aE.d))∧(eD p.Kw p.jT=0→p.Kw≤4∧p.jT.length≤7))
 | 0,i,hi=>by
  have hi:i=p.jT.length:=by omega
  subst hi
  have h:aH (fun N fuel=>bt N p fuel ((p.jT.length:Nat):Int)) (cond (eD p.Kw p.jT != 0) true (cond (decide (p.Kw≤4)) (decide (((p.jT.length:Nat):Int)≤7)) false)) :=
   aH.succ (fun N g=>bt.eq_2 ..) (aH.aL fa (aH.one ((AD _ _).bind (Gv.pure _))))
  cases hr:(cond (eD p.Kw p.jT != 0) true (cond (decide (p.Kw≤4)) (decide (((p.jT.length:Nat):Int)≤7)) false)) with
  | false=>rw [hr] at h;exact .inl h
  | true =>
   rw [hr] at h
   refine .inr ⟨h,fun t ht=>by rw [Td ht];exact Kc.d,fun hc=>?_⟩
   rw [hc] at hr
   by_cases h4:p.Kw≤4
   ·by_cases h7:p.jT.length≤7
    ·exact ⟨h4,h7⟩
    ·rw [decide_eq_true h4,decide_eq_false (by omega)] at hr;cases hr
   ·rw [decide_eq_false h4] at hr;cases hr
 | k+1,i,hi=>by
  have mn:i < p.jT.length:=by omega
  have ui:aE.wf (p.jT.getD i aE.d):=by
   have e:p.jT.getD i aE.d=p.jT[i]:=by simp [List.getD,mn]
   rw [e];exact hw _ (List.getElem_mem mn)
  by_cases h1:cond (Ma (p.jT.getD i aE.d).bK) true (decide ((((p.jT.getD i aE.d).bj.length:Nat):Int) > 20))=true
  ·left
   refine aH.succ (fun N g=>bt.eq_2 ..) (aH.ax (dec_lt mn) (aH.if (lQ mn) (aH.if (fun _=>lQ mn) (aH.if (fun _=>lQ mn) ?_))))
   rw [aj]
   exact aH.ax h1 (aH.one (Gv.pure _))
  ·have h1:cond (Ma (p.jT.getD i aE.d).bK) true (decide ((((p.jT.getD i aE.d).bj.length:Nat):Int) > 20))=false:=by simpa using h1
   have lP:Ma (p.jT.getD i aE.d).bK=false:=by
    revert h1;cases Ma (p.jT.getD i aE.d).bK<;>simp
   have h3:=h1
   rw [lP,cond_false] at h3
   have z9:(p.jT.getD i aE.d).bj.length≤20:=by have:=lB h3;omega
   have WR:∀ r,aH (fun N fuel=>bN N p (i:Int) (bt N p fuel) N 0) r→aH (fun N fuel=>bt N p fuel (i:Int)) r:=fun r hr=>by
    refine aH.succ (fun N g=>bt.eq_2 ..) (aH.ax (dec_lt mn) (aH.if (lQ mn) (aH.if (fun _=>lQ mn) (aH.if (fun _=>lQ mn) ?_))))
    rw [aj]
    exact aH.aL h1 hr
   rcases I5 mn z9 hlen ui.1.2 _ 0 (Nat.zero_add _) with h | ⟨h,h2⟩
   ·exact .inl (WR _ ⟨100,fun N fuel hN hf=>h N N _ (by omega)⟩)
   ·have key:∀ r,aH (fun N fuel=>bt N p fuel ((i+1:Nat):Int)) r→aH (fun N fuel=>bt N p fuel (i:Int)) r:=fun r hr=>by
     obtain ⟨N0,h0⟩:=hr
     exact WR _ ⟨N0+100,fun N fuel hN hf=>(h N N _ (by omega)).trans (h0 N fuel (by omega) (by omega))⟩
    rcases I6 hlen hw k (i+1) (by omega) with g | ⟨g,g2,g3⟩
    ·exact .inl (key _ g)
    ·refine .inr ⟨key _ g,fun t ht=>?_,g3⟩
     by_cases Vb:t=i
     ·rw [Vb]
      exact ⟨z9,fun j=>h2 j (Nat.zero_le _),O6 ui.2 lP⟩
     ·exact g2 t (by omega)
theorem Kf {p:cQ} (hp:cQ.wf p):Gv (fun N=>iR N p) false∨(Gv (fun N=>iR N p) true∧lA p.jT∧(eD p.Kw p.jT=0→p.Kw≤4∧p.jT.length≤7)):=by
 by_cases h:p.jT.length≤60
 ·rcases I6 h hp.2.2 p.jT.length 0 (by omega) with g | ⟨g,g2,g3⟩
  ·exact .inl (Gv.aL (decide_eq_false (by omega)) g.diag)
  ·exact .inr ⟨Gv.aL (decide_eq_false (by omega)) g.diag,⟨h,fun i=>g2 i (Nat.zero_le _)⟩,g3⟩
 ·exact .inl (Gv.ax (decide_eq_true (by omega)) (Gv.pure _))
section
variable {l:List aE} {y:List aa} {n:Nat}
def uU (f:Nat→Rat):Nat→Nat→Bool
 | 0,_=>false
 | k+1,i=>if f i=0 then uU f k (i+1) else true
theorem WS {f:Nat→Rat} (hn:n≤1000) (hf:∀ j,RB (f j) 24000181):∀ k i,i+k=n→∃ r,aH (fun N fuel=>bX N (lf n f) fuel (i:Int)) r∧decide (r≥0)=uU f k i
 | 0,i,hi=>by
  have e:decide ((i:Int) < (((lf n f).length:Nat):Int))=false:=by rw [zl];exact decide_eq_false (by omega)
  exact ⟨-1,aH.succ (fun N g=>bX.eq_2 ..) (aH.aL e (aH.one (Gv.pure _))),rfl⟩
 | k+1,i,hi=>by
  have mn:i < (lf n f).length:=by rw [zl];omega
  obtain ⟨r,h1,h2⟩:=WS hn hf k (i+1) (by omega)
  have hp:Gv (fun N=>iG N ((lf n f).getD i aa.d)) (!decide (f i=0)):=by
   rw [Ke (by omega)]
   exact (((hf i).rq (by decide)).zero (by decide)).bind (Gv.pure _)
  rw [uU]
  by_cases h:f i=0
  ·rw [if_pos h]
   refine ⟨r,aH.succ (fun N g=>bX.eq_2 ..) (aH.ax (dec_lt mn) (aH.if (lQ mn) (aH.bind hp (aH.aL (by rw [decide_eq_true h];rfl) ?_)))),h2⟩
   rw [bh (by omega)];exact h1
  ·rw [if_neg h]
   exact ⟨(i:Int),aH.succ (fun N g=>bX.eq_2 ..) (aH.ax (dec_lt mn) (aH.if (lQ mn) (aH.bind hp (aH.ax (by rw [decide_eq_false h];rfl) (aH.one (Gv.pure _)))))),decide_eq_true (by omega)⟩
theorem aaS {f:Nat→Rat} (hn:n≤1000) (hf:∀ j,RB (f j) 24000181):Gv (fun N=>hH N (lf n f)) (uU f n 0):=by
 obtain ⟨r,h1,h2⟩:=WS hn hf n 0 (by omega)
 refine Gv.bind h1.diag ?_
 rw [h2];exact Gv.pure _
theorem aaT (hl:lA l) (hy:LB y 400000):RB (bS l y l.length) 24000181:=(Tj hl hy _).le (by have:=hl.len;omega)
theorem aaU (hl:lA l) (hy:LB y 400000) (j:Nat):RB (cS l y j l.length) 24000181:=(Ti hl hy j _).le (by have:=hl.len;omega)
def contra (l:List aE) (y:List aa) (n:Nat):Bool:=!sE y y.length 0 && decide (bS l y l.length < 0) && !uU (fun j=>cS l y j l.length) n 0
def qN (n:Int) (l:List aE) (y:List aa):Int:=if eD n l≠0 then eD n l else if y.length≠l.length then 11 else cond (contra l y n.toNat) 0 24
theorem yg (hl:lA l) (hy:LB y 400000) (n:Int):Gv (fun N=>jG N n l y) (qN n l y):=by
 refine (ta _ _).bind ?_
 unfold qN
 by_cases h:eD n l≠0
 ·rw [if_pos h];exact Gv.ax (by simpa using h) (Gv.pure _)
 ·rw [if_neg h]
  refine Gv.aL (by simpa using h) ?_
  by_cases h1:y.length≠l.length
  ·rw [if_pos h1];exact Gv.ax (by simp;omega) (Gv.pure _)
  ·rw [if_neg h1]
   have h1:y.length=l.length:=Decidable.not_not.1 h1
   obtain ⟨n0,ok⟩:=Hj (Decidable.not_not.1 h)
   have hn:=ok.Yv
   obtain ⟨m,rfl⟩:∃ m:Nat,n=m:=⟨n.toNat,by omega⟩
   rw [aj] at ok hn ⊢
   refine Gv.aL (by simp;omega) ?_
   obtain ⟨r,g1,g2⟩:=Eg hl hy ok h1
   refine g1.bind ?_
   unfold contra
   rw [h1]
   rcases g2 with ⟨g2,g3⟩ | ⟨g2,rfl⟩
   ·rw [g2,g3]
    exact Gv.bind (Gv.aL rfl (Gv.pure 0)) (Gv.bind (Gv.aL rfl (Gv.pure false)) (Gv.ax rfl (Gv.pure _)))
   ·rw [g2]
    refine Gv.bind (Gv.ax rfl (((aaT hl hy).rq (by decide)).pR (by decide))) ?_
    rw [Nx]
    by_cases hb:0≤bS l y l.length
    ·rw [decide_eq_true hb,decide_eq_false (show ¬ bS l y l.length < 0 by grind)]
     exact Gv.bind (Gv.aL rfl (Gv.pure false)) (Gv.ax rfl (Gv.pure _))
    ·rw [decide_eq_false hb,decide_eq_true (show bS l y l.length < 0 by grind)]
     refine Gv.bind (Gv.ax rfl (aaS (by omega) (aaU hl hy))) ?_
     cases uU (fun j=>cS l y j l.length) m 0 with
     | true=>exact Gv.ax rfl (Gv.pure _)
     | false=>exact Gv.aL rfl (Gv.pure _)
variable {c:List aa} {b:j4} {v:Rat}
def Yx (c:List aa) (l:List aE) (y:List aa) (j:Nat):Rat:=cS l y j l.length - qv (c.getD j aa.d)
def I7 (c:List aa) (l:List aE) (b:j4):Bool :=
 !kI l b.cu l.length 0 && !sE b.bA b.bA.length 0 && decide (bS l b.bA l.length - qv b.g8=0) && decide (Bl c b.cu - qv b.g8=0) && !uU (Yx c l b.bA) c.length 0
def qp (c:List aa) (l:List aE) (b:j4):Int :=
 if eD c.length l≠0 then eD c.length l else if b.cu.length≠c.length∨b.bA.length≠l.length then 11 else cond (I7 c l b) 0 24
theorem Kg {q:Rat}:(pR q != 0)=!decide (q=0):=by
 by_cases h:q=0
 ·rw [h];rfl
 ·rw [decide_eq_false h];simp;exact fun h'=>h (Ck.1 h')
theorem O7 (hl:lA l) (hy:LB y 400000) (hc:LB c 12) {B:aa}:∀ k j,j+k=c.length→aH (fun N fuel=>gn N c (lf c.length fun t=>cS l y t l.length,B,true) fuel (j:Int)) (cond (uU (Yx c l y) k j) 24 0)
 | 0,j,hj=>by
  have e:decide ((j:Int) < ((((lf c.length fun t=>cS l y t l.length,B,true):List aa×aa×Bool).1.length:Nat):Int))=false:=by
   show decide ((j:Int) < (((lf c.length fun t=>cS l y t l.length).length:Nat):Int))=false
   rw [zl];exact decide_eq_false (by omega)
  exact aH.succ (fun N g=>gn.eq_2 ..) (aH.aL e (aH.one (Gv.pure _)))
 | k+1,j,hj=>by
  have hlen:=hc.len
  have Qo:j < (lf c.length fun t=>cS l y t l.length).length:=by rw [zl];omega
  refine aH.succ (fun N g=>gn.eq_2 ..) (aH.ax (dec_lt Qo) (aH.if (lQ Qo) (aH.if (lQ (by omega)) (aH.bind (r:=pR (Yx c l y j)) ?_ ?_))))
  ·rw [aj]
   have:Gv (fun N=>gI N ((lf c.length fun t=>cS l y t l.length).getD j aa.d) (c.getD j aa.d)) (pR (Yx c l y j)):=by
    rw [Ke (by omega)];exact ((aaU hl hy j).rq (by decide)).cmp (hc.rq (by decide) j) (by decide)
   exact this
  ·rw [Kg,uU]
   by_cases h:Yx c l y j=0
   ·rw [if_pos h]
    refine aH.aL (by rw [decide_eq_true h];rfl) ?_
    rw [bh (by omega)];exact O7 hl hy hc k (j+1) (by omega)
   ·rw [if_neg h]
    exact aH.ax (by rw [decide_eq_false h];rfl) (aH.one (Gv.pure _))
theorem xE (hl:lA l) (hc:LB c 12) (hx:LB b.cu 400000) (hy:LB b.bA 400000) (hv:RQ b.g8 (qv b.g8) 400000):Gv (fun N=>mz N c l b) (qp c l b):=by
 refine (ta _ _).bind ?_
 unfold qp
 by_cases h:eD c.length l≠0
 ·rw [if_pos h];exact Gv.ax (by simpa using h) (Gv.pure _)
 ·rw [if_neg h]
  refine Gv.aL (by simpa using h) ?_
  have e0:cond (((b.cu.length:Nat):Int) != ((c.length:Nat):Int)) true (((b.bA.length:Nat):Int) != ((l.length:Nat):Int))=decide (b.cu.length≠c.length∨b.bA.length≠l.length):=by
   by_cases h1:b.cu.length=c.length<;>by_cases h2:b.bA.length=l.length<;>simp [h1,h2]<;>omega
  rw [e0]
  by_cases h1:b.cu.length≠c.length∨b.bA.length≠l.length
  ·rw [if_pos h1];exact Gv.ax (decide_eq_true h1) (Gv.pure _)
  ·rw [if_neg h1]
   refine Gv.aL (decide_eq_false h1) ?_
   have h2:b.cu.length=c.length:=by omega
   have h3:b.bA.length=l.length:=by omega
   obtain ⟨n0,ok⟩:=Hj (Decidable.not_not.1 h)
   rw [aj] at ok
   obtain ⟨r,g1,g2⟩:=Eg hl hy ok h3
   refine g1.bind ?_
   unfold I7
   rw [h3]
   rcases g2 with ⟨g2,g3⟩ | ⟨g2,rfl⟩
   ·rw [g2,g3,Bool.not_true,Bool.and_false,Bool.false_and,Bool.false_and,Bool.false_and]
    exact Gv.bind (Gv.aL rfl (Gv.pure false)) (Gv.bind (Gv.aL rfl (Gv.pure aa.d)) (Gv.bind (Gv.aL rfl (Gv.pure 0)) (Gv.bind (Gv.aL rfl (Gv.pure 0)) (Gv.ax rfl (Gv.pure _)))))
   ·rw [g2]
    refine Gv.bind (Gv.ax rfl (Cu hl hx (fun i hi=>by have:=ok.co i hi;omega))) ?_
    cases kI l b.cu l.length 0 with
    | true=>exact Gv.bind (Gv.aL rfl (Gv.pure aa.d)) (Gv.bind (Gv.aL rfl (Gv.pure 0)) (Gv.bind (Gv.aL rfl (Gv.pure 0)) (Gv.ax rfl (Gv.pure _))))
    | false =>
     have hd:=Kd hc hx
     refine Gv.bind (Gv.ax rfl (Tf hc hx (by omega))) (Gv.bind (Gv.ax rfl ((hd.rq (by decide)).cmp hv (by decide))) ?_)
     rw [Kg]
     by_cases Y7:Bl c b.cu - qv b.g8=0
     ·rw [decide_eq_true Y7]
      refine Gv.bind (Gv.ax rfl (((aaT hl hy).rq (by decide)).cmp hv (by decide))) ?_
      rw [Kg]
      by_cases hbv:bS l b.bA l.length - qv b.g8=0
      ·rw [decide_eq_true hbv]
       refine Gv.aL rfl ((O7 hl hy hc c.length 0 (by omega)).diag.eq ?_)
       cases uU (Yx c l b.bA) c.length 0<;>rfl
      ·rw [decide_eq_false hbv]
       exact Gv.ax rfl ((Gv.pure _).eq (by simp))
     ·rw [decide_eq_false Y7]
      exact Gv.bind (Gv.aL rfl (Gv.pure 0)) (Gv.ax rfl ((Gv.pure _).eq (by simp)))
end
end Go.Den
namespace Go.Den
open Go.Ab
theorem zo {α:Type} (f:Nat→α) (n:Nat):Bq f n ++ [f n]=Bq f (n+1):=by
 unfold Bq;rw [List.range_succ,List.map_append];rfl
section
variable {n:Nat} {l:List aE}
abbrev D0 (n:Nat) (l:List aE):bp:=bp.fst n l.length (cf l) (bv l) 0
def TB (n:Nat) (l:List aE):jq :=
 ⟨n,((l.length:Nat):Int),LN (D0 n l).eV l.length,LN (D0 n l).fr (2 * n+1),LA (D0 n l).a l.length (2 * n+1),LQ (bv l) l.length,LQ (D0 n l).g (2 * n+1),aX 0,((2 * n+l.length:Nat):Int)⟩
theorem WT (hn:n≤12):ao (2 * (n:Int))=((2 * n:Nat):Int):=by rw [bC (by omega) (by omega)];omega
theorem Tl (hn:n≤12) {t t2:List Int} {t3:List (List aa)} {t4:List aa} (hl:l.length≤40) (h1:t=LN (fun j=>j) (2 * n)) (h2:t2=LN (D0 n l).eV l.length) (h3:t3=LA (D0 n l).a l.length (2 * n+1)) (h4:t4=LQ (bv l) l.length) :
  ∀ (d x:Nat) (L:List aa),x+d=2 * n+1→L.length=2 * n+1→(∀ j,j < x→L.getD j aa.d=aX 0) →
  aH (fun N g=>kV N (n:Int) l (aX 0) t t2 t3 t4 g L (x:Int)) (TB n l)
 | 0,x,L,hx,hL,h0=>by
  refine aH.succ (fun N g=>kV.eq_2 ..) (aH.aL (LY (m:=x) (n:=2 * n+1) (by omega) (by rw [de,WT hn,bh (by omega)];rfl)) (aH.one ((Gv.pure _).eq ?_)))
  have e1:ao (((2 * n:Nat):Int)+((l.length:Nat):Int))=((2 * n+l.length:Nat):Int):=by rw [bC (by omega) (by omega)];omega
  have e2:L=LQ (D0 n l).g (2 * n+1):=DQ aa.d hL fun j hj=>by
   rw [h0 j (by omega)];simp only [bp.fst];split<;>rfl
  have e3:t ++ [((2 * n+l.length:Nat):Int)]=LN (D0 n l).fr (2 * n+1):=by
   have h:=zo (fun j=>(((D0 n l).fr j:Nat):Int)) (2 * n)
   have h5:(D0 n l).fr (2 * n)=2 * n+l.length:=by simp only [bp.fst];rw [if_neg (by omega)]
   rw [h5] at h
   unfold LN
   rw [← h,h1];unfold LN
   congr 1
   exact qL fun j hj=>by simp only [bp.fst];rw [if_pos hj]
  rw [WT hn,e1,e3,h2,h3,h4,e2];rfl
 | d+1,x,L,hx,hL,h0=>by
  have qo:x < 2 * n+1:=by omega
  refine aH.succ (fun N g=>kV.eq_2 ..) (aH.ax (Ky (n:=2 * n+1) qo (by rw [de,WT hn,bh (by omega)];rfl)) (aH.bind s9 (aH.if (inl qo hL) ?_)))
  rw [bh (show x < 9223372036854775807 by omega)]
  refine Tl hn hl h1 h2 h3 h4 d (x+1) _ (by omega) (by rw [List.length_set];exact hL) fun j hj=>?_
  rw [aj]
  by_cases e:x=j
  ·subst e;exact lN _ _ _ _ (by omega)
  ·rw [jj _ _ _ e];exact h0 j (by omega)
theorem Tm (hn:n≤12) (hl:lA l) (QD:l.length≤40) {i:Nat} (hi:i < l.length) (z9:(l.getD i aE.d).bj.length≤n) {t t2:List Int} {t3:List (List aa)} {t4:List aa} (h3:t3.length=i) (h4:t4.length=i) {rn:aa}:∀ (d x:Nat) (L:List aa),x+d=n→L.length=2 * n+1 →
  (∀ j,j < x→L.getD j aa.d=aX (-(cf l i j))∧L.getD (n+j) aa.d=aX (cf l i j)) →
  Ev fun N g=>∀ K,fR N (n:Int) l rn t t2 t3 t4 (i:Int) K g L (x:Int)=K (t2 ++ [((2 * n+i:Nat):Int)]) (t3 ++ [LQ ((D0 n l).a i) (2 * n+1)]) (t4 ++ [aX (bv l i)]) ((i+1:Nat):Int)
 | 0,x,L,hx,hL,h0=>by
  have CR:=(hl.row i).WO.low (by decide)
  refine Ev.succ (((lM (z:=1) (by decide) (by decide)).ev.and CR.ev).mono fun N g ⟨q1,q2⟩ K=>?_)
  have e1:ao (((2 * n:Nat):Int)+(i:Int))=((2 * n+i:Nat):Int):=by rw [bC (by omega) (by omega)];omega
  have hb:jl N ⟨((l.getD i aE.d).bK).fN,((l.getD i aE.d).bK).fD⟩=some (aX (bv l i)):=q2
  have eL:L.set (2 * n) (aX ((1:Int):Rat))=LQ ((D0 n l).a i) (2 * n+1):=by
   refine DQ aa.d (by rw [List.length_set];exact hL) fun j hj=>?_
   simp only [bp.fst]
   by_cases e:2 * n=j
   ·rw [← e,lN _ _ _ _ (by omega),if_neg (by omega),if_neg (by omega)];rfl
   ·rw [jj _ _ _ e]
    by_cases h:j < n
    ·rw [if_pos h];exact (h0 j (by omega)).1
    ·rw [if_neg h,if_pos (by omega)]
     have:=(h0 (j - n) (by omega)).2
     rwa [show n+(j - n)=j by omega] at this
  rw [fR,show decide ((x:Int) < (n:Int))=false from decide_eq_false (by omega),cond_false,q1,bO,WT hn,aj,aj,if_pos (inl (show 2 * n < 2 * n+1 by omega) hL),if_pos (by omega),hb,bO,if_pos (by omega),e1,eL,bh (by omega)]
 | d+1,x,L,hx,hL,h0=>by
  have Ua:x < n:=by omega
  have e1:ao ((n:Int)+(x:Int))=((n+x:Nat):Int):=by rw [bC (by omega) (by omega)];omega
  have hC:RB (cf l i x) 2:=⟨(((hl.row i).co x).rb (by decide)).num,(((hl.row i).co x).rb (by decide)).den⟩
  have rP:Gv (fun N=>ej N (aX (cf l i x))) (aX (-(cf l i x))):=by
   have:=nH (hC.q (show 2≤MS by decide)).ir (by decide) (E2 (by decide));rwa [jo] at this
  have ih:=Tm hn hl QD hi z9 h3 h4 (t:=t) (t2:=t2) (rn:=rn) d (x+1) ((L.set x (aX (-(cf l i x)))).set (n+x) (aX (cf l i x))) (by omega) (by rw [List.length_set,List.length_set];exact hL) fun j hj=>by
   by_cases e:j=x
   ·subst e
    refine ⟨?_,lN _ _ _ _ (by rw [List.length_set];omega)⟩
    rw [jj _ _ _ (by omega),lN _ _ _ _ (by omega)]
   ·rw [jj _ _ _ (show n+x≠j by omega),jj _ _ _ (show x≠j by omega),jj _ _ _ (show n+x≠n+j by omega),jj _ _ _ (show x≠n+j by omega)]
    exact h0 j (by omega)
  have fin:∀ N g K,ej N (aX (cf l i x))=some (aX (-(cf l i x)))→(fR N (n:Int) l rn t t2 t3 t4 (i:Int) K g ((L.set x (aX (-(cf l i x)))).set (n+x) (aX (cf l i x))) ((x+1:Nat):Int)=K (t2 ++ [((2 * n+i:Nat):Int)]) (t3 ++ [LQ ((D0 n l).a i) (2 * n+1)]) (t4 ++ [aX (bv l i)]) ((i+1:Nat):Int)) →
    nR N (n:Int) l rn t t2 t3 t4 (i:Int) L (x:Int) (fR N (n:Int) l rn t t2 t3 t4 (i:Int) K g) K (aX (cf l i x))=K (t2 ++ [((2 * n+i:Nat):Int)]) (t3 ++ [LQ ((D0 n l).a i) (2 * n+1)]) (t4 ++ [aX (bv l i)]) ((i+1:Nat):Int):=fun N g K q1 q2=>by
   unfold nR
   rw [q1,bO,e1,aj,aj,if_pos (inl (show x < 2 * n+1 by omega) hL),if_pos (inl (show n+x < 2 * n+1 by omega) hL),bh (by omega)]
   exact q2
  by_cases hc:x < (l.getD i aE.d).bj.length
  ·have CR:=(L8 hl i x).low (by decide)
   refine Ev.succ (((s9.ev.and rP.ev).and (CR.ev.and ih)).mono fun N g ⟨⟨q1,q2⟩,q3,q4⟩ K=>?_)
   have q3':jl N ⟨(((l.getD i aE.d).bj).getD x aa.d).fN,(((l.getD i aE.d).bj).getD x aa.d).fD⟩=some (aX (cf l i x)):=q3
   rw [fR,show decide ((x:Int) < (n:Int))=true from decide_eq_true (by omega),cond_true,q1,bO,aj,aj,dec_lt hc,cond_true,if_pos (lQ hc),q3',bO]
   exact fin N g K q2 (q4 K)
  ·have hz:cf l i x=0:=WQ (by omega)
   refine Ev.succ (((s9.ev.and rP.ev).and ih).mono fun N g ⟨⟨q1,q2⟩,q4⟩ K=>?_)
   rw [fR,show decide ((x:Int) < (n:Int))=true from decide_eq_true (by omega),cond_true,q1,bO,aj,decide_eq_false (by omega),cond_false,← hz]
   exact fin N g K q2 (q4 K)
theorem Tn (hn:n≤12) (hl:lA l) (QD:l.length≤40) (z9:∀ i,i < l.length→(l.getD i aE.d).bj.length≤n):∀ d x,x+d=l.length →
  aH (fun N g=>jC N (n:Int) l (aX 0) (LN (fun j=>j) (2 * n)) g (LN (D0 n l).eV x) (LA (D0 n l).a x (2 * n+1)) (LQ (bv l) x) (x:Int)) (TB n l)
 | 0,x,hx=>by
  have hx:x=l.length:=by omega
  subst hx
  refine aH.succ (fun N g=>jC.eq_2 ..) (aH.aL fa ?_)
  have ew:ao (ao (2 * (n:Int))+1)=((2 * n+1:Nat):Int):=by rw [WT hn,bh (by omega)]
  rw [ew,aj]
  refine aH.if (by omega) (aH.one ?_)
  exact (Tl hn QD rfl rfl rfl rfl (2 * n+1) 0 (List.replicate (2 * n+1) aa.d) (by omega) de fun j hj=>absurd hj (dP _)).diag
 | d+1,x,hx=>by
  have xz:x < l.length:=by omega
  have ew:ao (ao (2 * (n:Int))+1)=((2 * n+1:Nat):Int):=by rw [WT hn,bh (by omega)]
  obtain ⟨N1,h1⟩:=(Tm hn hl QD xz (z9 x xz) (t:=LN (fun j=>j) (2 * n)) (t2:=LN (D0 n l).eV x) (jb (D0 n l).a x (2 * n+1)) (bP (bv l) x) (rn:=aX 0) n 0 (List.replicate (2 * n+1) aa.d) (by omega) de fun j hj=>absurd hj (dP _))
  obtain ⟨N2,h2⟩:=Tn hn hl QD z9 d (x+1) (by omega)
  refine aH.succ (fun N g=>jC.eq_2 ..) (aH.ax (dec_lt xz) (aH.if (lQ xz) (aH.if (by rw [eO];omega) ?_)))
  rw [ew,aj]
  refine aH.if (by omega) ⟨N1+N2,fun N g hN hg=>?_⟩
  have e1:=zo (fun i=>(((D0 n l).eV i:Nat):Int)) x
  have e2:=zo (fun i=>LQ ((D0 n l).a i) (2 * n+1)) x
  have e3:=zo (fun i=>aX (bv l i)) x
  have It:=h1 N N (by omega) (by omega) (jC N (n:Int) l (aX 0) (LN (fun j=>j) (2 * n)) g)
  refine It.trans ?_
  have V2:=h2 N g (by omega) (by omega)
  unfold LN LA LQ at V2 ⊢
  unfold LQ at e2
  rw [← e1,← e2,← e3] at V2
  exact V2
theorem To (hn:n≤12) (hl:lA l) (QD:l.length≤40) (z9:∀ i,i < l.length→(l.getD i aE.d).bj.length≤n):∀ d x,x+d=2 * n →
  aH (fun N g=>kW N (n:Int) l (aX 0) g (LN (fun j=>j) x) (x:Int)) (TB n l)
 | 0,x,hx=>by
  have hx:x=2 * n:=by omega
  subst hx
  refine aH.succ (fun N g=>kW.eq_2 ..) (aH.aL (by rw [WT hn];exact decide_eq_false (by omega)) (aH.if (by rw [eO];omega) (aH.one ?_)))
  exact (Tn hn hl QD z9 l.length 0 (by omega)).diag
 | d+1,x,hx=>by
  refine aH.succ (fun N g=>kW.eq_2 ..) (aH.ax (by rw [WT hn];exact decide_eq_true (by omega)) (aH.if (by rw [eO];omega) ?_))
  have e1:=zo (fun i=>((i:Nat):Int)) x
  have ih:=To hn hl QD z9 d (x+1) (by omega)
  rw [bh (by omega)]
  unfold LN at ih ⊢
  rw [← e1] at ih
  exact ih
theorem Tp (hn:n≤12) (hl:lA l) (QD:l.length≤40) (z9:∀ i,i < l.length→(l.getD i aE.d).bj.length≤n):Gv (fun N=>vV N (n:Int) l) (TB n l) :=
 s9.bind (To hn hl QD z9 (2 * n) 0 (by omega)).diag
theorem Kh (hl:lA l):(D0 n l).G9 l.length (2 * n+1) 2:=by
 have hC:∀ i j,RB (cf l i j) 2:=fun i j=>(L8 hl i j).rb
 refine ⟨fun i j _ _=>?_,fun i _=>(hl.row i).WO.rb,fun j _=>?_,RB.zero.le (by decide)⟩
 ·simp only [bp.fst]
  split
  ·exact (hC i j).neg
  ·split
   ·exact hC i _
   ·exact bp.Yo.le (by decide)
 ·simp only [bp.fst];split<;>exact RB.zero.le (by decide)
end
section
variable {n m k h s:Nat} {D:bp}
theorem O8 (hm:m≤1000) (hn:n≤400) (hk:k≤1000) (hs:s≤MS) (hw:D.WF m k) (hg:∀ j,j < k→RB (D.g j) s):∀ (d x:Nat) (L:List aa),x+d=m→L.length=m→(∀ i,i < x→L.getD i aa.d=aX (-(D.gc k (2 * n+i)))) →
  aH (fun N g=>bT N (n:Int) (m:Int) (aX D.v).fN.fG (aX D.v).fN.fL (aX D.v).fD.fG (aX D.v).fD.fL (h:Int) (LN D.eV m) (LN D.fr k) (LA D.a m k) (LQ D.b m) (LQ D.g k) g L (x:Int)) (LQ (fun i=>-(D.gc k (2 * n+i))) m)
 | 0,x,L,hx,hL,h0=>aH.succ (fun N g=>bT.eq_2 ..) (aH.aL (LY (m:=x) (n:=m) (by omega) (by rw [de];rfl)) (aH.one ((Gv.pure _).eq (DQ aa.d hL fun i hi=>h0 i (by omega)))))
 | d+1,x,L,hx,hL,h0=>by
  have rX:x < m:=by omega
  have ew:ao (ao (2 * (n:Int))+(x:Int))=((2 * n+x:Nat):Int):=by
   rw [show ao (2 * (n:Int))=((2 * n:Nat):Int) by rw [bC (by omega) (by omega)];omega,bC (by omega) (by omega)];omega
  obtain ⟨r,q1,q2⟩:=Bk (f:=D.fr) (k:=k) (v:=2 * n+x) hk
  have nx:∀ (y:aa),y=aX (-(D.gc k (2 * n+x)))→∀ L2:List aa,L2=L.set x y→aH (fun N g=>bT N (n:Int) (m:Int) (aX D.v).fN.fG (aX D.v).fN.fL (aX D.v).fD.fG (aX D.v).fD.fL (h:Int) (LN D.eV m) (LN D.fr k) (LA D.a m k) (LQ D.b m) (LQ D.g k) g L2 ((x+1:Nat):Int)) (LQ (fun i=>-(D.gc k (2 * n+i))) m):=fun y hy L2 e2=>by
   subst e2
   refine O8 hm hn hk hs hw hg d (x+1) _ (by omega) (by rw [List.length_set];exact hL) fun i hi=>?_
   by_cases e:x=i
   ·subst e;rw [lN _ _ _ _ (by omega)];exact hy
   ·rw [jj _ _ _ e];exact h0 i (by omega)
  refine aH.succ (fun N g=>bT.eq_2 ..) (aH.ax (Ky (n:=m) rX (by rw [de];rfl)) (aH.bind s9 (aH.if (inl rX hL) ?_)))
  rw [ew]
  refine aH.bind q1 ?_
  simp only [fe,aj,bh (show x < 9223372036854775807 by omega)]
  rcases q2 with ⟨rfl,q2⟩ | ⟨j,rfl,hj,q2⟩
  ·exact aH.aL (by decide) (nx _ (by rw [bp.Cr q2];rfl) _ rfl)
  ·have hgj:=hg j hj
   refine aH.ax (by simp) (aH.if (inl hj (bP _ _)) ?_)
   simp only [gZ _ _ hj,aj,List.set_set]
   refine aH.bind (r:=aX (-(D.g j))) (by have:=nH (hgj.q hs).ir (by decide) (E2 (by decide));rwa [jo] at this) (aH.if (inl rX (by rw [List.length_set];exact hL)) ?_)
   exact nx _ (by rw [← q2,bp.L4 hw hj]) _ rfl
theorem O9 (hm:m≤1000) (hn:n≤400) (hk:k≤1000) (hs:s≤MS) (hw:D.WF m k) (hg:∀ j,j < k→RB (D.g j) s) :
  Gv (fun N=>eZ N (n:Int) (m:Int) (aX D.v).fN.fG (aX D.v).fN.fL (aX D.v).fD.fG (aX D.v).fD.fL (h:Int) (LN D.eV m) (LN D.fr k) (LA D.a m k) (LQ D.b m) (LQ D.g k)) (LQ (fun i=>-(D.gc k (2 * n+i))) m) :=
 Gv.if (by omega) (O8 hm hn hk hs hw hg m 0 (List.replicate m aa.d) (by omega) de fun i hi=>absurd hi (dP _)).diag
def nL (D:bp) (m u:Nat):Rat:=match D.T8 m u with
 | some i=>D.b i
 | none=>0
theorem Aa (D:bp) (m k u:Nat):nL D m u=D.ext m k bp.qX u:=by
 unfold nL bp.ext
 cases D.T8 m u with
 | none=>rfl
 | some i=>simp only [bp.s8]
theorem WU (hm:m≤1000) (hw:∀ i i',i < m→i' < m→D.eV i=D.eV i'→i=i') (u:Nat) :
  Gv (fun N=>nm N (u:Int) (n:Int) (m:Int) (aX D.v).fN.fG (aX D.v).fN.fL (aX D.v).fD.fG (aX D.v).fD.fL (h:Int) (LN D.eV m) (LN D.fr k) (LA D.a m k) (LQ D.b m) (LQ D.g k)) (aX (nL D m u)):=by
 obtain ⟨r,q1,q2⟩:=Bk (f:=D.eV) (k:=m) (v:=u) hm
 refine Gv.bind q1 ?_
 rcases q2 with ⟨rfl,q2⟩ | ⟨i,rfl,hi,q2⟩
 ·refine Gv.aL (by decide) (s9.bind ((Gv.pure _).eq ?_))
  unfold nL;rw [bp.mj q2]
 ·refine Gv.ax (by simp) (Gv.if (inl hi (bP _ _)) ((Gv.pure _).eq ?_))
  simp only [aj,gZ _ _ hi]
  unfold nL;rw [← q2,bp.qm hw hi]
theorem Mb (hm:m≤1000) (hn:n≤400) (hs:2 * s+1≤MS) (hw:∀ i i',i < m→i' < m→D.eV i=D.eV i'→i=i') (hp:∀ u,RB (nL D m u) s):∀ (d x:Nat) (L:List aa),x+d=n→L.length=n→(∀ i,i < x→L.getD i aa.d=aX (nL D m i - nL D m (n+i))) →
  aH (fun N g=>dZ N (n:Int) (m:Int) (aX D.v).fN.fG (aX D.v).fN.fL (aX D.v).fD.fG (aX D.v).fD.fL (h:Int) (LN D.eV m) (LN D.fr k) (LA D.a m k) (LQ D.b m) (LQ D.g k) g L (x:Int)) (LQ (fun i=>nL D m i - nL D m (n+i)) n)
 | 0,x,L,hx,hL,h0=>aH.succ (fun N g=>dZ.eq_2 ..) (aH.aL (LY (m:=x) (n:=n) (by omega) (by rw [de];rfl)) (aH.one ((Gv.pure _).eq (DQ aa.d hL fun i hi=>h0 i (by omega)))))
 | d+1,x,L,hx,hL,h0=>by
  have Ua:x < n:=by omega
  have ew:ao ((n:Int)+(x:Int))=((n+x:Nat):Int):=by rw [bC (by omega) (by omega)];omega
  have r1:=(hp x).q (show s≤MS by omega)
  have r2:=(hp (n+x)).q (show s≤MS by omega)
  refine aH.succ (fun N g=>dZ.eq_2 ..) (aH.ax (Ky (n:=n) Ua (by rw [de];rfl)) (aH.bind (WU hm hw x) ?_))
  rw [ew]
  refine aH.bind (WU hm hw (n+x)) (aH.bind (r1.sub r2 (E2 (by decide))) (aH.if (inl Ua hL) ?_))
  rw [bh (show x < 9223372036854775807 by omega),aj]
  refine Mb hm hn hs hw hp d (x+1) _ (by omega) (by rw [List.length_set];exact hL) fun i hi=>?_
  by_cases e:x=i
  ·subst e;exact lN _ _ _ _ (by omega)
  ·rw [jj _ _ _ e];exact h0 i (by omega)
theorem Tr (hm:m≤1000) (hn:n≤400) (hs:2 * s+1≤MS) (hw:∀ i i',i < m→i' < m→D.eV i=D.eV i'→i=i') (hp:∀ u,RB (nL D m u) s) :
  Gv (fun N=>k8 N (n:Int) (m:Int) (aX D.v).fN.fG (aX D.v).fN.fL (aX D.v).fD.fG (aX D.v).fD.fL (h:Int) (LN D.eV m) (LN D.fr k) (LA D.a m k) (LQ D.b m) (LQ D.g k)) (LQ (fun i=>nL D m i - nL D m (n+i)) n) :=
 Gv.if (by omega) (Mb hm hn hs hw hp n 0 (List.replicate n aa.d) (by omega) de fun i hi=>absurd hi (dP _)).diag
end
end Go.Den
namespace Go.Den
open Go.Ab
section
variable {n:Nat} {l:List aE}
structure Yy (n:Nat) (l:List aE) (y:Nat→Rat):Prop where
 nn:∀ i,i < l.length→0≤y i
 col:∀ j,j < n→bJ l.length (fun i=>y i * cf l i j)=0
 neg:bJ l.length (fun i=>y i * bv l i) < 0
 rb:∀ i,i < l.length→RB (y i) 400000
structure Poi (n:Nat) (l:List aE) (x:Nat→Rat):Prop where
 ok:∀ i,i < l.length→bp.jd n (cf l) x i≤bv l i
 rb:∀ j,j < n→RB (x j) 400000
theorem Qg {m:Nat} (hm:m≤7):5 ^ m * 2≤156250:=by
 have:5 ^ m≤5 ^ 7:=Nat.pow_le_pow_right (by decide) hm
 have e:(5:Nat) ^ 7=78125:=by decide
 omega
theorem Ki {D:bp} (hl:lA l) (h7:l.length≤7) (h:Fi n l.length (cf l) (bv l) D):Yy n l (fun i=>-(D.gc (2 * n+1) (2 * n+i)))∧∀ j,j < 2 * n+1→RB (D.g j) 156250:=by
 obtain ⟨q1,q2,q3⟩:=bp.aaO h.wf h.eqv h.g
 have hr:=bp.size h.wf (bp.DP n l.length (cf l) (bv l) (-1)) h.eqv (O4 (-1) (bp.Yo.neg.le (by decide)) (Kh hl)) (by decide:1≤2)
 have hp:=Qg h7
 refine ⟨⟨fun i _=>by have:=q1 (2 * n+i);grind,q2,by rw [q3];exact h.v,fun i _=>?_⟩,fun j hj=>(hr.g j hj).le hp⟩
 by_cases e:∃ j,j < 2 * n+1∧D.fr j=2 * n+i
 ·obtain ⟨j,hj,e⟩:=e
  rw [← e,bp.L4 h.wf hj];exact (hr.g j hj).neg.le (by omega)
 ·rw [bp.Cr fun j hj q=>e ⟨j,hj,q⟩];exact RB.zero.neg.le (by decide)
theorem Ia {D:bp} {c:Nat} (hl:lA l) (h7:l.length≤7) (h:xC n l.length (cf l) (bv l) D c):Poi n l (fun j=>nL D l.length j - nL D l.length (n+j))∧∀ u,RB (nL D l.length u) 156250:=by
 obtain ⟨z,he⟩:=h.eqv
 -- the goal does not matter
 have hr:∀ i,i < l.length→RB (D.b i) 156250:=fun i hi=>by
  have e0:bp.Am l.length (2 * n+1) (bp.fst n l.length (cf l) (bv l) 0) { D with g:=fun j=>if D.fr j=2 * n+l.length then 0 else 0,v:=0 }:=⟨fun x=>by
   rw [← bp.Hc n l.length (cf l) (bv l) z D x he];exact Iff.rfl,fun x _=>by
   rw [bp.ND];unfold bp.gv
   rw [aA (g:=fun _=>0) fun j _=>by simp,gQ];grind⟩
  have hw:bp.WF { D with g:=fun j=>if D.fr j=2 * n+l.length then 0 else 0,v:=0 } l.length (2 * n+1):=⟨h.wf.bi,h.wf.fi,h.wf.bf,h.wf.bl,h.wf.fl,h.wf.al⟩
  exact ((bp.size hw (bp.DP n l.length (cf l) (bv l) 0) e0 (Kh hl) (by decide:1≤2)).b i hi).le (Qg h7)
 have hp:∀ u,RB (nL D l.length u) 156250:=fun u=>by
  by_cases e:∃ i,i < l.length∧D.eV i=u
  ·obtain ⟨i,hi,e⟩:=e
   unfold nL;rw [← e,bp.qm h.wf.bi hi];exact hr i hi
  ·unfold nL;rw [bp.mj fun i hi q=>e ⟨i,hi,q⟩];exact RB.zero.le (by decide)
 refine ⟨⟨fun i hi=>?_,fun j _=>((hp j).sub (hp (n+j))).le (by omega)⟩,hp⟩
 have hs:=(bp.Hc n l.length (cf l) (bv l) z D _ he).1 (bp.oW h.wf bp.qX)
 have hs:=(bp.Cs n l.length (cf l) (bv l) 0 _).1 hs i hi
 have h0:D.ext l.length (2 * n+1) bp.qX (2 * n+l.length)=0:=by rw [← h.fr,bp.vw h.wf h.lt];rfl
 have MC:=bp.z7 h.wf h.fea (2 * n+i) (by omega)
 rw [h0] at hs
 have e:(fun j=>nL D l.length j - nL D l.length (n+j))=fun j=>D.ext l.length (2 * n+1) bp.qX j - D.ext l.length (2 * n+1) bp.qX (n+j):=by
  funext j;rw [Aa D _ (2 * n+1),Aa D _ (2 * n+1)]
 rw [e]
 grind
theorem Pa {f:Nat→Rat} {m:Nat} (hm:m≤60) (hf:∀ i,i < m→RB (f i) 400000):LB (LQ f m) 400000:=⟨by rw [bP];exact hm,fun i=>by
 by_cases h:i < m
 ·rw [gZ _ _ h];exact (hf i h).ir
 ·rw [ze (by rw [bP];omega)];exact ird⟩
theorem aaV {f:Nat→Rat} {m i:Nat} (h:i < m):yv (LQ f m) i=f i:=by unfold yv;rw [gZ _ _ h,jo]
theorem NH {y:List aa} (j:Nat):∀ m,cS l y j m=bJ m fun i=>yv y i * cf l i j
 | 0=>rfl
 | m+1=>by rw [cS,bJ,NH j m]
theorem NI {y:List aa}:∀ m,bS l y m=bJ m fun i=>yv y i * bv l i
 | 0=>rfl
 | m+1=>by rw [bS,bJ,NI m]
theorem Ho {y:List aa}:∀ {k i:Nat},(∀ a,i≤a→a < i+k→0≤yv y a)→sE y k i=false
 | 0,_,_=>rfl
 | k+1,i,h=>by
  rw [sE,if_neg (Rat.not_lt.2 (h i (aP _) (by omega)))]
  exact Ho fun a h1 h2=>h a (by omega) (by omega)
theorem Eh {f:Nat→Rat}:∀ {k i:Nat},(∀ a,i≤a→a < i+k→f a=0)→uU f k i=false
 | 0,_,_=>rfl
 | k+1,i,h=>by
  rw [uU,if_pos (h i (aP _) (by omega))]
  exact Eh fun a h1 h2=>h a (by omega) (by omega)
theorem Cv {x:List aa}:∀ {k i:Nat},(∀ a,i≤a→a < i+k→¬ vz l x a)→kI l x k i=false
 | 0,_,_=>rfl
 | k+1,i,h=>by
  rw [kI,if_neg (h i (aP _) (by omega))]
  exact Cv fun a h1 h2=>h a (by omega) (by omega)
theorem Ts {c x:List aa}:∀ (k i:Nat) (a:Rat),dF c x k i a=a+bJ k fun j=>qv (c.getD (i+j) aa.d) * qv (x.getD (i+j) aa.d)
 | 0,i,a=>by show a=a+0;grind
 | k+1,i,a=>by
  rw [dF,Ts k (i+1),show k+1=1+k by omega,nJ]
  have e:bJ 1 (fun j=>qv (c.getD (i+j) aa.d) * qv (x.getD (i+j) aa.d))=qv (c.getD i aa.d) * qv (x.getD i aa.d):=by show 0+qv (c.getD (i+0) aa.d) * qv (x.getD (i+0) aa.d)=_;rw [Nat.add_zero];grind
  have e2:bJ k (fun j=>qv (c.getD (i+(1+j)) aa.d) * qv (x.getD (i+(1+j)) aa.d))=bJ k fun j=>qv (c.getD (i+1+j) aa.d) * qv (x.getD (i+1+j) aa.d):=aA fun j _=>by rw [show i+(1+j)=i+1+j by omega]
  rw [e,e2]
  grind
theorem Cw {c x:List aa} {n:Nat} (h:c.length≤n):Bl c x=bJ n fun j=>qv (c.getD j aa.d) * qv (x.getD j aa.d):=by
 unfold Bl
 rw [Ts,show n=c.length+(n - c.length) by omega,nJ]
 rw [aA (n:=n - c.length) (g:=fun _=>0) fun j _=>by rw [ze (show c.length≤c.length+j by omega),aaR];grind,gQ,aA (n:=c.length) (g:=fun j=>qv (c.getD j aa.d) * qv (x.getD j aa.d)) fun j _=>by rw [Nat.zero_add]]
 grind
theorem Qh (ok:xD n l) {x:Nat→Rat} (h:Poi n l x):kI l (LQ x n) l.length 0=false:=Cv fun i _ hi=>by
 unfold vz
 rw [Cw (ok.co i (by omega)),aA (g:=fun j=>cf l i j * x j) fun j hj=>by rw [gZ _ _ hj,jo];rfl]
 have:=h.ok i (by omega)
 unfold bp.jd at this
 show ¬ 0 < _ - bv l i
 grind
end
end Go.Den
namespace Go.Den
open Go.Ab
theorem Cx {γ δ:Type} {rem:List γ} {z:Option δ} {f:γ→List γ→Option δ} {o:Option δ} (ec:rem≠[]) (h:∀ l1 x l2,rem=l1 ++ x :: l2→f x (l1 ++ l2)=o):qH rem z f=o:=by
 cases o with
 | some r=>exact PX ec h
 | none =>
  unfold qH
  rw [if_neg ec]
  split
  ·rename_i hx
   obtain ⟨r,hr⟩:=hx
   cases rem with
   | nil=>exact absurd rfl ec
   | cons a l =>
    have e1:=hr [] a l rfl
    rw [h [] a l rfl] at e1;cases e1
  ·rfl
def bp.fP (D:bp) (m u c:Nat):Rat:=match D.T8 m u with
 | some i=>D.a i c
 | none=>if D.fr c=u then 1 else 0
noncomputable def V3 (N:Nat) (ae:List aa) (Yz Tt Tu:Int) (V4 KZ:List Int) (YA:List (List aa)) (Qi:List aa) (x:Int) (K1:(List aa)→Bool→(List Int)→Bool→(List Int)→Int→Option (jq×(List aa))) (fuel:Nat)
  (DR:List aa) (Tv:Bool) (Tw:List Int) (Tx:Bool) (Ty:List Int) (CD:Int×aa) (left:List (Int×aa)):Option (jq×(List aa)) :=
  ((bV N KZ CD.1).bind fun aN =>
  (cond (decide (aN≥0))
  ((if 0≤aN∧aN < ((DR.length:Nat):Int) then
  ((dn N (⟨((DR.getD ((aN).toNat) aa.d).fN),((DR.getD ((aN).toNat) aa.d).fD)⟩:aa) CD.2).bind fun a9 =>
  b5 N ae Yz Tt Tu V4 KZ YA Qi x K1 fuel (DR.set ((aN).toNat) a9) Tv Tw Tx Ty left)
  else none))
  (((bV N V4 CD.1).bind fun bw =>
  (if 0≤bw∧bw < ((Qi.length:Nat):Int) then
  ((dy N CD.2 (⟨((Qi.getD ((bw).toNat) aa.d).fN),((Qi.getD ((bw).toNat) aa.d).fD)⟩:aa)).bind fun cb =>
  ((dn N (⟨(⟨Tv,Tw⟩:bR),(⟨Tx,Ty⟩:bR)⟩:aa) cb).bind fun dg =>
  en N ae Yz Tt Tu V4 KZ YA Qi x DR CD left bw dg (b5 N ae Yz Tt Tu V4 KZ YA Qi x K1 fuel) K1 N DR 0))
  else none)))))
theorem Ev.aaW {p:Nat→Nat→Prop} (h:Ev p):Ev fun N _=>p N N:=h.diag
section
variable {n m k h s t:Nat} {D:bp} {ob:List aa}
theorem Tz (hk:k≤1000) (hm:m≤1000) {i:Nat} (hi:i < m) {f:Rat} (hf:RB f 12) (ha:∀ c,c < k→RB (D.a i c) s) {F:Nat→Rat} (hF:∀ c,c < k→RB (F c) t) (hs:t+s+13≤MS) {c0:List aa} (h0:c0.length=k) {u:Int} {x:Int} :
  ∀ (d x2:Nat) (G:Nat→Rat),x2+d=k→(∀ c,c < k→G c=if c < x2 then F c+f * D.a i c else F c) →
  Ev fun N g=>∀ left rA K2 K1,en N ob (n:Int) (m:Int) (h:Int) (LN D.eV m) (LN D.fr k) (LA D.a m k) (LQ D.b m) x c0 (u,aX f) left (i:Int) rA K2 K1 g (LQ G k) (x2:Int)=K2 (LQ (fun c=>F c+f * D.a i c) k) rA.fN.fG rA.fN.fL rA.fD.fG rA.fD.fL left
 | 0,x2,G,hx,hG=>Ev.succ (Ev.true fun N g left rA K2 K1=>by
  rw [en,LY (m:=x2) (n:=k) (by omega) h0,cond_false,ml (f:=G) (g:=fun c=>F c+f * D.a i c) fun c hc=>by rw [hG c hc,if_pos (by omega)]])
 | d+1,x2,G,hx,hG=>by
  have qo:x2 < k:=by omega
  have hmul:=(hf.q (show 12≤MS by decide)).mul ((ha x2 qo).q (by omega)) (E2 (by decide))
  have MR:=((hF x2 qo).q (by omega)).add ((hf.mul (ha x2 qo)).q (by omega)) (E2 (by decide))
  have eG:G x2=F x2:=by rw [hG x2 qo,if_neg (sN x2)]
  refine Ev.succ ((hmul.ev.and (MR.ev.and (Tz (u:=u) (x:=x) hk hm hi hf ha hF hs h0 d (x2+1) (fun a=>if a=x2 then F x2+f * D.a i x2 else G a) (by omega) fun c hc=>?_))).mono fun N g ⟨q1,q2,q3⟩ left rA K2 K1=>?_)
  ·by_cases q:c=x2
   ·rw [if_pos q,if_pos (by omega),q]
   ·rw [if_neg q,hG c hc]
    by_cases q2:c < x2
    ·simp only [q2,show c < x2+1 by omega,if_true]
    ·rw [if_neg q2,if_neg (by omega)]
  ·rw [en,Ky (m:=x2) (n:=k) qo h0,cond_true,aj,aj,uf _ _ hi,if_pos (by rw [jb];exact hi),if_pos (inl qo (bP _ _)),if_pos (inl hi (jb _ _ _)),if_pos (inl qo (bP _ _)),gZ _ _ qo,gZ _ _ qo,eG]
   have RP:dy N (u,aX f).2 ⟨(aX (D.a i x2)).fN,(aX (D.a i x2)).fD⟩=some (aX (f * D.a i x2)):=q1
   have TV:dn N ⟨(aX (F x2)).fN,(aX (F x2)).fD⟩ (aX (f * D.a i x2))=some (aX (F x2+f * D.a i x2)):=q2
   rw [RP,bO,TV,bO,xB,bh (by omega)]
   exact q3 left rA K2 K1
variable (hk:k≤1000) (hm:m≤1000) (hw:D.WF m k) (ha:∀ i c,i < m→c < k→RB (D.a i c) s) (hb:∀ i,i < m→RB (D.b i) s)
include hk hm hw ha hb
theorem Hp {u:Nat} (hu:u < m+k) {f:Rat} (hf:RB f 12) {F:Nat→Rat} (hF:∀ c,c < k→RB (F c) t) {v:Rat} (hv:RB v t) (hs:t+s+13≤MS) {x:Int} :
  Ev fun N g=>∀ K1 left,V3 N ob (n:Int) (m:Int) (h:Int) (LN D.eV m) (LN D.fr k) (LA D.a m k) (LQ D.b m) x K1 g (LQ F k) (aX v).fN.fG (aX v).fN.fL (aX v).fD.fG (aX v).fD.fL ((u:Int),aX f) left =
   b5 N ob (n:Int) (m:Int) (h:Int) (LN D.eV m) (LN D.fr k) (LA D.a m k) (LQ D.b m) x K1 g (LQ (fun c=>F c+f * D.fP m u c) k) (aX (v+f * nL D m u)).fN.fG (aX (v+f * nL D m u)).fN.fL (aX (v+f * nL D m u)).fD.fG (aX (v+f * nL D m u)).fD.fL left:=by
 obtain ⟨r,q1,q2⟩:=Bk (f:=D.fr) (k:=k) (v:=u) hk
 rcases q2 with ⟨rfl,q2⟩ | ⟨j,rfl,hj,rfl⟩
 ·obtain ⟨i,hi,rfl⟩:=(hw.al u hu).resolve_right fun ⟨j,hj,e⟩=>q2 j hj e
  have TA:=bp.qm hw.bi hi
  have ep:nL D m (D.eV i)=D.b i:=by unfold nL;rw [TA]
  have ed:∀ c,D.fP m (D.eV i) c=D.a i c:=fun c=>by unfold bp.fP;rw [TA]
  obtain ⟨r,q3,q4⟩:=Bk (f:=D.eV) (k:=m) (v:=D.eV i) hm
  rcases q4 with ⟨rfl,q4⟩ | ⟨i',rfl,oY,e⟩
  ·exact absurd rfl (q4 i hi)
  ·have:i'=i:=hw.bi _ _ oY hi e
   subst this
   have hmul:=(hf.q (show 12≤MS by decide)).mul ((hb i' hi).q (by omega)) (E2 (by decide))
   have MR:=(hv.q (by omega)).add ((hf.mul (hb i' hi)).q (by omega)) (E2 (by decide))
   refine (q1.ev.and (q3.ev.and (hmul.ev.and (MR.ev.and (Tz hk hm hi hf (fun c hc=>ha i' c hi hc) hF hs (bP F k) (n:=n) (h:=h) (ob:=ob) (u:=((D.eV i':Nat):Int)) (x:=x) k 0 F (by omega) fun c _=>(if_neg (dP c)).symm).aaW)))).mono fun N g ⟨p1,p3,p4,p5,p6⟩ K1 left=>?_
   unfold V3
   rw [p1,bO,show decide ((-1:Int)≥0)=false by decide,cond_false,p3,bO,if_pos (inl hi (bP _ _)),aj,gZ _ _ hi]
   have p4':dy N (((D.eV i':Nat):Int),aX f).2 ⟨(aX (D.b i')).fN,(aX (D.b i')).fD⟩=some (aX (f * D.b i')):=p4
   have p5':dn N ⟨⟨(aX v).fN.fG,(aX v).fN.fL⟩,⟨(aX v).fD.fG,(aX v).fD.fL⟩⟩ (aX (f * D.b i'))=some (aX (v+f * D.b i')):=p5
   rw [p4',bO,p5',bO]
   refine (p6 _ _ _ _).trans ?_
   rw [ep,ml (f:=fun c=>F c+f * D.fP m (D.eV i') c) (g:=fun c=>F c+f * D.a i' c) fun c _=>by rw [ed]]
 ·have TA:D.T8 m (D.fr j)=none:=bp.mj fun i hi=>hw.bf i j hi hj
  have ep:v+f * nL D m (D.fr j)=v:=by unfold nL;rw [TA];show v+f * 0=v;grind
  have ed:∀ c,c < k→D.fP m (D.fr j) c=if c=j then 1 else 0:=fun c hc=>by
   unfold bp.fP;rw [TA]
   by_cases e:c=j
   ·simp only [e,if_true]
   ·simp only [e,if_false];exact if_neg fun q=>e (hw.fi _ _ hc hj q)
  have MR:=((hF j hj).q (by omega)).add (hf.q (show 12≤MS by decide)) (E2 (by decide))
  refine (q1.ev.and MR.ev).mono fun N g ⟨p1,p2⟩ K1 left=>?_
  unfold V3
  rw [p1,bO,decide_eq_true (show ((j:Nat):Int)≥0 by omega),cond_true,if_pos (inl hj (bP _ _)),aj,gZ _ _ hj]
  have p2':dn N ⟨(aX (F j)).fN,(aX (F j)).fD⟩ (((D.fr j:Nat):Int),aX f).2=some (aX (F j+f)):=p2
  rw [p2',bO,xB,ep,ml (f:=fun c=>F c+f * D.fP m (D.fr j) c) (g:=fun a=>if a=j then F j+f else F a) fun c hc=>by
   rw [ed c hc]
   by_cases e:c=j
   ·rw [if_pos e,if_pos e,e];grind
   ·rw [if_neg e,if_neg e];grind]
end
end Go.Den
namespace Go.Den
open Go.Ab
section
variable {n m k h s t:Nat} {D:bp} {ob:List aa}
theorem DS (N:Nat) (c0 c02 c07:Int) (c1 c2:List Int) (c3:List (List aa)) (c4:List aa) (x:Int) (K1:(List aa)→Bool→(List Int)→Bool→(List Int)→Int→Option (jq×(List aa))) (g:Nat) (F:List aa) (v1:Bool) (v2:List Int) (v3:Bool) (v4:List Int) (rem:List (Int×aa)) :
  b5 N ob c0 c02 c07 c1 c2 c3 c4 x K1 (g+1) F v1 v2 v3 v4 rem=qH rem (K1 F v1 v2 v3 v4 (ao (x+1))) (V3 N ob c0 c02 c07 c1 c2 c3 c4 x K1 g F v1 v2 v3 v4):=by
 rw [b5];rfl
variable (hk:k≤1000) (hm:m≤1000) (hw:D.WF m k) (ha:∀ i c,i < m→c < k→RB (D.a i c) s) (hb:∀ i,i < m→RB (D.b i) s)
include hk hm hw ha hb
theorem Pb {u:Nat} (hu:u < m+k) {f:Rat} (hf:RB f 12) {F:Nat→Rat} (hF:∀ c,c < k→RB (F c) t) {v:Rat} (hv:RB v t) (hs:t+s+13≤MS) {x:Int} :
  Ev fun N g=>∀ K1,b5 N ob (n:Int) (m:Int) (h:Int) (LN D.eV m) (LN D.fr k) (LA D.a m k) (LQ D.b m) x K1 g (LQ F k) (aX v).fN.fG (aX v).fN.fL (aX v).fD.fG (aX v).fD.fL [((u:Int),aX f)] =
   K1 (LQ (fun c=>F c+f * D.fP m u c) k) (aX (v+f * nL D m u)).fN.fG (aX (v+f * nL D m u)).fN.fL (aX (v+f * nL D m u)).fD.fG (aX (v+f * nL D m u)).fD.fL (ao (x+1)):=by
 refine Ev.succ ((Hp hk hm hw ha hb hu hf hF hv hs (n:=n) (h:=h) (ob:=ob) (x:=x)).and (Ev.of (p:=fun N g=>∀ K1 F v1 v2 v3 v4,b5 N ob (n:Int) (m:Int) (h:Int) (LN D.eV m) (LN D.fr k) (LA D.a m k) (LQ D.b m) x K1 g F v1 v2 v3 v4 []=K1 F v1 v2 v3 v4 (ao (x+1))) 1 fun N g _ hg K1 F v1 v2 v3 v4=>?_) |>.mono fun N g ⟨q1,q2⟩ K1=>?_)
 ·obtain ⟨g,rfl⟩:∃ g',g=g'+1:=⟨g - 1,by omega⟩
  rw [DS,Lj]
 ·rw [DS]
  refine Cx (by simp) fun l1 e l2 he=>?_
  cases l1 with
  | nil =>
   rw [List.nil_append] at he
   obtain ⟨rfl,rfl⟩:=List.cons.inj he
   exact (q1 K1 []).trans (q2 _ _ _ _ _ _)
  | cons a l1 =>
   have:=congrArg List.length he
   simp at this
theorem Pc {u1 u2:Nat} (Km:u1 < m+k) (Hu:u2 < m+k) {f1 f2:Rat} (YS:RB f1 12) (YT:RB f2 12) {F:Nat→Rat} (hF:∀ c,c < k→RB (F c) t) {v:Rat} (hv:RB v t) (hd:∀ u,u < m+k→(∀ c,c < k→RB (D.fP m u c) s)∧RB (nL D m u) s) (hs:t+2 * (s+13)≤MS) {x:Int} :
  Ev fun N g=>∀ K1,b5 N ob (n:Int) (m:Int) (h:Int) (LN D.eV m) (LN D.fr k) (LA D.a m k) (LQ D.b m) x K1 g (LQ F k) (aX v).fN.fG (aX v).fN.fL (aX v).fD.fG (aX v).fD.fL [((u1:Int),aX f1),((u2:Int),aX f2)] =
   K1 (LQ (fun c=>F c+f1 * D.fP m u1 c+f2 * D.fP m u2 c) k) (aX (v+f1 * nL D m u1+f2 * nL D m u2)).fN.fG (aX (v+f1 * nL D m u1+f2 * nL D m u2)).fN.fL (aX (v+f1 * nL D m u1+f2 * nL D m u2)).fD.fG (aX (v+f1 * nL D m u1+f2 * nL D m u2)).fD.fL (ao (x+1)):=by
 have r1:∀ c,c < k→RB (F c+f1 * D.fP m u1 c) (t+s+13):=fun c hc=>((hF c hc).add (YS.mul ((hd u1 Km).1 c hc))).le (by omega)
 have r2:∀ c,c < k→RB (F c+f2 * D.fP m u2 c) (t+s+13):=fun c hc=>((hF c hc).add (YT.mul ((hd u2 Hu).1 c hc))).le (by omega)
 have w1:RB (v+f1 * nL D m u1) (t+s+13):=(hv.add (YS.mul (hd u1 Km).2)).le (by omega)
 have w2:RB (v+f2 * nL D m u2) (t+s+13):=(hv.add (YT.mul (hd u2 Hu).2)).le (by omega)
 refine Ev.succ (((Hp hk hm hw ha hb Km YS hF hv (by omega) (n:=n) (h:=h) (ob:=ob) (x:=x)).and ((Hp hk hm hw ha hb Hu YT hF hv (by omega) (n:=n) (h:=h) (ob:=ob) (x:=x)).and
  ((Pb hk hm hw ha hb Hu YT r1 w1 (by omega) (n:=n) (h:=h) (ob:=ob) (x:=x)).and (Pb hk hm hw ha hb Km YS r2 w2 (by omega) (n:=n) (h:=h) (ob:=ob) (x:=x))))).mono fun N g ⟨q1,q2,q3,q4⟩ K1=>?_)
 rw [DS]
 refine Cx (by simp) fun l1 e l2 he=>?_
 cases l1 with
 | nil =>
  rw [List.nil_append] at he
  obtain ⟨rfl,rfl⟩:=List.cons.inj he
  exact (q1 K1 _).trans (q3 K1)
 | cons a l1 =>
  rw [List.cons_append] at he
  obtain ⟨D2,he⟩:=List.cons.inj he
  cases l1 with
  | nil =>
   rw [List.nil_append] at he
   obtain ⟨rfl,rfl⟩:=List.cons.inj he
   rw [List.append_nil,← D2]
   refine ((q2 K1 _).trans (q4 K1)).trans ?_
   rw [ml (f:=fun c=>F c+f2 * D.fP m u2 c+f1 * D.fP m u1 c) (g:=fun c=>F c+f1 * D.fP m u1 c+f2 * D.fP m u2 c) fun c _=>by grind,
    show v+f2 * nL D m u2+f1 * nL D m u1=v+f1 * nL D m u1+f2 * nL D m u2 by grind]
  | cons b l1 =>
   have:=congrArg List.length he
   simp at this
def gx (D:bp) (m n:Nat) (co:Nat→Rat):Nat→Nat→Rat
 | 0,c=>D.g c
 | x+1,c=>gx D m n co x c+co x * D.fP m x c+-(co x) * D.fP m (n+x) c
def vx (D:bp) (m n:Nat) (co:Nat→Rat):Nat→Rat
 | 0=>D.v
 | x+1=>vx D m n co x+co x * nL D m x+-(co x) * nL D m (n+x)
omit hk hm hw ha hb in
theorem WW {co:Nat→Rat} (z9:∀ j,RB (co j) 12) (hd:∀ u,u < m+k→(∀ c,c < k→RB (D.fP m u c) s)∧RB (nL D m u) s) (h0:∀ c,c < k→RB (D.g c) t) {c:Nat} (hc:c < k):∀ x,n+x≤m+k→x≤n→RB (gx D m n co x c) (t+x * (2 * (s+13)))
 | 0,_,_=>(h0 c hc).le (by omega)
 | x+1,h1,h2=>by
  rw [gx]
  refine (((WW z9 hd h0 hc x (by omega) (by omega)).add ((z9 x).mul ((hd x (by omega)).1 c hc))).add ((z9 x).neg.mul ((hd (n+x) (by omega)).1 c hc))).le ?_
  rw [ca];omega
omit hk hm hw ha hb in
theorem WX {co:Nat→Rat} (z9:∀ j,RB (co j) 12) (hd:∀ u,u < m+k→(∀ c,c < k→RB (D.fP m u c) s)∧RB (nL D m u) s) (h0:RB D.v t):∀ x,n+x≤m+k→x≤n→RB (vx D m n co x) (t+x * (2 * (s+13)))
 | 0,_,_=>h0.le (by omega)
 | x+1,h1,h2=>by
  rw [vx]
  refine (((WX z9 hd h0 x (by omega) (by omega)).add ((z9 x).mul (hd x (by omega)).2)).add ((z9 x).neg.mul (hd (n+x) (by omega)).2)).le ?_
  rw [ca];omega
theorem TC (hn:n≤400) (TP:2 * n≤m+k) (cE:ob.length=n) {co:Nat→Rat} (hq:∀ j,RQ (ob.getD j aa.d) (co j) 12) (z9:∀ j,RB (co j) 12) (hd:∀ u,u < m+k→(∀ c,c < k→RB (D.fP m u c) s)∧RB (nL D m u) s)
  (hg:∀ c,c < k→RB (D.g c) t) (hv:RB D.v t) (hs:t+n * (2 * (s+13))≤MS):∀ d x,x+d=n →
  aH (fun N g=>er N ob (n:Int) (m:Int) (h:Int) (LN D.eV m) (LN D.fr k) (LA D.a m k) (LQ D.b m) g (LQ (gx D m n co x) k) (aX (vx D m n co x)).fN.fG (aX (vx D m n co x)).fN.fL (aX (vx D m n co x)).fD.fG (aX (vx D m n co x)).fD.fL (x:Int))
   (⟨n,m,LN D.eV m,LN D.fr k,LA D.a m k,LQ D.b m,LQ (gx D m n co n) k,aX (vx D m n co n),h⟩,LQ (gx D m n co n) k)
 | 0,x,hx=>by
  have hx:x=n:=by omega
  subst hx
  refine aH.succ (fun N g=>er.eq_2 ..) (aH.aL (LY (m:=x) (n:=x) (by omega) cE) (aH.one (Gv.pure _)))
 | d+1,x,hx=>by
  have Ua:x < n:=by omega
  have hsx:t+x * (2 * (s+13))+2 * (s+13)≤MS:=by
   have:(x+1) * (2 * (s+13))≤n * (2 * (s+13)):=dC _ Ua
   rw [ca] at this;omega
  have CR:=(hq x).low (by decide)
  have rP:Gv (fun N=>ej N (ob.getD x aa.d)) (aX (-(co x))):=by have:=nH (hq x).ir (by decide) (E2 (by decide));rwa [(hq x).v] at this
  have e1:ao ((n:Int)+(x:Int))=((n+x:Nat):Int):=by rw [bC (by omega) (by omega)];omega
  have ec:((x:Nat):Int)≠((n+x:Nat):Int):=by omega
  have nM:(((x:Nat):Int) == ((n+x:Nat):Int))=false:=beq_eq_false_iff_ne.2 ec
  have lP:(((n+x:Nat):Int) == ((x:Nat):Int))=false:=beq_eq_false_iff_ne.2 ec.symm
  have p1:o6 (fun (za zb:Int)=>za == zb) (o6 (fun za zb=>za == zb) ([]:List (Int×aa)) (x:Int) (aX (co x))) ((n+x:Nat):Int) (aX (-(co x)))=[((x:Int),aX (co x)),(((n+x:Nat):Int),aX (-(co x)))]:=by
   simp only [o6,nM,cond_false]
  have p2:o6 (fun (za zb:Int)=>za == zb) (o6 (fun za zb=>za == zb) ([]:List (Int×aa)) ((n+x:Nat):Int) (aX (-(co x)))) (x:Int) (aX (co x))=[(((n+x:Nat):Int),aX (-(co x))),((x:Int),aX (co x))]:=by
   simp only [o6,lP,cond_false]
  have rg:∀ c,c < k→RB (gx D m n co x c) (t+x * (2 * (s+13))):=fun c hc=>WW z9 hd hg hc x (by omega) (by omega)
  have rv:=WX z9 hd hv x (n:=n) (by omega) (by omega)
  have t1:=(Pc hk hm hw ha hb (u1:=x) (u2:=n+x) (by omega) (by omega) (z9 x) (z9 x).neg rg rv hd hsx (n:=n) (h:=h) (ob:=ob) (x:=(x:Int))).diag
  have t2:=(Pc hk hm hw ha hb (u1:=n+x) (u2:=x) (by omega) (by omega) (z9 x).neg (z9 x) rg rv hd hsx (n:=n) (h:=h) (ob:=ob) (x:=(x:Int))).diag
  obtain ⟨N1,t1⟩:=t1
  obtain ⟨N2,t2⟩:=t2
  obtain ⟨N3,ih⟩:=TC hn TP cE hq z9 hd hg hv hs d (x+1) (by omega)
  refine aH.succ (fun N g=>er.eq_2 ..) (aH.ax (Ky (n:=n) Ua cE) (aH.if (inl Ua cE) ?_))
  simp only [aj]
  refine aH.bind CR (aH.bind rP (aH.bind CR (aH.bind rP ⟨N1+N2+N3,fun N g hN hgN=>?_⟩)))
  dsimp only
  rw [e1,p1,p2,t1 N g (by omega) (by omega),t2 N g (by omega) (by omega)]
  rw [ml (f:=fun c=>gx D m n co x c+-(co x) * D.fP m (n+x) c+co x * D.fP m x c) (g:=fun c=>gx D m n co x c+co x * D.fP m x c+-(co x) * D.fP m (n+x) c) fun c _=>by grind,
   show vx D m n co x+-(co x) * nL D m (n+x)+co x * nL D m x=vx D m n co x+co x * nL D m x+-(co x) * nL D m (n+x) by grind,PQ,bh (by omega)]
  exact ih N g (by omega) (by omega)
theorem YB (hn:n≤400) (TP:2 * n≤m+k) (cE:ob.length=n) {co:Nat→Rat} (hq:∀ j,RQ (ob.getD j aa.d) (co j) 12) (z9:∀ j,RB (co j) 12) (hd:∀ u,u < m+k→(∀ c,c < k→RB (D.fP m u c) s)∧RB (nL D m u) s)
  (hg:∀ c,c < k→RB (D.g c) t) (hv:RB D.v t) (hs:t+n * (2 * (s+13))≤MS) :
  Gv (fun N=>oP N ob (n:Int) (m:Int) (aX D.v).fN.fG (aX D.v).fN.fL (aX D.v).fD.fG (aX D.v).fD.fL (h:Int) (LN D.eV m) (LN D.fr k) (LA D.a m k) (LQ D.b m) (LQ D.g k))
   (⟨n,m,LN D.eV m,LN D.fr k,LA D.a m k,LQ D.b m,LQ (gx D m n co n) k,aX (vx D m n co n),h⟩,LQ (gx D m n co n) k) :=
 (TC hk hm hw ha hb hn TP cE hq z9 hd hg hv hs n 0 (by omega)).diag
end
end Go.Den
namespace Go.Den
open Go.Ab
theorem Pd (f:Nat→Rat):∀ (k c:Nat),c≤k→bJ (k+1) f=f c+bJ k fun j=>f (sk c j)
 | 0,c,h=>by
  have:c=0:=by omega
  subst this
  show 0+f 0=f 0+0
  grind
 | k+1,c,h=>by
  rw [bJ]
  by_cases e:c=k+1
  ·subst e
   rw [aA (n:=k+1) (f:=fun j=>f (sk (k+1) j)) (g:=f) fun j hj=>by unfold sk;rw [if_pos hj]]
   grind
  ·rw [Pd f k c (by omega),show bJ (k+1) (fun j=>f (sk c j))=bJ k (fun j=>f (sk c j))+f (sk c k) from rfl]
   have:sk c k=k+1:=by unfold sk;rw [if_neg (by omega)]
   rw [this];grind
namespace bp
structure Hq (D:bp) (m k s t:Nat):Prop where
 a:∀ i j,i < m→j < k→RB (D.a i j) s
 b:∀ i,i < m→RB (D.b i) s
 g:∀ j,j < k→RB (D.g j) t
 v:RB D.v t
theorem Hq.iu {D:bp} {m k s t i j:Nat} (h:D.Hq m k s t) (h1:1≤s) (hi:i < m) (hj:j < k) (h0:D.a i j≠0):(D.iu i j).Hq m k (5 * s) (2 * t+2 * s+1):=by
 have hp:RB (D.pb i j) (2 * s):=((h.b i hi).div (h.a i j hi hj) h0).neg.le (by omega)
 have hw:∀ c,c < k→RB (D.nI i j c) (2 * s):=fun c hc=>by
  unfold bp.nI
  split
  ·exact (Yo.div (h.a i j hi hj) h0).le (by omega)
  ·exact ((h.a i c hi hc).div (h.a i j hi hj) h0).neg.le (by omega)
 refine ⟨fun r c hr hc=>?_,fun r hr=>?_,fun c hc=>?_,((h.v).add ((h.g j hj).mul hp)).le (by omega)⟩
 ·have hw:=hw c hc
  simp only [bp.iu]
  split
  ·exact hw.le (by omega)
  ·split
   ·exact ((h.a r j hr hj).mul hw).le (by omega)
   ·exact ((h.a r c hr hc).add ((h.a r j hr hj).mul hw)).le (by omega)
 ·simp only [bp.iu]
  split
  ·exact hp.le (by omega)
  ·exact ((h.b r hr).add ((h.a r j hr hj).mul hp)).le (by omega)
 ·have hw:=hw c hc
  simp only [bp.iu]
  split
  ·exact ((h.g j hj).mul hw).le (by omega)
  ·exact ((h.g c hc).add ((h.g j hj).mul hw)).le (by omega)
theorem Hq.le {D:bp} {m k s t s' t':Nat} (h:D.Hq m k s t) (h1:s≤s') (h2:t≤t'):D.Hq m k s' t' :=
 ⟨fun i j hi hj=>(h.a i j hi hj).le h1,fun i hi=>(h.b i hi).le h1,fun j hj=>(h.g j hj).le h2,h.v.le h2⟩
def tb:Nat→Nat→Nat→Nat
 | 0,_,t=>t
 | n+1,s,t=>tb n (5 * s) (2 * t+2 * s+1)
theorem Pe:∀ {n s t s' t':Nat},s≤s'→t≤t'→tb n s t≤tb n s' t'
 | 0,_,_,_,_,_,h=>h
 | n+1,_,_,_,_,h1,h2=>Pe (n:=n) (by omega) (by omega)
theorem V5 (n s t:Nat):tb n s t≤tb (n+1) s t:=Pe (by omega) (by omega)
theorem WY {n n':Nat} (s t:Nat) (h:n≤n'):tb n s t≤tb n' s t:=by
 induction n' with
 | zero=>rw [show n=0 by omega];exact aP _
 | succ n' ih =>
  by_cases e:n=n'+1
  ·rw [e];exact aP _
  ·exact dp (ih (by omega)) (V5 n' s t)
theorem I8 {m k:Nat} {D:bp} (h:D.WF m k):∀ (n:Nat) {D':bp} {s t:Nat},D'.WF m k→Am m k D' D→D'.Hq m k s t→1≤s→Cp (fun i=>¬ D'.vA m (D.eV i)) m≤n→D.Hq m k (5 ^ n * s) (tb n s t)
 | n,D',s,t,h',e,hs,h1,hc=>by
  by_cases hz:Cp (fun i=>¬ D'.vA m (D.eV i)) m=0
  ·have hb:∀ u,D.vA m u→D'.vA m u:=fun u ⟨i,hi,q⟩=>q ▸ Classical.not_not.1 (Ha hz i hi)
   obtain ⟨u1,u2,u3,u4⟩:=uniq h h' e.symm hb
   have hn:s≤5 ^ n * s:=Nat.le_mul_of_pos_left _ (Nat.pow_pos (by decide))
   have NV:t≤tb n s t:=WY s t (Nat.zero_le n)
   refine ⟨fun i j hi hj=>?_,fun i hi=>?_,fun j hj=>?_,by rw [u4];exact hs.v.le NV⟩
   ·obtain ⟨i',oY,q⟩:=hb _ ⟨i,hi,rfl⟩
    obtain ⟨j',sJ,q2⟩:=z6 h h' e.symm hb hj
    rw [u2 i j i' j' hi oY hj sJ q.symm q2.symm];exact (hs.a _ _ oY sJ).le hn
   ·obtain ⟨i',oY,q⟩:=hb _ ⟨i,hi,rfl⟩
    rw [u1 i i' hi oY q.symm];exact (hs.b _ oY).le hn
   ·obtain ⟨j',sJ,q2⟩:=z6 h h' e.symm hb hj
    rw [u3 j j' hj sJ q2.symm];exact (hs.g _ sJ).le NV
  ·obtain ⟨i,hi,Y4⟩:∃ i,i < m∧¬ D'.vA m (D.eV i):=mM fun q=>hz (by
    have:Cp (fun i=>¬ D'.vA m (D.eV i)) m≤Cp (fun _=>False) m:=Cq fun i hi hp=>q ⟨i,hi,hp⟩
    have h0:∀ n,Cp (fun _=>False) n=0:=fun n=>by
     induction n with
     | zero=>rfl
     | succ n ih=>rw [Cp,ih];simp
    rw [h0] at this;omega)
   obtain ⟨j',sJ,hv⟩:=z5 h' (h.bl i hi) Y4
   obtain ⟨r,hr,h0,Pk⟩:∃ r,r < m∧D'.a r j'≠0∧¬ D.vA m (D'.eV r):=mM fun q=>by
    have:=Hb (D:=D) (D':=D') (j:=j') h' e (fun c hc=>?_) hi
    ·rw [← hv,Bj h' sJ sJ,if_pos rfl] at this;exact absurd this (by decide)
    ·rcases h'.al _ (h.fl c hc) with ⟨r,hr,q2⟩ | ⟨c',jr,q2⟩
     ·rw [← q2,Ka h' hr sJ]
      refine mM fun q3=>q ⟨r,hr,q3,fun ⟨i2,TS,q4⟩=>h.bf i2 c TS hc (q4.trans q2)⟩
     ·rw [← q2,Bj h' jr sJ,if_neg fun q3=>h.bf i c hi hc (by rw [← hv,← q2,q3])]
   have ft:Cp (fun i=>¬ (D'.iu r j').vA m (D.eV i)) m < Cp (fun i=>¬ D'.vA m (D.eV i)) m:=by
    refine NC (i:=i) (fun i' oY hp hq=>hp ((Co h' hr).2 (.inl ⟨hq,fun q=>Pk ⟨i',oY,q⟩⟩))) hi Y4 fun hp=>hp ((Co h' hr).2 (.inr hv.symm))
   obtain ⟨n,rfl⟩:∃ n',n=n'+1:=⟨n - 1,by omega⟩
   have:=I8 h n (h'.iu hr sJ) ((Am.iu hr sJ h0).symm.trans e) (hs.iu h1 hr sJ h0) (by omega) (by omega)
   have e1:5 ^ (n+1) * s=5 ^ n * (5 * s):=by rw [Nat.pow_succ,Nat.mul_assoc]
   exact this.le (Nat.le_of_eq e1.symm) (aP _)
theorem aaX {m k s t:Nat} {D D':bp} (h:D.WF m k) (h':D'.WF m k) (e:Am m k D' D) (hs:D'.Hq m k s t) (h1:1≤s):D.Hq m k (5 ^ m * s) (tb m s t):=I8 h m h' e hs h1 (NB m)
section
variable (n m:Nat) (C:Nat→Nat→Rat) (B co:Nat→Rat)
def Fj:bp where
 eV:=fun i=>2 * n+i
 fr:=fun j=>j
 a:=fun i j=>if j < n then -(C i j) else C i (j - n)
 b:=B
 g:=fun j=>if j < n then co j else -(co (j - n))
 v:=0
theorem TD:(Fj n C B co).WF m (2 * n):=by
 refine ⟨fun i i' _ _ e=>?_,fun j j' _ _ e=>e,fun i j hi hj e=>?_,fun i hi=>?_,fun j hj=>?_,fun u hu=>?_⟩
 ·simp only [Fj] at e;omega
 ·simp only [Fj] at e;omega
 ·simp only [Fj];omega
 ·simp only [Fj];omega
 ·by_cases h:u < 2 * n
  ·exact .inr ⟨u,h,rfl⟩
  ·exact .inl ⟨u - 2 * n,by omega,by simp only [Fj];omega⟩
theorem Pf (x f:Nat→Rat) (s:Rat):bJ (2 * n) (fun j=>(if j < n then s * f j else -s * f (j - n)) * x j)=s * bJ n fun j=>f j * (x j - x (n+j)):=by
 rw [show 2 * n=n+n by omega,nJ]
 rw [aA (n:=n) (f:=fun j=>(if j < n then s * f j else -s * f (j - n)) * x j) (g:=fun j=>s * (f j * x j)) fun j hj=>by rw [if_pos hj];grind,
  aA (n:=n) (f:=fun j=>(if n+j < n then s * f (n+j) else -s * f (n+j - n)) * x (n+j)) (g:=fun j=>s * (-1 * (f j * x (n+j)))) fun j hj=>by rw [if_neg (by omega),show n+j - n=j by omega];grind,
  ja,ja,ja,show (fun j=>f j * (x j - x (n+j)))=fun j=>f j * x j - f j * x (n+j) by funext j;grind,zh]
 grind
theorem Pg (x:Nat→Rat) (i:Nat):(Fj n C B co).row (2 * n) x i=B i - jd n C (fun j=>x j - x (n+j)) i:=by
 unfold row jd
 have:=Pf n x (C i) (-1)
 rw [aA (n:=2 * n) (f:=fun j=>(Fj n C B co).a i j * x ((Fj n C B co).fr j)) (g:=fun j=>(if j < n then -1 * C i j else -(-1) * C i (j - n)) * x j) fun j _=>by
  simp only [Fj]
  split<;>grind]
 rw [this,show (Fj n C B co).b i=B i from rfl]
 grind
theorem TE (x:Nat→Rat):(Fj n C B co).gv (2 * n) x=bJ n fun j=>co j * (x j - x (n+j)):=by
 unfold gv
 have:=Pf n x co 1
 rw [aA (n:=2 * n) (f:=fun j=>(Fj n C B co).g j * x ((Fj n C B co).fr j)) (g:=fun j=>(if j < n then 1 * co j else -1 * co (j - n)) * x j) fun j _=>by
  simp only [Fj]
  split<;>grind]
 rw [this,show (Fj n C B co).v=0 from rfl]
 grind
theorem Kj (x:Nat→Rat):(Fj n C B co).Cm m (2 * n) x↔∀ i,i < m→x (2 * n+i)=B i - jd n C (fun j=>x j - x (n+j)) i:=by
 unfold Cm
 constructor
 ·intro h i hi;rw [← Pg n C B co];exact h i hi
 ·intro h i hi;rw [Pg];exact h i hi
def zp (y:Nat→Rat) (u:Nat):Rat:=if 2 * n≤u then B (u - 2 * n) - jd n C (fun j=>y j - y (n+j)) (u - 2 * n) else y u
theorem TF (y:Nat→Rat):(Fj n C B co).Cm m (2 * n) (zp n C B y):=(Kj n m C B co _).2 fun i hi=>by
 have e1:zp n C B y (2 * n+i)=B i - jd n C (fun j=>y j - y (n+j)) i:=by
  unfold zp;rw [if_pos (by omega),show 2 * n+i - 2 * n=i by omega]
 have e3:jd n C (fun j=>zp n C B y j - zp n C B y (n+j)) i=jd n C (fun j=>y j - y (n+j)) i:=by
  unfold jd
  refine aA fun j hj=>?_
  show C i j * (zp n C B y j - zp n C B y (n+j))=C i j * (y j - y (n+j))
  unfold zp;rw [if_neg (by omega),if_neg (by omega)]
 rw [e1,e3]
end
theorem expr {D:bp} {m k:Nat} (h:D.WF m k) {x:Nat→Rat} (hx:D.Cm m k x) {u:Nat} (hu:u < m+k):x u=nL D m u+bJ k fun c=>D.fP m u c * x (D.fr c):=by
 rcases h.al u hu with ⟨i,hi,rfl⟩ | ⟨j,hj,rfl⟩
 ·unfold nL fP
  rw [qm h.bi hi]
  exact hx i hi
 ·unfold nL fP
  rw [mj fun i hi=>h.bf i j hi hj]
  show x (D.fr j)=0+bJ k fun c=>(if D.fr c=D.fr j then 1 else 0) * x (D.fr c)
  rw [jv hj _ fun c hc ec=>by rw [if_neg fun e=>ec (h.fi _ _ hc hj e)];grind,if_pos rfl]
  grind
theorem WZ {D:bp} {m k n:Nat} (h:D.WF m k) {co:Nat→Rat} {x:Nat→Rat} (hx:D.Cm m k x):∀ X,X≤n→2 * n≤m+k→vx D m n co X+bJ k (fun c=>gx D m n co X c * x (D.fr c))=D.gv k x+bJ X fun j=>co j * (x j - x (n+j))
 | 0,_,_=>by
  show D.v+bJ k (fun c=>D.g c * x (D.fr c))=D.gv k x+0
  unfold gv;grind
 | X+1,h1,h2=>by
  have ih:=WZ h (co:=co) hx X (by omega) h2 (n:=n)
  have e1:=expr h hx (u:=X) (by omega)
  have e2:=expr h hx (u:=n+X) (by omega)
  rw [bJ,← Rat.add_assoc,← ih,vx,aA (f:=fun c=>gx D m n co (X+1) c * x (D.fr c)) (g:=fun c=>(gx D m n co X c * x (D.fr c)+co X * (D.fP m X c * x (D.fr c)))+-(co X) * (D.fP m (n+X) c * x (D.fr c))) fun c _=>by rw [gx];grind,
   rR,rR,ja,ja]
  generalize bJ k (fun c=>D.fP m X c * x (D.fr c))=s1 at e1 ⊢
  generalize bJ k (fun c=>D.fP m (n+X) c * x (D.fr c))=s2 at e2 ⊢
  rw [e1,e2]
  grind
end bp
end Go.Den
namespace Go.Den
open Go.Ab
namespace bp
section
variable {n m c:Nat} {C:Nat→Nat→Rat} {B co:Nat→Rat} {D:bp}
theorem TG (h:D.WF m (2 * n+1)) (hc:c < 2 * n+1) (hf:D.fr c=2 * n+m):(D.del c).WF m (2 * n):=by
 have Qr:∀ j,j < 2 * n→sk c j < 2 * n+1∧sk c j≠c:=fun j hj=>by unfold sk;split<;>omega
 refine ⟨h.bi,fun j j' hj sJ e=>?_,fun i j hi hj=>h.bf i _ hi (Qr j hj).1,fun i hi=>?_,fun j hj=>?_,fun u hu=>?_⟩
 ·have:=h.fi _ _ (Qr j hj).1 (Qr j' sJ).1 e
  unfold sk at this
  split at this<;>split at this<;>omega
 ·have h1:=h.bl i hi
  have h2:=h.bf i c hi hc
  show D.eV i < m+2 * n
  omega
 ·have h1:=h.fl _ (Qr j hj).1
  have h2:D.fr (sk c j)≠D.fr c:=fun e=>(Qr j hj).2 (h.fi _ _ (Qr j hj).1 hc e)
  show D.fr (sk c j) < m+2 * n
  omega
 ·rcases h.al u (by omega) with h1 | ⟨j,hj,e⟩
  ·exact .inl h1
  ·have hjc:j≠c:=fun q=>by rw [q] at e;omega
   by_cases q:j < c
   ·exact .inr ⟨j,by omega,by show D.fr (sk c j)=u;unfold sk;rw [if_pos q];exact e⟩
   ·exact .inr ⟨j - 1,by omega,by show D.fr (sk c (j - 1))=u;unfold sk;rw [if_neg (by omega),show j - 1+1=j by omega];exact e⟩
theorem V6 (h:D.WF m (2 * n+1)) (hc:c < 2 * n+1) (hf:D.fr c=2 * n+m) (x:Nat→Rat):(D.del c).Cm m (2 * n) x↔D.Cm m (2 * n+1) (fun u=>if u=2 * n+m then 0 else x u):=by
 have Qr:∀ j,j < 2 * n→sk c j < 2 * n+1∧sk c j≠c:=fun j hj=>by unfold sk;split<;>omega
 have hr:∀ i,D.row (2 * n+1) (fun u=>if u=2 * n+m then 0 else x u) i=(D.del c).row (2 * n) x i:=fun i=>by
  unfold row
  rw [Pd _ (2 * n) c (by omega)]
  show D.b i+(D.a i c * (if D.fr c=2 * n+m then 0 else x (D.fr c))+bJ (2 * n) fun j=>D.a i (sk c j) * (if D.fr (sk c j)=2 * n+m then 0 else x (D.fr (sk c j))))=D.b i+bJ (2 * n) fun j=>D.a i (sk c j) * x (D.fr (sk c j))
  rw [if_pos hf,aA (f:=fun j=>D.a i (sk c j) * (if D.fr (sk c j)=2 * n+m then 0 else x (D.fr (sk c j)))) (g:=fun j=>D.a i (sk c j) * x (D.fr (sk c j))) fun j hj=>by
   rw [if_neg fun e=>(Qr j hj).2 (h.fi _ _ (Qr j hj).1 hc (e.trans hf.symm))]]
  grind
 constructor
 ·intro hs i hi
  rw [hr]
  exact (if_neg (fun e=>h.bf i c hi hc (e.trans hf.symm))).trans (hs i hi)
 ·intro hs i hi
  have:=hs i hi
  rw [hr] at this
  exact (if_neg (fun e=>h.bf i c hi hc (e.trans hf.symm))).symm.trans this
def YD (D:bp) (m n:Nat) (co:Nat→Rat):bp:={ D with g:=gx D m n co n,v:=vx D m n co n }
theorem YE {k:Nat} (h:D.WF m k):(D.YD m n co).WF m k:=⟨h.bi,h.fi,h.bf,h.bl,h.fl,h.al⟩
theorem V7 (h:xC n m C B D c):Am m (2 * n) (Fj n C B co) ((D.del c).YD m n co):=by
 obtain ⟨z,he⟩:=h.eqv
 have hw:=TG h.wf h.lt h.fr
 have aaY:∀ x,(Fj n C B co).Cm m (2 * n) x↔(D.del c).Cm m (2 * n) x:=fun x=>by
  rw [V6 h.wf h.lt h.fr,← he.Kz,Cs,Kj]
  have e0:(if 2 * n+m=2 * n+m then (0:Rat) else x (2 * n+m))=0:=if_pos rfl
  have e1:∀ i,i < m→(if 2 * n+i=2 * n+m then (0:Rat) else x (2 * n+i))=x (2 * n+i):=fun i hi=>if_neg (by omega)
  have e2:∀ i,jd n C (fun j=>(if j=2 * n+m then (0:Rat) else x j) - (if n+j=2 * n+m then 0 else x (n+j))) i=jd n C (fun j=>x j - x (n+j)) i:=fun i=>by
   unfold jd
   refine aA fun j hj=>?_
   dsimp only
   rw [if_neg (by omega),if_neg (by omega)]
  constructor
  ·intro hs i hi
   show (if 2 * n+i=2 * n+m then (0:Rat) else x (2 * n+i))=B i - jd n C (fun j=>(if j=2 * n+m then (0:Rat) else x j) - (if n+j=2 * n+m then 0 else x (n+j))) i+(if 2 * n+m=2 * n+m then (0:Rat) else x (2 * n+m))
   rw [e0,e1 i hi,e2,hs i hi];grind
  ·intro hs i hi
   have:=hs i hi
   have this:(if 2 * n+i=2 * n+m then (0:Rat) else x (2 * n+i))=B i - jd n C (fun j=>(if j=2 * n+m then (0:Rat) else x j) - (if n+j=2 * n+m then 0 else x (n+j))) i+(if 2 * n+m=2 * n+m then (0:Rat) else x (2 * n+m)):=this
   rw [e0,e1 i hi,e2] at this
   rw [this];grind
 refine ⟨fun x=>aaY x,fun x hx=>?_⟩
 have h1:=WZ hw (co:=co) ((aaY x).1 hx) n (aP n) (by omega)
 rw [TE]
 show _=vx (D.del c) m n co n+bJ (2 * n) (fun j=>gx (D.del c) m n co n j * x ((D.del c).fr j))
 rw [h1]
 unfold gv
 rw [aA (f:=fun j=>(D.del c).g j * x ((D.del c).fr j)) (g:=fun _=>0) fun j _=>by show 0 * _=_;grind,gQ]
 show _=0+0+_
 grind
variable (hw:D.WF m (2 * n)) (he:Am m (2 * n) (Fj n C B co) D)
include hw he
omit hw in
theorem Ph {x:Nat→Rat} (hx:D.Cm m (2 * n) x):D.gv (2 * n) x=bJ n fun j=>co j * (x j - x (n+j)):=by
 rw [← he.gv x ((he.Kz x).2 hx),TE]
omit hw in
theorem NJ {x:Nat→Rat} (hx:D.Cm m (2 * n) x) {i:Nat} (hi:i < m):x (2 * n+i)=B i - jd n C (fun j=>x j - x (n+j)) i:=(Kj n m C B co _).1 ((he.Kz x).2 hx) i hi
theorem opt (hf:D.KA m) (hg:∀ j,j < 2 * n→D.g j≤0) :
  (∀ i,0≤-(D.gc (2 * n) (2 * n+i)))∧(∀ j,j < n→bJ m (fun i=>-(D.gc (2 * n) (2 * n+i)) * C i j)=co j)∧bJ m (fun i=>-(D.gc (2 * n) (2 * n+i)) * B i)=D.v ∧
   (∀ i,i < m→jd n C (fun j=>nL D m j - nL D m (n+j)) i≤B i)∧bJ n (fun j=>co j * (nL D m j - nL D m (n+j)))=D.v:=by
 have T9:∀ u,D.gc (2 * n) u≤0:=fun u=>by
  by_cases e:∃ j,j < 2 * n∧D.fr j=u
  ·obtain ⟨j,hj,rfl⟩:=e
   rw [L4 hw hj];exact hg j hj
  ·rw [Cr fun j hj q=>e ⟨j,hj,q⟩];exact Rat.le_refl
 -- the goal at the solution that unknowns tell
 have key:∀ y:Nat→Rat,D.v+(bJ n (fun j=>D.gc (2 * n) j * y j)+bJ n (fun j=>D.gc (2 * n) (n+j) * y (n+j))+bJ m fun i=>D.gc (2 * n) (2 * n+i) * (B i - jd n C (fun j=>y j - y (n+j)) i))=bJ n fun j=>co j * (y j - y (n+j)):=fun y=>by
  have hs:=(he.Kz _).1 (TF n m C B co y)
  have h1:=Ph he hs
  rw [SV hw] at h1
  have e1:bJ n (fun j=>co j * (zp n C B y j - zp n C B y (n+j)))=bJ n fun j=>co j * (y j - y (n+j)):=aA fun j hj=>by
   unfold zp;rw [if_neg (by omega),if_neg (by omega)]
  rw [e1] at h1
  rw [← h1,show m+2 * n=n+(n+m) by omega,nJ,nJ]
  rw [aA (f:=fun j=>D.gc (2 * n) j * zp n C B y j) (g:=fun j=>D.gc (2 * n) j * y j) fun j hj=>by unfold zp;rw [if_neg (by omega)],
   aA (f:=fun j=>D.gc (2 * n) (n+j) * zp n C B y (n+j)) (g:=fun j=>D.gc (2 * n) (n+j) * y (n+j)) fun j hj=>by unfold zp;rw [if_neg (by omega)],
   aA (f:=fun i=>D.gc (2 * n) (n+(n+i)) * zp n C B y (n+(n+i))) (g:=fun i=>D.gc (2 * n) (2 * n+i) * (B i - jd n C (fun j=>y j - y (n+j)) i)) fun i _=>by
    rw [show n+(n+i)=2 * n+i by omega];unfold zp;rw [if_pos (by omega),show 2 * n+i - 2 * n=i by omega]]
  grind
 have k0:=key fun _=>0
 have z1:∀ i,jd n C (fun _=>(0:Rat) - 0) i=0:=fun i=>by
  unfold jd;rw [aA (g:=fun _=>0) fun j _=>by grind,gQ]
 have ZN:D.v+bJ m (fun i=>D.gc (2 * n) (2 * n+i) * B i)=0:=by
  rw [aA (n:=n) (f:=fun j=>D.gc (2 * n) j * 0) (g:=fun _=>0) fun j _=>by grind,aA (n:=n) (f:=fun j=>D.gc (2 * n) (n+j) * 0) (g:=fun _=>0) fun j _=>by grind,aA (n:=n) (f:=fun j=>co j * (0 - 0)) (g:=fun _=>0) fun j _=>by grind,
   gQ,aA (n:=m) (f:=fun i=>D.gc (2 * n) (2 * n+i) * (B i - jd n C (fun _=>0 - 0) i)) (g:=fun i=>D.gc (2 * n) (2 * n+i) * B i) fun i _=>by rw [z1];grind] at k0
  grind
 -- a single unknown
 have k1:∀ (j:Nat) (s:Rat) (t:Rat),j < n→D.gc (2 * n) j * s+D.gc (2 * n) (n+j) * t - (s - t) * bJ m (fun i=>D.gc (2 * n) (2 * n+i) * C i j)=co j * (s - t):=fun j s t hj=>by
  have k:=key fun u=>if u=j then s else if u=n+j then t else 0
  have y1:∀ a,a < n→(if a=j then s else if a=n+j then t else (0:Rat))=if a=j then s else 0:=fun a ha=>by
   by_cases e:a=j
   ·rw [if_pos e,if_pos e]
   ·rw [if_neg e,if_neg e,if_neg (by omega)]
  have y2:∀ a,a < n→(if n+a=j then s else if n+a=n+j then t else (0:Rat))=if a=j then t else 0:=fun a ha=>by
   rw [if_neg (by omega)]
   by_cases e:a=j
   ·rw [if_pos (by omega),if_pos e]
   ·rw [if_neg (by omega),if_neg e]
  have d1:∀ i,jd n C (fun a=>(if a=j then s else if a=n+j then t else (0:Rat)) - (if n+a=j then s else if n+a=n+j then t else 0)) i=C i j * (s - t):=fun i=>by
   unfold jd
   rw [aA (g:=fun a=>if a=j then C i j * (s - t) else 0) fun a ha=>by
    dsimp only
    rw [y1 a ha,y2 a ha]
    by_cases e:a=j
    ·rw [if_pos e,if_pos e,if_pos e,e]
    ·rw [if_neg e,if_neg e,if_neg e];grind]
   rw [jv hj _ fun a _ h=>if_neg h,if_pos rfl]
  rw [aA (n:=n) (f:=fun a=>D.gc (2 * n) a * (if a=j then s else if a=n+j then t else 0)) (g:=fun a=>if a=j then D.gc (2 * n) j * s else 0) fun a ha=>by
    rw [y1 a ha]
    by_cases e:a=j
    ·rw [if_pos e,if_pos e,e]
    ·rw [if_neg e,if_neg e];grind,
   aA (n:=n) (f:=fun a=>D.gc (2 * n) (n+a) * (if n+a=j then s else if n+a=n+j then t else 0)) (g:=fun a=>if a=j then D.gc (2 * n) (n+j) * t else 0) fun a ha=>by
    rw [y2 a ha]
    by_cases e:a=j
    ·rw [if_pos e,if_pos e,e]
    ·rw [if_neg e,if_neg e];grind,
   aA (n:=n) (f:=fun a=>co a * ((if a=j then s else if a=n+j then t else 0) - (if n+a=j then s else if n+a=n+j then t else 0))) (g:=fun a=>if a=j then co j * (s - t) else 0) fun a ha=>by
    rw [y1 a ha,y2 a ha]
    by_cases e:a=j
    ·rw [if_pos e,if_pos e,if_pos e,e]
    ·rw [if_neg e,if_neg e,if_neg e];grind,
   jv hj _ fun a _ h=>if_neg h,if_pos rfl,jv hj _ fun a _ h=>if_neg h,if_pos rfl,jv hj _ fun a _ h=>if_neg h,if_pos rfl,
   aA (n:=m) (g:=fun i=>D.gc (2 * n) (2 * n+i) * B i - (s - t) * (D.gc (2 * n) (2 * n+i) * C i j)) fun i _=>by rw [d1];grind,zh,ja] at k
  grind
 have rP:∀ f:Nat→Rat,bJ m (fun i=>-(D.gc (2 * n) (2 * n+i)) * f i) = - bJ m fun i=>D.gc (2 * n) (2 * n+i) * f i:=fun f=>by
  rw [aA (g:=fun i=>(-1) * (D.gc (2 * n) (2 * n+i) * f i)) fun i _=>by grind,ja];grind
 have Mi:=oW hw qX
 refine ⟨fun i=>by have:=T9 (2 * n+i);grind,fun j hj=>?_,by rw [rP];grind,fun i hi=>?_,?_⟩
 ·have a1:=k1 j 1 0 hj
  have a2:=k1 j 0 1 hj
  have b1:=T9 j
  have b2:=T9 (n+j)
  rw [rP]
  grind
 ·have h1:=NJ he Mi hi
  have h2:=z7 hw hf (2 * n+i) (by omega)
  have e:(fun j=>nL D m j - nL D m (n+j))=fun j=>D.ext m (2 * n) qX j - D.ext m (2 * n) qX (n+j):=by
   funext j;rw [Aa D _ (2 * n),Aa D _ (2 * n)]
  rw [e]
  grind
 ·have h1:=Ph he Mi
  rw [zf hw,DN] at h1
  rw [h1]
  exact aA fun j _=>by rw [Aa D _ (2 * n),Aa D _ (2 * n)]
omit he in
theorem TH {j u:Nat} (hj:j < 2 * n) (hu:u < m+2 * n):D.fP m u j=D.dir m (2 * n) j u:=by
 rcases hw.al u hu with ⟨i,hi,rfl⟩ | ⟨c',jr,rfl⟩
 ·unfold fP;rw [qm hw.bi hi,Ka hw hi hj]
 ·unfold fP;rw [mj fun i hi=>hw.bf i c' hi jr,Bj hw jr hj]
  by_cases e:c'=j
  ·simp only [e,if_true]
  ·simp only [e,if_false];exact if_neg fun q=>e (hw.fi _ _ hj jr q).symm
theorem ray {j:Nat} (hj:j < 2 * n) (hg:0 < D.g j) (hn:∀ i,i < m→0≤D.a i j) :
  (∀ i,i < m→jd n C (fun a=>D.fP m a j - D.fP m (n+a) j) i≤0)∧0 < bJ n fun a=>co a * (D.fP m a j - D.fP m (n+a) j):=by
 have Mi:=oW hw qX
 have HG:=oW hw (one (D.fr j))
 have ed:∀ u,u < m+2 * n→D.fP m u j=D.ext m (2 * n) (one (D.fr j)) u - D.ext m (2 * n) qX u:=fun u hu=>TH hw hj hu
 have MC:∀ u,u < m+2 * n→0≤D.fP m u j:=fun u hu=>by
  rcases hw.al u hu with ⟨i,hi,rfl⟩ | ⟨c',jr,rfl⟩
  ·unfold fP;rw [qm hw.bi hi];exact hn i hi
  ·unfold fP;rw [mj fun i hi=>hw.bf i c' hi jr]
   show 0≤if D.fr j=D.fr c' then (1:Rat) else 0
   split<;>decide
 refine ⟨fun i hi=>?_,?_⟩
 ·have h0:=NJ he Mi hi
  have h1:=NJ he HG hi
  have h2:=MC (2 * n+i) (by omega)
  rw [ed _ (by omega)] at h2
  have e:jd n C (fun a=>D.fP m a j - D.fP m (n+a) j) i=jd n C (fun j_1=>D.ext m (2 * n) (one (D.fr j)) j_1 - D.ext m (2 * n) (one (D.fr j)) (n+j_1)) i - jd n C (fun j=>D.ext m (2 * n) qX j - D.ext m (2 * n) qX (n+j)) i:=by
   unfold jd
   rw [← zh]
   exact aA fun a ha=>by dsimp only;rw [ed a (by omega),ed (n+a) (by omega)];grind
  rw [e]
  grind
 ·have h0:=Ph he Mi
  have h1:=Ph he HG
  rw [zf hw,DN] at h0
  rw [zf hw,J8 hw hj] at h1
  have e:bJ n (fun a=>co a * (D.fP m a j - D.fP m (n+a) j))=bJ n (fun a=>co a * (D.ext m (2 * n) (one (D.fr j)) a - D.ext m (2 * n) (one (D.fr j)) (n+a))) - bJ n fun a=>co a * (D.ext m (2 * n) qX a - D.ext m (2 * n) qX (n+a)):=by
   rw [← zh]
   exact aA fun a ha=>by rw [ed a (by omega),ed (n+a) (by omega)];grind
  rw [e]
  grind
end
end bp
end Go.Den
namespace Go.Den
open Go.Ab
section
variable {n m k h j s:Nat} {D:bp}
theorem I9 (hm:m≤1000) (hw:D.WF m k) (hj:j < k) (u:Nat) :
  Gv (fun N=>ju N (u:Int) (n:Int) (m:Int) (aX D.v).fN.fG (aX D.v).fN.fL (aX D.v).fD.fG (aX D.v).fD.fL (h:Int) (LN D.eV m) (LN D.fr k) (LA D.a m k) (LQ D.b m) (LQ D.g k) (j:Int)) (aX (D.fP m u j)):=by
 refine Gv.if (inl hj (eO _ _)) ?_
 rw [aj,qM _ _ hj]
 by_cases e:D.fr j=u
 ·refine Gv.ax (by rw [e];simp) ((S7 1 (by decide) (by decide)).bind ((Gv.pure _).eq ?_))
  unfold bp.fP
  rw [← e,bp.mj fun i hi=>hw.bf i j hi hj]
  show aX ((1:Int):Rat)=aX (if D.fr j=D.fr j then 1 else 0)
  rw [if_pos rfl];rfl
 ·have e0:(((D.fr j:Nat):Int) == ((u:Nat):Int))=false:=beq_eq_false_iff_ne.2 (by omega)
  obtain ⟨r,q1,q2⟩:=Bk (f:=D.eV) (k:=m) (v:=u) hm
  refine Gv.aL e0 (Gv.bind q1 ?_)
  rcases q2 with ⟨rfl,q2⟩ | ⟨i,rfl,hi,q2⟩
  ·refine Gv.aL (by decide) (s9.bind ((Gv.pure _).eq ?_))
   unfold bp.fP;rw [bp.mj q2]
   show aX 0=aX (if D.fr j=u then 1 else 0)
   rw [if_neg e]
  ·refine Gv.ax (by simp) ?_
   simp only [aj,uf _ _ hi]
   refine Gv.if (by rw [jb];exact hi) (Gv.if (inl hi (jb _ _ _)) (Gv.if (inl hj (bP _ _)) ((Gv.pure _).eq ?_)))
   rw [gZ _ _ hj]
   unfold bp.fP;rw [← q2,bp.qm hw.bi hi]
theorem Ja (hm:m≤1000) (hn:n≤400) (hs:2 * s+1≤MS) (hw:D.WF m k) (hj:j < k) (hp:∀ u,u < 2 * n→RB (D.fP m u j) s):∀ (d x:Nat) (L:List aa),x+d=n→L.length=n→(∀ i,i < x→L.getD i aa.d=aX (D.fP m i j - D.fP m (n+i) j)) →
  aH (fun N g=>dr N (n:Int) (m:Int) (aX D.v).fN.fG (aX D.v).fN.fL (aX D.v).fD.fG (aX D.v).fD.fL (h:Int) (LN D.eV m) (LN D.fr k) (LA D.a m k) (LQ D.b m) (LQ D.g k) (j:Int) g L (x:Int)) (LQ (fun i=>D.fP m i j - D.fP m (n+i) j) n)
 | 0,x,L,hx,hL,h0=>aH.succ (fun N g=>dr.eq_2 ..) (aH.aL (LY (m:=x) (n:=n) (by omega) (by rw [de];rfl)) (aH.one ((Gv.pure _).eq (DQ aa.d hL fun i hi=>h0 i (by omega)))))
 | d+1,x,L,hx,hL,h0=>by
  have Ua:x < n:=by omega
  have ew:ao ((n:Int)+(x:Int))=((n+x:Nat):Int):=by rw [bC (by omega) (by omega)];omega
  have r1:=(hp x (by omega)).q (show s≤MS by omega)
  have r2:=(hp (n+x) (by omega)).q (show s≤MS by omega)
  refine aH.succ (fun N g=>dr.eq_2 ..) (aH.ax (Ky (n:=n) Ua (by rw [de];rfl)) (aH.bind (I9 hm hw hj x) ?_))
  rw [ew]
  refine aH.bind (I9 hm hw hj (n+x)) (aH.bind (r1.sub r2 (E2 (by decide))) (aH.if (inl Ua hL) ?_))
  rw [bh (show x < 9223372036854775807 by omega),aj]
  refine Ja hm hn hs hw hj hp d (x+1) _ (by omega) (by rw [List.length_set];exact hL) fun i hi=>?_
  by_cases e:x=i
  ·subst e;exact lN _ _ _ _ (by omega)
  ·rw [jj _ _ _ e];exact h0 i (by omega)
theorem Qj (hm:m≤1000) (hn:n≤400) (hs:2 * s+1≤MS) (hw:D.WF m k) (hj:j < k) (hp:∀ u,u < 2 * n→RB (D.fP m u j) s) :
  Gv (fun N=>iV N (n:Int) (m:Int) (aX D.v).fN.fG (aX D.v).fN.fL (aX D.v).fD.fG (aX D.v).fD.fL (h:Int) (LN D.eV m) (LN D.fr k) (LA D.a m k) (LQ D.b m) (LQ D.g k) (j:Int)) (LQ (fun i=>D.fP m i j - D.fP m (n+i) j) n) :=
 Gv.if (by omega) (Ja hm hn hs hw hj hp n 0 (List.replicate n aa.d) (by omega) de fun i hi=>absurd hi (dP _)).diag
theorem Pj {D:bp} {m k s:Nat} (hw:D.WF m k) (h1:1≤s) (ha:∀ i c,i < m→c < k→RB (D.a i c) s) {u c:Nat} (hu:u < m+k) (hc:c < k):RB (D.fP m u c) s:=by
 rcases hw.al u hu with ⟨i,hi,rfl⟩ | ⟨c',jr,rfl⟩
 ·unfold bp.fP;rw [bp.qm hw.bi hi];exact ha i c hi hc
 ·unfold bp.fP;rw [bp.mj fun i hi=>hw.bf i c' hi jr]
  show RB (if D.fr c=D.fr c' then (1:Rat) else 0) s
  split
  ·exact bp.Yo.le h1
  ·exact RB.zero.le h1
theorem TI {D:bp} {m k s:Nat} (hw:D.WF m k) (h1:1≤s) (hb:∀ i,i < m→RB (D.b i) s) (u:Nat):RB (nL D m u) s:=by
 by_cases e:∃ i,i < m∧D.eV i=u
 ·obtain ⟨i,hi,rfl⟩:=e
  unfold nL;rw [bp.qm hw.bi hi];exact hb i hi
 ·unfold nL;rw [bp.mj fun i hi q=>e ⟨i,hi,q⟩];exact RB.zero.le h1
end
section
variable {n:Nat} {l:List aE} {ob:List aa}
def Mk (ob:List aa) (j:Nat):Rat:=qv (ob.getD j aa.d)
structure Opt (n:Nat) (l:List aE) (ob:List aa) (x y:Nat→Rat) (v:Rat):Prop where
 poi:Poi n l x
 nn:∀ i,i < l.length→0≤y i
 col:∀ j,j < n→bJ l.length (fun i=>y i * cf l i j)=Mk ob j
 WK:bJ l.length (fun i=>y i * bv l i)=v
 val:bJ n (fun j=>Mk ob j * x j)=v
 rb:∀ i,i < l.length→RB (y i) 400000
 rv:RB v 400000
structure aer (n:Nat) (l:List aE) (ob:List aa) (d:Nat→Rat):Prop where
 le:∀ i,i < l.length→bp.jd n (cf l) d i≤0
 gt:0 < bJ n fun j=>Mk ob j * d j
 rb:∀ j,j < n→RB (d j) 400000
theorem tb7 {m:Nat} (h:m≤7):bp.tb m 2 12≤400000:=dp (bp.WY 2 12 h) (by decide)
theorem Ib {D:bp} {c:Nat} (hl:lA l) (h7:l.length≤7) (h:xC n l.length (cf l) (bv l) D c):(∀ i j,i < l.length→j < 2 * n+1→RB (D.a i j) 156250)∧∀ i,i < l.length→RB (D.b i) 156250:=by
 obtain ⟨z,he⟩:=h.eqv
 have e0:bp.Am l.length (2 * n+1) (bp.fst n l.length (cf l) (bv l) 0) { D with g:=fun j=>if D.fr j=2 * n+l.length then 0 else 0,v:=0 }:=⟨fun x=>by
  rw [← bp.Hc n l.length (cf l) (bv l) z D x he];exact Iff.rfl,fun x _=>by
  rw [bp.ND];unfold bp.gv
  rw [aA (g:=fun _=>0) fun j _=>by simp,gQ];grind⟩
 have hw:bp.WF { D with g:=fun j=>if D.fr j=2 * n+l.length then 0 else 0,v:=0 } l.length (2 * n+1):=⟨h.wf.bi,h.wf.fi,h.wf.bf,h.wf.bl,h.wf.fl,h.wf.al⟩
 have hs:=bp.size hw (bp.DP n l.length (cf l) (bv l) 0) e0 (Kh hl) (by decide:1≤2)
 exact ⟨fun i j hi hj=>(hs.a i j hi hj).le (Qg h7),fun i hi=>(hs.b i hi).le (Qg h7)⟩
theorem NK (hq:LB ob 12) (j:Nat):RB (Mk ob j) 12:=(hq.rq (by decide) j).rb
theorem TJ (hl:lA l) (i j:Nat):RB (cf l i j) 2:=⟨(((hl.row i).co j).rb (by decide)).num,(((hl.row i).co j).rb (by decide)).den⟩
theorem TK (hl:lA l) (hq:LB ob 12):(bp.Fj n (cf l) (bv l) (Mk ob)).Hq l.length (2 * n) 2 12:=by
 refine ⟨fun i j _ _=>?_,fun i _=>(hl.row i).WO.rb,fun j _=>?_,RB.zero.le (by decide)⟩
 ·simp only [bp.Fj]
  split
  ·exact (TJ hl i j).neg
  ·exact TJ hl i _
 ·simp only [bp.Fj]
  split
  ·exact NK hq j
  ·exact (NK hq _).neg
theorem Ei (hn:n≤4) (hl:lA l) (h7:l.length≤7) (hc:eD n l=0) (cE:ob.length=n) (hq:LB ob 12) :
  (∃ y,Yy n l y∧Gv (fun N=>la N ob l) (⟨aa.d,[],LQ y l.length⟩,29))∨(∃ d,(∃ x,Poi n l x)∧aer n l ob d∧Gv (fun N=>la N ob l) (⟨aa.d,LQ d n,[]⟩,14)) ∨
   ∃ x y v,Opt n l ob x y v∧Gv (fun N=>la N ob l) (⟨aX v,LQ x n,LQ y l.length⟩,0):=by
 obtain ⟨_,ok⟩:=Hj hc
 rw [aj] at ok
 have hb:=Tp (n:=n) (by omega) hl (by omega) ok.co
 obtain ⟨r,q1,q2⟩:=Qf (n:=n) (m:=l.length) (C:=cf l) (B:=bv l) (s:=2) (by omega) (by omega) (Kh hl) (by decide) (by have:=Qg h7;show 5 * (5 ^ l.length * 2)≤100000000;omega)
 have uX:(eD (n:Int) l != 0)=false:=by rw [hc];rfl
 have Xo:Gv (fun N=>iw N ((ob.length:Nat):Int) l) (eD (n:Int) l):=by rw [cE];exact ta _ _
 have hbe:Gv (fun N=>vV N ((ob.length:Nat):Int) l) (TB n l):=by rw [cE];exact hb
 rcases q2 with ⟨D,q2,rfl⟩ | ⟨D,c,q2,rfl⟩
 ·obtain ⟨g1,g2⟩:=Ki hl h7 q2
  refine .inl ⟨_,g1,Xo.bind (Gv.aL uX (hbe.bind (q1.bind ?_)))⟩
  simp only [RS,TB,eO,jb,bP]
  refine Gv.if trivial (Gv.if trivial (Gv.if trivial (Gv.ax rfl ((O9 (by omega) (by omega) (by omega) (by decide:156250≤MS) q2.wf g2).bind (Gv.pure _)))))
 ·obtain ⟨g1,_⟩:=Ia hl h7 q2
  obtain ⟨ra,rb⟩:=Ib hl h7 q2
  have R3:=bp.TG q2.wf q2.lt q2.fr
  have ra1:∀ i j,i < l.length→j < 2 * n→RB ((D.del c).a i j) 156250:=fun i j hi hj=>ra i _ hi (by unfold sk;split<;>omega)
  have rb1:∀ i,i < l.length→RB ((D.del c).b i) 156250:=rb
  have aes:=YB (D:=D.del c) (k:=2 * n) (m:=l.length) (n:=n) (h:=2 * n+l.length) (s:=156250) (t:=1) (ob:=ob) (co:=Mk ob) (by omega) (by omega) R3 ra1 rb1 (by omega) (by omega) cE (fun j=>hq.rq (by decide) j) (NK hq)
   (fun u hu=>⟨fun c' jr=>Pj R3 (by decide) ra1 hu jr,TI R3 (by decide) rb1 u⟩) (fun c' _=>RB.zero) RB.zero (by show 1+n * (2 * (156250+13))≤100000000;omega)
  have Y6:=bp.YE (n:=n) (co:=Mk ob) R3
  have he2:=bp.V7 (co:=Mk ob) q2
  have eW:=TK (n:=n) hl hq
  have hp5:=Qg h7
  obtain ⟨D',r,Ps,YM,Qu,zs,TN⟩:=L6 (n:=n) (m:=l.length) (k:=2 * n) (h:=2 * n+l.length) (s:=12) (D:=(D.del c).YD l.length n (Mk ob)) (by omega) (by omega) (bp.TD n l.length (cf l) (bv l) (Mk ob))
   ⟨fun i j hi hj=>(eW.a i j hi hj).le (by decide),fun i hi=>(eW.b i hi).le (by decide),eW.g,eW.v⟩ (by decide) (by show 5 * (5 ^ l.length * 12)≤100000000;omega) Y6 q2.fea he2
  have kr:=bp.aaX Ps (bp.TD n l.length (cf l) (bv l) (Mk ob)) Qu eW (by decide)
  have ht:=tb7 h7
  have YF:=TN.diag
  have go:∀ R,Gv (fun N=>(cond (decide (r≥0))
    (((mS N r (n:Int) (l.length:Nat) (aX D'.v).fN.fG (aX D'.v).fN.fL (aX D'.v).fD.fG (aX D'.v).fD.fL ((2 * n+l.length:Nat):Int) (LN D'.eV l.length) (LN D'.fr (2 * n)) (LA D'.a l.length (2 * n)) (LQ D'.b l.length) (LQ D'.g (2 * n))).bind fun Gi =>
     ((iV N (n:Int) (l.length:Nat) (aX D'.v).fN.fG (aX D'.v).fN.fL (aX D'.v).fD.fG (aX D'.v).fD.fL ((2 * n+l.length:Nat):Int) (LN D'.eV l.length) (LN D'.fr (2 * n)) (LA D'.a l.length (2 * n)) (LQ D'.b l.length) (LQ D'.g (2 * n)) Gi).bind fun si =>
     some ((⟨aa.d,si,([]:List aa)⟩:j4),(14:Int)))))
    (((k8 N (n:Int) (l.length:Nat) (aX D'.v).fN.fG (aX D'.v).fN.fL (aX D'.v).fD.fG (aX D'.v).fD.fL ((2 * n+l.length:Nat):Int) (LN D'.eV l.length) (LN D'.fr (2 * n)) (LA D'.a l.length (2 * n)) (LQ D'.b l.length) (LQ D'.g (2 * n))).bind fun oQ =>
     ((eZ N (n:Int) (l.length:Nat) (aX D'.v).fN.fG (aX D'.v).fN.fL (aX D'.v).fD.fG (aX D'.v).fD.fL ((2 * n+l.length:Nat):Int) (LN D'.eV l.length) (LN D'.fr (2 * n)) (LA D'.a l.length (2 * n)) (LQ D'.b l.length) (LQ D'.g (2 * n))).bind fun fj =>
     some ((⟨aX D'.v,oQ,fj⟩:j4),(0:Int))))))) R→Gv (fun N=>la N ob l) R:=fun R hR=>by
   refine Xo.bind (Gv.aL uX (hbe.bind (q1.bind ?_)))
   simp only [RS,TB,eO,jb,bP]
   refine Gv.if trivial (Gv.if trivial (Gv.if trivial (Gv.aL rfl (aes.bind ?_))))
   simp only [bP]
   refine Gv.if trivial (YF.bind ?_)
   simp only [RT,eO,jb,bP]
   exact Gv.if trivial (Gv.if trivial (Gv.if trivial (Gv.if trivial (Gv.if trivial hR))))
  right
  rcases zs with ⟨rfl,hg⟩ | ⟨j,rfl,Yn,MC⟩
  ·right
   obtain ⟨o1,o2,o3,o4,o5⟩:=bp.opt Ps Qu YM hg
   have hp:∀ u,RB (nL D' l.length u) 156250:=TI Ps (by decide) fun i hi=>(kr.b i hi).le hp5
   have T9:∀ i,RB (-(D'.gc (2 * n) (2 * n+i))) 400000:=fun i=>by
    by_cases e:∃ j,j < 2 * n∧D'.fr j=2 * n+i
    ·obtain ⟨j,hj,e⟩:=e
     rw [← e,bp.L4 Ps hj];exact (kr.g j hj).neg.le ht
    ·rw [bp.Cr fun j hj q=>e ⟨j,hj,q⟩];exact RB.zero.neg.le (by decide)
   refine ⟨_,_,_,⟨⟨o4,fun j _=>((hp j).sub (hp (n+j))).le (by omega)⟩,fun i _=>o1 i,o2,o3,o5,fun i _=>T9 i,kr.v.le ht⟩,go _ (Gv.aL (by decide) ?_)⟩
   exact (Tr (by omega) (by omega) (s:=156250) (by decide) Ps.bi hp).bind ((O9 (by omega) (by omega) (by omega) (show bp.tb l.length 2 12≤MS by show _≤100000000;omega) Ps kr.g).bind (Gv.pure _))
  ·left
   obtain ⟨p1,p2⟩:=bp.ray Ps Qu Yn.lt Yn.pos MC
   have hd:∀ u,u < 2 * n→RB (D'.fP l.length u j) 156250:=fun u hu=>Pj Ps (by decide) (fun i c' hi jr=>(kr.a i c' hi jr).le hp5) (by omega) Yn.lt
   refine ⟨_,⟨_,g1⟩,⟨p1,p2,fun a ha=>((hd a (by omega)).sub (hd (n+a) (by omega))).le (by omega)⟩,go _ (Gv.ax (by simp) ?_)⟩
   exact Gv.bind (r:=((j:Nat):Int)) (Gv.pure _) ((Qj (by omega) (by omega) (s:=156250) (by decide) Ps Yn.lt hd).bind (Gv.pure _))
end
end Go.Den
namespace Go.Den
open Go.Ab
section
variable {n:Nat} {l:List aE} {ob:List aa}
theorem LB.up {x:List aa} {a b:Nat} (h:LB x a) (T5:a≤b):LB x b:=⟨h.len,fun i=>(h.ir i).le T5⟩
theorem YG (cE:ob.length=n) {d:Nat→Rat}:Bl ob (LQ d n)=bJ n fun j=>Mk ob j * d j:=by
 rw [Cw (Nat.le_of_eq cE),aA (g:=fun j=>Mk ob j * d j) fun j hj=>by rw [gZ _ _ hj,jo];rfl]
theorem Mc (ok:xD n l) (cE:ob.length=n) {x y:Nat→Rat} {v:Rat} (h:Opt n l ob x y v):I7 ob l ⟨aX v,LQ x n,LQ y l.length⟩=true:=by
 have hy:∀ i,i < l.length→yv (LQ y l.length) i=y i:=fun i hi=>aaV hi
 unfold I7
 dsimp only
 rw [Qh ok h.poi,Ho fun a _ h2=>by rw [bP] at h2;rw [hy a (by omega)];exact h.nn a (by omega),NI,aA (g:=fun i=>y i * bv l i) fun i hi=>by rw [hy i hi],
  decide_eq_true (by rw [h.WK,jo];grind),YG cE,decide_eq_true (by rw [h.val,jo];grind),Eh fun a _ h2=>by
   unfold Yx
   rw [NH,aA (g:=fun i=>y i * cf l i a) fun i hi=>by rw [hy i hi],h.col a (by omega)]
   show Mk ob a - Mk ob a=0
   grind]
 rfl
theorem Jb {x y:Nat→Rat} {v:Rat} (h:Opt n l ob x y v):RQ (aX v) (qv (aX v)) 400000:=by rw [jo];exact h.rv.rq (by decide)
end
end Go.Den
namespace Go.Den
open Go.Ab
theorem V8 {n:Nat} {f g:Nat→Rat} (h:∀ i,i < n→f i≤g i):bJ n f≤bJ n g:=by
 induction n with
 | zero=>exact Rat.le_refl
 | succ n ih =>
  have h1:=ih fun i hi=>h i (by omega)
  have h2:=h n (by omega)
  rw [bJ,bJ];grind
section
variable {n:Nat} {l:List aE} {ob:List aa}
theorem YH {y x:Nat→Rat} (hy:∀ i,i < l.length→0≤y i) (hx:∀ i,i < l.length→bp.jd n (cf l) x i≤bv l i):bJ n (fun j=>bJ l.length (fun i=>y i * cf l i j) * x j)≤bJ l.length fun i=>y i * bv l i:=by
 have e:bJ n (fun j=>bJ l.length (fun i=>y i * cf l i j) * x j)=bJ l.length fun i=>y i * bp.jd n (cf l) x i:=by
  unfold bp.jd
  rw [aA (f:=fun i=>y i * bJ n fun j=>cf l i j * x j) (g:=fun i=>bJ n fun j=>y i * (cf l i j * x j)) fun i _=>by rw [ja],I3]
  exact aA fun j _=>by
   rw [aA (f:=fun i=>y i * (cf l i j * x j)) (g:=fun i=>x j * (y i * cf l i j)) fun i _=>by grind,ja];grind
 rw [e]
 exact V8 fun i hi=>Rat.mul_le_mul_of_nonneg_left (hx i hi) (hy i hi)
theorem Hr {x:List aa}:∀ {k i:Nat},kI l x k i=false→∀ a,i≤a→a < i+k→¬ vz l x a
 | 0,_,_,a,h1,h2=>by omega
 | k+1,i,h,a,h1,h2=>by
  rw [kI] at h
  split at h
  ·cases h
  ·rename_i hb
   by_cases e:a=i
   ·rw [e];exact hb
   ·exact Hr h a (by omega) (by omega)
theorem Hs {y:List aa}:∀ {k i:Nat},sE y k i=false→∀ a,i≤a→a < i+k→0≤yv y a
 | 0,_,_,a,h1,h2=>by omega
 | k+1,i,h,a,h1,h2=>by
  rw [sE] at h
  split at h
  ·cases h
  ·rename_i hb
   by_cases e:a=i
   ·rw [e];exact Rat.not_lt.1 hb
   ·exact Hs h a (by omega) (by omega)
theorem Jc {f:Nat→Rat}:∀ {k i:Nat},uU f k i=false→∀ a,i≤a→a < i+k→f a=0
 | 0,_,_,a,h1,h2=>by omega
 | k+1,i,h,a,h1,h2=>by
  rw [uU] at h
  split at h
  ·rename_i hb
   by_cases e:a=i
   ·rw [e];exact hb
   ·exact Jc h a (by omega) (by omega)
  ·cases h
def pv (x:List aa) (j:Nat):Rat:=qv (x.getD j aa.d)
theorem Ht (ok:xD n l) {x:List aa} (h:kI l x l.length 0=false) {i:Nat} (hi:i < l.length):bp.jd n (cf l) (pv x) i≤bv l i:=by
 have:=Hr h i (Nat.zero_le _) (by omega)
 unfold vz at this
 rw [Cw (ok.co i hi)] at this
 have e:bp.jd n (cf l) (pv x) i=bJ n fun j=>qv ((l.getD i aE.d).bj.getD j aa.d) * qv (x.getD j aa.d):=rfl
 rw [← e] at this
 show _≤qv (l.getD i aE.d).bK
 grind
theorem Qk (ok:xD n l) {x y:List aa} (h:kI l x l.length 0=false) (hy:y.length=l.length) (hc:contra l y n=true):False:=by
 unfold contra at hc
 simp only [aV,Bool.not_eq_true',decide_eq_true_eq] at hc
 obtain ⟨⟨h1,h2⟩,h3⟩:=hc
 have w:=YH (n:=n) (l:=l) (y:=yv y) (x:=pv x) (fun i hi=>Hs h1 i (Nat.zero_le _) (by omega)) fun i hi=>Ht ok h hi
 rw [NI] at h2
 rw [aA (g:=fun _=>0) fun j hj=>by rw [← NH,Jc h3 j (Nat.zero_le _) (by omega)];grind,gQ] at w
 grind
theorem V9 (ok:xD n l) {x:List aa} (h:kI l x l.length 0=false) {y:Nat→Rat} (hm:Yy n l y):False:=by
 have w:=YH (n:=n) (l:=l) hm.nn fun i hi=>Ht ok h hi
 rw [aA (g:=fun _=>0) fun j hj=>by rw [hm.col j hj];grind,gQ] at w
 have:=hm.neg
 grind
theorem Ql (ok:xD n l) (cE:ob.length=n) {p:List aa} (h:kI l p l.length 0=false) {x y:Nat→Rat} {v:Rat} (ho:Opt n l ob x y v):Bl ob p≤v:=by
 have w:=YH (n:=n) (l:=l) ho.nn fun i hi=>Ht ok h hi
 rw [ho.WK,aA (g:=fun j=>Mk ob j * pv p j) fun j hj=>by rw [ho.col j hj]] at w
 rw [Cw (Nat.le_of_eq cE)]
 exact w
end
theorem An (ae:List aa) (l:List aE) (other:j4) (h0:wL aa.wf ae) (h1:wL aE.wf l) (hb:j4.wf other):∃ N,gN N ae l other=some true:=by
 refine Gv.ex ?_
 have awk:Gv (fun N=>(gS N).bind fun r=>some r) true:=Gv.bind wM (Gv.pure _)
 have fin:∀ {q:Bool} {f:Nat→Option Bool},q=true→Gv (fun N=>cond q ((gS N).bind fun Gl=>some Gl) (f N)) true:=fun h=>Gv.ax h awk
 have sk:∀ {f:Nat→Option Bool},Gv (fun N=>cond false (f N) (some false)) false:=Gv.aL rfl (Gv.pure false)
 have Zb:∀ {f:Nat→Option Int},Gv (fun N=>cond false (f N) (some 0)) 0:=Gv.aL rfl (Gv.pure 0)
 unfold gN
 rcases Kf (p:=⟨((ae.length:Nat):Int),l⟩) ⟨⟨show -9223372036854775808≤((ae.length:Nat):Int) by omega,show ((ae.length:Nat):Int)≤9223372036854775807 by have:=h0.1;omega⟩,h1⟩ with w | ⟨w,hl,hsm⟩
 ·exact w.bind (sk.bind (sk.bind (sk.bind (sk.bind (Zb.bind (fin rfl))))))
 refine w.bind ?_
 rcases vv (l:=ae) h0.2 (most:=20) (by omega) with w | ⟨w,w1,w2⟩
 ·exact Gv.bind (Gv.ax rfl w) (sk.bind (sk.bind (sk.bind (Zb.bind (fin rfl)))))
 have hq:LB ae 12:=⟨by omega,w2⟩
 refine Gv.bind (Gv.ax rfl w) ?_
 rcases vv (l:=other.cu) hb.2.1.2 (most:=20) (by omega) with w | ⟨w,w1,w2⟩
 ·exact Gv.bind (Gv.ax rfl w) (sk.bind (sk.bind (Zb.bind (fin rfl))))
 have kx:LB other.cu 400000:=LB.up (a:=12) ⟨by omega,w2⟩ (by decide)
 refine Gv.bind (Gv.ax rfl w) ?_
 rcases vv (l:=other.bA) hb.2.2.2 (most:=60) (by omega) with w | ⟨w,w1,w2⟩
 ·exact Gv.bind (Gv.ax rfl w) (sk.bind (Zb.bind (fin rfl)))
 have ky:LB other.bA 400000:=LB.up (a:=12) ⟨by omega,w2⟩ (by decide)
 refine Gv.bind (Gv.ax rfl w) ?_
 rcases G5 hb.1 with w | ⟨w,kv⟩
 ·exact Gv.bind (Gv.ax rfl w) (Zb.bind (fin rfl))
 refine Gv.bind (Gv.ax rfl w) ?_
 have kv:RQ other.g8 (qv other.g8) 400000:=⟨kv.ir.le (by decide),kv.v,by decide⟩
 by_cases Ao:other.cu.length=ae.length
 case neg =>
  have e:(((other.cu.length:Nat):Int) != ((ae.length:Nat):Int))=true:=by simp;omega
  rw [e]
  exact Zb.bind (fin rfl)
 have e:(((other.cu.length:Nat):Int) != ((ae.length:Nat):Int))=false:=by simp;omega
 rw [e]
 refine Gv.bind (Gv.ax rfl (AD _ _)) ?_
 simp only at hl hsm
 by_cases hc:eD ((ae.length:Nat):Int) l=0
 case neg =>
  have e0:(eD ((ae.length:Nat):Int) l != 0)=true:=by simpa using hc
  rw [e0]
  exact fin rfl
 have e0:(eD ((ae.length:Nat):Int) l != 0)=false:=by rw [hc];rfl
 rw [e0]
 refine Gv.aL rfl ?_
 obtain ⟨h4,h7⟩:=hsm hc
 have h4:ae.length≤4:=by omega
 have ok:=(Hj hc).2
 rw [aj] at ok
 have hpc:z8 l other.cu=cond (kI l other.cu l.length 0) 24 0:=by
  unfold z8;rw [Ao,hc];rfl
 have TO:qN ((ae.length:Nat):Int) l other.bA=if other.bA.length≠l.length then 11 else cond (contra l other.bA ae.length) 0 24:=by
  unfold qN;rw [hc,aj];rfl
 refine Gv.bind (H9 hl kx) (Gv.bind (Th hl kx fun i hi=>by have:=ok.co i hi;omega) ?_)
 rw [hpc]
 have W5:=Hl (c:=ae) (x:=other.cu) hq kx (by omega)
 have WD:=Kd (c:=ae) (x:=other.cu) hq kx
 cases YI:kI l other.cu l.length 0 with
 | true =>
  refine Gv.bind (r:=0) (Gv.aL rfl (Gv.pure _)) (Gv.aL rfl (Gv.bind W5 (Gv.bind (r:=0) (Gv.aL rfl (Gv.pure _)) (Gv.bind (r:=0) (Gv.aL rfl (Gv.pure _)) (Gv.aL rfl ?_)))))
  rcases Ei (n:=ae.length) h4 hl h7 hc rfl hq with ⟨y,g1,g2⟩ | ⟨d,⟨x,g0⟩,g1,g2⟩ | ⟨x,y,v,g1,g2⟩
  ·exact Gv.bind g2 (Gv.aL rfl (Gv.ax rfl (Gv.bind (Gv.ax rfl wM) ((Gv.pure _).eq rfl))))
  ·exact Gv.bind g2 (Gv.aL rfl (Gv.aL rfl (Gv.bind (Gv.ax rfl wM) ((Gv.pure _).eq rfl))))
  ·have hx:=Pa (f:=x) (m:=ae.length) (by omega) g1.poi.rb
   have hy:=Pa (f:=y) (m:=l.length) (by omega) g1.rb
   have TL:qp ae l ⟨aX v,LQ x ae.length,LQ y l.length⟩=0:=by
    unfold qp;rw [hc,Mc ok rfl g1,bP,bP];simp
   refine Gv.bind g2 (Gv.ax rfl (Gv.bind ((xE (b:=⟨aX v,LQ x ae.length,LQ y l.length⟩) hl hq hx hy (Jb g1)).eq TL) ?_))
   exact Gv.bind (r:=0) (Gv.aL rfl (Gv.pure _)) (Gv.bind (Gv.ax rfl wM) ((Gv.pure _).eq rfl))
 | false =>
  have hcn:qN ((ae.length:Nat):Int) l other.bA≠0:=by
   rw [TO]
   by_cases h2:other.bA.length≠l.length
   ·rw [if_pos h2];decide
   ·rw [if_neg h2]
    cases h3:contra l other.bA ae.length with
    | true=>exact (Qk ok YI (Decidable.not_not.1 h2) h3).elim
    | false=>decide
  have aet:(qN ((ae.length:Nat):Int) l other.bA == 0)=false:=by simpa using hcn
  refine Gv.bind (Gv.ax rfl (yg hl ky _)) ?_
  rw [aet]
  refine Gv.aL rfl (Gv.bind W5 (Gv.bind (Gv.ax rfl (xE hl hq kx ky kv)) ?_))
  have rest:Gv (fun N=>(la N ae l).bind fun fI =>
    (cond (fI.2 == 0)
    (((mz N ae l fI.1).bind fun cj =>
    ((cond ((cj == 0) && ((cj == 0) && (!(!((0:Int) == 0))))) (gI N (aX (Bl ae other.cu)) fI.1.g8) (some 0)).bind fun lK =>
    ((cond (cond (cj == 0) (cond (!((0:Int) == 0)) true (decide (lK≤0))) false) (gS N) (some false)).bind fun BX =>
    some (cond (cond (cj == 0) (cond (!((0:Int) == 0)) true (decide (lK≤0))) false) BX false)))))
    ((cond (fI.2 == 29)
    (((cond (!((0:Int) == 0)) (gS N) (some false)).bind fun BZ =>
    some (cond (!((0:Int) == 0)) BZ false)))
    (((cond (fI.2 == 14) (gS N) (some false)).bind fun B0 =>
    some (cond (fI.2 == 14) B0 false))))))) true:=by
   rcases Ei (n:=ae.length) h4 hl h7 hc rfl hq with ⟨y,g1,g2⟩ | ⟨d,⟨x,g0⟩,g1,g2⟩ | ⟨x,y,v,g1,g2⟩
   ·exact (V9 ok YI g1).elim
   ·exact Gv.bind g2 (Gv.aL rfl (Gv.aL rfl (Gv.bind (Gv.ax rfl wM) ((Gv.pure _).eq rfl))))
   ·have hx:=Pa (f:=x) (m:=ae.length) (by omega) g1.poi.rb
    have hy:=Pa (f:=y) (m:=l.length) (by omega) g1.rb
    have TL:qp ae l ⟨aX v,LQ x ae.length,LQ y l.length⟩=0:=by
     unfold qp;rw [hc,Mc ok rfl g1,bP,bP];simp
    have hle:=Ql ok rfl YI g1
    have hs:decide (pR (Bl ae other.cu - v)≤0)=true:=decide_eq_true (Int.not_lt.1 fun q=>by have:=Fe.1 q;grind)
    refine Gv.bind g2 (Gv.ax rfl (Gv.bind ((xE (b:=⟨aX v,LQ x ae.length,LQ y l.length⟩) hl hq hx hy (Jb g1)).eq TL) (Gv.bind (Gv.ax rfl ((WD.rq (by decide)).cmp (g1.rv.rq (by decide)) (by decide))) ?_)))
    rw [hs]
    exact Gv.bind (Gv.ax rfl wM) ((Gv.pure _).eq rfl)
  by_cases Wa:qp ae l other=0
  ·have hv:Bl ae other.cu - qv other.g8=0:=by
    unfold qp at Wa
    rw [hc] at Wa
    split at Wa
    ·rename_i ec;exact absurd rfl ec
    ·split at Wa
     ·cases Wa
     ·cases h3:I7 ae l other with
      | false=>rw [h3] at Wa;cases Wa
      | true =>
       unfold I7 at h3
       simp only [aV,decide_eq_true_eq] at h3
       exact h3.1.2
   have hz:pR (qv other.g8 - Bl ae other.cu)=0:=Ck.2 (by grind)
   have Yu:Gv (fun N=>nX N other.g8 (aX (Bl ae other.cu))) 0:=(kv.aaF (WD.rq (by decide)) (by decide)).eq hz
   rw [Wa]
   exact Gv.bind (Gv.ax rfl Yu) (Gv.aL rfl rest)
  ·have aeu:(qp ae l other == 0)=false:=by simpa using Wa
   rw [aeu]
   exact Gv.bind (r:=0) (Gv.aL rfl (Gv.pure _)) (Gv.aL rfl rest)
end Go.Den
