/- The plain law: the Lean function of the law returns true for every input, and what it needs. No conditions. -/
import Derived.Test.YtkejjbiabpdhjaaGreatTopCriticalPathPk
set_option linter.unusedVariables false
set_option linter.unusedSimpArgs false
namespace Go.Den
open Go.Ab
section
variable {n m k h j s:Nat} {D:bH}
def aeG (D:bH) (x:Nat) (a:Int):Prop:=(a = -1/\∀ j,j < x->D.g j<=0)\/∃ b:Nat,a=b/\b < x/\0 < D.g b/\∀ j',j' < x->0 < D.g j'->D.fr b<=D.fr j'
theorem aiW (hk:k<=1000) (u:s<=MS) (v:D.N7 m k s):∀ (d x:Nat) (a:Int),x+d=k->aeG D x a ->
  ∃ r,aL (fun N g=>cm N (n:Int) (m:Int) (bB D.v).fN.fG (bB D.v).fN.fL (bB D.v).fD.fG (bB D.v).fD.fL (h:Int) (LN D.je m) (LN D.fr k) (LA D.a m k) (LQ D.b m) (LQ D.g k) g a (x:Int)) r/\aeG D k r
 | 0,x,a,hx,j=>⟨a,aL.succ (fun N g=>cm.eq_2 ..) (aL.a5 (Zw (m:=x) (n:=k) ad (iY _ _)) (aL.one (Gv.pure _))),by rw [show k=x by omega];exact j⟩
 | d+1,x,a,hx,j=>by
  have c:x < k:=ad;have p:=((v.g x c).q u).zB ak;have w:∀ xZ:Int,aeG D (x+1) xZ->(cond (cond (decide (zB (D.g x) > 0)) (cond (decide (a < 0)) true (decide ((LN D.fr k).getD x 0 < (LN D.fr k).getD a.toNat 0))) false) (x:Int) a)=xZ ->
    ∃ r,aL (fun N g=>cm N (n:Int) (m:Int) (bB D.v).fN.fG (bB D.v).fN.fL (bB D.v).fD.fG (bB D.v).fD.fL (h:Int) (LN D.je m) (LN D.fr k) (LA D.a m k) (LQ D.b m) (LQ D.g k) (g+1) a (x:Int)) r/\aeG D k r:=fun xZ h1 h2=>by
   obtain ⟨r,h3,h4⟩:=aiW hk u v d (x+1) xZ ad h1;refine ⟨r,?_,h4⟩;have hb:0<=a->a < ((k:Nat):Int):=fun h0=>by
    rcases j with ⟨e,_⟩ | ⟨b,e,hb,_⟩<;>omega
   have:aL (fun N g=>cm N (n:Int) (m:Int) (bB D.v).fN.fG (bB D.v).fN.fL (bB D.v).fD.fG (bB D.v).fD.fL (h:Int) (LN D.je m) (LN D.fr k) (LA D.a m k) (LQ D.b m) (LQ D.g k) (g+1) a (x:Int)) r:=by
    simp only [cm];refine aL.aW (YK (n:=k) c (iY _ _)) (aL.if (inl c (cQ _ _)) ?_);simp only [ag,lv _ _ c,jY,aw (show x < 9223372036854775807 by omega)];refine aL.bind p (aL.if (fun _=>inl c (iY _ _)) (aL.if (fun q=>?_) ?_))
    ·simp at q;rw [iY];exact ⟨ad,hb ad⟩
    ·revert h2;cases (cond (decide (zB (D.g x) > 0)) (cond (decide (a < 0)) true (decide ((LN D.fr k).getD x 0 < (LN D.fr k).getD a.toNat 0))) false) with
     | true=>intro h2;refine aL.aW rfl ?_;simp only [cond_true] at h2;rw [h2];exact h3
     | false=>intro h2;refine aL.a5 rfl ?_;simp only [cond_false] at h2;rw [h2];exact h3
   exact this
  have fin:∀ {xZ:Int},aeG D (x+1) xZ->(cond (cond (decide (zB (D.g x) > 0)) (cond (decide (a < 0)) true (decide ((LN D.fr k).getD x 0 < (LN D.fr k).getD a.toNat 0))) false) (x:Int) a)=xZ ->
    ∃ r,aL (fun N g=>cm N (n:Int) (m:Int) (bB D.v).fN.fG (bB D.v).fN.fL (bB D.v).fD.fG (bB D.v).fD.fL (h:Int) (LN D.je m) (LN D.fr k) (LA D.a m k) (LQ D.b m) (LQ D.g k) g a (x:Int)) r/\aeG D k r:=fun h1 h2=>by
   obtain ⟨r,h3,h4⟩:=w _ h1 h2;exact ⟨r,aL.succ (fun _ _=>rfl) h3,h4⟩
  by_cases f:0 < D.g x
  ·have l:decide (zB (D.g x) > 0)=true:=decide_eq_true (WG.2 f);rcases j with ⟨rfl,hb⟩ | ⟨b,rfl,hb,t,o⟩
   ·refine fin (xZ:=x) (.inr ⟨x,rfl,ad,f,fun j' h1 h2=>?_⟩) (by rw [l];rfl)
    by_cases e:j'=x
    ·rw [e];exact aV _
    ·exact absurd h2 (Rat.not_lt.2 (hb j' ad))
   ·have i:decide (((b:Nat):Int) < 0)=false:=ao
    by_cases y:D.fr x < D.fr b
    ·refine fin (xZ:=x) (.inr ⟨x,rfl,ad,f,fun j' h1 h2=>?_⟩) (by
      rw [l,i,yK _ _ c,ag,yK _ _ (show b < k by omega),decide_eq_true (show ((D.fr x:Nat):Int) < ((D.fr b:Nat):Int) by omega)];rfl)
     by_cases e:j'=x
     ·rw [e];exact aV _
     ·have:=o j' ad h2;omega
    ·refine fin (xZ:=b) (.inr ⟨b,rfl,ad,t,fun j' h1 h2=>?_⟩) (by
      rw [l,i,yK _ _ c,ag,yK _ _ (show b < k by omega),decide_eq_false (show ¬ ((D.fr x:Nat):Int) < ((D.fr b:Nat):Int) by omega)];rfl)
     by_cases e:j'=x
     ·rw [e];omega
     ·exact o j' ad h2
  ·have l:decide (zB (D.g x) > 0)=false:=decide_eq_false fun q=>f (WG.1 q);refine fin (xZ:=a) ?_ (by rw [l];rfl);rcases j with ⟨e,hb⟩ | ⟨b,e,hb,t,o⟩
   ·refine .inl ⟨e,fun j' h1=>?_⟩
    by_cases i:j'=x
    ·rw [i];exact Rat.not_lt.1 f
    ·exact hb j' ad
   ·refine .inr ⟨b,e,ad,t,fun j' h1 h2=>?_⟩
    by_cases i:j'=x
    ·rw [i] at h2;exact absurd h2 f
    ·exact o j' ad h2
theorem aoG (hk:k<=1000) (a:s<=MS) (c:D.N7 m k s):∃ r,Gv (fun N=>oW N (n:Int) (m:Int) (bB D.v).fN.fG (bB D.v).fN.fL (bB D.v).fD.fG (bB D.v).fD.fL (h:Int) (LN D.je m) (LN D.fr k) (LA D.a m k) (LQ D.b m) (LQ D.g k)) r /\
  ((r = -1/\∀ j,j < k->D.g j<=0)\/∃ j:Nat,r=j/\D.Po k j):=by
 obtain ⟨r,h1,h2⟩:=aiW hk a c k 0 (-1) ad (.inl ⟨rfl,fun j hj=>absurd hj (dX _)⟩) (n:=n) (h:=h);refine ⟨r,h1.diag,?_⟩;rcases h2 with h | ⟨b,e,d,f,g⟩
 ·exact .inl h
 ·exact .inr ⟨b,e,d,f,g⟩
def aly (D:bH) (j x:Nat) (c:Int) (a:aa):Prop:=(c = -1/\∀ i,i < x->0<=D.a i j)\/∃ b:Nat,c=b/\b < x/\D.a b j < 0/\a=bB (D.ratio j b) /\
 ∀ i',i' < x->D.a i' j < 0->D.ratio j b < D.ratio j i'\/D.ratio j b=D.ratio j i'/\D.je b<=D.je i'
theorem aiX (hm:m<=1000) (hj:j < k) (M:2 * s<=MS) (y:D.N7 m k s):∀ (d x:Nat) (f:Int) (a:aa),x+d=m->aly D j x f a ->
  ∃ r l,aL (fun N g=>cC N (j:Int) (n:Int) (m:Int) (bB D.v).fN.fG (bB D.v).fN.fL (bB D.v).fD.fG (bB D.v).fD.fL (h:Int) (LN D.je m) (LN D.fr k) (LA D.a m k) (LQ D.b m) (LQ D.g k) g f a (x:Int)) r/\aly D j m r l
 | 0,x,f,a,hx,F=>⟨f,a,aL.succ (fun N g=>cC.eq_2 ..) (aL.a5 (Zw (m:=x) (n:=m) ad (iY _ _)) (aL.one (Gv.pure _))),by rw [show m=x by omega];exact F⟩
 | d+1,x,f,a,hx,F=>by
  have i:x < m:=ad;have ha:=(y.a x j i hj).q (show s<=MS by omega);have O:=ha.zB ak;have R:Gv (fun N=>gK N (bB (D.a x j))) (bB (-(D.a x j))):=by have:=sJ ha.ir ak (Pn ak);rwa [pW] at this
  have A:∀ (xZ:Int) (G:aa),aly D j (x+1) xZ G->(0<=D.a x j->xZ=f/\G=a) ->
    (D.a x j < 0->∀ c:Int,(f < 0/\c = -1\/∃ b:Nat,f=b/\b < m/\c=zB (D.ratio j x - D.ratio j b)) ->
     cond (cond (decide (c < 0)) true (cond (c == 0) (decide ((LN D.je m).getD x 0 < (LN D.je m).getD f.toNat 0)) false)) ((x:Int),bB (D.ratio j x)) (f,a)=(xZ,G)) ->
    ∃ r l,aL (fun N g=>cC N (j:Int) (n:Int) (m:Int) (bB D.v).fN.fG (bB D.v).fN.fL (bB D.v).fD.fG (bB D.v).fD.fL (h:Int) (LN D.je m) (LN D.fr k) (LA D.a m k) (LQ D.b m) (LQ D.g k) g f a (x:Int)) r/\aly D j m r l:=fun xZ G h1 h2 S=>by
   obtain ⟨r,l,h3,h4⟩:=aiX hm hj M y d (x+1) xZ G ad h1;refine ⟨r,l,aL.succ (fun N g=>cC.eq_2 ..) (aL.aW (YK (n:=m) i (iY _ _)) ?_),h4⟩;simp only [ag,Cw _ _ i,lv _ _ hj,lv _ _ i,cQ,oe,gL,aw (show x < 9223372036854775807 by omega)];refine aL.if i (aL.if (jy i) (aL.if (jy hj) (aL.bind O ?_)))
   by_cases H:0<=D.a x j
   ·have e:decide (zB (D.a x j)>=0)=true:=decide_eq_true (Int.not_lt.1 fun q=>by have:=wq.1 q;grind);obtain ⟨B,p⟩:=h2 H;refine aL.aW e ?_;rw [B,p] at h3;exact h3
   ·have C:D.a x j < 0:=Rat.not_le.1 H;have e:decide (zB (D.a x j)>=0)=false:=decide_eq_false fun q=>by have:=wq.2 C;omega
    have h0:-(D.a x j)≠0:=by grind
    have P:=((y.b x i).q (show s<=MS by omega)).Om (((y.a x j i hj).neg).q (show s<=MS by omega)) h0 (Pn ak);refine aL.a5 e (aL.if (jy i) (aL.bind R (aL.bind P ?_)));have I:∀ c:Int,(f < 0/\c = -1\/∃ b:Nat,f=b/\b < m/\c=zB (D.ratio j x - D.ratio j b))->aL (fun N g=>jc N (j:Int) (n:Int) (m:Int) (bB D.v).fN.fG (bB D.v).fN.fL (bB D.v).fD.fG (bB D.v).fD.fL (h:Int) (LN D.je m) (LN D.fr k) (LA D.a m k) (LQ D.b m) (LQ D.g k) f a (x:Int) (bB (D.b x / -(D.a x j)))
      (cC N (j:Int) (n:Int) (m:Int) (bB D.v).fN.fG (bB D.v).fN.fL (bB D.v).fD.fG (bB D.v).fD.fL (h:Int) (LN D.je m) (LN D.fr k) (LA D.a m k) (LQ D.b m) (LQ D.g k) g) c) r:=fun c hc=>by
     have t:=S C c hc;simp only [jc,gL,ag,aw (show x < 9223372036854775807 by omega)];refine aL.if (fun _=>inl i (iY _ _)) (aL.if (fun q=>?_) ?_)
     ·rw [iY];rcases hc with ⟨_,e⟩ | ⟨b,e,hb,_⟩
      ·simp [e] at q
      ·omega
     ·revert t;cases (cond (decide (c < 0)) true (cond (c == 0) (decide ((LN D.je m).getD x 0 < (LN D.je m).getD f.toNat 0)) false)) with
      | true=>intro t;simp only [cond_true,aQ] at t;refine aL.aW rfl ?_;rw [<- t.1,<- t.2] at h3;exact h3
      | false=>intro t;simp only [cond_false,aQ] at t;refine aL.a5 rfl ?_;rw [<- t.1,<- t.2] at h3;exact h3
    rcases F with ⟨B,_⟩ | ⟨b,B,hb,T,p,_⟩
    ·exact aL.a5 (by simp [B]) (I (-1) (.inl ⟨ad,rfl⟩))
    ·have o:b < m:=ad;have J:RB (D.ratio j x) (2 * s):=by unfold bH.ratio;exact ((y.b x i).div (y.a x j i hj).neg h0).le ad
     have u:RB (D.ratio j b) (2 * s):=by unfold bH.ratio;exact ((y.b b o).div (y.a b j o hj).neg (by grind)).le ad
     refine aL.aW (by simp [B]) (aL.bind (r:=zB (D.ratio j x - D.ratio j b)) ?_ (I _ (.inr ⟨b,B,o,rfl⟩)));rw [p];exact (J.q M).cmp (u.q M) (Pn ak)
  by_cases H:0<=D.a x j
  ·refine A f a ?_ (fun _=>⟨rfl,rfl⟩) fun q=>by grind
   rcases F with ⟨e,hb⟩ | ⟨b,e,hb,L,U,E⟩
   ·refine .inl ⟨e,fun j' h1=>?_⟩
    by_cases p:j'=x
    ·rw [p];exact H
    ·exact hb j' ad
   ·refine .inr ⟨b,e,ad,L,U,fun j' h1 h2=>?_⟩
    by_cases p:j'=x
    ·rw [p] at h2;grind
    ·exact E j' ad h2
  ·have C:D.a x j < 0:=Rat.not_le.1 H;rcases F with ⟨rfl,hb⟩ | ⟨b,rfl,hb,L,rfl,E⟩
   ·refine A x (bB (D.ratio j x)) (.inr ⟨x,rfl,ad,C,rfl,fun j' h1 h2=>?_⟩) (fun q=>by grind) fun _ c hc=>?_
    ·by_cases e:j'=x
     ·rw [e];exact .inr ⟨rfl,aV _⟩
     ·have:=hb j' ad;grind
    ·rcases hc with ⟨_,e⟩ | ⟨b,e,_⟩
     ·rw [e];rfl
     ·omega
   ·have v:∀ c:Int,(((b:Nat):Int) < 0/\c = -1\/∃ K:Nat,((b:Nat):Int)=K/\K < m/\c=zB (D.ratio j x - D.ratio j K))->c=zB (D.ratio j x - D.ratio j b):=fun c hc=>by
     rcases hc with ⟨e,_⟩ | ⟨K,e,_,p⟩
     ·omega
     ·rw [p,show K=b by omega]
    have o:b < m:=ad
    by_cases h1:D.ratio j x < D.ratio j b
    ·refine A x (bB (D.ratio j x)) (.inr ⟨x,rfl,ad,C,rfl,fun j' J u=>?_⟩) (fun q=>by grind) fun _ c hc=>?_
     ·by_cases e:j'=x
      ·rw [e];exact .inr ⟨rfl,aV _⟩
      ·rcases E j' ad u with Q | ⟨Q,_⟩
       ·exact .inl (by grind)
       ·exact .inl (by grind)
     ·rw [v c hc,decide_eq_true (wq.2 (show D.ratio j x - D.ratio j b < 0 by grind))];rfl
    ·have z:decide (zB (D.ratio j x - D.ratio j b) < 0)=false:=decide_eq_false fun q=>by have:=wq.1 q;grind
     by_cases h2:D.ratio j x=D.ratio j b
     ·have w:(zB (D.ratio j x - D.ratio j b) == 0)=true:=by rw [beq_iff_eq];exact Sl.2 (by grind)
      by_cases h3:D.je x < D.je b
      ·refine A x (bB (D.ratio j x)) (.inr ⟨x,rfl,ad,C,rfl,fun j' J u=>?_⟩) (fun q=>by grind) fun _ c hc=>?_
       ·by_cases e:j'=x
        ·rw [e];exact .inr ⟨rfl,aV _⟩
        ·rcases E j' ad u with Q | ⟨Q,V⟩
         ·exact .inl (by grind)
         ·exact .inr ⟨by grind,ad⟩
       ·rw [v c hc,z,w,yK _ _ i,ag,yK _ _ o,decide_eq_true (show ((D.je x:Nat):Int) < ((D.je b:Nat):Int) by omega)];rfl
      ·refine A b (bB (D.ratio j b)) (.inr ⟨b,rfl,ad,L,rfl,fun j' J u=>?_⟩) (fun q=>by grind) fun _ c hc=>?_
       ·by_cases e:j'=x
        ·rw [e];exact .inr ⟨h2.symm,ad⟩
        ·exact E j' ad u
       ·rw [v c hc,z,w,yK _ _ i,ag,yK _ _ o,decide_eq_false (show ¬ ((D.je x:Nat):Int) < ((D.je b:Nat):Int) by omega)];rfl
     ·have w:(zB (D.ratio j x - D.ratio j b) == 0)=false:=by
       rw [beq_eq_false_iff_ne];intro q;have:=Sl.1 q;grind
      refine A b (bB (D.ratio j b)) (.inr ⟨b,rfl,ad,L,rfl,fun j' J u=>?_⟩) (fun q=>by grind) fun _ c hc=>?_
      ·by_cases e:j'=x
       ·rw [e];exact .inl (by grind)
       ·exact E j' ad u
      ·rw [v c hc,z,w];rfl
theorem aoH (hm:m<=1000) (hj:j < k) (a:2 * s<=MS) (c:D.N7 m k s):∃ r,Gv (fun N=>pF N (j:Int) (n:Int) (m:Int) (bB D.v).fN.fG (bB D.v).fN.fL (bB D.v).fD.fG (bB D.v).fD.fL (h:Int) (LN D.je m) (LN D.fr k) (LA D.a m k) (LQ D.b m) (LQ D.g k)) r /\
  ((r = -1/\∀ i,i < m->0<=D.a i j)\/∃ i:Nat,r=i/\D.K8 m j i):=by
 obtain ⟨r,l,h1,h2⟩:=aiX hm hj a c m 0 (-1) _ ad (.inl ⟨rfl,fun j hj=>absurd hj (dX _)⟩) (n:=n) (h:=h);refine ⟨r,h1.diag,?_⟩;rcases h2 with h | ⟨b,e,d,f,_,g⟩
 ·exact .inl h
 ·exact .inr ⟨b,e,d,f,g⟩
def Stop (D:bH) (m k:Nat) (r:Int):Prop:=(r = -1/\∀ j,j < k->D.g j<=0)\/∃ j:Nat,r=j/\D.Po k j/\∀ i,i < m->0<=D.a i j
theorem YS {e5:Nat} (o:m<=e5\/k<=e5) (hm:m<=1000) (hk:k<=1000) {D0:bH} (h0:D0.WF m k) (p:D0.N7 m k s) (h1:1<=s) (q:5 * (5 ^ e5 * s)<=MS) (hw:D.WF m k) (c:D.Xk m) (he:bH.J7 m k D0 D) :
  ∃ D' r,D'.WF m k/\D'.Xk m/\bH.J7 m k D0 D'/\Stop D' m k r/\aL (fun N g=>fC N g (n:Int) (m:Int) (LN D.je m) (LN D.fr k) (LA D.a m k) (LQ D.b m) (LQ D.g k) (bB D.v).fN.fG (bB D.v).fN.fL (bB D.v).fD.fG (bB D.v).fD.fL (h:Int)) (r,RT n m k h D'):=by
 induction bH.aiN hw c with
 | intro D _ t =>
  have d:=bH.YQ o hw h0 he p h1;have u:1<=5 ^ e5 * s:=gG h1 (Nat.le_mul_of_pos_left _ (Nat.pow_pos ak));obtain ⟨r,e,a⟩:=aoG hk ad d (n:=n) (h:=h);rcases a with ⟨rfl,a⟩ | ⟨j,rfl,a⟩
  ·exact ⟨D,-1,hw,c,he,.inl ⟨rfl,a⟩,aL.succ (fun N g=>fC.eq_2 ..) (aL.bind e (aL.aW ak (aL.one (Gv.pure _))))⟩
  ·obtain ⟨r,f,b⟩:=aoH hm a.lt ad d (n:=n) (h:=h);rcases b with ⟨rfl,b⟩ | ⟨i,rfl,b⟩
   ·exact ⟨D,j,hw,c,he,.inr ⟨j,rfl,a,b⟩,aL.succ (fun N g=>fC.eq_2 ..) (aL.bind e (aL.a5 ao (aL.bind f (aL.aW ak (aL.one (Gv.pure _))))))⟩
   ·have l:D.a i j≠0:=by have:=b.neg;grind
    obtain ⟨D',r,v,w,x,y,z⟩:=t (D.mc i j) ⟨j,i,a,b,rfl⟩ (hw.mc b.lt a.lt) (c.mc b) (he.trans (.mc b.lt a.lt l));refine ⟨D',r,v,w,x,y,aL.succ (fun N g=>fC.eq_2 ..) (aL.bind e (aL.a5 ao (aL.bind f (aL.a5 ao (aL.bind (Sw hm hk b.lt a.lt q u d l) ?_)))))⟩;simp only [RT,iY,oe,cQ];exact aL.if trivial (aL.if trivial (aL.if trivial (aL.if trivial (aL.if trivial z))))
end
end Go.Den
namespace Go.Den
open Go.Ab
theorem aiY {f:Nat->Nat} {k v:Nat} (hk:k<=1000):∀ d x,x+d=k->(∀ j,j < x->f j≠v)->∃ r,aL (fun N g=>bV N (LN f k) (v:Int) g (x:Int)) r/\((r = -1/\∀ j,j < k->f j≠v)\/∃ j:Nat,r=j/\j < k/\f j=v)
 | 0,x,hx,h=>⟨-1,aL.succ (fun N g=>bV.eq_2 ..) (aL.a5 (Zw (m:=x) (n:=k) ad (iY _ _)) (aL.one (Gv.pure _))),.inl ⟨rfl,fun j hj=>h j ad⟩⟩
 | d+1,x,hx,h=>by
  have a:x < k:=ad
  by_cases e:f x=v
  ·refine ⟨x,aL.succ (fun N g=>bV.eq_2 ..) (aL.aW (YK (n:=k) a (iY _ _)) (aL.if (inl a (iY _ _)) (aL.aW ?_ (aL.one (Gv.pure _))))),.inr ⟨x,rfl,a,e⟩⟩;rw [ag,yK _ _ a,e];simp
  ·obtain ⟨r,h1,h2⟩:=aiY (f:=f) (v:=v) hk d (x+1) ad fun j hj=>by
    by_cases q:j=x
    ·rw [q];exact e
    ·exact h j ad
   refine ⟨r,aL.succ (fun N g=>bV.eq_2 ..) (aL.aW (YK (n:=k) a (iY _ _)) (aL.if (inl a (iY _ _)) (aL.a5 ?_ ?_))),h2⟩
   ·rw [ag,yK _ _ a];simp;omega
   ·rw [aw (show x < 9223372036854775807 by omega)];exact h1
theorem Nu {f:Nat->Nat} {k v:Nat} (hk:k<=1000):∃ r,Gv (fun N=>bp N (LN f k) (v:Int)) r/\((r = -1/\∀ j,j < k->f j≠v)\/∃ j:Nat,r=j/\j < k/\f j=v):=by
 obtain ⟨r,h1,h2⟩:=aiY (f:=f) (v:=v) hk k 0 ad fun j hj=>absurd hj (dX _);exact ⟨r,h1.diag,h2⟩
theorem aiZ {f:Nat->Rat} {k s:Nat} (hk:k<=1000) (b:s<=MS) (c:∀ j,j < k->RB (f j) s):∀ d x,x+d=k->(∀ j,j < x->f j=0) ->
  ∃ r,aL (fun N g=>dE N (LQ f k) g (x:Int)) r/\((r = -1/\∀ j,j < k->f j=0)\/∃ j:Nat,r=j/\j < k/\f j≠0)
 | 0,x,hx,h=>⟨-1,aL.succ (fun N g=>dE.eq_2 ..) (aL.a5 (Zw (m:=x) (n:=k) ad (cQ _ _)) (aL.one (Gv.pure _))),.inl ⟨rfl,fun j hj=>h j ad⟩⟩
 | d+1,x,hx,h=>by
  have a:x < k:=ad;have i:Gv (fun N=>oX N (bB (f x))) (!decide (f x=0)):=Gv.bind (((c x a).q b).zero ak) (Gv.pure _)
  by_cases e:f x=0
  ·obtain ⟨r,h1,h2⟩:=aiZ hk b c d (x+1) ad fun j hj=>by
    by_cases q:j=x
    ·rw [q];exact e
    ·exact h j ad
   refine ⟨r,aL.succ (fun N g=>dE.eq_2 ..) (aL.aW (YK (n:=k) a (cQ _ _)) (aL.if (inl a (cQ _ _)) ?_)),h2⟩;simp only [ag,lv _ _ a,aw (show x < 9223372036854775807 by omega)];exact aL.bind i (aL.a5 (by simp [e]) h1)
  ·refine ⟨x,aL.succ (fun N g=>dE.eq_2 ..) (aL.aW (YK (n:=k) a (cQ _ _)) (aL.if (inl a (cQ _ _)) ?_)),.inr ⟨x,rfl,a,e⟩⟩;simp only [ag,lv _ _ a];exact aL.bind i (aL.aW (by simp [e]) (aL.one (Gv.pure _)))
theorem aoI {f:Nat->Rat} {k s:Nat} (hk:k<=1000) (a:s<=MS) (b:∀ j,j < k->RB (f j) s) :
  ∃ r,Gv (fun N=>mY N (LQ f k)) r/\((r = -1/\∀ j,j < k->f j=0)\/∃ j:Nat,r=j/\j < k/\f j≠0):=by
 obtain ⟨r,h1,h2⟩:=aiZ hk a b k 0 ad fun j hj=>absurd hj (dX _);exact ⟨r,h1.diag,h2⟩
def sk (c j:Nat):Nat:=if j < c then j else j+1
section
variable {α:Type}
theorem adj (f:Nat->α) {k c:Nat} (hc:c<=k):(vv (J8 f (k+1)) c (c+1)).take ((c - 0)+((J8 f (k+1)).length - (c+1)))=J8 (fun j=>f (sk c j)) k:=by
 refine List.ext_getElem? fun j=>?_;have b:((J8 f (k+1)).take c).length=c:=by rw [qg,wx];omega
 have a:∀ {n i:Nat} (g:Nat->α),(J8 g n)[i]?=if i < n then some (g i) else none:=fun {n i} g=>by
  unfold J8
  by_cases h:i < n<;>simp [h]
 rw [vE,wx,a];unfold vv
 by_cases h:j < c
 ·rw [if_pos ad,if_pos ad,DR,lx ad,vE,if_pos h,a,if_pos ad];unfold sk;rw [if_pos h]
 ·by_cases h2:j < k
  ·have d:((J8 f (k+1)).drop (c+1)).length=k - c:=by rw [Bf,wx];omega
   rw [if_pos ad,if_pos h2,DR,og ad,b,lx ad,ud,a,if_pos ad];unfold sk;rw [if_neg h,show c+1+(j - c)=j+1 by omega]
  ·rw [if_neg ad,if_neg h2]
theorem adk (f:Nat->α) {k c:Nat} (hc:c<=k):(vv (J8 f (k+1)) c (c+1)).length=k+1:=by
 rw [<- Pa ⟨ad,by rw [wx];omega⟩,wx]
end
theorem alz (f:Nat->Nat) {k c:Nat} (hc:c<=k) (hk:k<=1000):Gv (fun N=>mo N (c:Int) (aR ((c:Int)+1)) (LN f (k+1))) (LN (fun j=>f (sk c j)) k,LN (fun j=>f (sk c j)) k):=by
 rw [aw ad];have e:=adk (fun i=>((f i:Nat):Int)) hc;have a:=adj (fun i=>((f i:Nat):Int)) hc;refine Gv.if (by rw [iY];omega) (Gv.a5 (by simp;omega) ?_);simp only [ag];refine Gv.if (by rw [iY];omega) (Gv.if ad (Gv.if (by rw [iY];omega) (Gv.if ad (Gv.if (by rw [iY];omega) (Gv.if (by rw [iY];omega) (Gv.if ?_ (Gv.if ?_ ((Gv.pure _).eq ?_))))))))
 ·rw [iY];unfold LN;rw [e];omega
 ·rw [iY];unfold LN;rw [e];omega
 ·unfold LN;rw [a]
theorem alA (f:Nat->Rat) {k c:Nat} (hc:c<=k) (hk:k<=1000):Gv (fun N=>pG N (c:Int) (aR ((c:Int)+1)) (LQ f (k+1))) (LQ (fun j=>f (sk c j)) k,LQ (fun j=>f (sk c j)) k):=by
 rw [aw ad];have e:=adk (fun i=>bB (f i)) hc;have a:=adj (fun i=>bB (f i)) hc;refine Gv.if (by rw [cQ];omega) (Gv.a5 (by simp;omega) ?_);simp only [ag];refine Gv.if (by rw [cQ];omega) (Gv.if ad (Gv.if (by rw [cQ];omega) (Gv.if ad (Gv.if (by rw [cQ];omega) (Gv.if (by rw [cQ];omega) (Gv.if ?_ (Gv.if ?_ ((Gv.pure _).eq ?_))))))))
 ·rw [cQ];unfold LQ;rw [e];omega
 ·rw [cQ];unfold LQ;rw [e];omega
 ·unfold LQ;rw [a]
def bH.del (D:bH) (c:Nat):bH where
 je:=D.je
 fr:=fun j=>D.fr (sk c j)
 a:=fun i j=>D.a i (sk c j)
 b:=D.b
 g:=fun _=>0
 v:=0
def RS (ok:Bool) (n m k h:Nat) (D:bH):Bool×ml×List Int×List Int×List (List aa)×List aa :=
 (ok,⟨n,m,LN D.je m,LN D.fr k,LA D.a m k,LQ D.b m,LQ D.g k,bB D.v,h⟩,LN D.je m,LN D.fr k,LA D.a m k,LQ D.b m)
section
variable {n m k h c s:Nat} {D:bH}
theorem aoJ (z:Int) (h1:-1000<=z) (h2:z<=1000):Gv (fun N=>gf N z) (bB (z:Rat)):=xh ad ad
theorem BE:Gv (fun N=>gf N 0) (bB 0):=xh (z:=0) ak ak
theorem ai0 (hk:k<=1000) {v1 v3:Bool} {v2 v4:List Int}:∀ (d x:Nat) (L:List aa),x+d=k->L.length=k->(∀ j,j < x->L.getD j aa.d=bB 0) ->
  aL (fun N g=>fR N (n:Int) (m:Int) (LN D.je m) (LQ D.b m) v1 v2 v3 v4 (h:Int) (LN (fun j=>D.fr (sk c j)) k,LN (fun j=>D.fr (sk c j)) k) (LA (fun i j=>D.a i (sk c j)) m k) g L (x:Int)) (RS true n m k h (D.del c))
 | 0,x,L,hx,a,h0=>by
  refine aL.succ (fun N g=>fR.eq_2 ..) (aL.a5 (Zw (m:=x) (n:=k) ad (by rw [iB,iY])) (aL.bind BE (aL.one ((Gv.pure _).eq ?_))));rw [show L=LQ (fun _=>0) k from Su aa.d a fun j hj=>h0 j ad];rfl
 | d+1,x,L,hx,a,h0=>by
  have b:x < k:=ad;refine aL.succ (fun N g=>fR.eq_2 ..) (aL.aW (YK (n:=k) b (by rw [iB,iY])) (aL.bind BE (aL.if (inl b a) ?_)));rw [aw (show x < 9223372036854775807 by omega)];refine ai0 hk d (x+1) _ ad (by rw [List.length_set];exact a) fun j hj=>?_;rw [ag]
  by_cases e:x=j
  ·subst e;exact gl _ _ _ _ ad
  ·rw [fx _ _ _ e];exact h0 j ad
theorem ai1 (hm:m<=1000) (hk:k<=1000) (hc:c<=k) {g0:List aa} {v1 v3:Bool} {v2 v4:List Int}:∀ (d x:Nat) (G:Nat->List aa),x+d=m->(∀ r,r < m->G r=if r < x then LQ (fun j=>D.a r (sk c j)) k else LQ (D.a r) (k+1)) ->
  aL (fun N g=>fS N (n:Int) (m:Int) (LN D.je m) (LA D.a m (k+1)) (LQ D.b m) g0 v1 v2 v3 v4 (h:Int) (c:Int) (LN (fun j=>D.fr (sk c j)) k,LN (fun j=>D.fr (sk c j)) k) g (J8 G m) (x:Int)) (RS true n m k h (D.del c))
 | 0,x,G,hx,b=>by
  refine aL.succ (fun N g=>fS.eq_2 ..) (aL.a5 (Zw (m:=x) (n:=m) ad (oe _ _ _)) ?_);simp only [iY];refine aL.if ad ?_;rw [show J8 G m=LA (fun i j=>D.a i (sk c j)) m k from xj fun r f=>by rw [b r f,if_pos ad]];have:=(ai0 hk (n:=n) (m:=m) (h:=h) (c:=c) (D:=D) (v1:=v1) (v2:=v2) (v3:=v3) (v4:=v4) k 0 (List.replicate k aa.d) ad iB fun j hj=>absurd hj (dX _)).diag;exact aL.one this
 | d+1,x,G,hx,b=>by
  have a:x < m:=ad;have e:G x=LQ (D.a x) (k+1):=by rw [b x a,if_neg ad]
  refine aL.succ (fun N g=>fS.eq_2 ..) (aL.aW (YK (n:=m) a (oe _ _ _)) (aL.if (by rw [wx];exact a) (aL.if (inl a (wx _ _)) ?_)));simp only [ag,Pr _ _ a,e];refine aL.bind (alA (D.a x) hc hk) ?_;rw [aw (show x < 9223372036854775807 by omega),Ps];refine ai1 hm hk hc d (x+1) _ ad fun r f=>?_
  by_cases q:r=x
  ·rw [if_pos q,if_pos ad,q]
  ·rw [if_neg q,b r f]
   by_cases l:r < x
   ·rw [if_pos l,if_pos ad]
   ·rw [if_neg l,if_neg ad]
theorem ai2 (hm:m<=1000) (hk:k<=999) (hw:D.WF m (k+1)) (hc:c < k+1) (a:D.fr c=h) :
  Gv (fun N=>lg N (n:Int) (m:Int) (LN D.je m) (LN D.fr (k+1)) (LA D.a m (k+1)) (LQ D.b m) (LQ D.g (k+1)) (bB D.v).fN.fG (bB D.v).fN.fL (bB D.v).fD.fG (bB D.v).fD.fL (h:Int)) (RS true n m k h (D.del c)):=by
 obtain ⟨r,h1,h2⟩:=Nu (f:=D.fr) (k:=k+1) (v:=h) ad;rcases h2 with ⟨_,h2⟩ | ⟨j,rfl,hj,h2⟩
 ·exact absurd a (h2 c hc)
 ·obtain rfl:j=c:=hw.fi j c hj hc (h2.trans a.symm);refine Gv.bind h1 (Gv.bind (alz D.fr ad ad) ?_);have:=(ai1 hm (show k<=1000 by omega) (show j<=k by omega) (n:=n) (h:=h) (D:=D) (g0:=LQ D.g (k+1)) (v1:=(bB D.v).fN.fG) (v2:=(bB D.v).fN.fL) (v3:=(bB D.v).fD.fG) (v4:=(bB D.v).fD.fL) m 0 (fun r=>LQ (D.a r) (k+1)) ad fun r _=>by rw [if_neg (dX _)]).diag;exact this
structure Ig (n m:Nat) (C:Nat->Nat->Rat) (B:Nat->Rat) (D:bH) (c:Nat):Prop where
 wf:D.WF m (2 * n+1)
 fea:D.Xk m
 eqv:(∃ z,bH.J7 m (2 * n+1) (bH.fst n m C B z) D)
 lt:c < 2 * n+1
 fr:D.fr c=2 * n+m
variable {C:Nat->Nat->Rat} {B:Nat->Rat}
theorem ai3 {e5:Nat} (t:m<=e5\/2 * n+1<=e5) (hm:m<=1000) (F:2 * n<=998) {z:Rat} (w:(bH.fst n m C B z).N7 m (2 * n+1) s) (h1:1<=s) (x:5 * (5 ^ e5 * s)<=MS) (hw:D.WF m (2 * n+1)) (o:D.Xk m) (he:bH.J7 m (2 * n+1) (bH.fst n m C B z) D)
  (g:∀ i,i < m->D.je i=2 * n+m->D.b i=0/\∃ j,j < 2 * n+1/\D.a i j≠0) :
  ∃ D' c,Ig n m C B D' c/\Gv (fun N=>jv N (n:Int) (m:Int) (LN D.je m) (LN D.fr (2 * n+1)) (LA D.a m (2 * n+1)) (LQ D.b m) (LQ D.g (2 * n+1)) (bB D.v).fN.fG (bB D.v).fN.fL (bB D.v).fD.fG (bB D.v).fD.fL ((2 * n+m:Nat):Int)) (RS true n m (2 * n) (2 * n+m) (D'.del c)):=by
 have p:=bH.YQ t hw (bH.WQ n m C B z) he w h1;have y:1<=5 ^ e5 * s:=gG h1 (Nat.le_mul_of_pos_left _ (Nat.pow_pos ak));obtain ⟨r,q,a⟩:=Nu (f:=D.je) (k:=m) (v:=2 * n+m) hm;rcases a with ⟨rfl,a⟩ | ⟨i,rfl,hi,a⟩
 ·obtain ⟨c,hc,d⟩:=bH.Ie hw (u:=2 * n+m) ad fun ⟨i,hi,e⟩=>a i hi e;exact ⟨D,c,⟨hw,o,⟨z,he⟩,hc,d⟩,Gv.bind q (Gv.a5 ak (ai2 hm ad hw hc d))⟩
 ·obtain ⟨hb,A,h,l⟩:=g i hi a;obtain ⟨r,E,b⟩:=aoI (f:=D.a i) (k:=2 * n+1) ad (show 5 ^ e5 * s<=MS by omega) fun j hj=>p.a i j hi hj;rcases b with ⟨_,b⟩ | ⟨j,rfl,hj,b⟩
  ·exact absurd (b A h) l
  ·refine ⟨D.mc i j,j,⟨hw.mc hi hj,bH.aiS o hb,⟨z,he.trans (.mc hi hj b)⟩,hj,by simp only [bH.mc,if_true];exact a⟩,Gv.bind q (Gv.aW ao ?_)⟩;simp only [ag,Cw _ _ hi];refine Gv.if (by rw [oe];exact hi) (Gv.if (inl hi (oe _ _ _)) (Gv.bind E (Gv.bind (Sw hm ad hi hj x y p b) ?_)));simp only [RT,iY,oe,cQ];exact Gv.if trivial (Gv.if trivial (Gv.if trivial (Gv.if trivial (Gv.if trivial (ai2 hm ad (hw.mc hi hj) hj (by simp only [bH.mc,if_true];exact a))))))
def aqW (B:Nat->Rat) (x:Nat) (low:Int):Prop:=(low = -1/\∀ r,r < x->0<=B r)\/∃ l:Nat,low=l/\l < x/\B l < 0/\∀ r,r < x->B l<=B r
structure Pt (n m:Nat) (C:Nat->Nat->Rat) (B:Nat->Rat) (D:bH):Prop where
 wf:D.WF m (2 * n+1)
 eqv:bH.J7 m (2 * n+1) (bH.fst n m C B (-1)) D
 g:∀ j,j < 2 * n+1->D.g j<=0
 v:D.v < 0
theorem alB (z:Rat) (b:RB z s) (a:(bH.fst n m C B 0).N7 m (2 * n+1) s):(bH.fst n m C B z).N7 m (2 * n+1) s:=by
 refine ⟨a.a,a.b,fun j hj=>?_,a.v⟩;have:=a.g j hj;simp only [bH.fst] at this ⊢;split
 ·rw [if_pos (by assumption)] at this;exact this
 ·exact b
theorem ai4 {e5:Nat} (E:m<=e5\/2 * n+1<=e5) (hm:m<=1000) (P:2 * n<=998) (K:(bH.fst n m C B 0).N7 m (2 * n+1) s) (h1:1<=s) (L:5 * (5 ^ e5 * s)<=MS):∀ (d x:Nat) (low:Int),x+d=m->aqW B x low ->
  ∃ r,aL (fun N g=>bQ N (n:Int) (m:Int) (bB 0).fN.fG (bB 0).fN.fL (bB 0).fD.fG (bB 0).fD.fL ((2 * n+m:Nat):Int) (LN (bH.fst n m C B 0).je m) (LN (bH.fst n m C B 0).fr (2 * n+1))
    (LA (bH.fst n m C B 0).a m (2 * n+1)) (LQ B m) (LQ (bH.fst n m C B 0).g (2 * n+1)) g low (x:Int)) r /\
   ((∃ D,Pt n m C B D/\r=RS false n m (2 * n+1) (2 * n+m) D)\/∃ D c,Ig n m C B D c/\r=RS true n m (2 * n) (2 * n+m) (D.del c))
 | 0,x,low,hx,F=>by
  have t:x=m:=ad;subst t;have step:∀ {r},(∃ N0:Nat,True)->aL (fun N g=>bQ N (n:Int) (x:Int) (bB 0).fN.fG (bB 0).fN.fL (bB 0).fD.fG (bB 0).fD.fL ((2 * n+x:Nat):Int) (LN (bH.fst n x C B 0).je x) (LN (bH.fst n x C B 0).fr (2 * n+1))
    (LA (bH.fst n x C B 0).a x (2 * n+1)) (LQ B x) (LQ (bH.fst n x C B 0).g (2 * n+1)) (g+1) low (x:Int)) r->aL (fun N g=>bQ N (n:Int) (x:Int) (bB 0).fN.fG (bB 0).fN.fL (bB 0).fD.fG (bB 0).fD.fL ((2 * n+x:Nat):Int) (LN (bH.fst n x C B 0).je x) (LN (bH.fst n x C B 0).fr (2 * n+1))
    (LA (bH.fst n x C B 0).a x (2 * n+1)) (LQ B x) (LQ (bH.fst n x C B 0).g (2 * n+1)) g low (x:Int)) r:=fun _ h=>aL.succ (fun _ _=>rfl) h
  rcases F with ⟨rfl,M⟩ | ⟨l,rfl,y,Cv,z⟩
  ·obtain ⟨D,c,a,f⟩:=ai3 (D:=bH.fst n x C B 0) E hm P K h1 L (bH.WQ n x C B 0) M (.refl _ _ _) fun i hi e=>by
    simp only [bH.fst] at e;omega
   refine ⟨_,step ⟨0,trivial⟩ ?_,.inr ⟨D,c,a,rfl⟩⟩;simp only [bQ];exact aL.a5 (Zw (m:=x) (n:=x) (aV _) (cQ _ _)) (aL.a5 ak (aL.one f))
  ·have hw:=bH.WQ n x C B (-1);have k:=alB (-1) (bH.RB1.neg.le h1) K;have ea:(bH.fst n x C B (-1)).a l (2 * n)=1:=by simp only [bH.fst];rw [if_neg ad,if_neg ad]
   have h0:(bH.fst n x C B (-1)).a l (2 * n)≠0:=by rw [ea];decide
   have Q:s<=5 ^ e5 * s:=Nat.le_mul_of_pos_left _ (Nat.pow_pos ak);have R:=Sw (n:=n) (h:=2 * n+x) hm (show 2 * n+1<=1000 by omega) y (show 2 * n < 2 * n+1 by omega) (show 5 * s<=MS by omega) h1 k h0;obtain ⟨D,r,a,f,u,q4,q5⟩:=YS (n:=n) (h:=2 * n+x) E hm (show 2 * n+1<=1000 by omega) hw k h1 L (hw.mc y (show 2 * n < 2 * n+1 by omega)) (bH.aeF n x C B y Cv z) (.mc y ad h0);have S:=bH.alx a u f (by
    rcases q4 with ⟨_,h⟩ | ⟨j,_,h,h'⟩
    ·exact .inl h
    ·exact .inr ⟨j,h,h'⟩)
   have G:=bH.YQ E a hw u k h1;have eg:(LQ (bH.fst n x C B 0).g (2 * n+1)).set (2 * n) (bB ((-1:Int):Rat))=LQ (bH.fst n x C B (-1)).g (2 * n+1):=by
    rw [EX];refine qQ fun j hj=>?_;simp only [bH.fst]
    by_cases e:j=2 * n
    ·rw [if_pos e,if_neg ad];rfl
    ·rw [if_neg e,if_pos ad,if_pos ad]
   have T:aR (((2 * n+1:Nat):Int) - 1)=((2 * n:Nat):Int):=by rw [bw ad ad];omega
   have main:∀ {X},Gv (fun N=>(kx N (bB D.v)).bind fun jM=>cond (!jM) (some (RS false n x (2 * n+1) (2 * n+x) D)) (jv N (n:Int) (x:Int) (LN D.je x) (LN D.fr (2 * n+1)) (LA D.a x (2 * n+1)) (LQ D.b x) (LQ D.g (2 * n+1)) (bB D.v).fN.fG (bB D.v).fN.fL (bB D.v).fD.fG (bB D.v).fD.fL ((2 * n+x:Nat):Int))) X ->
     aL (fun N g=>bQ N (n:Int) (x:Int) (bB 0).fN.fG (bB 0).fN.fL (bB 0).fD.fG (bB 0).fD.fL ((2 * n+x:Nat):Int) (LN (bH.fst n x C B 0).je x) (LN (bH.fst n x C B 0).fr (2 * n+1))
      (LA (bH.fst n x C B 0).a x (2 * n+1)) (LQ B x) (LQ (bH.fst n x C B 0).g (2 * n+1)) g ((l:Nat):Int) (x:Int)) X:=fun h=>by
    refine step ⟨0,trivial⟩ ?_;simp only [bQ,iY,T,ag];refine aL.a5 (Zw (m:=x) (n:=x) (aV _) (cQ _ _)) (aL.aW ao (aL.bind (aoJ (-1) ak ak) (aL.if (inl (show 2 * n < 2 * n+1 by omega) (cQ _ _)) ?_)));rw [eg];refine aL.bind R ?_;simp only [RT,iY,oe,cQ];refine aL.if trivial (aL.if trivial (aL.if trivial (aL.if trivial (aL.if trivial (aL.bind (q5.diag) ?_)))));simp only [RT,iY,oe,cQ];exact aL.if trivial (aL.if trivial (aL.if trivial (aL.if trivial (aL.if trivial (aL.one h)))))
   by_cases Y:D.v=0
   ·have H:D.ext x (2 * n+1) bH.yP (2 * n+x)=0:=by have:=bH.Ss a u;grind
    obtain ⟨D',c,p1,p2⟩:=ai3 E hm P k h1 L a f u fun i hi e=>⟨by
     rw [<- e,bH.BD a hi,bH.zD] at H;exact H,bH.abJ a u hi e⟩
    exact ⟨_,main (Gv.bind ((G.v.q ad).zero ak) (Gv.a5 (by simp [Y]) p2)),.inr ⟨D',c,p1,rfl⟩⟩
   ·refine ⟨_,main (Gv.bind ((G.v.q ad).zero ak) (Gv.aW (by simp [Y]) (Gv.pure _))),.inl ⟨D,⟨a,u,S,?_⟩,rfl⟩⟩;have A:=bH.Ss a u;have v:=bH.Nt a f (2 * n+x) ad;grind
 | d+1,x,low,hx,F=>by
  have t:x < m:=ad;have Q:s<=5 ^ e5 * s:=Nat.le_mul_of_pos_left _ (Nat.pow_pos ak);have M:∀ r,r < m->RB (B r) s:=K.b;have I:=(M x t).q (show s<=MS by omega);have Z:0<=low->low < ((m:Nat):Int):=fun h0=>by
   rcases F with ⟨e,_⟩ | ⟨b,e,hb,_⟩<;>omega
  have O:∀ o:Int,aqW B (x+1) o->(∃ cmp:Int,(B x < 0->∀ l:Nat,low=l->cmp=zB (B x - B l))/\(¬ (B x < 0/\0<=low)->cmp=0)/\(cond (cond (decide (zB (B x) < 0)) (cond (decide (low < 0)) true (decide (cmp < 0))) false) (x:Int) low)=o) ->
    ∃ r,aL (fun N g=>bQ N (n:Int) (m:Int) (bB 0).fN.fG (bB 0).fN.fL (bB 0).fD.fG (bB 0).fD.fL ((2 * n+m:Nat):Int) (LN (bH.fst n m C B 0).je m) (LN (bH.fst n m C B 0).fr (2 * n+1))
      (LA (bH.fst n m C B 0).a m (2 * n+1)) (LQ B m) (LQ (bH.fst n m C B 0).g (2 * n+1)) g low (x:Int)) r /\
     ((∃ D,Pt n m C B D/\r=RS false n m (2 * n+1) (2 * n+m) D)\/∃ D c,Ig n m C B D c/\r=RS true n m (2 * n) (2 * n+m) (D.del c)):=fun o g1 ⟨cmp,g2,g3,w⟩=>by
   obtain ⟨r,g5,g6⟩:=ai4 E hm P K h1 L d (x+1) o ad g1;refine ⟨r,aL.succ (fun _ _=>rfl) ?_,g6⟩;have U:Gv (fun N=>cond ((decide (zB (B x) < 0)) && ((decide (zB (B x) < 0)) && (!(decide (low < 0))))) (mH N (bB (B x)) ((LQ B m).getD low.toNat aa.d)) (some 0)) cmp:=by
    by_cases q:B x < 0/\0<=low
    ·obtain ⟨a,f⟩:=q;obtain ⟨l,rfl⟩:∃ l:Nat,low=l:=⟨low.toNat,ad⟩;have J:l < m:=by have:=Z f;omega
     rw [g2 a l rfl];refine Gv.aW (by simp [wq,a]) ?_;rw [ag,lv _ _ J];exact I.cmp ((M l J).q (show s<=MS by omega)) (Pn ak)
    ·rw [g3 q];refine Gv.a5 ?_ (Gv.pure 0)
     by_cases a:B x < 0
     ·have:low < 0:=Int.not_le.1 fun f=>q ⟨a,f⟩;simp [this]
     ·simp [wq,a]
   have:aL (fun N g=>bQ N (n:Int) (m:Int) (bB 0).fN.fG (bB 0).fN.fL (bB 0).fD.fG (bB 0).fD.fL ((2 * n+m:Nat):Int) (LN (bH.fst n m C B 0).je m) (LN (bH.fst n m C B 0).fr (2 * n+1))
      (LA (bH.fst n m C B 0).a m (2 * n+1)) (LQ B m) (LQ (bH.fst n m C B 0).g (2 * n+1)) (g+1) low (x:Int)) r:=by
    simp only [bQ];refine aL.aW (YK (n:=m) t (cQ _ _)) (aL.if (inl t (cQ _ _)) ?_);simp only [ag,lv _ _ t,ld,aw (show x < 9223372036854775807 by omega)];refine aL.bind (I.zB ak) (aL.if (fun _=>inl t (cQ _ _)) (aL.if (fun q=>?_) (aL.bind U ?_)))
    ·simp at q;rw [cQ];exact ⟨ad,Z ad⟩
    ·revert w;cases (cond (decide (zB (B x) < 0)) (cond (decide (low < 0)) true (decide (cmp < 0))) false) with
     | true=>intro w;refine aL.aW rfl ?_;simp only [cond_true] at w;rw [w];exact g5
     | false=>intro w;refine aL.a5 rfl ?_;simp only [cond_false] at w;rw [w];exact g5
   exact this
  by_cases p:B x < 0
  ·have A:decide (zB (B x) < 0)=true:=decide_eq_true (wq.2 p);rcases F with ⟨rfl,hb⟩ | ⟨l,rfl,y,V,z⟩
   ·refine O x (.inr ⟨x,rfl,ad,p,fun r DP=>?_⟩) ⟨0,fun _ l e=>ad,fun _=>rfl,by rw [A];rfl⟩
    by_cases e:r=x
    ·rw [e];exact Rat.le_refl
    ·have:=hb r ad;grind
   ·have v:decide (((l:Nat):Int) < 0)=false:=ao
    by_cases jA:B x < B l
    ·refine O x (.inr ⟨x,rfl,ad,p,fun r DP=>?_⟩) ⟨zB (B x - B l),fun _ W e=>by rw [show W=l by omega],fun q=>absurd ⟨p,ad⟩ q,by rw [A,v,decide_eq_true (wq.2 (show B x - B l < 0 by grind))];rfl⟩
     by_cases e:r=x
     ·rw [e];exact Rat.le_refl
     ·have:=z r ad;grind
    ·refine O l (.inr ⟨l,rfl,ad,V,fun r DP=>?_⟩) ⟨zB (B x - B l),fun _ W e=>by rw [show W=l by omega],fun q=>absurd ⟨p,ad⟩ q,by rw [A,v,decide_eq_false fun q=>by have:=wq.1 q;grind];rfl⟩
     by_cases e:r=x
     ·rw [e];grind
     ·exact z r ad
  ·have A:decide (zB (B x) < 0)=false:=decide_eq_false fun q=>p (wq.1 q);refine O low ?_ ⟨0,fun q=>absurd q p,fun _=>rfl,by rw [A];rfl⟩;rcases F with ⟨e,hb⟩ | ⟨l,e,y,V,z⟩
   ·refine .inl ⟨e,fun r h1=>?_⟩
    by_cases v:r=x
    ·rw [v];exact Rat.not_lt.1 p
    ·exact hb r ad
   ·refine .inr ⟨l,e,ad,V,fun r h1=>?_⟩
    by_cases v:r=x
    ·rw [v];grind
    ·exact z r ad
theorem aeH {e5:Nat} (a:m<=e5\/2 * n+1<=e5) (hm:m<=1000) (b:2 * n<=998) (d:(bH.fst n m C B 0).N7 m (2 * n+1) s) (h1:1<=s) (e:5 * (5 ^ e5 * s)<=MS) :
  ∃ r,Gv (fun N=>ql N (n:Int) (m:Int) (bB 0).fN.fG (bB 0).fN.fL (bB 0).fD.fG (bB 0).fD.fL ((2 * n+m:Nat):Int) (LN (bH.fst n m C B 0).je m) (LN (bH.fst n m C B 0).fr (2 * n+1))
    (LA (bH.fst n m C B 0).a m (2 * n+1)) (LQ B m) (LQ (bH.fst n m C B 0).g (2 * n+1))) r /\
   ((∃ D,Pt n m C B D/\r=RS false n m (2 * n+1) (2 * n+m) D)\/∃ D c,Ig n m C B D c/\r=RS true n m (2 * n) (2 * n+m) (D.del c)):=by
 obtain ⟨r,h2,h3⟩:=ai4 a hm b d h1 e m 0 (-1) ad (.inl ⟨rfl,fun j hj=>absurd hj (dX _)⟩);exact ⟨r,h2.diag,h3⟩
end
end Go.Den
namespace Go.Den
open Go.Ab
structure abK (r:a8):Prop where
 len:r.db.length<=20
 co:∀ j,IR (r.db.getD j aa.d) 2
 bo:IR r.jl 2
structure DM (l:List a8):Prop where
 len:l.length<=60
 row:∀ i,abK (l.getD i a8.d)
theorem ird {n:Nat}:IR aa.d n:=⟨⟨U.nil,Nat.zero_le _⟩,⟨U.nil,Nat.zero_le _⟩⟩
theorem abK.d:abK a8.d:=⟨ak,fun j=>by
 have:(a8.d.db.getD j aa.d)=aa.d:=by cases j<;>rfl
 rw [this];exact ird,ird⟩
theorem ai5 {l:List a8} {i:Nat} (h:l.length<=i):l.getD i a8.d=a8.d:=by
 simp [List.getD,List.getElem?_eq_none_iff.2 h]
def BF (l:List a8) (n:Int) (i:Nat):Prop:=(((l.getD i a8.d).db.length:Nat):Int) > n
instance (l:List a8) (n:Int) (i:Nat):Decidable (BF l n i):=by unfold BF;infer_instance
def xx (l:List a8) (n:Int):Nat->Nat->Bool
 | 0,_=>false
 | k+1,i=>if BF l n i then true else xx l n k (i+1)
def qR (n:Int) (l:List a8):Int:=if n < 0\/n > 12 then 2 else if l.length > 40 then 8 else cond (xx l n l.length 0) 11 0
theorem IK {l:List a8} {n:Int}:∀ k i,xx l n k i=false->∀ j,i<=j->j < i+k->¬ BF l n j
 | 0,_,_,j,h1,h2=>ad
 | k+1,i,h,j,h1,h2=>by
  rw [xx] at h;split at h
  ·cases h
  ·by_cases a:j=i
   ·rw [a];assumption
   ·exact IK k (i+1) h j ad ad
theorem UA {l:List a8} {n:Int} (c:l.length<=1000):∀ k i,i+k=l.length->∃ r,aL (fun N fuel=>dD N l n fuel (i:Int)) r/\decide (r>=0)=xx l n k i
 | 0,i,hi=>⟨-1,.step 0 fun N g _ _=>by
  have:i=l.length:=ad;subst this;rw [dD,dG];rfl,rfl⟩
 | k+1,i,hi=>by
  have a:i < l.length:=ad;obtain ⟨r,h1,h2⟩:=UA (n:=n) c k (i+1) ad;have b:Gv (fun N=>uh N (l.getD i a8.d) n) (decide (BF l n i)):=Gv.pure _;rw [xx]
  by_cases h:BF l n i
  ·rw [if_pos h];refine ⟨(i:Int),aL.succ (fun N g=>dD.eq_2 ..) (aL.aW (dec_lt a) (aL.if (jy a) (aL.bind b (aL.aW (decide_eq_true h) (aL.one (Gv.pure _)))))),decide_eq_true ad⟩
  ·rw [if_neg h];refine ⟨r,aL.succ (fun N g=>dD.eq_2 ..) (aL.aW (dec_lt a) (aL.if (jy a) (aL.bind b (aL.a5 (decide_eq_false h) ?_)))),h2⟩;rw [aw ad];exact h1
theorem La (n:Int) (l:List a8):Gv (fun N=>ph N n l) (qR n l):=by
 unfold ph qR;have e:cond (decide (n < 0)) true (decide (n > 12))=decide (n < 0\/n > 12):=by
  by_cases h:n < 0
  ·rw [decide_eq_true h,decide_eq_true (Or.inl h)];rfl
  ·rw [decide_eq_false h,cond_false];exact decide_eq_decide.2 ⟨Or.inr,fun h2=>h2.resolve_left h⟩
 rw [e]
 by_cases h:n < 0\/n > 12
 ·rw [if_pos h];exact Gv.aW (decide_eq_true h) (Gv.pure _)
 ·rw [if_neg h];refine Gv.a5 (decide_eq_false h) ?_
  by_cases h2:l.length > 40
  ·rw [if_pos h2];exact Gv.aW (decide_eq_true ad) (Gv.pure _)
  ·rw [if_neg h2];obtain ⟨r,h3,h4⟩:=UA (l:=l) (n:=n) ad l.length 0 ad;refine Gv.a5 (decide_eq_false ad) (Gv.bind (r:=decide (r>=0)) (Gv.bind h3.diag (Gv.pure _)) ?_);rw [h4];cases xx l n l.length 0 with
   | true=>exact Gv.aW rfl (Gv.pure _)
   | false=>exact Gv.a5 rfl (Gv.pure _)
structure WS (n:Nat) (l:List a8):Prop where
 aqY:n<=12
 len:l.length<=40
 co:∀ i,i < l.length->(l.getD i a8.d).db.length<=n
theorem abL {n:Int} {l:List a8} (h:qR n l=0):0<=n/\WS n.toNat l:=by
 unfold qR at h;split at h
 ·cases h
 ·split at h
  ·cases h
  ·cases e:xx l n l.length 0 with
   | true=>rw [e] at h;cases h
   | false =>
    refine ⟨ad,ad,ad,fun i hi=>?_⟩;have:=IK _ _ e i (Nat.zero_le _) ad;unfold BF at this;omega
def dF (c x:List aa):Nat->Nat->Rat->Rat
 | 0,_,a=>a
 | k+1,i,a=>dF c x k (i+1) (a+qv (c.getD i aa.d) * qv (x.getD i aa.d))
def YT (c x:List aa):Rat:=dF c x c.length 0 0
structure LB (l:List aa) (n:Nat):Prop where
 len:l.length<=60
 ir:∀ i,IR (l.getD i aa.d) n
theorem LB.rq {l:List aa} {n:Nat} (h:LB l n) (a:1<=n) (i:Nat):RQ (l.getD i aa.d) (qv (l.getD i aa.d)) n:=⟨h.ir i,rfl,a⟩
section
variable {c x:List aa}
theorem ai6 (hc:LB c 12) (hx:LB x 5000000000) (b:c.length<=x.length):∀ (k i m:Nat) (a:Rat),i+k=c.length->RB a m->1<=m->m+k * 5000000013<=1000000000000->aL (fun N fuel=>sb N c x fuel (bB a) (i:Int)) (bB (dF c x k i a))
 | 0,i,m,a,hi,_,_,_=>.step 0 fun N g _ _=>by
  have:i=c.length:=ad;subst this;rw [sb,dG];rfl
 | k+1,i,m,a,hi,ha,h1,hm=>by
  have f:i < c.length:=ad;have h:=hc.len;have d:=hc.rq ak i;have e:=hx.rq ak i;refine aL.succ (fun N g=>sb.eq_2 ..) (aL.aW (dec_lt f) (aL.if (jy f) (aL.if (jy ad) ?_)));rw [ag,aw ad];refine aL.bind (d.mul e ak) (aL.bind ((ha.rq h1).add ((d.rb.mul e.rb).rq ak) (by simp only [SM];omega)) ?_);exact ai6 hc hx b k (i+1) (m+5000000013) _ ad ((ha.add (d.rb.mul e.rb)).le ad) ad ad
theorem ai7 (hc:LB c 12) (hx:LB x 5000000000) (a:c.length<=x.length):Gv (fun N=>KA N c x) (bB (YT c x)):=by
 have:=hc.len;exact Gv.bind (r:=bB 0) (xh (z:=0) ak ak) (ai6 hc hx a c.length 0 1 0 ad RB.zero ak ad).diag
theorem amL (hc:LB c 12) (hx:LB x 5000000000):∀ (k i m:Nat) (a:Rat),RB a m->RB (dF c x k i a) (m+k * 5000000013)
 | 0,_,_,_,h=>h.le ad
 | k+1,i,m,a,h=>by
  rw [dF];exact (amL hc hx k (i+1) (m+5000000013) _ ((h.add ((hc.rq ak i).rb.mul (hx.rq ak i).rb)).le ad)).le ad
theorem ai8 (hc:LB c 12) (hx:LB x 5000000000):RB (YT c x) 300000000781:=by
 have:=hc.len;exact (amL hc hx c.length 0 1 0 RB.zero).le ad
end
theorem abK.lb {r:a8} (h:abK r):LB r.db 12:=⟨by have:=h.len;omega,fun i=>(h.co i).le ak⟩
theorem abK.brq {r:a8} (h:abK r):RQ r.jl (qv r.jl) 2:=⟨h.bo,rfl,ak⟩
def J0 (l:List a8) (x:List aa) (i:Nat):Prop:=0 < YT (l.getD i a8.d).db x - qv (l.getD i a8.d).jl
instance (l:List a8) (x:List aa) (i:Nat):Decidable (J0 l x i):=by unfold J0;infer_instance
def EY (l:List a8) (x:List aa):Nat->Nat->Bool
 | 0,_=>false
 | k+1,i=>if J0 l x i then true else EY l x k (i+1)
section
variable {l:List a8} {x:List aa}
theorem ai9 (b:DM l) (hx:LB x 5000000000) (ok:∀ i,i < l.length->(l.getD i a8.d).db.length<=x.length):∀ k i,i+k=l.length->∃ r,aL (fun N fuel=>cD N l x fuel (i:Int)) r/\decide (r>=0)=EY l x k i
 | 0,i,hi=>⟨-1,.step 0 fun N g _ _=>by
  have:i=l.length:=ad;subst this;rw [cD,dG];rfl,rfl⟩
 | k+1,i,hi=>by
  have a:i < l.length:=ad;have c:=b.len;obtain ⟨r,h1,h2⟩:=ai9 b hx ok k (i+1) ad;have hb:=b.row i;have d:Gv (fun N=>uq N (l.getD i a8.d) x) (decide (J0 l x i)):=by
   refine (ai7 hb.lb hx (ok i a)).bind ((((ai8 hb.lb hx).rq ak).cmp hb.brq ak).bind ((Gv.pure _).eq ?_));rw [YI];rfl
  rw [EY]
  by_cases h:J0 l x i
  ·rw [if_pos h];refine ⟨(i:Int),aL.succ (fun N g=>cD.eq_2 ..) (aL.aW (dec_lt a) (aL.if (jy a) (aL.bind d (aL.aW (decide_eq_true h) (aL.one (Gv.pure _)))))),decide_eq_true ad⟩
  ·rw [if_neg h];refine ⟨r,aL.succ (fun N g=>cD.eq_2 ..) (aL.aW (dec_lt a) (aL.if (jy a) (aL.bind d (aL.a5 (decide_eq_false h) ?_)))),h2⟩;rw [aw ad];exact h1
theorem WT (a:DM l) (hx:LB x 5000000000) (ok:∀ i,i < l.length->(l.getD i a8.d).db.length<=x.length):Gv (fun N=>xq N l x) (!EY l x l.length 0):=by
 obtain ⟨r,h3,h4⟩:=ai9 a hx ok l.length 0 ad;refine Gv.bind (r:=decide (r>=0)) (Gv.bind h3.diag (Gv.pure _)) ?_;rw [h4];exact Gv.pure _
end
end Go.Den
namespace Go.Den
open Go.Ab
def yv (y:List aa) (i:Nat):Rat:=qv (y.getD i aa.d)
def cf (l:List a8) (i j:Nat):Rat:=qv ((l.getD i a8.d).db.getD j aa.d)
def bv (l:List a8) (i:Nat):Rat:=qv (l.getD i a8.d).jl
def cS (l:List a8) (y:List aa) (j:Nat):Nat->Rat
 | 0=>0
 | i+1=>cS l y j i+yv y i * cf l i j
def bS (l:List a8) (y:List aa):Nat->Rat
 | 0=>0
 | i+1=>bS l y i+yv y i * bv l i
theorem alD:qv aa.d=0:=by decide +kernel
theorem amM {l:List a8} {i j:Nat} (h:(l.getD i a8.d).db.length<=j):cf l i j=0:=by
 unfold cf;rw [AJ h,alD]
def lf (n:Nat) (f:Nat->Rat):List aa:=(List.range n).map fun j=>bB (f j)
theorem Nv {n:Nat} {f:Nat->Rat}:(lf n f).length=n:=by simp [lf]
theorem adl {n:Nat} {f:Nat->Rat} {j:Nat} (h:j < n):(lf n f).getD j aa.d=bB (f j):=by simp [lf,List.getD,h]
theorem Sy {n:Nat} {f g:Nat->Rat} (h:∀ j,j < n->f j=g j):lf n f=lf n g:=by
 unfold lf;exact List.map_congr_left fun j hj=>by rw [h j (qh.1 hj)]
theorem aoK {n:Nat} {f:Nat->Rat} {j:Nat} {v:Rat}:(lf n f).set j (bB v)=lf n (fun t=>if t=j then v else f t):=by
 apply List.ext_getElem
 ·simp [lf]
 ·intro t h1 h2;simp only [lf,List.getElem_set,List.getElem_map,List.getElem_range]
  by_cases h:j=t
  ·rw [if_pos h,if_pos h.symm]
  ·rw [if_neg h,if_neg (fun e=>h e.symm)]
theorem alE {n:Nat} {f:Nat->Rat}:lf n f ++ [bB (f n)]=lf (n+1) f:=by
 unfold lf;rw [List.range_succ,HC];rfl
section
variable {l:List a8} {y:List aa}
theorem aja (a:DM l) (i j:Nat):RQ ((l.getD i a8.d).db.getD j aa.d) (cf l i j) 2:=⟨(a.row i).co j,rfl,ak⟩
theorem Sz (a:LB y 5000000000) (i:Nat):RQ (y.getD i aa.d) (yv y i) 5000000000:=a.rq ak i
theorem ajb (a:DM l) (b:LB y 5000000000) (j:Nat):∀ i,RB (cS l y j i) (1+5000000003 * i)
 | 0=>RB.zero
 | i+1=>((ajb a b j i).add ((Sz b i).rb.mul (aja a i j).rb)).le ad
theorem ajc (a:DM l) (b:LB y 5000000000):∀ i,RB (bS l y i) (1+5000000003 * i)
 | 0=>RB.zero
 | i+1=>((ajc a b i).add ((Sz b i).rb.mul (a.row i).brq.rb)).le ad
theorem YU {n:Nat} (b:n<=1000) {R:List aa×aa×Bool} (a:Gv (fun N=>g8 N l y N (lf n fun _=>0) (bB 0) 0) R):∀ k j,j+k=n->aL (fun N fuel=>kQ N n l y fuel (lf j (fun _=>0) ++ List.replicate k aa.d) (j:Int)) R
 | 0,j,hj=>by
  have hj:j=n:=ad;subst hj;refine aL.succ (fun N g=>kQ.eq_2 ..) (aL.a5 ?_ (aL.one (Gv.bind (r:=bB 0) (xh (z:=0) ak ak) ?_)))
  ·rw [iB,ag];exact dG
  ·simpa using a
 | k+1,j,hj=>by
  have c:(lf j (fun _=>0) ++ List.replicate (k+1) aa.d).length=n:=by simp [Nv];omega
  refine aL.succ (fun N g=>kQ.eq_2 ..) (aL.aW ?_ (aL.bind (r:=bB 0) (xh (z:=0) ak ak) (aL.if (jy ad) ?_)))
  ·rw [iB,ag];exact dec_lt ad
  ·rw [ag,aw ad];have e:(lf j (fun _=>0) ++ List.replicate (k+1) aa.d).set j (bB 0)=lf (j+1) (fun _=>0) ++ List.replicate k aa.d:=by
    rw [List.set_append_right _ _ (by rw [Nv];exact aV _),Nv,Nat.sub_self,List.replicate_succ,List.set_cons_zero,<- alE,DR];rfl
   rw [e];exact YU b a k (j+1) ad
theorem ajd (b:DM l) (d:LB y 5000000000) {n i:Nat} (u:i < l.length) (c:i < y.length) (Lb:(l.getD i a8.d).db.length<=n) (v:n<=12) (B:Rat) (r:RB B 300000000181):∀ k j,j+k=(l.getD i a8.d).db.length->∃ s,∀ N fuel,s<=N->s<=fuel->∀ K:List aa->aa->Int->Option (List aa×aa×Bool),
  kP N l y (bB B) (i:Int) K fuel (lf n fun t=>if t < j then cS l y t (i+1) else cS l y t i) (j:Int)=K (lf n fun t=>cS l y t (i+1)) (bB (B+yv y i * bv l i)) ((i+1:Nat):Int)
 | 0,j,hj=>by
  have hj:j=(l.getD i a8.d).db.length:=ad;subst hj;have e:=b.len;obtain ⟨o,h1⟩:=(Sz d i).mul (b.row i).brq ak;obtain ⟨p,h2⟩:=(r.rq ak).add (((Sz d i).rb.mul (b.row i).brq.rb).rq ak) ak;refine ⟨o+p+1,fun N fuel w x K=>?_⟩;obtain ⟨g,rfl⟩:∃ g,fuel=g+1:=⟨fuel - 1,ad⟩;have f:=h1 N ad;have a:=h2 N ad;dsimp only at f a;rw [kP,ag,dG,cond_false,if_pos (jy c)];have q:fO N (⟨((y.getD i aa.d).fN),((y.getD i aa.d).fD)⟩:aa) (⟨(((l.getD i a8.d).jl).fN),(((l.getD i a8.d).jl).fD)⟩:aa)=some (bB (yv y i * qv (l.getD i a8.d).jl)):=f;rw [q,dc,a,dc,aw ad];congr 1;refine Sy fun t _=>?_;split
  ·rfl
  ·rw [cS,amM ad];grind
 | k+1,j,hj=>by
  have e:=b.len;have m:j < (l.getD i a8.d).db.length:=ad;obtain ⟨o,h1⟩:=(Sz d i).mul (aja b i j) ak;have z:RB (cS l y j i) 300000000181:=(ajb b d j i).le ad;obtain ⟨p,h2⟩:=(z.rq ak).add (((Sz d i).rb.mul (aja b i j).rb).rq ak) ak;obtain ⟨A,h3⟩:=ajd b d u c Lb v B r k (j+1) ad;refine ⟨o+p+A+1,fun N fuel w x K=>?_⟩;obtain ⟨g,rfl⟩:∃ g,fuel=g+1:=⟨fuel - 1,ad⟩;have f:=h1 N ad;have a:=h2 N ad;dsimp only at f a;have C:(lf n fun t=>if t < j then cS l y t (i+1) else cS l y t i).getD j aa.d=bB (cS l y j i):=by rw [adl ad,if_neg ad]
  rw [kP,ag,dec_lt m,cond_true,if_pos (jy m),if_pos (jy (by rw [Nv];omega)),if_pos (jy c),ag,C];have q:fO N (⟨((y.getD i aa.d).fN),((y.getD i aa.d).fD)⟩:aa) (⟨((((l.getD i a8.d).db).getD j aa.d).fN),((((l.getD i a8.d).db).getD j aa.d).fD)⟩:aa)=some (bB (yv y i * cf l i j)):=f;have D:fq N (⟨(bB (cS l y j i)).fN,(bB (cS l y j i)).fD⟩:aa) (bB (yv y i * cf l i j))=some (bB (cS l y j i+yv y i * cf l i j)):=a;rw [q,dc,D,dc,aw ad,aoK];have E:(lf n fun t=>if t=j then cS l y j i+yv y i * cf l i j else if t < j then cS l y t (i+1) else cS l y t i)=lf n fun t=>if t < j+1 then cS l y t (i+1) else cS l y t i:=by
   refine Sy fun t _=>?_
   by_cases h:t=j
   ·subst h;rw [if_pos rfl,if_pos ad,cS]
   ·rw [if_neg h]
    by_cases h2:t < j
    ·rw [if_pos h2,if_pos ad]
    ·rw [if_neg h2,if_neg ad]
  rw [E];exact h3 N g ad ad K
def EZ (y:List aa):Nat->Nat->Bool
 | 0,_=>false
 | k+1,i=>if yv y i < 0 then true else EZ y k (i+1)
theorem adn (c:DM l) (d:LB y 5000000000) {n:Nat} (ok:WS n l) (f:y.length=l.length):∀ k i,i+k=l.length->∃ r,aL (fun N fuel=>g8 N l y fuel (lf n fun t=>cS l y t i) (bB (bS l y i)) (i:Int)) r /\
  ((EZ y k i=true/\r.2.2=false)\/(EZ y k i=false/\r=(lf n fun t=>cS l y t l.length,bB (bS l y l.length),true)))
 | 0,i,hi=>by
  have hi:i=l.length:=ad;subst hi;exact ⟨_,aL.succ (fun N g=>g8.eq_2 ..) (aL.a5 dG (aL.one (Gv.pure _))),.inr ⟨rfl,rfl⟩⟩
 | k+1,i,hi=>by
  have a:i < l.length:=ad;have j:=c.len;have b:=(Sz d i).zB ak;rw [EZ]
  by_cases h:yv y i < 0
  ·rw [if_pos h];refine ⟨([],bB (bS l y i),false),aL.succ (fun N g=>g8.eq_2 ..) (aL.aW (dec_lt a) (aL.if (jy a) (aL.if (jy ad) (aL.bind (r:=zB (yv y i)) b ?_)))),.inl ⟨rfl,rfl⟩⟩;rw [N6];exact aL.aW (decide_eq_true h) (aL.one (Gv.pure _))
  ·rw [if_neg h];obtain ⟨r,h1,h2⟩:=adn c d ok f k (i+1) ad;refine ⟨r,aL.succ (fun N g=>g8.eq_2 ..) (aL.aW (dec_lt a) (aL.if (jy a) (aL.if (jy ad) (aL.bind (r:=zB (yv y i)) b ?_)))),h2⟩;rw [N6];refine aL.a5 (decide_eq_false h) ?_;have m:RB (bS l y i) 300000000181:=(ajc c d i).le ad;obtain ⟨o,h3⟩:=ajd c d a ad (ok.co i a) ok.aqY (bS l y i) m _ 0 (Nat.zero_add _);obtain ⟨p,h1⟩:=h1;refine ⟨o+p,fun N fuel q s=>?_⟩;have:=h3 N N ad ad (g8 N l y fuel);have e:(lf n fun t=>if t < 0 then cS l y t (i+1) else cS l y t i)=lf n fun t=>cS l y t i:=Sy fun t _=>by rw [if_neg ad]
   rw [e] at this;exact this.trans (h1 N fuel ad ad)
theorem YV (b:DM l) (c:LB y 5000000000) {n:Nat} (ok:WS n l) (a:y.length=l.length):∃ r,Gv (fun N=>zc N n l y) r /\
  ((EZ y l.length 0=true/\r.2.2=false)\/(EZ y l.length 0=false/\r=(lf n fun t=>cS l y t l.length,bB (bS l y l.length),true))):=by
 have d:=ok.aqY;obtain ⟨r,h1,h2⟩:=adn b c ok a l.length 0 ad;refine ⟨r,Gv.if ⟨ad,ad,ad⟩ ?_,h2⟩;have:=(YU (n:=n) ad h1.diag n 0 ad).diag;rw [ag];exact this
end
end Go.Den
namespace Go.Den
open Go.Ab
section
variable {l:List a8} {y:List aa} {n:Nat}
def SA (f:Nat->Rat):Nat->Nat->Bool
 | 0,_=>false
 | k+1,i=>if f i=0 then SA f k (i+1) else true
theorem auH (a:DM l) (b:LB y 5000000000):RB (bS l y l.length) 300000000181:=(ajc a b _).le (by have:=a.len;omega)
theorem auI (a:DM l) (b:LB y 5000000000) (j:Nat):RB (cS l y j l.length) 300000000181:=(ajb a b j _).le (by have:=a.len;omega)
variable {c:List aa} {b:uT} {v:Rat}
def dfB (c:List aa) (l:List a8) (y:List aa) (j:Nat):Rat:=cS l y j l.length - qv (c.getD j aa.d)
def ado (c:List aa) (l:List a8) (b:uT):Bool :=
 !EY l b.oI l.length 0 && !EZ b.eW b.eW.length 0 && decide (bS l b.eW l.length - qv b.rz=0) && decide (YT c b.oI - qv b.rz=0) && !SA (dfB c l b.eW) c.length 0
def SB (c:List aa) (l:List a8) (b:uT):Int :=
 if qR c.length l≠0 then qR c.length l else if b.oI.length≠c.length\/b.eW.length≠l.length then 11 else cond (ado c l b) 0 24
theorem WU {q:Rat}:(zB q != 0)=!decide (q=0):=by
 by_cases h:q=0
 ·rw [h];rfl
 ·rw [decide_eq_false h];simp;exact fun a=>h (Sl.1 a)
theorem adp (b:DM l) (d:LB y 5000000000) (hc:LB c 12) {B:aa}:∀ k j,j+k=c.length->aL (fun N fuel=>j7 N c (lf c.length fun t=>cS l y t l.length,B,true) fuel (j:Int)) (cond (SA (dfB c l y) k j) 24 0)
 | 0,j,hj=>by
  have e:decide ((j:Int) < ((((lf c.length fun t=>cS l y t l.length,B,true):List aa×aa×Bool).1.length:Nat):Int))=false:=by
   show decide ((j:Int) < (((lf c.length fun t=>cS l y t l.length).length:Nat):Int))=false;rw [Nv];exact decide_eq_false ad
  exact aL.succ (fun N g=>j7.eq_2 ..) (aL.a5 e (aL.one (Gv.pure _)))
 | k+1,j,hj=>by
  have f:=hc.len;have a:j < (lf c.length fun t=>cS l y t l.length).length:=by rw [Nv];omega
  refine aL.succ (fun N g=>j7.eq_2 ..) (aL.aW (dec_lt a) (aL.if (jy a) (aL.if (jy ad) (aL.bind (r:=zB (dfB c l y j)) ?_ ?_))))
  ·rw [ag];have:Gv (fun N=>mH N ((lf c.length fun t=>cS l y t l.length).getD j aa.d) (c.getD j aa.d)) (zB (dfB c l y j)):=by
    rw [adl ad];exact ((auI b d j).rq ak).cmp (hc.rq ak j) ak
   exact this
  ·rw [WU,SA]
   by_cases h:dfB c l y j=0
   ·rw [if_pos h];refine aL.a5 (by rw [decide_eq_true h];rfl) ?_;rw [aw ad];exact adp b d hc k (j+1) ad
   ·rw [if_neg h];exact aL.aW (by rw [decide_eq_false h];rfl) (aL.one (Gv.pure _))
theorem WW (f:DM l) (hc:LB c 12) (hx:LB b.oI 5000000000) (g:LB b.eW 5000000000) (j:RQ b.rz (qv b.rz) 5000000000):Gv (fun N=>tG N c l b) (SB c l b):=by
 refine (La _ _).bind ?_;unfold SB
 by_cases h:qR c.length l≠0
 ·rw [if_pos h];exact Gv.aW (by simpa using h) (Gv.pure _)
 ·rw [if_neg h];refine Gv.a5 (by simpa using h) ?_;have k:cond ((b.oI.length:Int) != (c.length:Int)) true ((b.eW.length:Int) != (l.length:Int))=decide (b.oI.length≠c.length\/b.eW.length≠l.length):=by
   by_cases h1:b.oI.length=c.length<;>by_cases h2:b.eW.length=l.length<;>simp [h1,h2]<;>omega
  rw [k]
  by_cases h1:b.oI.length≠c.length\/b.eW.length≠l.length
  ·rw [if_pos h1];exact Gv.aW (decide_eq_true h1) (Gv.pure _)
  ·rw [if_neg h1];refine Gv.a5 (decide_eq_false h1) ?_;have h2:b.oI.length=c.length:=ad;have h3:b.eW.length=l.length:=ad;obtain ⟨n0,ok⟩:=abL (Decidable.not_not.1 h);rw [ag] at ok;obtain ⟨r,m,a⟩:=YV f g ok h3;refine m.bind ?_;unfold ado;rw [h3];rcases a with ⟨a,n⟩ | ⟨a,rfl⟩
   ·rw [a,n,Bool.not_true,Bool.and_false,Bool.false_and,Bool.false_and,Bool.false_and];exact Gv.bind (Gv.a5 rfl (Gv.pure false)) (Gv.bind (Gv.a5 rfl (Gv.pure aa.d)) (Gv.bind (Gv.a5 rfl (Gv.pure 0)) (Gv.bind (Gv.a5 rfl (Gv.pure 0)) (Gv.aW rfl (Gv.pure _)))))
   ·rw [a];refine Gv.bind (Gv.aW rfl (WT f hx (fun i hi=>by have:=ok.co i hi;omega))) ?_;cases EY l b.oI l.length 0 with
    | true=>exact Gv.bind (Gv.a5 rfl (Gv.pure aa.d)) (Gv.bind (Gv.a5 rfl (Gv.pure 0)) (Gv.bind (Gv.a5 rfl (Gv.pure 0)) (Gv.aW rfl (Gv.pure _))))
    | false =>
     have hd:=ai8 hc hx;refine Gv.bind (Gv.aW rfl (ai7 hc hx ad)) (Gv.bind (Gv.aW rfl ((hd.rq ak).cmp j ak)) ?_);rw [WU]
     by_cases d:YT c b.oI - qv b.rz=0
     ·rw [decide_eq_true d];refine Gv.bind (Gv.aW rfl (((auH f g).rq ak).cmp j ak)) ?_;rw [WU]
      by_cases e:bS l b.eW l.length - qv b.rz=0
      ·rw [decide_eq_true e];refine Gv.a5 rfl ((adp f g hc c.length 0 ad).diag.eq ?_);cases SA (dfB c l b.eW) c.length 0<;>rfl
      ·rw [decide_eq_false e];exact Gv.aW rfl ((Gv.pure _).eq ao)
     ·rw [decide_eq_false d];exact Gv.bind (Gv.a5 rfl (Gv.pure 0)) (Gv.aW rfl ((Gv.pure _).eq ao))
end
end Go.Den
namespace Go.Den
open Go.Ab
structure Lc (l:List a8):Prop where
 co:∀ i j,RQ ((l.getD i a8.d).db.getD j aa.d) (cf l i j) 2
 bo:∀ i,RQ (l.getD i a8.d).jl (bv l i) 2
theorem Hv {α:Type} (f:Nat->α) (n:Nat):J8 f n ++ [f n]=J8 f (n+1):=by
 unfold J8;rw [List.range_succ,HC];rfl
section
variable {n:Nat} {l:List a8}
abbrev D0 (n:Nat) (l:List a8):bH:=bH.fst n l.length (cf l) (bv l) 0
def TB (n:Nat) (l:List a8):ml :=
 ⟨n,(l.length:Int),LN (D0 n l).je l.length,LN (D0 n l).fr (2 * n+1),LA (D0 n l).a l.length (2 * n+1),LQ (bv l) l.length,LQ (D0 n l).g (2 * n+1),bB 0,((2 * n+l.length:Nat):Int)⟩
theorem w2n (a:n<=12):aR (2 * (n:Int))=((2 * n:Nat):Int):=by rw [bw ad ad];omega
theorem aje (a:n<=12) {t t2:List Int} {c:List (List aa)} {f:List aa} (k:l.length<=40) (h1:t=LN (fun j=>j) (2 * n)) (h2:t2=LN (D0 n l).je l.length) (h3:c=LA (D0 n l).a l.length (2 * n+1)) (h4:f=LQ (bv l) l.length) :
  ∀ (d x:Nat) (L:List aa),x+d=2 * n+1->L.length=2 * n+1->(∀ j,j < x->L.getD j aa.d=bB 0) ->
  aL (fun N g=>oO N (n:Int) l (bB 0) t t2 c f g L (x:Int)) (TB n l)
 | 0,x,L,hx,b,h0=>by
  refine aL.succ (fun N g=>oO.eq_2 ..) (aL.a5 (Zw (m:=x) (n:=2 * n+1) ad (by rw [iB,w2n a,aw ad];rfl)) (aL.one ((Gv.pure _).eq ?_)));have o:aR (((2 * n:Nat):Int)+(l.length:Int))=((2 * n+l.length:Nat):Int):=by rw [bw ad ad];omega
  have p:L=LQ (D0 n l).g (2 * n+1):=Su aa.d b fun j hj=>by
   rw [h0 j ad];simp only [bH.fst];split<;>rfl
  have q:t ++ [((2 * n+l.length:Nat):Int)]=LN (D0 n l).fr (2 * n+1):=by
   have h:=Hv (fun j=>(((D0 n l).fr j:Nat):Int)) (2 * n);have r:(D0 n l).fr (2 * n)=2 * n+l.length:=by simp only [bH.fst];rw [if_neg ad]
   rw [r] at h;unfold LN;rw [<- h,h1];unfold LN;congr 1;exact xj fun j hj=>by simp only [bH.fst];rw [if_pos hj]
  rw [w2n a,o,q,h2,h3,h4,p];rfl
 | d+1,x,L,hx,b,h0=>by
  have i:x < 2 * n+1:=ad;refine aL.succ (fun N g=>oO.eq_2 ..) (aL.aW (YK (n:=2 * n+1) i (by rw [iB,w2n a,aw ad];rfl)) (aL.bind BE (aL.if (inl i b) ?_)));rw [aw (show x < 9223372036854775807 by omega)];refine aje a k h1 h2 h3 h4 d (x+1) _ ad (by rw [List.length_set];exact b) fun j hj=>?_;rw [ag]
  by_cases e:x=j
  ·subst e;exact gl _ _ _ _ ad
  ·rw [fx _ _ _ e];exact h0 j ad
theorem ajf (u:n<=12) (m:Lc l) (o:l.length<=40) {i:Nat} (hi:i < l.length) (Lb:(l.getD i a8.d).db.length<=n) {t t2:List Int} {a:List (List aa)} {b:List aa} (h3:a.length=i) (h4:b.length=i) {rn:aa}:∀ (d x:Nat) (L:List aa),x+d=n->L.length=2 * n+1 ->
  (∀ j,j < x->L.getD j aa.d=bB (-(cf l i j))/\L.getD (n+j) aa.d=bB (cf l i j)) ->
  Ev fun N g=>∀ K,jL N (n:Int) l rn t t2 a b (i:Int) K g L (x:Int)=K (t2 ++ [((2 * n+i:Nat):Int)]) (a ++ [LQ ((D0 n l).a i) (2 * n+1)]) (b ++ [bB (bv l i)]) ((i+1:Nat):Int)
 | 0,x,L,hx,k,h0=>by
  have p:=(m.bo i).low ak;refine Ev.succ (((xh (z:=1) ak ak).ev.and p.ev).mono fun N g ⟨c,f⟩ K=>?_);have q:aR (((2 * n:Nat):Int)+(i:Int))=((2 * n+i:Nat):Int):=by rw [bw ad ad];omega
  have hb:mF N ⟨((l.getD i a8.d).jl).fN,((l.getD i a8.d).jl).fD⟩=some (bB (bv l i)):=f;have y:L.set (2 * n) (bB ((1:Int):Rat))=LQ ((D0 n l).a i) (2 * n+1):=by
   refine Su aa.d (by rw [List.length_set];exact k) fun j hj=>?_;simp only [bH.fst]
   by_cases e:2 * n=j
   ·rw [<- e,gl _ _ _ _ ad,if_neg ad,if_neg ad];rfl
   ·rw [fx _ _ _ e]
    by_cases h:j < n
    ·rw [if_pos h];exact (h0 j ad).1
    ·rw [if_neg h,if_pos ad];have:=(h0 (j - n) ad).2;rwa [show n+(j - n)=j by omega] at this
  rw [jL,show decide ((x:Int) < (n:Int))=false from decide_eq_false ad,cond_false,c,dc,w2n u,ag,ag,if_pos (inl (show 2 * n < 2 * n+1 by omega) k),if_pos ad,hb,dc,if_pos ad,q,y,aw ad]
 | d+1,x,L,hx,k,h0=>by
  have A:x < n:=ad;have q:aR ((n:Int)+(x:Int))=((n+x:Nat):Int):=by rw [bw ad ad];omega
  have B:RB (cf l i x) 2:=(m.co i x).rb;have v:Gv (fun N=>gK N (bB (cf l i x))) (bB (-(cf l i x))):=by
   have:=sJ (B.q (show 2<=MS by decide)).ir ak (Pn ak);rwa [pW] at this
  have w:=ajf u m o hi Lb h3 h4 (t:=t) (t2:=t2) (rn:=rn) d (x+1) ((L.set x (bB (-(cf l i x)))).set (n+x) (bB (cf l i x))) ad (by rw [List.length_set,List.length_set];exact k) fun j hj=>by
   by_cases e:j=x
   ·subst e;refine ⟨?_,gl _ _ _ _ (by rw [List.length_set];omega)⟩;rw [fx _ _ _ ad,gl _ _ _ _ ad]
   ·rw [fx _ _ _ (show n+x≠j by omega),fx _ _ _ (show x≠j by omega),fx _ _ _ (show n+x≠n+j by omega),fx _ _ _ (show x≠n+j by omega)];exact h0 j ad
  have fin:∀ N g K,gK N (bB (cf l i x))=some (bB (-(cf l i x)))->(jL N (n:Int) l rn t t2 a b (i:Int) K g ((L.set x (bB (-(cf l i x)))).set (n+x) (bB (cf l i x))) ((x+1:Nat):Int)=K (t2 ++ [((2 * n+i:Nat):Int)]) (a ++ [LQ ((D0 n l).a i) (2 * n+1)]) (b ++ [bB (bv l i)]) ((i+1:Nat):Int)) ->
    sR N (n:Int) l rn t t2 a b (i:Int) L (x:Int) (jL N (n:Int) l rn t t2 a b (i:Int) K g) K (bB (cf l i x))=K (t2 ++ [((2 * n+i:Nat):Int)]) (a ++ [LQ ((D0 n l).a i) (2 * n+1)]) (b ++ [bB (bv l i)]) ((i+1:Nat):Int):=fun N g K c f=>by
   unfold sR;rw [c,dc,q,ag,ag,if_pos (inl (show x < 2 * n+1 by omega) k),if_pos (inl (show n+x < 2 * n+1 by omega) k),aw ad];exact f
  by_cases hc:x < (l.getD i a8.d).db.length
  ·have p:=(m.co i x).low ak;refine Ev.succ (((BE.ev.and v.ev).and (p.ev.and w)).mono fun N g ⟨⟨c,f⟩,C,r⟩ K=>?_);have s:mF N ⟨(((l.getD i a8.d).db).getD x aa.d).fN,(((l.getD i a8.d).db).getD x aa.d).fD⟩=some (bB (cf l i x)):=C;rw [jL,show decide ((x:Int) < (n:Int))=true from decide_eq_true ad,cond_true,c,dc,ag,ag,dec_lt hc,cond_true,if_pos (jy hc),s,dc];exact fin N g K f (r K)
  ·have D:cf l i x=0:=amM ad;refine Ev.succ (((BE.ev.and v.ev).and w).mono fun N g ⟨⟨c,f⟩,r⟩ K=>?_);rw [jL,show decide ((x:Int) < (n:Int))=true from decide_eq_true ad,cond_true,c,dc,ag,decide_eq_false ad,cond_false,<- D];exact fin N g K f (r K)
theorem ajg (c:n<=12) (h:Lc l) (a:l.length<=40) (Lb:∀ i,i < l.length->(l.getD i a8.d).db.length<=n):∀ d x,x+d=l.length ->
  aL (fun N g=>mV N (n:Int) l (bB 0) (LN (fun j=>j) (2 * n)) g (LN (D0 n l).je x) (LA (D0 n l).a x (2 * n+1)) (LQ (bv l) x) (x:Int)) (TB n l)
 | 0,x,hx=>by
  have hx:x=l.length:=ad;subst hx;refine aL.succ (fun N g=>mV.eq_2 ..) (aL.a5 dG ?_);have f:aR (aR (2 * (n:Int))+1)=((2 * n+1:Nat):Int):=by rw [w2n c,aw ad]
  rw [f,ag];refine aL.if ad (aL.one ?_);exact (aje c a rfl rfl rfl rfl (2 * n+1) 0 (List.replicate (2 * n+1) aa.d) ad iB fun j hj=>absurd hj (dX _)).diag
 | d+1,x,hx=>by
  have e:x < l.length:=ad;have f:aR (aR (2 * (n:Int))+1)=((2 * n+1:Nat):Int):=by rw [w2n c,aw ad]
  obtain ⟨m,h1⟩:=(ajf c h a e (Lb x e) (t:=LN (fun j=>j) (2 * n)) (t2:=LN (D0 n l).je x) (oe (D0 n l).a x (2 * n+1)) (cQ (bv l) x) (rn:=bB 0) n 0 (List.replicate (2 * n+1) aa.d) ad iB fun j hj=>absurd hj (dX _));obtain ⟨o,h2⟩:=ajg c h a Lb d (x+1) ad;refine aL.succ (fun N g=>mV.eq_2 ..) (aL.aW (dec_lt e) (aL.if (jy e) (aL.if (by rw [iY];omega) ?_)));rw [f,ag];refine aL.if ad ⟨m+o,fun N g s u=>?_⟩;have p:=Hv (fun i=>(((D0 n l).je i:Nat):Int)) x;have k:=Hv (fun i=>LQ ((D0 n l).a i) (2 * n+1)) x;have q:=Hv (fun i=>bB (bv l i)) x;have r:=h1 N N ad ad (mV N (n:Int) l (bB 0) (LN (fun j=>j) (2 * n)) g);refine r.trans ?_;have b:=h2 N g ad ad;unfold LN LA LQ at b ⊢;unfold LQ at k;rw [<- p,<- k,<- q] at b;exact b
theorem ajh (b:n<=12) (e:Lc l) (a:l.length<=40) (Lb:∀ i,i < l.length->(l.getD i a8.d).db.length<=n):∀ d x,x+d=2 * n ->
  aL (fun N g=>oP N (n:Int) l (bB 0) g (LN (fun j=>j) x) (x:Int)) (TB n l)
 | 0,x,hx=>by
  have hx:x=2 * n:=ad;subst hx;refine aL.succ (fun N g=>oP.eq_2 ..) (aL.a5 (by rw [w2n b];exact decide_eq_false ad) (aL.if (by rw [iY];omega) (aL.one ?_)));exact (ajg b e a Lb l.length 0 ad).diag
 | d+1,x,hx=>by
  refine aL.succ (fun N g=>oP.eq_2 ..) (aL.aW (by rw [w2n b];exact decide_eq_true ad) (aL.if (by rw [iY];omega) ?_));have f:=Hv (fun i=>((i:Nat):Int)) x;have c:=ajh b e a Lb d (x+1) ad;rw [aw ad];unfold LN at c ⊢;rw [<- f] at c;exact c
theorem aji (b:n<=12) (c:Lc l) (a:l.length<=40) (Lb:∀ i,i < l.length->(l.getD i a8.d).db.length<=n):Gv (fun N=>CO N (n:Int) l) (TB n l) :=
 BE.bind (ajh b c a Lb (2 * n) 0 ad).diag
theorem ajj (a:Lc l):(D0 n l).N7 l.length (2 * n+1) 2:=by
 have b:∀ i j,RB (cf l i j) 2:=fun i j=>(a.co i j).rb;refine ⟨fun i j _ _=>?_,fun i _=>(a.bo i).rb,fun j _=>?_,RB.zero.le ak⟩
 ·simp only [bH.fst];split
  ·exact (b i j).neg
  ·split
   ·exact b i _
   ·exact bH.RB1.le ak
 ·simp only [bH.fst];split<;>exact RB.zero.le ak
end
section
variable {n m k h s:Nat} {D:bH}
theorem adq (hm:m<=1000) (u:n<=400) (hk:k<=1000) (p:s<=MS) (hw:D.WF m k) (q:∀ j,j < k->RB (D.g j) s):∀ (d x:Nat) (L:List aa),x+d=m->L.length=m->(∀ i,i < x->L.getD i aa.d=bB (-(D.gc k (2 * n+i)))) ->
  aL (fun N g=>cy N (n:Int) (m:Int) (bB D.v).fN.fG (bB D.v).fN.fL (bB D.v).fD.fG (bB D.v).fD.fL (h:Int) (LN D.je m) (LN D.fr k) (LA D.a m k) (LQ D.b m) (LQ D.g k) g L (x:Int)) (LQ (fun i=>-(D.gc k (2 * n+i))) m)
 | 0,x,L,hx,a,h0=>aL.succ (fun N g=>cy.eq_2 ..) (aL.a5 (Zw (m:=x) (n:=m) ad (by rw [iB];rfl)) (aL.one ((Gv.pure _).eq (Su aa.d a fun i hi=>h0 i ad))))
 | d+1,x,L,hx,a,h0=>by
  have c:x < m:=ad;have w:aR (aR (2 * (n:Int))+(x:Int))=((2 * n+x:Nat):Int):=by
   rw [show aR (2 * (n:Int))=((2 * n:Nat):Int) by rw [bw ad ad];omega,bw ad ad];omega
  obtain ⟨r,z,b⟩:=Nu (f:=D.fr) (k:=k) (v:=2 * n+x) hk;have t:∀ (y:aa),y=bB (-(D.gc k (2 * n+x)))->∀ l:List aa,l=L.set x y->aL (fun N g=>cy N (n:Int) (m:Int) (bB D.v).fN.fG (bB D.v).fN.fL (bB D.v).fD.fG (bB D.v).fD.fL (h:Int) (LN D.je m) (LN D.fr k) (LA D.a m k) (LQ D.b m) (LQ D.g k) g l ((x+1:Nat):Int)) (LQ (fun i=>-(D.gc k (2 * n+i))) m):=fun y A l B=>by
   subst B;refine adq hm u hk p hw q d (x+1) _ ad (by rw [List.length_set];exact a) fun i hi=>?_
   by_cases e:x=i
   ·subst e;rw [gl _ _ _ _ ad];exact A
   ·rw [fx _ _ _ e];exact h0 i ad
  refine aL.succ (fun N g=>cy.eq_2 ..) (aL.aW (YK (n:=m) c (by rw [iB];rfl)) (aL.bind BE (aL.if (inl c a) ?_)));rw [w];refine aL.bind z ?_;simp only [iL,ag,aw (show x < 9223372036854775807 by omega)];rcases b with ⟨rfl,b⟩ | ⟨j,rfl,hj,b⟩
  ·exact aL.a5 ak (t _ (by rw [bH.Pp b];rfl) _ rfl)
  ·have o:=q j hj;refine aL.aW ao (aL.if (inl hj (cQ _ _)) ?_);simp only [lv _ _ hj,ag,List.set_set];refine aL.bind (r:=bB (-(D.g j))) (by have:=sJ (o.q p).ir ak (Pn ak);rwa [pW] at this) (aL.if (inl c (by rw [List.length_set];exact a)) ?_);exact t _ (by rw [<- b,bH.adh hw hj]) _ rfl
theorem alG (hm:m<=1000) (a:n<=400) (hk:k<=1000) (b:s<=MS) (hw:D.WF m k) (c:∀ j,j < k->RB (D.g j) s) :
  Gv (fun N=>jZ N (n:Int) (m:Int) (bB D.v).fN.fG (bB D.v).fN.fL (bB D.v).fD.fG (bB D.v).fD.fL (h:Int) (LN D.je m) (LN D.fr k) (LA D.a m k) (LQ D.b m) (LQ D.g k)) (LQ (fun i=>-(D.gc k (2 * n+i))) m) :=
 Gv.if ad (adq hm a hk b hw c m 0 (List.replicate m aa.d) ad iB fun i hi=>absurd hi (dX _)).diag
def uP (D:bH) (m u:Nat):Rat:=match D.rix m u with
 | some i=>D.b i
 | none=>0
theorem Pu (D:bH) (m k u:Nat):uP D m u=D.ext m k bH.yP u:=by
 unfold uP bH.ext;cases D.rix m u with
 | none=>rfl
 | some i=>simp only [bH.zD]
theorem amO (hm:m<=1000) (hw:∀ i i',i < m->i' < m->D.je i=D.je i'->i=i') (u:Nat) :
  Gv (fun N=>rX N (u:Int) (n:Int) (m:Int) (bB D.v).fN.fG (bB D.v).fN.fL (bB D.v).fD.fG (bB D.v).fD.fL (h:Int) (LN D.je m) (LN D.fr k) (LA D.a m k) (LQ D.b m) (LQ D.g k)) (bB (uP D m u)):=by
 obtain ⟨r,b,a⟩:=Nu (f:=D.je) (k:=m) (v:=u) hm;refine Gv.bind b ?_;rcases a with ⟨rfl,a⟩ | ⟨i,rfl,hi,a⟩
 ·refine Gv.a5 ak (BE.bind ((Gv.pure _).eq ?_));unfold uP;rw [bH.wu a]
 ·refine Gv.aW ao (Gv.if (inl hi (cQ _ _)) ((Gv.pure _).eq ?_));simp only [ag,lv _ _ hi];unfold uP;rw [<- a,bH.zC hw hi]
theorem YW (hm:m<=1000) (f:n<=400) (j:2 * s+1<=MS) (hw:∀ i i',i < m->i' < m->D.je i=D.je i'->i=i') (c:∀ u,RB (uP D m u) s):∀ (d x:Nat) (L:List aa),x+d=n->L.length=n->(∀ i,i < x->L.getD i aa.d=bB (uP D m i - uP D m (n+i))) ->
  aL (fun N g=>gr N (n:Int) (m:Int) (bB D.v).fN.fG (bB D.v).fN.fL (bB D.v).fD.fG (bB D.v).fD.fL (h:Int) (LN D.je m) (LN D.fr k) (LA D.a m k) (LQ D.b m) (LQ D.g k) g L (x:Int)) (LQ (fun i=>uP D m i - uP D m (n+i)) n)
 | 0,x,L,hx,b,h0=>aL.succ (fun N g=>gr.eq_2 ..) (aL.a5 (Zw (m:=x) (n:=n) ad (by rw [iB];rfl)) (aL.one ((Gv.pure _).eq (Su aa.d b fun i hi=>h0 i ad))))
 | d+1,x,L,hx,b,h0=>by
  have a:x < n:=ad;have l:aR ((n:Int)+(x:Int))=((n+x:Nat):Int):=by rw [bw ad ad];omega
  have o:=(c x).q (show s<=MS by omega);have p:=(c (n+x)).q (show s<=MS by omega);refine aL.succ (fun N g=>gr.eq_2 ..) (aL.aW (YK (n:=n) a (by rw [iB];rfl)) (aL.bind (amO hm hw x) ?_));rw [l];refine aL.bind (amO hm hw (n+x)) (aL.bind (o.sub p (Pn ak)) (aL.if (inl a b) ?_));rw [aw (show x < 9223372036854775807 by omega),ag];refine YW hm f j hw c d (x+1) _ ad (by rw [List.length_set];exact b) fun i hi=>?_
  by_cases e:x=i
  ·subst e;exact gl _ _ _ _ ad
  ·rw [fx _ _ _ e];exact h0 i ad
theorem ajk (hm:m<=1000) (a:n<=400) (b:2 * s+1<=MS) (hw:∀ i i',i < m->i' < m->D.je i=D.je i'->i=i') (c:∀ u,RB (uP D m u) s) :
  Gv (fun N=>rC N (n:Int) (m:Int) (bB D.v).fN.fG (bB D.v).fN.fL (bB D.v).fD.fG (bB D.v).fD.fL (h:Int) (LN D.je m) (LN D.fr k) (LA D.a m k) (LQ D.b m) (LQ D.g k)) (LQ (fun i=>uP D m i - uP D m (n+i)) n) :=
 Gv.if ad (YW hm a b hw c n 0 (List.replicate n aa.d) ad iB fun i hi=>absurd hi (dX _)).diag
end
end Go.Den
namespace Go.Den
open Go.Ab
theorem Ld {b c:Type} {rem:List b} {z:Option c} {f:b->List b->Option c} {o:Option c} (d:rem≠[]) (h:∀ e x g,rem=e ++ x :: g->f x (e ++ g)=o):ye rem z f=o:=by
 cases o with
 | some r=>exact aei d h
 | none =>
  unfold ye;rw [if_neg d];split
  ·rename_i hx;obtain ⟨r,j⟩:=hx;cases rem with
   | nil=>exact absurd rfl d
   | cons a l =>
    have i:=j [] a l rfl;rw [h [] a l rfl] at i;cases i
  ·rfl
def bH.mh (D:bH) (m u c:Nat):Rat:=match D.rix m u with
 | some i=>D.a i c
 | none=>if D.fr c=u then 1 else 0
noncomputable def alH (N:Nat) (o:List aa) (c d e:Int) (b n:List Int) (f:List (List aa)) (a:List aa) (x:Int) (p:(List aa)->Bool->(List Int)->Bool->(List Int)->Int->Option (ml×(List aa))) (fuel:Nat)
  (g:List aa) (i:Bool) (j:List Int) (k:Bool) (l:List Int) (Lq:Int×aa) (left:List (Int×aa)):Option (ml×(List aa)) :=
  ((bp N n Lq.1).bind fun h =>
  (cond (decide (h>=0))
  ((if 0<=h/\h < (g.length:Int) then
  ((fq N (⟨((g.getD h.toNat aa.d).fN),((g.getD h.toNat aa.d).fD)⟩:aa) Lq.2).bind fun q =>
  cH N o c d e b n f a x p fuel (g.set h.toNat q) i j k l left)
  else none))
  (((bp N b Lq.1).bind fun m =>
  (if 0<=m/\m < (a.length:Int) then
  ((fO N Lq.2 (⟨((a.getD m.toNat aa.d).fN),((a.getD m.toNat aa.d).fD)⟩:aa)).bind fun r =>
  ((fq N (⟨(⟨i,j⟩:eN),(⟨k,l⟩:eN)⟩:aa) r).bind fun s =>
  gM N o c d e b n f a x g Lq left m s (cH N o c d e b n f a x p fuel) p N g 0))
  else none)))))
theorem Ev.aqZ {p:Nat->Nat->Prop} (h:Ev p):Ev fun N _=>p N N:=h.diag
section
variable {n m k h s t:Nat} {D:bH} {ob:List aa}
theorem ajr (hk:k<=1000) (hm:m<=1000) {i:Nat} (hi:i < m) {f:Rat} (v:RB f 12) (ha:∀ c,c < k->RB (D.a i c) s) {F:Nat->Rat} (z:∀ c,c < k->RB (F c) t) (B:t+s+13<=MS) {A:List aa} (h0:A.length=k) {u:Int} {x:Int} :
  ∀ (d b:Nat) (G:Nat->Rat),b+d=k->(∀ c,c < k->G c=if c < b then F c+f * D.a i c else F c) ->
  Ev fun N g=>∀ left j l o,gM N ob (n:Int) (m:Int) (h:Int) (LN D.je m) (LN D.fr k) (LA D.a m k) (LQ D.b m) x A (u,bB f) left (i:Int) j l o g (LQ G k) (b:Int)=l (LQ (fun c=>F c+f * D.a i c) k) j.fN.fG j.fN.fL j.fD.fG j.fD.fL left
 | 0,b,G,hx,p=>Ev.succ (Ev.true fun N g left j l o=>by
  rw [gM,Zw (m:=b) (n:=k) ad h0,cond_false,qQ (f:=G) (g:=fun c=>F c+f * D.a i c) fun c hc=>by rw [p c hc,if_pos ad]])
 | d+1,b,G,hx,p=>by
  have e:b < k:=ad;have hmul:=(v.q (show 12<=MS by decide)).mul ((ha b e).q ad) (Pn ak);have C:=((z b e).q ad).add ((v.mul (ha b e)).q ad) (Pn ak);have E:G b=F b:=by rw [p b e,if_neg (yS b)]
  refine Ev.succ ((hmul.ev.and (C.ev.and (ajr (u:=u) (x:=x) hk hm hi v ha z B h0 d (b+1) (fun a=>if a=b then F b+f * D.a i b else G a) ad fun c hc=>?_))).mono fun N g ⟨H,r,I⟩ left j l o=>?_)
  ·by_cases q:c=b
   ·rw [if_pos q,if_pos ad,q]
   ·rw [if_neg q,p c hc]
    by_cases r:c < b
    ·simp only [r,show c < b+1 by omega,if_true]
    ·rw [if_neg r,if_neg ad]
  ·rw [gM,YK (m:=b) (n:=k) e h0,cond_true,ag,ag,Cw _ _ hi,if_pos (by rw [oe];exact hi),if_pos (inl e (cQ _ _)),if_pos (inl hi (oe _ _ _)),if_pos (inl e (cQ _ _)),lv _ _ e,lv _ _ e,E];have w:fO N (u,bB f).2 ⟨(bB (D.a i b)).fN,(bB (D.a i b)).fD⟩=some (bB (f * D.a i b)):=H;have y:fq N ⟨(bB (F b)).fN,(bB (F b)).fD⟩ (bB (f * D.a i b))=some (bB (F b+f * D.a i b)):=r;rw [w,dc,y,dc,EX,aw ad];exact I left j l o
variable (hk:k<=1000) (hm:m<=1000) (hw:D.WF m k) (ha:∀ i c,i < m->c < k->RB (D.a i c) s) (hb:∀ i,i < m->RB (D.b i) s)
include hk hm hw ha hb
theorem SC {u:Nat} (hu:u < m+k) {f:Rat} (d:RB f 12) {F:Nat->Rat} (G:∀ c,c < k->RB (F c) t) {v:Rat} (I:RB v t) (J:t+s+13<=MS) {x:Int} :
  Ev fun N g=>∀ l left,alH N ob (n:Int) (m:Int) (h:Int) (LN D.je m) (LN D.fr k) (LA D.a m k) (LQ D.b m) x l g (LQ F k) (bB v).fN.fG (bB v).fN.fL (bB v).fD.fG (bB v).fD.fL ((u:Int),bB f) left =
   cH N ob (n:Int) (m:Int) (h:Int) (LN D.je m) (LN D.fr k) (LA D.a m k) (LQ D.b m) x l g (LQ (fun c=>F c+f * D.mh m u c) k) (bB (v+f * uP D m u)).fN.fG (bB (v+f * uP D m u)).fN.fL (bB (v+f * uP D m u)).fD.fG (bB (v+f * uP D m u)).fD.fL left:=by
 obtain ⟨r,H,o⟩:=Nu (f:=D.fr) (k:=k) (v:=u) hk;rcases o with ⟨rfl,o⟩ | ⟨j,rfl,hj,rfl⟩
 ·obtain ⟨i,hi,rfl⟩:=(hw.al u hu).resolve_right fun ⟨j,hj,e⟩=>o j hj e;have b:=bH.zC hw.bi hi;have p:uP D m (D.je i)=D.b i:=by unfold uP;rw [b]
  have w:∀ c,D.mh m (D.je i) c=D.a i c:=fun c=>by unfold bH.mh;rw [b]
  obtain ⟨r,K,y⟩:=Nu (f:=D.je) (k:=m) (v:=D.je i) hm;rcases y with ⟨rfl,y⟩ | ⟨i',rfl,L,e⟩
  ·exact absurd rfl (y i hi)
  ·have:i'=i:=hw.bi _ _ L hi e;subst this;have hmul:=(d.q (show 12<=MS by decide)).mul ((hb i' hi).q ad) (Pn ak);have z:=(I.q ad).add ((d.mul (hb i' hi)).q ad) (Pn ak);refine (H.ev.and (K.ev.and (hmul.ev.and (z.ev.and (ajr hk hm hi d (fun c hc=>ha i' c hi hc) G J (cQ F k) (n:=n) (h:=h) (ob:=ob) (u:=((D.je i':Nat):Int)) (x:=x) k 0 F ad fun c _=>(if_neg (dX c)).symm).aqZ)))).mono fun N g ⟨A,M,O,P,Q⟩ l left=>?_;unfold alH;rw [A,dc,show decide ((-1:Int)>=0)=false by decide,cond_false,M,dc,if_pos (inl hi (cQ _ _)),ag,lv _ _ hi];have B:fO N (((D.je i':Nat):Int),bB f).2 ⟨(bB (D.b i')).fN,(bB (D.b i')).fD⟩=some (bB (f * D.b i')):=O;have C:fq N ⟨⟨(bB v).fN.fG,(bB v).fN.fL⟩,⟨(bB v).fD.fG,(bB v).fD.fL⟩⟩ (bB (f * D.b i'))=some (bB (v+f * D.b i')):=P;rw [B,dc,C,dc];refine (Q _ _ _ _).trans ?_;rw [p,qQ (f:=fun c=>F c+f * D.mh m (D.je i') c) (g:=fun c=>F c+f * D.a i' c) fun c _=>by rw [w]]
 ·have b:D.rix m (D.fr j)=none:=bH.wu fun i hi=>hw.bf i j hi hj;have p:v+f * uP D m (D.fr j)=v:=by unfold uP;rw [b];show v+f * 0=v;grind
  have w:∀ c,c < k->D.mh m (D.fr j) c=if c=j then 1 else 0:=fun c hc=>by
   unfold bH.mh;rw [b]
   by_cases e:c=j
   ·simp only [e,if_true]
   ·simp only [e,if_false];exact if_neg fun q=>e (hw.fi _ _ hc hj q)
  have z:=((G j hj).q ad).add (d.q (show 12<=MS by decide)) (Pn ak);refine (H.ev.and z.ev).mono fun N g ⟨A,R⟩ l left=>?_;unfold alH;rw [A,dc,decide_eq_true (show ((j:Nat):Int)>=0 by omega),cond_true,if_pos (inl hj (cQ _ _)),ag,lv _ _ hj];have E:fq N ⟨(bB (F j)).fN,(bB (F j)).fD⟩ (((D.fr j:Nat):Int),bB f).2=some (bB (F j+f)):=R;rw [E,dc,EX,p,qQ (f:=fun c=>F c+f * D.mh m (D.fr j) c) (g:=fun a=>if a=j then F j+f else F a) fun c hc=>by
   rw [w c hc]
   by_cases e:c=j
   ·rw [if_pos e,if_pos e,e];grind
   ·rw [if_neg e,if_neg e];grind]
end
end Go.Den
namespace Go.Den
open Go.Ab
section
variable {n m k h s t:Nat} {D:bH} {ob:List aa}
theorem Nx (N:Nat) (d a b:Int) (e f:List Int) (h:List (List aa)) (i:List aa) (x:Int) (c:(List aa)->Bool->(List Int)->Bool->(List Int)->Int->Option (ml×(List aa))) (g:Nat) (F:List aa) (v1:Bool) (v2:List Int) (v3:Bool) (v4:List Int) (rem:List (Int×aa)) :
  cH N ob d a b e f h i x c (g+1) F v1 v2 v3 v4 rem=ye rem (c F v1 v2 v3 v4 (aR (x+1))) (alH N ob d a b e f h i x c g F v1 v2 v3 v4):=by
 rw [cH];rfl
variable (hk:k<=1000) (hm:m<=1000) (hw:D.WF m k) (ha:∀ i c,i < m->c < k->RB (D.a i c) s) (hb:∀ i,i < m->RB (D.b i) s)
include hk hm hw ha hb
theorem adr {u:Nat} (hu:u < m+k) {f:Rat} (i:RB f 12) {F:Nat->Rat} (j:∀ c,c < k->RB (F c) t) {v:Rat} (l:RB v t) (o:t+s+13<=MS) {x:Int} :
  Ev fun N g=>∀ b,cH N ob (n:Int) (m:Int) (h:Int) (LN D.je m) (LN D.fr k) (LA D.a m k) (LQ D.b m) x b g (LQ F k) (bB v).fN.fG (bB v).fN.fL (bB v).fD.fG (bB v).fD.fL [((u:Int),bB f)] =
   b (LQ (fun c=>F c+f * D.mh m u c) k) (bB (v+f * uP D m u)).fN.fG (bB (v+f * uP D m u)).fN.fL (bB (v+f * uP D m u)).fD.fG (bB (v+f * uP D m u)).fD.fL (aR (x+1)):=by
 refine Ev.succ ((SC hk hm hw ha hb hu i j l o (n:=n) (h:=h) (ob:=ob) (x:=x)).and (Ev.of (p:=fun N g=>∀ b F v1 v2 v3 v4,cH N ob (n:Int) (m:Int) (h:Int) (LN D.je m) (LN D.fr k) (LA D.a m k) (LQ D.b m) x b g F v1 v2 v3 v4 []=b F v1 v2 v3 v4 (aR (x+1))) 1 fun N g _ y b F v1 v2 v3 v4=>?_) |>.mono fun N g ⟨q,r⟩ b=>?_)
 ·obtain ⟨g,rfl⟩:∃ w,g=w+1:=⟨g - 1,ad⟩;rw [Nx,X0]
 ·rw [Nx];refine Ld ao fun d e z he=>?_;cases d with
  | nil =>
   rw [List.nil_append] at he;obtain ⟨rfl,rfl⟩:=List.cons.inj he;exact (q b []).trans (r _ _ _ _ _ _)
  | cons a d =>
   have:=congrArg List.length he;simp at this
theorem ads {u1 u2:Nat} (p:u1 < m+k) (q:u2 < m+k) {d i:Rat} (j:RB d 12) (l:RB i 12) {F:Nat->Rat} (r:∀ c,c < k->RB (F c) t) {v:Rat} (w:RB v t) (hd:∀ u,u < m+k->(∀ c,c < k->RB (D.mh m u c) s)/\RB (uP D m u) s) (I:t+2 * (s+13)<=MS) {x:Int} :
  Ev fun N g=>∀ o,cH N ob (n:Int) (m:Int) (h:Int) (LN D.je m) (LN D.fr k) (LA D.a m k) (LQ D.b m) x o g (LQ F k) (bB v).fN.fG (bB v).fN.fL (bB v).fD.fG (bB v).fD.fL [((u1:Int),bB d),((u2:Int),bB i)] =
   o (LQ (fun c=>F c+d * D.mh m u1 c+i * D.mh m u2 c) k) (bB (v+d * uP D m u1+i * uP D m u2)).fN.fG (bB (v+d * uP D m u1+i * uP D m u2)).fN.fL (bB (v+d * uP D m u1+i * uP D m u2)).fD.fG (bB (v+d * uP D m u1+i * uP D m u2)).fD.fL (aR (x+1)):=by
 have z:∀ c,c < k->RB (F c+d * D.mh m u1 c) (t+s+13):=fun c hc=>((r c hc).add (j.mul ((hd u1 p).1 c hc))).le ad;have A:∀ c,c < k->RB (F c+i * D.mh m u2 c) (t+s+13):=fun c hc=>((r c hc).add (l.mul ((hd u2 q).1 c hc))).le ad;have w1:RB (v+d * uP D m u1) (t+s+13):=(w.add (j.mul (hd u1 p).2)).le ad;have w2:RB (v+i * uP D m u2) (t+s+13):=(w.add (l.mul (hd u2 q).2)).le ad;refine Ev.succ (((SC hk hm hw ha hb p j r w ad (n:=n) (h:=h) (ob:=ob) (x:=x)).and ((SC hk hm hw ha hb q l r w ad (n:=n) (h:=h) (ob:=ob) (x:=x)).and
  ((adr hk hm hw ha hb q l z w1 ad (n:=n) (h:=h) (ob:=ob) (x:=x)).and (adr hk hm hw ha hb p j A w2 ad (n:=n) (h:=h) (ob:=ob) (x:=x))))).mono fun N g ⟨B,C,E,G⟩ o=>?_)
 rw [Nx];refine Ld ao fun y e J he=>?_;cases y with
 | nil =>
  rw [List.nil_append] at he;obtain ⟨rfl,rfl⟩:=List.cons.inj he;exact (B o _).trans (E o)
 | cons a y =>
  rw [List.cons_append] at he;obtain ⟨H,he⟩:=List.cons.inj he;cases y with
  | nil =>
   rw [List.nil_append] at he;obtain ⟨rfl,rfl⟩:=List.cons.inj he;rw [List.append_nil,<- H];refine ((C o _).trans (G o)).trans ?_;rw [qQ (f:=fun c=>F c+i * D.mh m u2 c+d * D.mh m u1 c) (g:=fun c=>F c+d * D.mh m u1 c+i * D.mh m u2 c) fun c _=>by grind,
    show v+i * uP D m u2+d * uP D m u1=v+d * uP D m u1+i * uP D m u2 by grind]
  | cons b y =>
   have:=congrArg List.length he;simp at this
def gx (D:bH) (m n:Nat) (co:Nat->Rat):Nat->Nat->Rat
 | 0,c=>D.g c
 | x+1,c=>gx D m n co x c+co x * D.mh m x c+-(co x) * D.mh m (n+x) c
def vx (D:bH) (m n:Nat) (co:Nat->Rat):Nat->Rat
 | 0=>D.v
 | x+1=>vx D m n co x+co x * uP D m x+-(co x) * uP D m (n+x)
omit hk hm hw ha hb in
theorem amP {co:Nat->Rat} (Lb:∀ j,RB (co j) 12) (hd:∀ u,u < m+k->(∀ c,c < k->RB (D.mh m u c) s)/\RB (uP D m u) s) (h0:∀ c,c < k->RB (D.g c) t) {c:Nat} (hc:c < k):∀ x,n+x<=m+k->x<=n->RB (gx D m n co x c) (t+x * (2 * (s+13)))
 | 0,_,_=>(h0 c hc).le ad
 | x+1,h1,h2=>by
  rw [gx];refine (((amP Lb hd h0 hc x ad ad).add ((Lb x).mul ((hd x ad).1 c hc))).add ((Lb x).neg.mul ((hd (n+x) ad).1 c hc))).le ?_;rw [dq];omega
omit hk hm hw ha hb in
theorem amQ {co:Nat->Rat} (Lb:∀ j,RB (co j) 12) (hd:∀ u,u < m+k->(∀ c,c < k->RB (D.mh m u c) s)/\RB (uP D m u) s) (h0:RB D.v t):∀ x,n+x<=m+k->x<=n->RB (vx D m n co x) (t+x * (2 * (s+13)))
 | 0,_,_=>h0.le ad
 | x+1,h1,h2=>by
  rw [vx];refine (((amQ Lb hd h0 x ad ad).add ((Lb x).mul (hd x ad).2)).add ((Lb x).neg.mul (hd (n+x) ad).2)).le ?_;rw [dq];omega
theorem ajt (A:n<=400) (o:2 * n<=m+k) (i:ob.length=n) {co:Nat->Rat} (l:∀ j,RQ (ob.getD j aa.d) (co j) 12) (Lb:∀ j,RB (co j) 12) (hd:∀ u,u < m+k->(∀ c,c < k->RB (D.mh m u c) s)/\RB (uP D m u) s)
  (q:∀ c,c < k->RB (D.g c) t) (r:RB D.v t) (B:t+n * (2 * (s+13))<=MS):∀ d x,x+d=n ->
  aL (fun N g=>gN N ob (n:Int) (m:Int) (h:Int) (LN D.je m) (LN D.fr k) (LA D.a m k) (LQ D.b m) g (LQ (gx D m n co x) k) (bB (vx D m n co x)).fN.fG (bB (vx D m n co x)).fN.fL (bB (vx D m n co x)).fD.fG (bB (vx D m n co x)).fD.fL (x:Int))
   (⟨n,m,LN D.je m,LN D.fr k,LA D.a m k,LQ D.b m,LQ (gx D m n co n) k,bB (vx D m n co n),h⟩,LQ (gx D m n co n) k)
 | 0,x,hx=>by
  have hx:x=n:=ad;subst hx;refine aL.succ (fun N g=>gN.eq_2 ..) (aL.a5 (Zw (m:=x) (n:=x) ad i) (aL.one (Gv.pure _)))
 | d+1,x,hx=>by
  have a:x < n:=ad;have e:t+x * (2 * (s+13))+2 * (s+13)<=MS:=by
   have:(x+1) * (2 * (s+13))<=n * (2 * (s+13)):=fy _ a;rw [dq] at this;omega
  have v:=(l x).low ak;have w:Gv (fun N=>gK N (ob.getD x aa.d)) (bB (-(co x))):=by have:=sJ (l x).ir ak (Pn ak);rwa [(l x).v] at this
  have C:aR ((n:Int)+(x:Int))=((n+x:Nat):Int):=by rw [bw ad ad];omega
  have y:((x:Nat):Int)≠((n+x:Nat):Int):=ad;have E:(((x:Nat):Int) == ((n+x:Nat):Int))=false:=beq_eq_false_iff_ne.2 y;have F:(((n+x:Nat):Int) == ((x:Nat):Int))=false:=beq_eq_false_iff_ne.2 y.symm;have G:D7 (fun (b zb:Int)=>b == zb) (D7 (fun b zb=>b == zb) ([]:List (Int×aa)) (x:Int) (bB (co x))) ((n+x:Nat):Int) (bB (-(co x)))=[((x:Int),bB (co x)),(((n+x:Nat):Int),bB (-(co x)))]:=by
   simp only [D7,E,cond_false]
  have H:D7 (fun (b zb:Int)=>b == zb) (D7 (fun b zb=>b == zb) ([]:List (Int×aa)) ((n+x:Nat):Int) (bB (-(co x)))) (x:Int) (bB (co x))=[(((n+x:Nat):Int),bB (-(co x))),((x:Int),bB (co x))]:=by
   simp only [D7,F,cond_false]
  have z:∀ c,c < k->RB (gx D m n co x c) (t+x * (2 * (s+13))):=fun c hc=>amP Lb hd q hc x ad ad;have rv:=amQ Lb hd r x (n:=n) ad ad;have p:=(ads hk hm hw ha hb (u1:=x) (u2:=n+x) ad ad (Lb x) (Lb x).neg z rv hd e (n:=n) (h:=h) (ob:=ob) (x:=(x:Int))).diag;have t2:=(ads hk hm hw ha hb (u1:=n+x) (u2:=x) ad ad (Lb x).neg (Lb x) z rv hd e (n:=n) (h:=h) (ob:=ob) (x:=(x:Int))).diag;obtain ⟨I,p⟩:=p;obtain ⟨J,t2⟩:=t2;obtain ⟨K,L⟩:=ajt A o i l Lb hd q r B d (x+1) ad;refine aL.succ (fun N g=>gN.eq_2 ..) (aL.aW (YK (n:=n) a i) (aL.if (inl a i) ?_));simp only [ag];refine aL.bind v (aL.bind w (aL.bind v (aL.bind w ⟨I+J+K,fun N g O M=>?_⟩)));dsimp only;rw [C,G,H,p N g ad ad,t2 N g ad ad];rw [qQ (f:=fun c=>gx D m n co x c+-(co x) * D.mh m (n+x) c+co x * D.mh m x c) (g:=fun c=>gx D m n co x c+co x * D.mh m x c+-(co x) * D.mh m (n+x) c) fun c _=>by grind,
   show vx D m n co x+-(co x) * uP D m (n+x)+co x * uP D m x=vx D m n co x+co x * uP D m x+-(co x) * uP D m (n+x) by grind,aec,aw ad]
  exact L N g ad ad
theorem aoO (b:n<=400) (a:2 * n<=m+k) (d:ob.length=n) {co:Nat->Rat} (e:∀ j,RQ (ob.getD j aa.d) (co j) 12) (Lb:∀ j,RB (co j) 12) (hd:∀ u,u < m+k->(∀ c,c < k->RB (D.mh m u c) s)/\RB (uP D m u) s)
  (f:∀ c,c < k->RB (D.g c) t) (g:RB D.v t) (i:t+n * (2 * (s+13))<=MS) :
  Gv (fun N=>um N ob (n:Int) (m:Int) (bB D.v).fN.fG (bB D.v).fN.fL (bB D.v).fD.fG (bB D.v).fD.fL (h:Int) (LN D.je m) (LN D.fr k) (LA D.a m k) (LQ D.b m) (LQ D.g k))
   (⟨n,m,LN D.je m,LN D.fr k,LA D.a m k,LQ D.b m,LQ (gx D m n co n) k,bB (vx D m n co n),h⟩,LQ (gx D m n co n) k) :=
 (ajt hk hm hw ha hb b a d e Lb hd f g i n 0 ad).diag
end
end Go.Den
namespace Go.Den
open Go.Ab
theorem adt (f:Nat->Rat):∀ (k c:Nat),c<=k->b7 (k+1) f=f c+b7 k fun j=>f (sk c j)
 | 0,c,h=>by
  have:c=0:=ad;subst this;show 0+f 0=f 0+0;grind
 | k+1,c,h=>by
  rw [b7]
  by_cases e:c=k+1
  ·subst e;rw [aK (n:=k+1) (f:=fun j=>f (sk (k+1) j)) (g:=f) fun j hj=>by unfold sk;rw [if_pos hj]];grind
  ·rw [adt f k c ad,show b7 (k+1) (fun j=>f (sk c j))=b7 k (fun j=>f (sk c j))+f (sk c k) from rfl];have:sk c k=k+1:=by unfold sk;rw [if_neg ad]
   rw [this];grind
namespace bH
structure aeJ (D:bH) (m k s t:Nat):Prop where
 a:∀ i j,i < m->j < k->RB (D.a i j) s
 b:∀ i,i < m->RB (D.b i) s
 g:∀ j,j < k->RB (D.g j) t
 v:RB D.v t
theorem aeJ.mc {D:bH} {m k s t i j:Nat} (h:D.aeJ m k s t) (h1:1<=s) (hi:i < m) (hj:j < k) (h0:D.a i j≠0):(D.mc i j).aeJ m k (5 * s) (2 * t+2 * s+1):=by
 have b:RB (D.pb i j) (2 * s):=((h.b i hi).div (h.a i j hi hj) h0).neg.le ad;have hw:∀ c,c < k->RB (D.sK i j c) (2 * s):=fun c hc=>by
  unfold bH.sK;split
  ·exact (RB1.div (h.a i j hi hj) h0).le ad
  ·exact ((h.a i c hi hc).div (h.a i j hi hj) h0).neg.le ad
 refine ⟨fun r c a hc=>?_,fun r a=>?_,fun c hc=>?_,((h.v).add ((h.g j hj).mul b)).le ad⟩
 ·have hw:=hw c hc;simp only [bH.mc];split
  ·exact hw.le ad
  ·split
   ·exact ((h.a r j a hj).mul hw).le ad
   ·exact ((h.a r c a hc).add ((h.a r j a hj).mul hw)).le ad
 ·simp only [bH.mc];split
  ·exact b.le ad
  ·exact ((h.b r a).add ((h.a r j a hj).mul b)).le ad
 ·have hw:=hw c hc;simp only [bH.mc];split
  ·exact ((h.g j hj).mul hw).le ad
  ·exact ((h.g c hc).add ((h.g j hj).mul hw)).le ad
theorem aeJ.le {D:bH} {m k s t a t':Nat} (h:D.aeJ m k s t) (h1:s<=a) (h2:t<=t'):D.aeJ m k a t' :=
 ⟨fun i j hi hj=>(h.a i j hi hj).le h1,fun i hi=>(h.b i hi).le h1,fun j hj=>(h.g j hj).le h2,h.v.le h2⟩
def tb:Nat->Nat->Nat->Nat
 | 0,_,t=>t
 | n+1,s,t=>tb n (5 * s) (2 * t+2 * s+1)
section
variable (n m:Nat) (C:Nat->Nat->Rat) (B co:Nat->Rat)
def Pv:bH where
 je:=fun i=>2 * n+i
 fr:=fun j=>j
 a:=fun i j=>if j < n then -(C i j) else C i (j - n)
 b:=B
 g:=fun j=>if j < n then co j else -(co (j - n))
 v:=0
theorem aju:(Pv n C B co).WF m (2 * n):=by
 refine ⟨fun i i' _ _ e=>?_,fun j j' _ _ e=>e,fun i j hi hj e=>?_,fun i hi=>?_,fun j hj=>?_,fun u hu=>?_⟩
 ·simp only [Pv] at e;omega
 ·simp only [Pv] at e;omega
 ·simp only [Pv];omega
 ·simp only [Pv];omega
 ·by_cases h:u < 2 * n
  ·exact .inr ⟨u,h,rfl⟩
  ·exact .inl ⟨u - 2 * n,ad,by simp only [Pv];omega⟩
theorem adu (x f:Nat->Rat) (s:Rat):b7 (2 * n) (fun j=>(if j < n then s * f j else -s * f (j - n)) * x j)=s * b7 n fun j=>f j * (x j - x (n+j)):=by
 rw [show 2 * n=n+n by omega,sL];rw [aK (n:=n) (f:=fun j=>(if j < n then s * f j else -s * f (j - n)) * x j) (g:=fun j=>s * (f j * x j)) fun j hj=>by rw [if_pos hj];grind,
  aK (n:=n) (f:=fun j=>(if n+j < n then s * f (n+j) else -s * f (n+j - n)) * x (n+j)) (g:=fun j=>s * (-1 * (f j * x (n+j)))) fun j hj=>by rw [if_neg ad,show n+j - n=j by omega];grind,
  jJ,jJ,jJ,show (fun j=>f j * (x j - x (n+j)))=fun j=>f j * x j - f j * x (n+j) by funext j;grind,Ht]
 grind
theorem adv (x:Nat->Rat) (i:Nat):(Pv n C B co).row (2 * n) x i=B i - jk n C (fun j=>x j - x (n+j)) i:=by
 unfold row jk;have:=adu n x (C i) (-1);rw [aK (n:=2 * n) (f:=fun j=>(Pv n C B co).a i j * x ((Pv n C B co).fr j)) (g:=fun j=>(if j < n then -1 * C i j else -(-1) * C i (j - n)) * x j) fun j _=>by
  simp only [Pv];split<;>grind]
 rw [this,show (Pv n C B co).b i=B i from rfl];grind
theorem ajv (x:Nat->Rat):(Pv n C B co).gv (2 * n) x=b7 n fun j=>co j * (x j - x (n+j)):=by
 unfold gv;have:=adu n x co 1;rw [aK (n:=2 * n) (f:=fun j=>(Pv n C B co).g j * x ((Pv n C B co).fr j)) (g:=fun j=>(if j < n then 1 * co j else -1 * co (j - n)) * x j) fun j _=>by
  simp only [Pv];split<;>grind]
 rw [this,show (Pv n C B co).v=0 from rfl];grind
theorem WX (x:Nat->Rat):(Pv n C B co).K7 m (2 * n) x↔∀ i,i < m->x (2 * n+i)=B i - jk n C (fun j=>x j - x (n+j)) i:=by
 unfold K7;constructor
 ·intro h i hi;rw [<- adv n C B co];exact h i hi
 ·intro h i hi;rw [adv];exact h i hi
def Hw (y:Nat->Rat) (u:Nat):Rat:=if 2 * n<=u then B (u - 2 * n) - jk n C (fun j=>y j - y (n+j)) (u - 2 * n) else y u
theorem ajw (y:Nat->Rat):(Pv n C B co).K7 m (2 * n) (Hw n C B y):=(WX n m C B co _).2 fun i hi=>by
 have a:Hw n C B y (2 * n+i)=B i - jk n C (fun j=>y j - y (n+j)) i:=by
  unfold Hw;rw [if_pos ad,show 2 * n+i - 2 * n=i by omega]
 have b:jk n C (fun j=>Hw n C B y j - Hw n C B y (n+j)) i=jk n C (fun j=>y j - y (n+j)) i:=by
  unfold jk;refine aK fun j hj=>?_;show C i j * (Hw n C B y j - Hw n C B y (n+j))=C i j * (y j - y (n+j));unfold Hw;rw [if_neg ad,if_neg ad]
 rw [a,b]
end
theorem expr {D:bH} {m k:Nat} (h:D.WF m k) {x:Nat->Rat} (hx:D.K7 m k x) {u:Nat} (hu:u < m+k):x u=uP D m u+b7 k fun c=>D.mh m u c * x (D.fr c):=by
 rcases h.al u hu with ⟨i,hi,rfl⟩ | ⟨j,hj,rfl⟩
 ·unfold uP mh;rw [zC h.bi hi];exact hx i hi
 ·unfold uP mh;rw [wu fun i hi=>h.bf i j hi hj];show x (D.fr j)=0+b7 k fun c=>(if D.fr c=D.fr j then 1 else 0) * x (D.fr c);rw [ll hj _ fun c hc a=>by rw [if_neg fun e=>a (h.fi _ _ hc hj e)];grind,if_pos rfl];grind
theorem amR {D:bH} {m k n:Nat} (h:D.WF m k) {co:Nat->Rat} {x:Nat->Rat} (hx:D.K7 m k x):∀ X,X<=n->2 * n<=m+k->vx D m n co X+b7 k (fun c=>gx D m n co X c * x (D.fr c))=D.gv k x+b7 X fun j=>co j * (x j - x (n+j))
 | 0,_,_=>by
  show D.v+b7 k (fun c=>D.g c * x (D.fr c))=D.gv k x+0;unfold gv;grind
 | X+1,h1,h2=>by
  have d:=amR h (co:=co) hx X ad h2 (n:=n);have a:=expr h hx (u:=X) ad;have b:=expr h hx (u:=n+X) ad;rw [b7,<- Rat.add_assoc,<- d,vx,aK (f:=fun c=>gx D m n co (X+1) c * x (D.fr c)) (g:=fun c=>(gx D m n co X c * x (D.fr c)+co X * (D.mh m X c * x (D.fr c)))+-(co X) * (D.mh m (n+X) c * x (D.fr c))) fun c _=>by rw [gx];grind,
   ua,ua,jJ,jJ]
  generalize b7 k (fun c=>D.mh m X c * x (D.fr c))=e at a ⊢;generalize b7 k (fun c=>D.mh m (n+X) c * x (D.fr c))=i at b ⊢;rw [a,b];grind
end bH
end Go.Den
namespace Go.Den
open Go.Ab
namespace bH
section
variable {n m c:Nat} {C:Nat->Nat->Rat} {B co:Nat->Rat} {D:bH}
theorem ajx (h:D.WF m (2 * n+1)) (hc:c < 2 * n+1) (f:D.fr c=2 * n+m):(D.del c).WF m (2 * n):=by
 have a:∀ j,j < 2 * n->sk c j < 2 * n+1/\sk c j≠c:=fun j hj=>by unfold sk;split<;>omega
 refine ⟨h.bi,fun j j' hj b e=>?_,fun i j hi hj=>h.bf i _ hi (a j hj).1,fun i hi=>?_,fun j hj=>?_,fun u hu=>?_⟩
 ·have:=h.fi _ _ (a j hj).1 (a j' b).1 e;unfold sk at this;split at this<;>split at this<;>omega
 ·have h1:=h.bl i hi;have h2:=h.bf i c hi hc;show D.je i < m+2 * n;omega
 ·have h1:=h.fl _ (a j hj).1;have h2:D.fr (sk c j)≠D.fr c:=fun e=>(a j hj).2 (h.fi _ _ (a j hj).1 hc e);show D.fr (sk c j) < m+2 * n;omega
 ·rcases h.al u ad with h1 | ⟨j,hj,e⟩
  ·exact .inl h1
  ·have d:j≠c:=fun q=>by rw [q] at e;omega
   by_cases q:j < c
   ·exact .inr ⟨j,ad,by show D.fr (sk c j)=u;unfold sk;rw [if_pos q];exact e⟩
   ·exact .inr ⟨j - 1,ad,by show D.fr (sk c (j - 1))=u;unfold sk;rw [if_neg ad,show j - 1+1=j by omega];exact e⟩
theorem alJ (h:D.WF m (2 * n+1)) (hc:c < 2 * n+1) (b:D.fr c=2 * n+m) (x:Nat->Rat):(D.del c).K7 m (2 * n) x↔D.K7 m (2 * n+1) (fun u=>if u=2 * n+m then 0 else x u):=by
 have a:∀ j,j < 2 * n->sk c j < 2 * n+1/\sk c j≠c:=fun j hj=>by unfold sk;split<;>omega
 have k:∀ i,D.row (2 * n+1) (fun u=>if u=2 * n+m then 0 else x u) i=(D.del c).row (2 * n) x i:=fun i=>by
  unfold row;rw [adt _ (2 * n) c ad];show D.b i+(D.a i c * (if D.fr c=2 * n+m then 0 else x (D.fr c))+b7 (2 * n) fun j=>D.a i (sk c j) * (if D.fr (sk c j)=2 * n+m then 0 else x (D.fr (sk c j))))=D.b i+b7 (2 * n) fun j=>D.a i (sk c j) * x (D.fr (sk c j));rw [if_pos b,aK (f:=fun j=>D.a i (sk c j) * (if D.fr (sk c j)=2 * n+m then 0 else x (D.fr (sk c j)))) (g:=fun j=>D.a i (sk c j) * x (D.fr (sk c j))) fun j hj=>by
   rw [if_neg fun e=>(a j hj).2 (h.fi _ _ (a j hj).1 hc (e.trans b.symm))]]
  grind
 constructor
 ·intro d i hi;rw [k];exact (if_neg (fun e=>h.bf i c hi hc (e.trans b.symm))).trans (d i hi)
 ·intro d i hi;have:=d i hi;rw [k] at this;exact (if_neg (fun e=>h.bf i c hi hc (e.trans b.symm))).symm.trans this
def aoP (D:bH) (m n:Nat) (co:Nat->Rat):bH:={ D with g:=gx D m n co n,v:=vx D m n co n }
theorem aoQ {k:Nat} (h:D.WF m k):(D.aoP m n co).WF m k:=⟨h.bi,h.fi,h.bf,h.bl,h.fl,h.al⟩
theorem alK (h:Ig n m C B D c):J7 m (2 * n) (Pv n C B co) ((D.del c).aoP m n co):=by
 obtain ⟨z,he⟩:=h.eqv;have hw:=ajx h.wf h.lt h.fr;have a:∀ x,(Pv n C B co).K7 m (2 * n) x↔(D.del c).K7 m (2 * n) x:=fun x=>by
  rw [alJ h.wf h.lt h.fr,<- he.Xj,Pq,WX];have d:(if 2 * n+m=2 * n+m then (0:Rat) else x (2 * n+m))=0:=if_pos rfl;have e:∀ i,i < m->(if 2 * n+i=2 * n+m then (0:Rat) else x (2 * n+i))=x (2 * n+i):=fun i hi=>if_neg ad;have k:∀ i,jk n C (fun j=>(if j=2 * n+m then (0:Rat) else x j) - (if n+j=2 * n+m then 0 else x (n+j))) i=jk n C (fun j=>x j - x (n+j)) i:=fun i=>by
   unfold jk;refine aK fun j hj=>?_;dsimp only;rw [if_neg ad,if_neg ad]
  constructor
  ·intro b i hi;show (if 2 * n+i=2 * n+m then (0:Rat) else x (2 * n+i))=B i - jk n C (fun j=>(if j=2 * n+m then (0:Rat) else x j) - (if n+j=2 * n+m then 0 else x (n+j))) i+(if 2 * n+m=2 * n+m then (0:Rat) else x (2 * n+m));rw [d,e i hi,k,b i hi];grind
  ·intro b i hi;have:=b i hi;have this:(if 2 * n+i=2 * n+m then (0:Rat) else x (2 * n+i))=B i - jk n C (fun j=>(if j=2 * n+m then (0:Rat) else x j) - (if n+j=2 * n+m then 0 else x (n+j))) i+(if 2 * n+m=2 * n+m then (0:Rat) else x (2 * n+m)):=this;rw [d,e i hi,k] at this;rw [this];grind
 refine ⟨fun x=>a x,fun x hx=>?_⟩;have h1:=amR hw (co:=co) ((a x).1 hx) n (aV n) ad;rw [ajv];show _=vx (D.del c) m n co n+b7 (2 * n) (fun j=>gx (D.del c) m n co n j * x ((D.del c).fr j));rw [h1];unfold gv;rw [aK (f:=fun j=>(D.del c).g j * x ((D.del c).fr j)) (g:=fun _=>0) fun j _=>by show 0 * _=_;grind,mD];show _=0+0+_;grind
variable (hw:D.WF m (2 * n)) (he:J7 m (2 * n) (Pv n C B co) D)
include hw he
omit hw in
theorem adw {x:Nat->Rat} (hx:D.K7 m (2 * n) x):D.gv (2 * n) x=b7 n fun j=>co j * (x j - x (n+j)):=by
 rw [<- he.gv x ((he.Xj x).2 hx),ajv]
omit hw in
theorem abM {x:Nat->Rat} (hx:D.K7 m (2 * n) x) {i:Nat} (hi:i < m):x (2 * n+i)=B i - jk n C (fun j=>x j - x (n+j)) i:=(WX n m C B co _).1 ((he.Xj x).2 hx) i hi
theorem opt (r:D.Xk m) (v:∀ j,j < 2 * n->D.g j<=0) :
  (∀ i,0<=-(D.gc (2 * n) (2 * n+i)))/\(∀ j,j < n->b7 m (fun i=>-(D.gc (2 * n) (2 * n+i)) * C i j)=co j)/\b7 m (fun i=>-(D.gc (2 * n) (2 * n+i)) * B i)=D.v /\
   (∀ i,i < m->jk n C (fun j=>uP D m j - uP D m (n+j)) i<=B i)/\b7 n (fun j=>co j * (uP D m j - uP D m (n+j)))=D.v:=by
 have b:∀ u,D.gc (2 * n) u<=0:=fun u=>by
  by_cases e:∃ j,j < 2 * n/\D.fr j=u
  ·obtain ⟨j,hj,rfl⟩:=e;rw [adh hw hj];exact v j hj
  ·rw [Pp fun j hj q=>e ⟨j,hj,q⟩];exact Rat.le_refl
 -- the goal at the solution that unknowns tell
 have key:∀ y:Nat->Rat,D.v+(b7 n (fun j=>D.gc (2 * n) j * y j)+b7 n (fun j=>D.gc (2 * n) (n+j) * y (n+j))+b7 m fun i=>D.gc (2 * n) (2 * n+i) * (B i - jk n C (fun j=>y j - y (n+j)) i))=b7 n fun j=>co j * (y j - y (n+j)):=fun y=>by
  have w:=(he.Xj _).1 (ajw n m C B co y);have h1:=adw he w;rw [aiP hw] at h1;have x:b7 n (fun j=>co j * (Hw n C B y j - Hw n C B y (n+j)))=b7 n fun j=>co j * (y j - y (n+j)):=aK fun j hj=>by
   unfold Hw;rw [if_neg ad,if_neg ad]
  rw [x] at h1;rw [<- h1,show m+2 * n=n+(n+m) by omega,sL,sL];rw [aK (f:=fun j=>D.gc (2 * n) j * Hw n C B y j) (g:=fun j=>D.gc (2 * n) j * y j) fun j hj=>by unfold Hw;rw [if_neg ad],
   aK (f:=fun j=>D.gc (2 * n) (n+j) * Hw n C B y (n+j)) (g:=fun j=>D.gc (2 * n) (n+j) * y (n+j)) fun j hj=>by unfold Hw;rw [if_neg ad],
   aK (f:=fun i=>D.gc (2 * n) (n+(n+i)) * Hw n C B y (n+(n+i))) (g:=fun i=>D.gc (2 * n) (2 * n+i) * (B i - jk n C (fun j=>y j - y (n+j)) i)) fun i _=>by
    rw [show n+(n+i)=2 * n+i by omega];unfold Hw;rw [if_pos ad,show 2 * n+i - 2 * n=i by omega]]
  grind
 have z:=key fun _=>0;have z1:∀ i,jk n C (fun _=>(0:Rat) - 0) i=0:=fun i=>by
  unfold jk;rw [aK (g:=fun _=>0) fun j _=>by grind,mD]
 have A:D.v+b7 m (fun i=>D.gc (2 * n) (2 * n+i) * B i)=0:=by
  rw [aK (n:=n) (f:=fun j=>D.gc (2 * n) j * 0) (g:=fun _=>0) fun j _=>by grind,aK (n:=n) (f:=fun j=>D.gc (2 * n) (n+j) * 0) (g:=fun _=>0) fun j _=>by grind,aK (n:=n) (f:=fun j=>co j * (0 - 0)) (g:=fun _=>0) fun j _=>by grind,
   mD,aK (n:=m) (f:=fun i=>D.gc (2 * n) (2 * n+i) * (B i - jk n C (fun _=>0 - 0) i)) (g:=fun i=>D.gc (2 * n) (2 * n+i) * B i) fun i _=>by rw [z1];grind] at z
  grind
 -- a single unknown
 have l:∀ (j:Nat) (s:Rat) (t:Rat),j < n->D.gc (2 * n) j * s+D.gc (2 * n) (n+j) * t - (s - t) * b7 m (fun i=>D.gc (2 * n) (2 * n+i) * C i j)=co j * (s - t):=fun j s t hj=>by
  have k:=key fun u=>if u=j then s else if u=n+j then t else 0
  have c:∀ a,a < n->(if a=j then s else if a=n+j then t else (0:Rat))=if a=j then s else 0:=fun a ha=>by
   by_cases e:a=j
   ·rw [if_pos e,if_pos e]
   ·rw [if_neg e,if_neg e,if_neg ad]
  have d:∀ a,a < n->(if n+a=j then s else if n+a=n+j then t else (0:Rat))=if a=j then t else 0:=fun a ha=>by
   rw [if_neg ad]
   by_cases e:a=j
   ·rw [if_pos ad,if_pos e]
   ·rw [if_neg ad,if_neg e]
  have E:∀ i,jk n C (fun a=>(if a=j then s else if a=n+j then t else (0:Rat)) - (if n+a=j then s else if n+a=n+j then t else 0)) i=C i j * (s - t):=fun i=>by
   unfold jk;rw [aK (g:=fun a=>if a=j then C i j * (s - t) else 0) fun a ha=>by
    dsimp only;rw [c a ha,d a ha]
    by_cases e:a=j
    ·rw [if_pos e,if_pos e,if_pos e,e]
    ·rw [if_neg e,if_neg e,if_neg e];grind]
   rw [ll hj _ fun a _ h=>if_neg h,if_pos rfl]
  rw [aK (n:=n) (f:=fun a=>D.gc (2 * n) a * (if a=j then s else if a=n+j then t else 0)) (g:=fun a=>if a=j then D.gc (2 * n) j * s else 0) fun a ha=>by
    rw [c a ha]
    by_cases e:a=j
    ·rw [if_pos e,if_pos e,e]
    ·rw [if_neg e,if_neg e];grind,
   aK (n:=n) (f:=fun a=>D.gc (2 * n) (n+a) * (if n+a=j then s else if n+a=n+j then t else 0)) (g:=fun a=>if a=j then D.gc (2 * n) (n+j) * t else 0) fun a ha=>by
    rw [d a ha]
    by_cases e:a=j
    ·rw [if_pos e,if_pos e,e]
    ·rw [if_neg e,if_neg e];grind,
   aK (n:=n) (f:=fun a=>co a * ((if a=j then s else if a=n+j then t else 0) - (if n+a=j then s else if n+a=n+j then t else 0))) (g:=fun a=>if a=j then co j * (s - t) else 0) fun a ha=>by
    rw [c a ha,d a ha]
    by_cases e:a=j
    ·rw [if_pos e,if_pos e,if_pos e,e]
    ·rw [if_neg e,if_neg e,if_neg e];grind,
   ll hj _ fun a _ h=>if_neg h,if_pos rfl,ll hj _ fun a _ h=>if_neg h,if_pos rfl,ll hj _ fun a _ h=>if_neg h,if_pos rfl,
   aK (n:=m) (g:=fun i=>D.gc (2 * n) (2 * n+i) * B i - (s - t) * (D.gc (2 * n) (2 * n+i) * C i j)) fun i _=>by rw [E];grind,Ht,jJ] at k
  grind
 have o:∀ f:Nat->Rat,b7 m (fun i=>-(D.gc (2 * n) (2 * n+i)) * f i) = - b7 m fun i=>D.gc (2 * n) (2 * n+i) * f i:=fun f=>by
  rw [aK (g:=fun i=>(-1) * (D.gc (2 * n) (2 * n+i) * f i)) fun i _=>by grind,jJ];grind
 have p:=wv hw yP;refine ⟨fun i=>by have:=b (2 * n+i);grind,fun j hj=>?_,by rw [o];grind,fun i hi=>?_,?_⟩
 ·have F:=l j 1 0 hj;have G:=l j 0 1 hj;have H:=b j;have I:=b (n+j);rw [o];grind
 ·have h1:=abM he p hi;have h2:=Nt hw r (2 * n+i) ad;have e:(fun j=>uP D m j - uP D m (n+j))=fun j=>D.ext m (2 * n) yP j - D.ext m (2 * n) yP (n+j):=by
   funext j;rw [Pu D _ (2 * n),Pu D _ (2 * n)]
  rw [e];grind
 ·have h1:=adw he p;rw [Hp hw,Nr] at h1;rw [h1];exact aK fun j _=>by rw [Pu D _ (2 * n),Pu D _ (2 * n)]
omit he in
theorem ajy {j u:Nat} (hj:j < 2 * n) (hu:u < m+2 * n):D.mh m u j=D.dir m (2 * n) j u:=by
 rcases hw.al u hu with ⟨i,hi,rfl⟩ | ⟨c',oH,rfl⟩
 ·unfold mh;rw [zC hw.bi hi,adf hw hi hj]
 ·unfold mh;rw [wu fun i hi=>hw.bf i c' hi oH,So hw oH hj]
  by_cases e:c'=j
  ·simp only [e,if_true]
  ·simp only [e,if_false];exact if_neg fun q=>e (hw.fi _ _ hj oH q).symm
theorem ray {j:Nat} (hj:j < 2 * n) (k:0 < D.g j) (h:∀ i,i < m->0<=D.a i j) :
  (∀ i,i < m->jk n C (fun a=>D.mh m a j - D.mh m (n+a) j) i<=0)/\0 < b7 n fun a=>co a * (D.mh m a j - D.mh m (n+a) j):=by
 have f:=wv hw yP;have g:=wv hw (one (D.fr j));have b:∀ u,u < m+2 * n->D.mh m u j=D.ext m (2 * n) (one (D.fr j)) u - D.ext m (2 * n) yP u:=fun u hu=>ajy hw hj hu;have d:∀ u,u < m+2 * n->0<=D.mh m u j:=fun u hu=>by
  rcases hw.al u hu with ⟨i,hi,rfl⟩ | ⟨c',oH,rfl⟩
  ·unfold mh;rw [zC hw.bi hi];exact h i hi
  ·unfold mh;rw [wu fun i hi=>hw.bf i c' hi oH];show 0<=if D.fr j=D.fr c' then (1:Rat) else 0
   split<;>decide
 refine ⟨fun i hi=>?_,?_⟩
 ·have h0:=abM he f hi;have h1:=abM he g hi;have h2:=d (2 * n+i) ad;rw [b _ ad] at h2;have e:jk n C (fun a=>D.mh m a j - D.mh m (n+a) j) i=jk n C (fun c=>D.ext m (2 * n) (one (D.fr j)) c - D.ext m (2 * n) (one (D.fr j)) (n+c)) i - jk n C (fun j=>D.ext m (2 * n) yP j - D.ext m (2 * n) yP (n+j)) i:=by
   unfold jk;rw [<- Ht];exact aK fun a ha=>by dsimp only;rw [b a ad,b (n+a) ad];grind
  rw [e];grind
 ·have h0:=adw he f;have h1:=adw he g;rw [Hp hw,Nr] at h0;rw [Hp hw,WK hw hj] at h1;have e:b7 n (fun a=>co a * (D.mh m a j - D.mh m (n+a) j))=b7 n (fun a=>co a * (D.ext m (2 * n) (one (D.fr j)) a - D.ext m (2 * n) (one (D.fr j)) (n+a))) - b7 n fun a=>co a * (D.ext m (2 * n) yP a - D.ext m (2 * n) yP (n+a)):=by
   rw [<- Ht];exact aK fun a ha=>by rw [b a ad,b (n+a) ad];grind
  rw [e];grind
end
end bH
end Go.Den
namespace Go.Den
open Go.Ab
theorem alM {D:bH} {m k s:Nat} (hw:D.WF m k) (h1:1<=s) (ha:∀ i c,i < m->c < k->RB (D.a i c) s) {u c:Nat} (hu:u < m+k) (hc:c < k):RB (D.mh m u c) s:=by
 rcases hw.al u hu with ⟨i,hi,rfl⟩ | ⟨c',oH,rfl⟩
 ·unfold bH.mh;rw [bH.zC hw.bi hi];exact ha i c hi hc
 ·unfold bH.mh;rw [bH.wu fun i hi=>hw.bf i c' hi oH];show RB (if D.fr c=D.fr c' then (1:Rat) else 0) s;split
  ·exact bH.RB1.le h1
  ·exact RB.zero.le h1
theorem ajz {D:bH} {m k s:Nat} (hw:D.WF m k) (h1:1<=s) (hb:∀ i,i < m->RB (D.b i) s) (u:Nat):RB (uP D m u) s:=by
 by_cases e:∃ i,i < m/\D.je i=u
 ·obtain ⟨i,hi,rfl⟩:=e;unfold uP;rw [bH.zC hw.bi hi];exact hb i hi
 ·unfold uP;rw [bH.wu fun i hi q=>e ⟨i,hi,q⟩];exact RB.zero.le h1
theorem YX {n:Nat} {f g:Nat->Rat} (h:∀ i,i < n->f i<=g i):b7 n f<=b7 n g:=by
 induction n with
 | zero=>exact Rat.le_refl
 | succ n a =>
  have h1:=a fun i hi=>h i ad;have h2:=h n ad;simp only [b7];grind
section
variable {n:Nat} {l:List a8} {ob:List aa}
def UB (ob:List aa) (j:Nat):Rat:=qv (ob.getD j aa.d)
def ZT:Nat:=2441406250
theorem amS:5 ^ 13 * 2=ZT:=ak
structure alN (n:Nat) (l:List a8) (ob:List aa) (x y:Nat->Rat) (v:Rat):Prop where
 poi:∀ i,i < l.length->bH.jk n (cf l) x i<=bv l i
 nn:∀ i,i < l.length->0<=y i
 col:∀ j,j < n->b7 l.length (fun i=>y i * cf l i j)=UB ob j
 aq1:b7 l.length (fun i=>y i * bv l i)=v
 val:b7 n (fun j=>UB ob j * x j)=v
 rx:∀ j,j < n->RB (x j) 5000000000
 ry:∀ i,i < l.length->RB (y i) 5000000000
 rv:RB v 5000000000
theorem ajA {D:bH} {c:Nat} (b:Lc l) (e:n<=6) (h:Ig n l.length (cf l) (bv l) D c):(∀ i j,i < l.length->j < 2 * n+1->RB (D.a i j) ZT)/\∀ i,i < l.length->RB (D.b i) ZT:=by
 obtain ⟨z,he⟩:=h.eqv;have d:bH.J7 l.length (2 * n+1) (bH.fst n l.length (cf l) (bv l) 0) { D with g:=fun j=>if D.fr j=2 * n+l.length then 0 else 0,v:=0 }:=⟨fun x=>by
  rw [<- bH.aiR n l.length (cf l) (bv l) z D x he];exact Iff.rfl,fun x _=>by
  rw [bH.aiQ];unfold bH.gv;rw [aK (g:=fun _=>0) fun j _=>ao,mD];grind⟩
 have hw:bH.WF { D with g:=fun j=>if D.fr j=2 * n+l.length then 0 else 0,v:=0 } l.length (2 * n+1):=⟨h.wf.bi,h.wf.fi,h.wf.bf,h.wf.bl,h.wf.fl,h.wf.al⟩;have a:=bH.YQ (e5:=13) (.inr ad) hw (bH.WQ n l.length (cf l) (bv l) 0) d (ajj b) (by decide:1<=2);rw [amS] at a;exact ⟨fun i j hi hj=>a.a i j hi hj,fun i hi=>a.b i hi⟩
theorem abN (a:LB ob 2) (j:Nat):RB (UB ob j) 2:=(a.rq ak j).rb
theorem alO (a:Lc l) (b:LB ob 2):(bH.Pv n (cf l) (bv l) (UB ob)).N7 l.length (2 * n) 2:=by
 have c:∀ i j,RB (cf l i j) 2:=fun i j=>(a.co i j).rb;refine ⟨fun i j _ _=>?_,fun i _=>(a.bo i).rb,fun j _=>?_,RB.zero.le ak⟩
 ·simp only [bH.Pv];split
  ·exact (c i j).neg
  ·exact c i _
 ·simp only [bH.Pv];split
  ·exact abN b j
  ·exact (abN b _).neg
theorem YY {D:bH} {x:Nat->Rat} (hx:∀ i,i < l.length->bH.jk n (cf l) x i<=bv l i) (h:Pt n l.length (cf l) (bv l) D):False:=by
 obtain ⟨c,d,f⟩:=bH.aqV h.wf h.eqv h.g;have h1:b7 l.length (fun i=>-(D.gc (2 * n+1) (2 * n+i)) * bH.jk n (cf l) x i)=0:=by
  have e:∀ i,i < l.length->-(D.gc (2 * n+1) (2 * n+i)) * bH.jk n (cf l) x i=b7 n fun j=>x j * (-(D.gc (2 * n+1) (2 * n+i)) * cf l i j):=fun i _=>by
   unfold bH.jk;rw [<- jJ];exact aK fun j _=>by grind
  rw [aK e,Ns];rw [aK (g:=fun _=>0) fun j hj=>by rw [jJ,d j hj];grind,mD]
 have h2:b7 l.length (fun i=>-(D.gc (2 * n+1) (2 * n+i)) * bH.jk n (cf l) x i)<=b7 l.length (fun i=>-(D.gc (2 * n+1) (2 * n+i)) * bv l i):=YX fun i hi=>by
  have a:=c (2 * n+i);have b:=hx i hi;have:=Rat.mul_le_mul_of_nonneg_left b (show 0<=-(D.gc (2 * n+1) (2 * n+i)) by grind);exact this
 have:=h.v;grind
theorem aoR {co:Nat->Rat} {x d:Nat->Rat} {M:Rat} (hx:∀ i,i < l.length->bH.jk n (cf l) x i<=bv l i) (hb:∀ x,(∀ i,i < l.length->bH.jk n (cf l) x i<=bv l i)->b7 n (fun j=>co j * x j)<=M)
  (hd:∀ i,i < l.length->bH.jk n (cf l) d i<=0) (f:0 < b7 n fun j=>co j * d j):False:=by
 obtain ⟨G,g⟩:∃ G,G=b7 n fun j=>co j * d j:=⟨_,rfl⟩;rw [<- g] at f;obtain ⟨V,h⟩:∃ V,V=b7 n fun j=>co j * x j:=⟨_,rfl⟩;have m:V<=M:=by rw [h];exact hb x hx
 obtain ⟨t,k⟩:∃ t,t=(M - V+1) / G:=⟨_,rfl⟩;have o:t * G=M - V+1:=by rw [k];exact Rat.div_mul_cancel (by grind)
 have c:0<=t:=by
  rw [k,Rat.div_def];exact Rat.mul_nonneg (by grind) (Rat.le_of_lt (Rat.inv_pos.2 f))
 have h1:=hb (fun j=>x j+t * d j) fun i hi=>by
  have e:bH.jk n (cf l) (fun j=>x j+t * d j) i=bH.jk n (cf l) x i+t * bH.jk n (cf l) d i:=by
   unfold bH.jk;rw [<- jJ,<- ua];exact aK fun j _=>by grind
  rw [e];have a:=hx i hi;have b:=Rat.mul_le_mul_of_nonneg_left (hd i hi) c;grind
 have e:b7 n (fun j=>co j * (x j+t * d j))=V+t * G:=by
  rw [h,g,<- jJ,<- ua];exact aK fun j _=>by grind
 rw [e] at h1;grind
theorem YZ (V:n<=6) (z:Lc l) (A:l.length<=40) (hc:qR n l=0) (E:ob.length=n) (F:LB ob 2) {W:Nat->Rat} (T:∀ i,i < l.length->bH.jk n (cf l) W i<=bv l i) {M:Rat}
  (X:∀ x,(∀ i,i < l.length->bH.jk n (cf l) x i<=bv l i)->b7 n (fun j=>UB ob j * x j)<=M) :
  ∃ x y v,alN n l ob x y v/\Gv (fun N=>y9 N ob l) (⟨bB v,LQ x n,LQ y l.length⟩,0):=by
 obtain ⟨_,ok⟩:=abL hc;rw [ag] at ok;have hb:=aji (n:=n) ad z A ok.co;obtain ⟨r,Y,b⟩:=aeH (e5:=13) (n:=n) (m:=l.length) (C:=cf l) (B:=bv l) (s:=2) (.inr ad) ad ad (ajj z) ak ak;have Z:(qR (n:Int) l != 0)=false:=by rw [hc];rfl
 have G:Gv (fun N=>ph N (ob.length:Int) l) (qR (n:Int) l):=by rw [E];exact La _ _
 have H:Gv (fun N=>CO N (ob.length:Int) l) (TB n l):=by rw [E];exact hb
 rcases b with ⟨D,b,rfl⟩ | ⟨D,c,b,rfl⟩
 ·exact (YY T b).elim
 ·obtain ⟨ra,rb⟩:=ajA z V b;have d:=bH.ajx b.wf b.lt b.fr;have g:∀ i j,i < l.length->j < 2 * n->RB ((D.del c).a i j) ZT:=fun i j hi hj=>ra i _ hi (by unfold sk;split<;>omega);have o:∀ i,i < l.length->RB ((D.del c).b i) ZT:=rb;have I:=aoO (D:=D.del c) (k:=2 * n) (m:=l.length) (n:=n) (h:=2 * n+l.length) (s:=ZT) (t:=1) (ob:=ob) (co:=UB ob) ad ad d g o ad ad E (fun j=>(F.rq ak j).le ak) (fun j=>(abN F j).le ak)
   (fun u hu=>⟨fun c' oH=>alM d ak g hu oH,ajz d ak o u⟩) (fun c' _=>RB.zero) RB.zero (by show 1+n * (2 * (2441406250+13))<=1000000000000;omega)
  have J:=bH.aoQ (n:=n) (co:=UB ob) d;have K:=bH.alK (co:=UB ob) b;have U:=alO (n:=n) z F;obtain ⟨D',r,a,L,f,Ln,O⟩:=YS (e5:=13) (n:=n) (m:=l.length) (k:=2 * n) (h:=2 * n+l.length) (s:=2) (D:=(D.del c).aoP l.length n (UB ob)) (.inr ad) ad ad (bH.aju n l.length (cf l) (bv l) (UB ob))
   U ak ak J b.fea K
  have p:=bH.YQ (e5:=13) (.inr ad) a (bH.aju n l.length (cf l) (bv l) (UB ob)) f U ak;rw [amS] at p;have P:=O.diag;rcases Ln with ⟨rfl,hg⟩ | ⟨j,rfl,w,Q⟩
  ·obtain ⟨o1,o2,o3,o4,o5⟩:=bH.opt a f L hg;have R:∀ u,RB (uP D' l.length u) ZT:=ajz a ak fun i hi=>p.b i hi;have S:∀ i,RB (-(D'.gc (2 * n) (2 * n+i))) 5000000000:=fun i=>by
    by_cases e:∃ j,j < 2 * n/\D'.fr j=2 * n+i
    ·obtain ⟨j,hj,e⟩:=e;rw [<- e,bH.adh a hj];exact (p.g j hj).neg.le ak
    ·rw [bH.Pp fun j hj q=>e ⟨j,hj,q⟩];exact RB.zero.neg.le ak
   refine ⟨_,_,_,⟨o4,fun i _=>o1 i,o2,o3,o5,fun j _=>((R j).sub (R (n+j))).le ak,fun i _=>S i,p.v.le ak⟩,G.bind (Gv.a5 Z (H.bind (Y.bind ?_)))⟩;simp only [RS,TB,iY,oe,cQ];refine Gv.if trivial (Gv.if trivial (Gv.if trivial (Gv.a5 rfl (I.bind ?_))));simp only [cQ];refine Gv.if trivial (P.bind ?_);simp only [RT,iY,oe,cQ];refine Gv.if trivial (Gv.if trivial (Gv.if trivial (Gv.if trivial (Gv.if trivial (Gv.a5 (show decide ((-1:Int)>=0)=false from by decide) ?_)))));exact (ajk ad ad (s:=ZT) ak a.bi R).bind ((alG ad ad ad (show ZT<=MS by decide) a p.g).bind (Gv.pure _))
  ·obtain ⟨p1,p2⟩:=bH.ray a f w.lt w.pos Q;exact (aoR T X p1 p2).elim
end
end Go.Den
namespace Go.Den
open Go.Ab
def Pw (s:ByteArray) (m:Nat):Bool :=
 cond (!(cond (cond (decide (om s m>=97)) (decide (om s m<=122)) false) true (cond (decide (om s m>=65)) (decide (om s m<=90)) false))) (cond ((m:Int) == 0) true (!(cond (cond (decide (om s m>=48)) (decide (om s m<=57)) false) true (om s m == 45)))) false
def xk (s:ByteArray):Bool :=
 cond (cond (dZ s ByteArray.empty) true (decide ((s.size:Int) > 12))) false (scan (fun m=>cond (Pw s m) (some false) none) true s.size 0)
theorem Y0 (s:ByteArray):dZ s ByteArray.empty=decide ((s.size:Int) < 1):=by
 rw [Bool.eq_iff_iff,vk,decide_eq_true_eq];constructor
 ·rintro rfl;decide
 ·intro h;have:s.size=0:=ad;cases s with | mk d => 
  have:d.size=0:=this;simp [Array.size_eq_zero_iff.1 this];rfl
theorem abO (s:ByteArray) (m:Nat):Pw s m=cond (!(cond (cond (decide (om s m>=97)) (decide (om s m<=122)) false) true (cond (decide (om s m>=65)) (decide (om s m<=90)) false))) (cond ((m:Int) == 0) true (cond (om s m != 45) (cond (decide (om s m < 48)) true (decide (om s m > 57))) false)) false:=by
 unfold Pw;generalize om s m=b;rw [Bool.eq_iff_iff];simp [Bool.cond_eq_ite];omega
end Go.Den
namespace Go.Den
open Go.Ab
def Ok {α:Type} (z:α) (f:Nat->Option α) (P:Prop):Prop:=∃ c,Gv f c/\(c=z->P)
def eT {α:Type} (z:α) (f:Nat->Nat->Option α) (P:Prop):Prop:=∃ c,aL f c/\(c=z->P)
section
variable {α:Type} {z:α} {f f' g:Nat->Nat->Option α} {P Q:Prop}
theorem eT.diag (h:eT z f P):Ok z (fun N=>f N N) P:=let ⟨c,h1,h2⟩:=h;⟨c,h1.diag,h2⟩
theorem eT.one {f:Nat->Option α} (h:Ok z f P):eT z (fun N _=>f N) P:=let ⟨c,⟨a,h1⟩,h2⟩:=h;⟨c,⟨a,fun N _ b _=>h1 N b⟩,h2⟩
theorem eT.imp (h:eT z f P) (a:P->Q):eT z f Q:=let ⟨c,h1,h2⟩:=h;⟨c,h1,fun e=>a (h2 e)⟩
theorem Ok.imp {f:Nat->Option α} (h:Ok z f P) (a:P->Q):Ok z f Q:=let ⟨c,h1,h2⟩:=h;⟨c,h1,fun e=>a (h2 e)⟩
theorem eT.aeK (h:P):eT z (fun _ _=>some z) P:=⟨z,⟨0,fun _ _ _ _=>rfl⟩,fun _=>h⟩
theorem eT.err {c:α} (hc:c≠z):eT z (fun _ _=>some c) P:=⟨c,⟨0,fun _ _ _ _=>rfl⟩,fun h=>absurd h hc⟩
theorem eT.succ (e:∀ N g,f N (g+1)=f' N g) (h:eT z f' P):eT z f P:=by
 obtain ⟨c,⟨a,h1⟩,h2⟩:=h;exact ⟨c,.step a fun N g b d=>(e N g).trans (h1 N g b d),h2⟩
theorem eT.bind {β:Type} {f:Nat->Option β} {k:Nat->Nat->β->Option α} {r:β} (h:Gv f r) (h2:eT z (fun N g=>k N g r) P):eT z (fun N g=>(f N).bind (k N g)) P:=by
 obtain ⟨a,h⟩:=h;obtain ⟨c,⟨b,h1⟩,h2⟩:=h2;exact ⟨c,⟨a+b,fun N g d e=>by dsimp only;rw [h N ad];exact h1 N g ad ad⟩,h2⟩
theorem eT.if {p:Prop} [Decidable p] (a:p) (h:eT z f P):eT z (fun N g=>if p then f N g else none) P:=by
 have e:(fun N g=>if p then f N g else none)=f:=by funext N g;exact if_pos a
 rw [e];exact h
theorem eT.cond {q:Bool} (h1:q=true->eT z f P) (h2:q=false->eT z g P):eT z (fun N n=>cond q (f N n) (g N n)) P:=by
 cases q
 ·exact h2 rfl
 ·exact h1 rfl
theorem eT.er {q:Bool} {c:α} (hc:c≠z) (h:q=false->eT z f P):eT z (fun N n=>_root_.cond q (some c) (f N n)) P:=.cond (fun _=>.err hc) h
theorem eT.go {F:Nat->Nat->Option α} {i n:Nat} (hi:i < n) (e:∀ N m,F N (m+1)=_root_.cond (decide ((i:Int) < ((n:Nat):Int))) (f N m) (g N m)) (h:eT z f P):eT z F P:=.succ (fun N m=>(e N m).trans (by rw [dec_lt hi];rfl)) h
theorem eT.stop {F:Nat->Nat->Option α} {n:Nat} (e:∀ N m,F N (m+1)=_root_.cond (decide ((n:Int) < ((n:Nat):Int))) (f N m) (g N m)) (h:eT z g P):eT z F P:=.succ (fun N m=>(e N m).trans (by rw [dG];rfl)) h
theorem eT.call {f:Nat->Option Int} {k:Nat->Nat->Option Int} (h:Ok (0:Int) f P) (h2:P->eT (0:Int) k Q):eT (0:Int) (fun N g=>(f N).bind fun r=>_root_.cond (r != 0) (some r) (k N g)) Q:=by
 obtain ⟨c,h,a⟩:=h;refine eT.bind h ?_
 by_cases hc:c=0
 ·subst hc;exact h2 (a rfl)
 ·have e:(c != 0)=true:=by simpa using hc
  simp only [e,cond_true];exact .err hc
theorem eT.loop {L:Nat->Nat->Int->Option α} {n:Nat} {P:Nat->Prop} (step:∀ i,i < n->∀ R:Prop,(P i->eT z (fun N g=>L N g ((i+1:Nat):Int)) R)->eT z (fun N g=>L N g (i:Int)) R) (fin:(∀ i,i < n->P i)->eT z (fun N g=>L N g (n:Int)) Q) :
  eT z (fun N g=>L N g 0) ((∀ i,i < n->P i)/\Q):=by
 have key:∀ k i,i+k=n->(∀ j,j < i->P j)->eT z (fun N g=>L N g (i:Int)) ((∀ j,j < n->P j)/\Q):=fun k=>by
  induction k with
  | zero =>
   intro i hi a;have:i=n:=ad;subst this;exact (fin a).imp fun q=>⟨a,q⟩
  | succ k b =>
   intro i hi a;refine step i ad _ fun c=>b (i+1) ad fun j hj=>?_
   by_cases e:i=j
   ·exact e ▸ c
   ·exact a j ad
 exact key n 0 ad fun j h=>absurd h (dX _)
end
theorem aL.go {α:Type} {F f g:Nat->Nat->Option α} {r:α} {i n:Nat} (hi:i < n) (e:∀ N m,F N (m+1)=cond (decide ((i:Int) < ((n:Nat):Int))) (f N m) (g N m)) (h:aL f r):aL F r:=.succ (fun N m=>(e N m).trans (by rw [dec_lt hi];rfl)) h
theorem aL.stop {α:Type} {F f g:Nat->Nat->Option α} {r:α} {n:Nat} (e:∀ N m,F N (m+1)=cond (decide ((n:Int) < ((n:Nat):Int))) (f N m) (g N m)) (h:aL g r):aL F r:=.succ (fun N m=>(e N m).trans (by rw [dG];rfl)) h
theorem aL.rounds {α:Type} {L:Nat->Nat->Int->Option α} {n:Nat} {r:α} (step:∀ i,i < n->aL (fun N g=>L N g ((i+1:Nat):Int)) r->aL (fun N g=>L N g (i:Int)) r) (fin:aL (fun N g=>L N g (n:Int)) r):aL (fun N g=>L N g 0) r:=by
 have key:∀ k i,i+k=n->aL (fun N g=>L N g (i:Int)) r:=fun k=>by
  induction k with
  | zero =>
   intro i hi;have:i=n:=ad;subst this;exact fin
  | succ k a=>intro i hi;exact step i ad (a (i+1) ad)
 exact key n 0 ad
def fi (p:Nat->Bool) (n:Nat):Int:=scan (fun k=>cond (p k) (some (k:Int)) none) (-1) n 0
theorem wz (p:Nat->Bool) (n:Nat):(∃ i,i < n/\p i=true/\(∀ j,j < i->p j=false)/\fi p n=(i:Int))\/((∀ i,i < n->p i=false)/\fi p n = -1):=by
 have a:∀ i,(fun k=>cond (p k) (some (k:Int)) none) i=none->p i=false:=fun i h=>by
  cases e:p i
  ·rfl
  ·simp only [e,cond_true] at h;cases h
 rcases R4 (f:=fun k=>cond (p k) (some (k:Int)) none) (z:=-1) n 0 with ⟨i,r,_,h2,h3,h4,b⟩ | ⟨h1,h2⟩
 ·left;cases e:p i
  ·simp only [e,cond_false] at h3;cases h3
  ·simp only [e,cond_true] at h3;cases h3;exact ⟨i,ad,e,fun j hj=>a j (h4 j (Nat.zero_le _) hj),b⟩
 ·exact .inr ⟨fun i hi=>a i (h1 i (Nat.zero_le _) ad),h2⟩
theorem SD {p:Nat->Bool} {n i:Nat} (hi:i < n) (a:p i=true) (hm:∀ j,j < i->p j=false):fi p n=i:=by
 rcases wz p n with ⟨k,h1,h2,h3,h4⟩ | ⟨h1,_⟩
 ·have:k=i:=by
   rcases Nat.lt_trichotomy k i with h | h | h
   ·have:=hm k h;rw [h2] at this;cases this
   ·exact h
   ·have:=h3 i h;rw [a] at this;cases this
  rw [h4,this]
 ·have:=h1 i hi;rw [a] at this;cases this
theorem Lf {p:Nat->Bool} {n:Nat} (h:∀ i,i < n->p i=false):fi p n = -1:=by
 rcases wz p n with ⟨k,h1,h2,_⟩ | ⟨_,h2⟩
 ·have:=h k h1;rw [h2] at this;cases this
 ·exact h2
theorem amT {p:Nat->Bool} {n i:Nat} (h:fi p n=(i:Int)):i < n/\p i=true/\∀ j,j < i->p j=false:=by
 rcases wz p n with ⟨k,h1,h2,h3,h4⟩ | ⟨_,h2⟩
 ·have:k=i:=ad;subst this;exact ⟨h1,h2,h3⟩
 ·omega
theorem adx {p:Nat->Bool} {n:Nat}:0<=fi p n↔∃ i,i < n/\p i=true:=by
 rcases wz p n with ⟨k,h1,h2,h3,h4⟩ | ⟨h1,h2⟩
 ·exact ⟨fun _=>⟨k,h1,h2⟩,fun _=>ad⟩
 ·refine ⟨fun h=>ad,fun ⟨i,hi,a⟩=>?_⟩;rw [h1 i hi] at a;cases a
theorem Y1 {p q:Nat->Bool} {n:Nat} (h:∀ i,i < n->p i=q i):fi p n=fi q n:=by
 rcases wz p n with ⟨k,h1,h2,h3,h4⟩ | ⟨h1,h2⟩
 ·rw [h4,SD h1 (by rw [<- h k h1];exact h2) fun j hj=>by rw [<- h j ad];exact h3 j hj]
 ·rw [h2,Lf fun i hi=>by rw [<- h i hi];exact h1 i hi]
theorem E2 {L:Nat->Nat->Int->Option Int} {p:Nat->Bool} {n:Nat} (a:∃ b,∀ N g m,b<=N->m < n->L N (g+1) (m:Int)=cond (p m) (some (m:Int)) (L N g ((m+1:Nat):Int))) (he:∀ N g,L N (g+1) (n:Int)=some (-1)) :
  aL (fun N g=>L N g 0) (fi p n):=by
 obtain ⟨b,a⟩:=a;refine ⟨b+n+1,fun N g c d=>?_⟩;refine ER (L:=fun fuel=>L N fuel) _ _ ad (fun fuel m hm=>?_) (fun fuel=>he N fuel);rw [a N fuel m ad hm];cases p m<;>rfl
theorem aoT {L:Nat->Nat->Int->Option Bool} {p:Nat->Bool} {n:Nat} (a:∀ N g m,m < n->L N (g+1) (m:Int)=cond (p m) (some true) (L N g ((m+1:Nat):Int))) (he:∀ N g,L N (g+1) (n:Int)=some false) :
  aL (fun N g=>L N g 0) (decide (0<=fi p n)):=by
 refine ⟨n+1,fun N g _ b=>?_⟩;have:=ER (L:=fun fuel=>L N fuel) (fun k=>cond (p k) (some true) none) false (n:=n) (fuel:=g) ad (fun fuel m hm=>by rw [a N fuel m hm];cases p m<;>rfl) (fun fuel=>he N fuel);dsimp only;rw [this];unfold fi;exact congrArg some (R6 (p:=p) n 0).symm
theorem Gv.ady {α:Type} {f:Nat->Option α} {r:α} (h:Gv f r):Gv (fun N=>(f N).bind fun x=>some x) r:=h.bind (Gv.pure _)
def Fv {X α:Type} (f:Nat->Nat->X->Option α) (r:X->Option α):Prop:=∃ a,∀ N m x,a<=N->a<=m->f N m x=r x
section
variable {X α:Type} {f f':Nat->Nat->X->Option α} {r:X->Option α}
theorem Fv.succ (e:∀ N g x,f N (g+1) x=f' N g x) (h:Fv f' r):Fv f r:=by
 obtain ⟨b,h⟩:=h;refine ⟨b+1,fun N m x c hm=>?_⟩;obtain ⟨a,rfl⟩:∃ a,m=a+1:=⟨m - 1,ad⟩;rw [e];exact h N a x ad ad
theorem Fv.bind {β:Type} {f:Nat->Option β} {k:Nat->Nat->X->β->Option α} {b:β} (h:Gv f b) (h2:Fv (fun N g x=>k N g x b) r):Fv (fun N g x=>(f N).bind (k N g x)) r:=by
 obtain ⟨a,h⟩:=h;obtain ⟨c,h2⟩:=h2;exact ⟨a+c,fun N g x d e=>by dsimp only;rw [h N ad];exact h2 N g x ad ad⟩
theorem Fv.if {p:Prop} [Decidable p] (a:p) (h:Fv f r):Fv (fun N g x=>if p then f N g x else none) r:=by
 obtain ⟨b,h⟩:=h;exact ⟨b,fun N g x c d=>by dsimp only;rw [if_pos a];exact h N g x c d⟩
theorem Fv.aW {g:Nat->Nat->X->Option α} {q:Bool} (a:q=true) (h:Fv f r):Fv (fun N n x=>cond q (f N n x) (g N n x)) r:=by subst a;exact h
theorem Fv.a5 {g:Nat->Nat->X->Option α} {q:Bool} (a:q=false) (h:Fv g r):Fv (fun N n x=>cond q (f N n x) (g N n x)) r:=by subst a;exact h
theorem Fv.pure (r:X->Option α):Fv (fun _ _ x=>r x) r:=⟨0,fun _ _ _ _ _=>rfl⟩
theorem Fv.to {s:α} {K:Nat->Nat->X} (h:Fv f r) (h2:aL (fun N g=>r (K N g)) s):aL (fun N g=>f N N (K N g)) s:=by
 obtain ⟨a,h⟩:=h;obtain ⟨b,h2⟩:=h2;exact ⟨a+b,fun N g c d=>by dsimp only;rw [h N N _ ad ad];exact h2 N g ad ad⟩
end
end Go.Den
namespace Go.Den
open Go.Ab
def ins (n lo hi:Int):Bool:=cond (decide (n>=lo)) (decide (n<=hi)) false
theorem Lg {n lo hi:Int}:ins n lo hi=true↔lo<=n/\n<=hi:=by unfold ins;simp [Bool.cond_eq_ite]
structure Small (w:aq):Prop where
 t:w.bu.length<=8
 s:w.bm.length<=14
 e:w.bK.length<=32
 o:w.cO.length<=22
 i:w.ab.length<=45
 sn:∀ i,i < w.bm.length->(w.bm.getD i dj.d).jg.length<=20
 im:∀ i,i < w.ab.length->(w.ab.getD i bq.d).aP.length<=6/\(w.ab.getD i bq.d).a9.length<=12
theorem orF {a b:Bool} (h:cond a true b=false):a=false/\b=false:=by cases a<;>simp_all
theorem Y2 {n k:Nat} (h:decide (((n:Nat):Int) > (k:Int))=false):n<=k:=by simp at h;omega
theorem Y3 {l:List ByteArray} (h:l.length<=20):∃ b,Gv (fun N=>uX N l) b:=by
 have:Ok true (fun N=>uX N l) True:=eT.diag (f:=fun N g=>lS N l g 0) <| eT.imp (eT.loop (P:=fun _=>True) (Q:=True) (n:=l.length) (fun i hi R k=>?_) fun _=>?_) fun _=>trivial
 ·obtain ⟨b,h,_⟩:=this;exact ⟨b,h⟩
 ·refine eT.go hi (fun N g=>lS.eq_2 ..) (eT.if (jy hi) (eT.er ak fun _=>?_));rw [aw ad];exact k trivial
 ·refine eT.stop (fun N g=>lS.eq_2 ..) (eT.aeK trivial)
theorem ajB (w:aq):Ok true (fun N=>xN N w 5) (Small w):=by
 unfold xN;refine eT.diag (f:=fun N g=>cond _ (some false) (lW N w g 0)) (eT.er ak fun h=>?_);obtain ⟨h,c⟩:=orF h;obtain ⟨h,_⟩:=orF h;obtain ⟨h,h4⟩:=orF h;obtain ⟨h,h3⟩:=orF h;obtain ⟨h1,h2⟩:=orF h;have h1:=Y2 (k:=8) h1;have h2:=Y2 (k:=14) h2;have h3:=Y2 (k:=32) h3;have h4:=Y2 (k:=22) h4;have c:=Y2 (k:=45) c;refine eT.imp (eT.loop (P:=fun _=>True) (Q:=Small w) (n:=w.bu.length) (fun i hi R k=>?_) fun _=>?_) fun q=>q.2
 ·refine eT.go hi (fun N g=>lW.eq_2 ..) (eT.if (jy hi) (eT.er ak fun _=>?_));rw [aw ad];exact k trivial
 refine eT.stop (fun N g=>lW.eq_2 ..) (eT.one (eT.diag (f:=fun N g=>lV N w g 0) ?_));refine eT.imp (eT.loop (P:=fun i=>(w.bm.getD i dj.d).jg.length<=20) (Q:=∀ i,i < w.ab.length->(w.ab.getD i bq.d).aP.length<=6/\(w.ab.getD i bq.d).a9.length<=12) (n:=w.bm.length) (fun i hi R k=>?_) fun _=>?_) fun q=>⟨h1,h2,h3,h4,c,q.1,q.2⟩
 ·refine eT.go hi (fun N g=>lV.eq_2 ..) (eT.if (jy hi) (eT.if (fun _=>jy hi) (eT.if (fun _=>jy hi) ?_)));rw [aw ad,ag];generalize d:cond (decide ((((w.bm.getD i dj.d).cl.size:Nat):Int) > 40)) true (decide ((((w.bm.getD i dj.d).jg.length:Nat):Int) > 20))=q;cases q with
  | true=>exact eT.bind (Gv.pure _) (eT.er ak fun e=>by cases e)
  | false =>
   have a:=Y2 (k:=20) (orF d).2;obtain ⟨b,hb⟩:=Y3 a;exact eT.bind hb (eT.er ak fun _=>k a)
 refine eT.stop (fun N g=>lV.eq_2 ..) (eT.one (eT.diag (f:=fun N g=>lU N w g 0) ?_));refine eT.imp (eT.loop (P:=fun i=>(w.ab.getD i bq.d).aP.length<=6/\(w.ab.getD i bq.d).a9.length<=12) (Q:=True) (n:=w.ab.length) (fun i hi R k=>?_) fun _=>?_) fun q=>q.1
 ·refine eT.go hi (fun N g=>lU.eq_2 ..) (eT.if (jy hi) ?_);rw [aw ad,ag];generalize d:cond (cond (cond (cond (decide ((((w.ab.getD i bq.d).cl.size:Nat):Int) > 40)) true (decide ((((w.ab.getD i bq.d).eO.size:Nat):Int) > 40))) true (decide ((((w.ab.getD i bq.d).gn.size:Nat):Int) > 40))) true (decide ((((w.ab.getD i bq.d).aP.length:Nat):Int) > 6))) true (decide ((((w.ab.getD i bq.d).a9.length:Nat):Int) > 12))=q;cases q with
  | true=>exact eT.bind (Gv.pure _) (eT.er ak fun e=>by cases e)
  | false =>
   obtain ⟨e,j⟩:=orF d;have a:=Y2 (k:=12) j;obtain ⟨b,hb⟩:=Y3 (gG a ak);exact eT.bind hb (eT.er ak fun _=>k ⟨Y2 (k:=6) (orF e).2,a⟩)
 ·refine eT.stop (fun N g=>lU.eq_2 ..) (eT.aeK trivial)
end Go.Den
namespace Go.Den
open Go.Ab
theorem aeL {N:Nat} (a:12 < N) (s:ByteArray):qm N s=some (xk s):=by
 unfold qm xk;rw [Y0];cases h:cond (decide ((s.size:Int) < 1)) true (decide ((s.size:Int) > 12))
 ·have b:s.size<=12:=Y2 (k:=12) (orF h).2;refine ER (L:=fun fuel=>ko N s fuel) _ _ ad (fun fuel m hm=>?_) (fun fuel=>?_)
  ·simp only [ko,zA,dec_lt hm,cond_true,if_pos (jy hm),aw (show m < 9223372036854775807 by omega),ag];rw [<- abO];cases Pw s m<;>rfl
  ·simp only [ko,zA,dG,cond_false]
 ·rfl
theorem Ih (s:ByteArray):Gv (fun N=>qm N s) (xk s):=.of 13 fun N a=>aeL ad s
theorem aeM {s:ByteArray} (h:xk s=true):dZ s ByteArray.empty=false:=by
 unfold xk at h;cases e:dZ s ByteArray.empty
 ·rfl
 ·rw [e] at h;cases h
section
variable {w:aq}
def Y4 (w:aq) (s:ByteArray):Int:=fi (fun k=>dZ (w.bu.getD k de.d).cl s) w.bu.length
def six (w:aq) (s:ByteArray):Int:=fi (fun k=>dZ (w.bm.getD k dj.d).cl s) w.bm.length
def O2 (w:aq) (s:ByteArray):Int:=fi (fun k=>dZ (w.ab.getD k bq.d).cl s) w.ab.length
theorem SE (h:Small w) (s:ByteArray):Gv (fun N=>qU N w s) (Y4 w s) :=
 (E2 (L:=fun N fuel=>j3 N w s fuel) ⟨0,fun N g m _ hm=>by
  have:=h.t;rw [j3,dec_lt hm,cond_true,if_pos (jy hm),aw ad];rfl⟩ fun N g=>by rw [j3,dG];rfl).diag
theorem SG (h:Small w) (s:ByteArray):Gv (fun N=>nv N w s) (six w s) :=
 (E2 (L:=fun N fuel=>gi N w s fuel) ⟨0,fun N g m _ hm=>by
  have:=h.s;rw [gi,dec_lt hm,cond_true,if_pos (jy hm),aw ad];rfl⟩ fun N g=>by rw [gi,dG];rfl).diag
theorem Ny (h:Small w) (s:ByteArray):Gv (fun N=>sV N w s) (O2 w s) :=
 (E2 (L:=fun N fuel=>kO N w s fuel) ⟨0,fun N g m _ hm=>by
  have:=h.i;rw [kO,dec_lt hm,cond_true,if_pos (jy hm),aw ad];rfl⟩ fun N g=>by rw [kO,dG];rfl).diag
abbrev tr (w:aq) (i:Nat):de:=w.bu.getD i de.d
abbrev sp (w:aq) (i:Nat):dj:=w.bm.getD i dj.d
abbrev FR (w:aq) (i:Nat):bq:=w.ab.getD i bq.d
theorem eT.two {α:Type} {z:α} {k:Nat->Nat->Option α} {P:Prop} {a b:Bool} {f:Nat->Option Bool} {c:α} (hc:c≠z) (d:Gv f b) (h:a=true->b=true->eT z k P):eT z (fun N g=>(_root_.cond (!(!a)) (f N) (some false)).bind fun b=>_root_.cond (_root_.cond (!a) true (!b)) (some c) (k N g)) P:=by
 cases a
 ·exact .err hc
 ·refine eT.bind d (.er hc fun e=>h rfl ?_);cases b
  ·cases e
  ·rfl
theorem Nz {a b:Int} (h:(a != b)=false):a=b:=by simpa using h
structure aoU (w:aq) (i:Nat):Prop where
 n:xk (tr w i).cl=true
 u:Y4 w (tr w i).cl=i
 c:ins (tr w i).jb 0 1000=true
 r:ins (tr w i).Qj 0 1000000=true
theorem SH (h:Small w):Ok 0 (fun N=>mv N w) (w.bu.length<=6/\∀ i,i < w.bu.length->aoU w i):=by
 unfold mv;refine eT.diag (f:=fun N g=>cond _ (some 8) (gu N w g 0)) (eT.er ak fun a=>?_);refine eT.imp (eT.loop (P:=aoU w) (Q:=True) (n:=w.bu.length) (fun i hi R k=>?_) (fun _=>eT.stop (fun N g=>gu.eq_2 ..) (eT.aeK trivial))) fun q=>⟨Y2 (k:=6) a,q.1⟩;have:=h.t;refine eT.go hi (fun N g=>gu.eq_2 ..) (eT.if (jy hi) (eT.bind (Ih _) (eT.er ak fun h1=>eT.bind (SE h _) (eT.er ak fun h2=>eT.bind (Gv.pure _) (eT.two ak (Gv.pure _) fun h3 h4=>?_)))));rw [aw ad];rw [ag] at h1 h2 h3 h4;exact k ⟨by simpa using h1,Nz h2,h3,h4⟩
structure aoV (w:aq) (i:Nat):Prop where
 n:xk (sp w i).cl=true
 u:six w (sp w i).cl=i
 x:∀ k,k < (sp w i).jg.length->0<=six w ((sp w i).jg.getD k ByteArray.empty)
structure alP (w:aq) (i:Nat):Prop where
 a:ins (w.bK.getD i dU.d).f_A 0 5=true
 b:ins (w.bK.getD i dU.d).f_B 0 5=true
 r:ins (w.bK.getD i dU.d).Kw 0 2=true
structure ajC (w:aq) (i:Nat):Prop where
 a:ins (w.cO.getD i iy.d).Gl 0 400=true
 b:ins (w.cO.getD i iy.d).X1 0 400=true
 r:decide ((w.cO.getD i iy.d).X1<=(w.cO.getD i iy.d).Gl)=false
theorem eT.three {α:Type} {z:α} {k:Nat->Nat->Option α} {P:Prop} {a b d:Bool} {f j:Nat->Option Bool} {c:α} (hc:c≠z) (l:Gv f b) (i:Gv j d) (h:a=true->b=true->d=true->eT z k P) :
  eT z (fun N g=>(_root_.cond (!(!a)) (f N) (some false)).bind fun b=>(_root_.cond (!(_root_.cond (!a) true (!b))) (j N) (some false)).bind fun d=>_root_.cond (_root_.cond (_root_.cond (!a) true (!b)) true (!d)) (some c) (k N g)) P:=by
 cases a
 ·exact .err hc
 ·refine eT.bind l ?_;cases b
  ·exact .err hc
  ·refine eT.bind i (.er hc fun e=>h rfl rfl ?_);cases d
   ·cases e
   ·rfl
theorem eT.four {α:Type} {z:α} {k:Nat->Nat->Option α} {P:Prop} {a b d e:Bool} {f l m:Nat->Option Bool} {c:α} (hc:c≠z) (n:Gv f b) (i:Gv l d) (j:Gv m e) (h:a=true->b=true->d=true->e=true->eT z k P) :
  eT z (fun N g=>(_root_.cond (!(!a)) (f N) (some false)).bind fun b=>(_root_.cond (!(_root_.cond (!a) true (!b))) (l N) (some false)).bind fun d=>(_root_.cond (!(_root_.cond (_root_.cond (!a) true (!b)) true (!d))) (m N) (some false)).bind fun e=>_root_.cond (_root_.cond (_root_.cond (_root_.cond (!a) true (!b)) true (!d)) true (!e)) (some c) (k N g)) P:=by
 cases a
 ·exact .err hc
 ·refine eT.bind n ?_;cases b
  ·exact .err hc
  ·refine eT.bind i ?_;cases d
   ·exact .err hc
   ·refine eT.bind j (.er hc fun q=>h rfl rfl rfl ?_);cases e
    ·cases q
    ·rfl
theorem eT.sub {α β:Type} {z:α} {L:Nat->Nat->(β->Option α)->Option α} {K:Nat->Nat->β->Option α} {b:β} {P Q:Prop} (h:(∃ c,c≠z/\Fv L fun _=>some c)\/P/\Fv L fun K=>K b) (h2:P->eT z (fun N g=>K N g b) Q):eT z (fun N g=>L N N (K N g)) Q:=by
 rcases h with ⟨c,hc,h⟩ | ⟨a,h⟩
 ·exact ⟨c,h.to ⟨0,fun _ _ _ _=>rfl⟩,fun e=>absurd e hc⟩
 ·obtain ⟨c,h3,h4⟩:=h2 a;exact ⟨c,h.to h3,h4⟩
theorem aoW (h:Small w) {i:Nat} (hi:i < w.bm.length):(∃ c:Int,c≠0/\Fv (fun N g K=>dw N w (i:Int) K g 0) fun _=>some c) \/
  (∀ k,k < (sp w i).jg.length->0<=six w ((sp w i).jg.getD k ByteArray.empty))/\Fv (fun N g K=>dw N w (i:Int) K g 0) fun K=>K ((i+1:Nat):Int):=by
 have o:(sp w i).jg.length<=20:=h.sn i hi;have:=h.s;have j:∃ a,∀ N s,a<=N->nv N w s=some (six w s):=⟨w.bm.length+1,fun N s b=>by
  refine ER (L:=fun fuel=>gi N w s fuel) _ _ ad (fun fuel m hm=>?_) (fun fuel=>?_)
  ·simp only [gi,dec_lt hm,cond_true,if_pos (jy hm),aw (show m < 9223372036854775807 by omega),ag];cases dZ (w.bm.getD m dj.d).cl s<;>rfl
  ·simp only [gi,dG,cond_false]⟩
 obtain ⟨a,j⟩:=j;have e:Fv (fun N g K=>dw N w (i:Int) K g 0) fun K=>scan (fun k=>cond (decide (six w ((sp w i).jg.getD k ByteArray.empty) < 0)) (some (some (6:Int))) none) (K ((i+1:Nat):Int)) (sp w i).jg.length 0:=by
  refine ⟨a+21,fun N m K b hm=>?_⟩;refine Yl (L:=fun fuel=>dw N w (i:Int) K fuel) _ _ ad (fun fuel k hk=>?_) (fun fuel=>?_)
  ·have l:k < (w.bm.getD i dj.d).jg.length:=hk;simp only [dw,ag,dec_lt l,cond_true,if_pos (jy l),aw (show k < 9223372036854775807 by omega),j N _ ad,dc];cases decide (six w ((sp w i).jg.getD k ByteArray.empty) < 0)<;>rfl
  ·simp only [dw,ag,dG,cond_false,aw (show i < 9223372036854775807 by omega)]
 by_cases q:∀ k,k < (sp w i).jg.length->0<=six w ((sp w i).jg.getD k ByteArray.empty)
 ·right;refine ⟨q,?_⟩;obtain ⟨a,e⟩:=e;refine ⟨a,fun N m K b hm=>(e N m K b hm).trans (Yk _ _ fun k _ hk=>?_)⟩;rw [decide_eq_false (by have:=q k ad;omega)];rfl
 ·left;refine ⟨6,ak,?_⟩;obtain ⟨a,e⟩:=e;refine ⟨a,fun N m K b hm=>(e N m K b hm).trans ?_⟩;rcases R4 (f:=fun k=>cond (decide (six w ((sp w i).jg.getD k ByteArray.empty) < 0)) (some (some (6:Int))) none) (z:=K ((i+1:Nat):Int)) (sp w i).jg.length 0 with ⟨k,r,_,_,h3,_,n⟩ | ⟨h1,_⟩
  ·refine n.trans ?_;cases d:decide (six w ((sp w i).jg.getD k ByteArray.empty) < 0)
   ·rw [d] at h3;cases h3
   ·rw [d] at h3;cases h3;rfl
  ·exfalso;refine q fun k hk=>?_;have:=h1 k (Nat.zero_le _) ad;cases d:decide (six w ((sp w i).jg.getD k ByteArray.empty) < 0)
   ·simpa using d
   ·rw [d] at this;cases this
theorem SI (h:Small w):Ok 0 (fun N=>mw N w) (w.bm.length<=12/\(∀ i,i < w.bm.length->aoV w i)/\w.bK.length<=30/\(∀ i,i < w.bK.length->alP w i)/\w.cO.length<=20/\∀ i,i < w.cO.length->ajC w i):=by
 have:=h.s;have:=h.e;have:=h.o;unfold mw;refine eT.diag (f:=fun N g=>cond _ (some 8) (fF N w g 0)) (eT.er ak fun a=>?_);refine eT.imp (eT.loop (P:=aoV w) (Q:=w.bK.length<=30/\(∀ i,i < w.bK.length->alP w i)/\w.cO.length<=20/\∀ i,i < w.cO.length->ajC w i) (n:=w.bm.length) (fun i hi R k=>?_) (fun _=>eT.stop (fun N g=>fF.eq_2 ..) (eT.er ak fun b=>eT.one (eT.diag (f:=fun N g=>gz N w g 0) ?_)))) fun q=>⟨Y2 (k:=12) a,q.1,q.2⟩
 ·refine eT.go hi (fun N g=>fF.eq_2 ..) (eT.if (jy hi) (eT.bind (Ih _) (eT.er ak fun h1=>eT.bind (SG h _) (eT.er ak fun h2=>?_))));rw [ag] at h1 h2;exact eT.sub (L:=fun N g K=>dw N w (i:Int) K g 0) (K:=fun N g=>fF N w g) (aoW h hi) fun h3=>k ⟨by simpa using h1,Nz h2,h3⟩
 refine eT.imp (eT.loop (P:=alP w) (Q:=w.cO.length<=20/\∀ i,i < w.cO.length->ajC w i) (n:=w.bK.length) (fun i hi R k=>?_) (fun _=>eT.stop (fun N g=>gz.eq_2 ..) (eT.er ak fun c=>eT.one (eT.diag (f:=fun N g=>gy N w g 0) ?_)))) fun q=>⟨Y2 (k:=30) b,q.1,q.2⟩
 ·refine eT.go hi (fun N g=>gz.eq_2 ..) (eT.if (jy hi) (eT.bind (Gv.pure _) (eT.three ak (Gv.pure _) (Gv.pure _) fun h1 h2 h3=>?_)));rw [aw ad];rw [ag] at h1 h2 h3;exact k ⟨h1,h2,h3⟩
 refine eT.imp (eT.loop (P:=ajC w) (Q:=True) (n:=w.cO.length) (fun i hi R k=>?_) (fun _=>eT.stop (fun N g=>gy.eq_2 ..) (eT.aeK trivial))) fun q=>⟨Y2 (k:=20) c,q.1⟩;refine eT.go hi (fun N g=>gy.eq_2 ..) (eT.if (jy hi) (eT.bind (Gv.pure _) (eT.two ak (Gv.pure _) fun h1 h2=>eT.er ak fun h3=>?_)));rw [aw ad];rw [ag] at h1 h2 h3;exact k ⟨h1,h2,h3⟩
end
end Go.Den
namespace Go.Den
open Go.Ab
theorem N8 {α:Type} {l:List α} {k:Nat} {d:α} (h:k < l.length):l.getD k d=l[k]:=by simp [h]
theorem gMp {α β:Type} {l:List α} {f:α->β} {k:Nat} {d:α} {e:β} (h:k < l.length):(l.map f).getD k e=f (l.getD k d):=by
 rw [N8 h,N8 (by rw [List.length_map];exact h),List.getElem_map]
section
variable {A:Nat->List Nat} {n:Nat} {o r:List Nat}
def Y5 (A:Nat->List Nat) (o:List Nat) (i:Nat):Bool:=cond (o.contains i) false ((A i).all o.contains)
def un (o:List Nat):Nat->Nat
 | 0=>0
 | n+1=>un o n+cond (o.contains n) 0 1
theorem adA {i:Nat} (h:i ∉ o):∀ n,un o n=un (o ++ [i]) n+if i < n then 1 else 0
 | 0=>by simp [un]
 | n+1=>by
  have:=adA h n;unfold un
  by_cases e:n=i
  ·subst e;have h1:o.contains n=false:=by simpa using h
   have h2:(o ++ [n]).contains n=true:=ao;rw [h1,h2,cond_true,cond_false,if_pos ad];rw [if_neg ad] at this;omega
  ·have h1:(o ++ [i]).contains n=o.contains n:=by
    rw [Bool.eq_iff_iff];simp [e]
   rw [h1,this]
   by_cases q:i < n
   ·rw [if_pos q,if_pos ad];omega
   ·rw [if_neg q,if_neg ad];omega
theorem ajD:∀ n,un [] n=n
 | 0=>rfl
 | n+1=>by unfold un;rw [ajD n];rfl
theorem adB:∀ {n},un o n=0->∀ i,i < n->i∈o
 | 0,_,i,hi=>absurd hi (dX _)
 | n+1,h,i,hi=>by
  unfold un at h
  by_cases e:i=n
  ·subst e;cases q:o.contains i
   ·rw [q] at h;simp at h
   ·simpa using q
  ·exact adB (n:=n) ad i ad
inductive Tp (A:Nat->List Nat) (n:Nat):List Nat->Prop where
 | nil:Tp A n []
 | snoc {o:List Nat} {i:Nat}:Tp A n o->i < n->i ∉ o->(∀ y∈A i,y∈o)->Tp A n (o ++ [i])
theorem Tp.un (h:Tp A n o):un o n+o.length=n:=by
 induction h with
 | nil=>rw [ajD];rfl
 | snoc _ h1 h2 _ a=>have:=adA h2 n;rw [if_pos h1] at this;rw [oi,List.length_singleton];omega
theorem Tp.lt (h:Tp A n o):∀ x∈o,x < n:=by
 induction h with
 | nil=>simp
 | snoc _ h1 _ _ a=>intro x hx;simp only [List.mem_append,List.mem_singleton] at hx;rcases hx with h | rfl<;>simp_all
theorem Tp.cut (h:Tp A n o):∀ {p s:List Nat} {x:Nat},o=p ++ x :: s->Tp A n p/\x < n/\x ∉ p/\∀ y∈A x,y∈p:=by
 induction h with
 | nil=>intro p s x e;simp at e
 | @snoc o i h0 h1 h2 h3 a =>
  intro p s x e;rcases List.eq_nil_or_concat s with rfl | ⟨L,b,rfl⟩
  ·obtain ⟨c,d⟩:=List.append_inj' e rfl;cases d;subst c;exact ⟨h0,h1,h2,h3⟩
  ·have f:o ++ [i]=(p ++ x :: L) ++ [b]:=by rw [e];simp
   exact a (List.append_inj' f rfl).1
inductive Ord (A:Nat->List Nat) (n:Nat):List Nat->List Nat->Prop where
 | stop {o:List Nat}:fi (Y5 A o) n = -1->Ord A n o o
 | step {o r:List Nat} {i:Nat}:fi (Y5 A o) n=(i:Int)->Ord A n (o ++ [i]) r->Ord A n o r
theorem alR {i:Nat}:Y5 A o i=true↔i ∉ o/\∀ y∈A i,y∈o:=by
 unfold Y5;cases h:o.contains i<;>simp_all
theorem Tp.next {i:Nat} (h:Tp A n o) (hi:fi (Y5 A o) n=(i:Int)):Tp A n (o ++ [i]):=by
 obtain ⟨h1,h2,_⟩:=amT hi;obtain ⟨h3,h4⟩:=alR.1 h2;exact .snoc h h1 h3 h4
theorem Ord.ex:∀ (k:Nat) {o:List Nat},Tp A n o->un o n<=k->∃ r,Ord A n o r/\Tp A n r
 | k,o,h,hk=>by
  rcases wz (Y5 A o) n with ⟨i,_,_,_,h1⟩ | ⟨_,h1⟩
  ·have h2:=h.next h1;have:=h.un;have:=h2.un;rw [oi,List.length_singleton] at this;obtain ⟨k,rfl⟩:∃ k',k=k'+1:=⟨k - 1,ad⟩;obtain ⟨r,a,b⟩:=Ord.ex k h2 ad;exact ⟨r,.step h1 a,b⟩
  ·exact ⟨o,.stop h1,h⟩
end
section
variable {w:aq}
def tA (w:aq) (i:Nat):List Nat:=(FR w i).a9.map fun s=>(O2 w s).toNat
abbrev nm (w:aq) (i:Nat):ByteArray:=(FR w i).cl
structure Y6 (w:aq) (x:bq):Prop where
 t:0<=Y4 w x.eO
 m1:1<=x.aP.length
 m3:x.aP.length<=3
 m:∀ k,k < x.aP.length->ins (x.aP.getD k eV.d).fg 1 60=true/\ins (x.aP.getD k eV.d).jb 0 1000=true/\(x.aP.getD k eV.d).jb<=(tr w (Y4 w x.eO).toNat).jb
 s:dZ x.gn ByteArray.empty=false->0<=six w x.gn
 k:ins x.pQ (-1) 5=true
 ks:cond (x.pQ != (-1)) (dZ x.gn ByteArray.empty) false=false
 a:∀ k,k < x.a9.length->0<=O2 w (x.a9.getD k ByteArray.empty)/\dZ (x.a9.getD k ByteArray.empty) x.cl=false
structure nI (w:aq):Prop where
 n:∀ i,i < w.ab.length->xk (nm w i)=true
 u:∀ i,i < w.ab.length->O2 w (nm w i)=i
 k:∀ i,i < w.ab.length->Y6 w (FR w i)
 a:∀ i,i < w.ab.length->(FR w i).a9.length<=12
theorem WY {s:ByteArray} (h:0<=O2 w s):(O2 w s).toNat < w.ab.length/\((O2 w s).toNat:Int)=O2 w s/\nm w (O2 w s).toNat=s:=by
 rcases wz (fun k=>dZ (w.ab.getD k bq.d).cl s) w.ab.length with ⟨k,h1,h2,h3,h4⟩ | ⟨_,h4⟩
 ·have e:O2 w s=(k:Int):=h4;rw [e,Int.toNat_natCast];exact ⟨h1,rfl,vk.1 h2⟩
 ·have e:O2 w s = -1:=h4;omega
theorem nI.inj (h:nI w) {i j:Nat} (hi:i < w.ab.length) (hj:j < w.ab.length) (e:nm w i=nm w j):i=j:=by
 have h1:=h.u i hi;have h2:=h.u j hj;rw [e] at h1;omega
theorem wA (i:Nat):(tA w i).length=(FR w i).a9.length:=List.length_map _
theorem adC {i k:Nat} (hk:k < (FR w i).a9.length):(tA w i).getD k 0=(O2 w ((FR w i).a9.getD k ByteArray.empty)).toNat:=gMp hk
theorem alS {i:Nat} {p:Nat->Bool}:(tA w i).all p=(List.range (FR w i).a9.length).all fun k=>p (O2 w ((FR w i).a9.getD k ByteArray.empty)).toNat:=by
 unfold tA;rw [Bool.eq_iff_iff];simp only [List.all_map,List.all_eq_true,qh,Function.comp];constructor
 ·exact fun h k hk=>h _ (pU _ _ _ hk)
 ·intro h x hx;obtain ⟨k,hk,rfl⟩:=List.mem_iff_getElem.1 hx;have:=h k hk;rw [N8 hk] at this;exact this
theorem abP (h:nI w) {i y:Nat} (hi:i < w.ab.length) (a:y∈tA w i):y < w.ab.length:=by
 obtain ⟨s,b,rfl⟩:=List.mem_map.1 a;obtain ⟨k,hk,rfl⟩:=List.mem_iff_getElem.1 b;have:=((h.k i hi).a k hk).1;rw [N8 hk] at this;exact (WY this).1
def UC (w:aq) (o:List Nat):List ByteArray:=o.map (nm w)
theorem Y7 (h:nI w) {o:List Nat} (b:∀ x∈o,x < w.ab.length) (f:o.length<=100) {i:Nat} (hi:i < w.ab.length):Gv (fun N=>uY N (UC w o) (nm w i)) (o.contains i):=by
 refine Gv.eq (aoT (L:=fun N fuel=>lX N (UC w o) (nm w i) fuel) (p:=fun k=>dZ ((UC w o).getD k ByteArray.empty) (nm w i)) (n:=(UC w o).length) (fun N g m hm=>?_) fun N g=>by rw [lX,dG];rfl).diag ?_
 ·have:(UC w o).length=o.length:=List.length_map _;rw [lX,dec_lt hm,cond_true,if_pos (jy hm),aw ad];rfl
 ·rw [Bool.eq_iff_iff,decide_eq_true_iff,adx,List.contains_iff_mem];have j:(UC w o).length=o.length:=List.length_map _;constructor
  ·rintro ⟨k,hk,e⟩;have a:k < o.length:=ad;have e:=vk.1 e;have c:(UC w o).getD k ByteArray.empty=nm w o[k]:=by rw [<- N8 (d:=0) a];exact gMp a
   rw [c] at e;rw [<- h.inj (b _ (List.getElem_mem a)) hi e];exact List.getElem_mem a
  ·intro hm;obtain ⟨k,hk,rfl⟩:=List.mem_iff_getElem.1 hm;refine ⟨k,ad,vk.2 ?_⟩;rw [<- N8 (d:=0) hk];exact gMp hk
theorem Y8 (h:nI w) {o:List Nat} (c:∀ x∈o,x < w.ab.length) (f:o.length<=100) {i:Nat} (hi:i < w.ab.length) (l:w.ab.length<=45) {v:Int}:∀ d k (q:Bool),k+d=(FR w i).a9.length ->
  Fv (fun N g (K:(Int->Int->Option (List ByteArray))×(List ByteArray->Option (List ByteArray)))=>lY N w (UC w o) v (i:Int) K.1 K.2 g q (k:Int))
   fun K=>K.1 (cond (cond q ((List.range d).all fun t=>o.contains (O2 w ((FR w i).a9.getD (k+t) ByteArray.empty)).toNat) false) (i:Int) v) ((i+1:Nat):Int)
 | 0,k,q,hk=>by
  have:k=(FR w i).a9.length:=ad;subst this;refine Fv.succ (fun N g K=>lY.eq_2 ..) (Fv.if (jy hi) (Fv.a5 dG ⟨0,fun N m K _ _=>?_⟩));rw [List.range_zero,List.all_nil];cases q<;>(simp only [cond_true,cond_false];unfold rY;rw [aw ad])
 | d+1,k,q,hk=>by
  have j:k < (FR w i).a9.length:=ad;have n:=h.a i hi;have a:k < ((w.ab.getD ((i:Int)).toNat bq.d).a9).length:=j;obtain ⟨p,y,r⟩:=WY ((h.k i hi).a k j).1;have b:=Y8 h c f hi l (v:=v) d (k+1) (cond q (o.contains (O2 w ((FR w i).a9.getD k ByteArray.empty)).toNat) false) ad;have hb:Gv (fun N=>cond q (uY N (UC w o) ((w.ab.getD ((i:Int)).toNat bq.d).a9.getD ((k:Int)).toNat ByteArray.empty)) (some false)) (cond q (o.contains (O2 w ((FR w i).a9.getD k ByteArray.empty)).toNat) false):=by
   cases q
   ·exact Gv.pure _
   ·have:=Y7 h c f p;rw [r] at this;exact this
  refine Fv.succ (fun N g K=>lY.eq_2 ..) (Fv.if (jy hi) (Fv.aW (dec_lt a) (Fv.if (fun _=>jy hi) (Fv.if (fun _=>jy a) (Fv.bind hb ?_)))));rw [aw ad];obtain ⟨s,b⟩:=b;refine ⟨s,fun N m K u hm=>?_⟩;have:=b N m K u hm;dsimp only at this ⊢;cases q
  ·simpa using this
  ·simp only [cond_true] at this ⊢;rw [this,List.range_succ_eq_map];simp only [List.all_cons,List.all_map,Nat.add_zero];have e:(fun t=>o.contains (O2 w ((FR w i).a9.getD (k+1+t) ByteArray.empty)).toNat)=(fun t=>o.contains (O2 w ((FR w i).a9.getD (k+t) ByteArray.empty)).toNat) ∘ Nat.succ:=by
    funext t;simp only [Function.comp];rw [show k+1+t=k+t.succ by omega]
   rw [<- e];cases o.contains (O2 w ((FR w i).a9.getD k ByteArray.empty)).toNat<;>rfl
end
end Go.Den
namespace Go.Den
open Go.Ab
theorem nft {a:Bool} (h:(!a)=false):a=true:=by cases a<;>simp_all
section
variable {w:aq} {o r:List Nat}
theorem aoX (i:Nat):cond (!(o.contains i)) ((List.range (FR w i).a9.length).all fun t=>o.contains (O2 w ((FR w i).a9.getD (0+t) ByteArray.empty)).toNat) false=Y5 (tA w) o i:=by
 unfold Y5;rw [alS];simp only [Nat.zero_add];cases o.contains i<;>rfl
theorem SJ (h:nI w) (c:∀ x∈o,x < w.ab.length) (f:o.length<=100) (k:w.ab.length<=45):∀ d i,i+d=w.ab.length->(∀ j,j < i->Y5 (tA w) o j=false) ->
  Fv (fun N g K=>iR N w (UC w o) K g (-1) (i:Int)) fun K=>if fi (Y5 (tA w) o) w.ab.length < 0 then some (UC w o) else K (UC w (o ++ [(fi (Y5 (tA w) o) w.ab.length).toNat]))
 | 0,i,hi,hj=>by
  have:i=w.ab.length:=ad;subst this;rw [Lf hj];exact Fv.succ (fun N g K=>iR.eq_2 ..) (Fv.a5 (by rw [dG];rfl) (Fv.aW rfl (Fv.pure _)))
 | d+1,i,hi,hj=>by
  have a:i < w.ab.length:=ad;have h3:=Y8 h c f a k (v:=-1) (FR w i).a9.length 0 (!(o.contains i)) ad;rw [aoX] at h3;have n:(UC w o).length=o.length:=List.length_map _;refine Fv.succ (fun N g K=>iR.eq_2 ..) (Fv.aW (by rw [dec_lt a];rfl) (Fv.if (jy a) (Fv.bind (Y7 h c f a) ?_)));obtain ⟨l,h3⟩:=h3;cases b:Y5 (tA w) o i with
  | false =>
   obtain ⟨p,q⟩:=SJ h c f k d (i+1) ad fun j u=>by
    by_cases e:j=i
    ·subst e;exact b
    ·exact hj j ad
   refine ⟨l+p,fun N m K r hm=>?_⟩;have:=h3 N N (iR N w (UC w o) K m,K) ad ad;rw [b] at this;exact this.trans (q N m K ad ad)
  | true =>
   have s:fi (Y5 (tA w) o) w.ab.length=(i:Int):=SD a b hj;refine ⟨l+1,fun N m K r hm=>?_⟩;have:=h3 N N (iR N w (UC w o) K m,K) ad ad;rw [b] at this;refine this.trans ?_;obtain ⟨m,rfl⟩:∃ t,m=t+1:=⟨m - 1,ad⟩;rw [s];dsimp only;rw [iR,cond_true,show decide ((i:Int) < 0)=false by simp,show cond (decide (((i+1:Nat):Int) < (w.ab.length:Int))) false false=false by cases decide (((i+1:Nat):Int) < (w.ab.length:Int))<;>rfl,cond_false,cond_false,if_pos (jy a),if_pos (by rw [n];omega),if_neg ad];unfold UC;rw [HC];rfl
theorem ajE (h:nI w) (b:w.ab.length<=45) (c:Ord (tA w) w.ab.length o r) (a:Tp (tA w) w.ab.length o):aL (fun N g=>jD N w g (UC w o)) (UC w r):=by
 induction c with
 | stop h1 =>
  have:=a.un;have h2:=SJ h a.lt ad b w.ab.length 0 ad fun j hj=>absurd hj (dX _);rw [h1] at h2;exact aL.succ (fun N g=>jD.eq_2 ..) (h2.to (K:=fun N g=>jD N w g) ⟨0,fun _ _ _ _=>rfl⟩)
 | @step o r i h1 _ d =>
  have:=a.un;have h2:=SJ h a.lt ad b w.ab.length 0 ad fun j hj=>absurd hj (dX _);rw [h1] at h2;refine aL.succ (fun N g=>jD.eq_2 ..) (h2.to (K:=fun N g=>jD N w g) ?_);simp only [if_neg (show ¬ ((i:Int) < 0) by omega)];exact d (a.next h1)
theorem SK (w:aq):∃ r,Ord (tA w) w.ab.length [] r/\Tp (tA w) w.ab.length r:=Ord.ex _ .nil (aV _)
theorem WZ (h:Small w) {x:bq} (t:x.aP.length<=6) (o:x.a9.length<=12):Ok 0 (fun N=>qJ N w x) (Y6 w x):=by
 unfold qJ;refine eT.diag (f:=fun N g=>(qU N w x.eO).bind fun j=>cond (decide (j < 0)) (some 6) (cond (cond (decide ((x.aP.length:Int) < 1)) true (decide ((x.aP.length:Int) > 3))) (some 2) (iQ N w x j g 0)))
  (eT.bind (SE h _) (eT.er ak fun h1=>eT.er ak fun h2=>?_))
 have h1:0<=Y4 w x.eO:=by simpa using h1
 obtain ⟨h2,h3⟩:=orF h2;have h2:1<=x.aP.length:=by simp at h2;omega
 have h3:=Y2 (k:=3) h3;have l:(Y4 w x.eO).toNat < w.bu.length/\((Y4 w x.eO).toNat:Int)=Y4 w x.eO:=by
  rcases wz (fun k=>dZ (w.bu.getD k de.d).cl x.eO) w.bu.length with ⟨k,a,_,_,b⟩ | ⟨_,b⟩
  ·have e:Y4 w x.eO=(k:Int):=b;rw [e];exact ⟨by simpa using a,rfl⟩
  ·have e:Y4 w x.eO = -1:=b;omega
 refine eT.imp (eT.loop (P:=fun k=>ins (x.aP.getD k eV.d).fg 1 60=true/\ins (x.aP.getD k eV.d).jb 0 1000=true/\(x.aP.getD k eV.d).jb<=(tr w (Y4 w x.eO).toNat).jb)
  (Q:=(dZ x.gn ByteArray.empty=false->0<=six w x.gn)/\ins x.pQ (-1) 5=true/\cond (x.pQ != (-1)) (dZ x.gn ByteArray.empty) false=false/\∀ k,k < x.a9.length->0<=O2 w (x.a9.getD k ByteArray.empty)/\dZ (x.a9.getD k ByteArray.empty) x.cl=false)
  (n:=x.aP.length) (fun i hi R k=>?_) fun _=>eT.stop (fun N g=>iQ.eq_2 ..) ?_) fun q=>⟨h1,h2,h3,q.1,q.2.1,q.2.2.1,q.2.2.2.1,q.2.2.2.2⟩
 ·refine eT.go hi (fun N g=>iQ.eq_2 ..) (eT.if (jy hi) (eT.bind (Gv.pure _) (eT.two ak (Gv.pure _) fun a c=>eT.if ⟨h1,by rw [<- l.2];exact Int.ofNat_lt.2 l.1⟩ (eT.er ak fun d=>?_))));rw [aw ad];rw [ag] at a c d;exact k ⟨a,c,by simpa using d⟩
 ·have p:∃ v,Gv (fun N=>cond (!(dZ x.gn ByteArray.empty)) (nv N w x.gn) (some 0)) v/\(dZ x.gn ByteArray.empty=false->v=six w x.gn):=by
   cases dZ x.gn ByteArray.empty
   ·exact ⟨_,SG h _,fun _=>rfl⟩
   ·exact ⟨0,Gv.pure _,fun e=>by cases e⟩
  obtain ⟨v,r,s⟩:=p;refine eT.bind r (eT.er ak fun a=>eT.bind (Gv.pure _) (eT.er ak fun c=>eT.er ak fun d=>eT.one (eT.diag (f:=fun N g=>iP N w x g 0) ?_)));refine eT.imp (eT.loop (P:=fun k=>0<=O2 w (x.a9.getD k ByteArray.empty)/\dZ (x.a9.getD k ByteArray.empty) x.cl=false) (Q:=True) (n:=x.a9.length) (fun i hi R k=>?_) fun _=>eT.stop (fun N g=>iP.eq_2 ..) (eT.aeK trivial))
   fun q=>⟨fun e=>?_,nft c,d,q.1⟩
  ·refine eT.go hi (fun N g=>iP.eq_2 ..) (eT.if (jy hi) (eT.bind (Ny h _) (eT.er ak fun b=>eT.er ak fun m=>?_)));rw [aw ad];rw [ag] at b m;exact k ⟨by simpa using b,m⟩
  ·rw [e,s e] at a;simpa using a
structure Tw (w:aq):Prop where
 t:w.bu.length<=6
 tr:∀ i,i < w.bu.length->aoU w i
 s:w.bm.length<=12
 sp:∀ i,i < w.bm.length->aoV w i
 e:w.bK.length<=30
 ex:∀ i,i < w.bK.length->alP w i
 o:w.cO.length<=20
 ou:∀ i,i < w.cO.length->ajC w i
 i:w.ab.length<=40
 its:nI w
 h1:ins w.L4 0 1000000000=true
 h2:ins w.L5 0 1000000000=true
 h3:ins w.Ua 0 400=true
 h4:ins w.L6 0 400=true
 ord:∀ r,Ord (tA w) w.ab.length [] r->w.ab.length<=r.length
theorem Ord.det {A:Nat->List Nat} {n:Nat} {o r a:List Nat} (h:Ord A n o r) (b:Ord A n o a):r=a:=by
 induction h with
 | stop h1 =>
  cases b with
  | stop _=>rfl
  | step h2 _=>omega
 | step h1 _ c =>
  cases b with
  | stop h2=>omega
  | step h2 h3 =>
   have:_=_:=Int.ofNat.inj (h1.symm.trans h2);subst this;exact c h3
theorem W2 (h:Small w):Ok 0 (fun N=>qK N w) (Tw w):=by
 have o:=h.i;unfold qK;refine eT.diag (f:=fun N g=>(mv N w).bind fun r=>cond (r != 0) (some r) ((mw N w).bind fun r=>cond (r != 0) (some r) (cond (decide ((w.ab.length:Int) > 40)) (some 8) (iS N w g 0))))
  (eT.call (SH h) fun j=>eT.call (SI h) fun p=>eT.er ak fun c=>?_)
 obtain ⟨s,t,u,v,x,y⟩:=p;refine eT.imp (eT.loop (P:=fun i=>xk (nm w i)=true/\O2 w (nm w i)=i/\Y6 w (FR w i)) (Q:=nI w/\ins w.L4 0 1000000000=true/\ins w.L5 0 1000000000=true/\ins w.Ua 0 400=true/\ins w.L6 0 400=true/\∀ r,Ord (tA w) w.ab.length [] r->w.ab.length<=r.length)
  (n:=w.ab.length) (fun i hi R k=>?_) fun d=>eT.stop (fun N g=>iS.eq_2 ..) ?_) fun q=>⟨j.1,j.2,s,t,u,v,x,y,Y2 (k:=40) c,q.2.1,q.2.2.1,q.2.2.2.1,q.2.2.2.2.1,q.2.2.2.2.2.1,q.2.2.2.2.2.2⟩
 ·refine eT.go hi (fun N g=>iS.eq_2 ..) (eT.if (jy hi) (eT.bind (Ih _) (eT.er ak fun a=>eT.bind (Ny h _) (eT.er ak fun b=>eT.call (WZ h ((h.im i hi).1) ((h.im i hi).2)) fun e=>?_))));rw [aw ad];rw [ag] at a b;exact k ⟨nft a,Nz b,e⟩
 ·have hi:nI w:=⟨fun i hi=>(d i hi).1,fun i hi=>(d i hi).2.1,fun i hi=>(d i hi).2.2,fun i hi=>(h.im i hi).2⟩;obtain ⟨r,l,_⟩:=SK w;have z:Gv (fun N=>Bm N w) (UC w r):=(ajE hi o l .nil).diag;refine eT.bind (Gv.pure _) (eT.four ak (Gv.pure _) (Gv.pure _) (Gv.pure _) fun a b e A=>eT.bind z (eT.er ak fun m=>eT.aeK ⟨hi,a,b,e,A,fun D B=>?_⟩));have C:(UC w r).length=r.length:=List.length_map _;rw [C] at m;rw [B.det l];simpa using m
end
end Go.Den
namespace Go.Den
open Go.Ab
theorem Gv.aq2 {α:Type} {f:Nat->Nat->Option α} {r:Nat->α}:∀ {n:Nat},(∀ m,m < n->Gv (fun N=>f N m) (r m))->∃ a,∀ N m,a<=N->m < n->f N m=some (r m)
 | 0,_=>⟨0,fun N m _ h=>absurd h (dX _)⟩
 | n+1,h=>by
  obtain ⟨a,h0⟩:=Gv.aq2 (n:=n) fun m hm=>h m ad;obtain ⟨b,h1⟩:=h n ad;refine ⟨a+b,fun N m c hm=>?_⟩
  by_cases e:m=n
  ·subst e;exact h1 N ad
  ·exact h0 N m ad ad
theorem Hx {L:Nat->Nat->Int->Option Int} {q:Nat->Nat->Option Bool} {p:Nat->Bool} {n:Nat} (a:∀ m,m < n->Gv (fun N=>q N m) (p m)) (c:∀ N g m,m < n->L N (g+1) (m:Int)=(q N m).bind fun b=>cond b (some (m:Int)) (L N g ((m+1:Nat):Int))) (he:∀ N g,L N (g+1) (n:Int)=some (-1)) :
  aL (fun N g=>L N g 0) (fi p n):=by
 obtain ⟨d,h⟩:=Gv.aq2 a;exact E2 ⟨d,fun N g m e hm=>by rw [c N g m hm,h N m e hm];rfl⟩ he
theorem abQ {α:Type} {L:Nat->Nat->List ByteArray->Int->Option (List ByteArray)} {l:List α} {f:α->ByteArray} {d:α} (a:∀ N g m (out:List ByteArray),m < l.length->out.length=m->L N (g+1) out (m:Int)=L N g (out ++ [f (l.getD m d)]) ((m+1:Nat):Int))
  (he:∀ N g (out:List ByteArray),L N (g+1) out (l.length:Int)=some out):aL (fun N g=>L N g [] 0) (l.map f):=by
 have key:∀ k m,m+k=l.length->aL (fun N g=>L N g ((l.take m).map f) (m:Int)) (l.map f):=fun k=>by
  induction k with
  | zero =>
   intro m hm;have:m=l.length:=ad;subst this;rw [List.take_length];exact aL.succ (fun N g=>he N g _) ⟨0,fun _ _ _ _=>rfl⟩
  | succ k b =>
   intro m hm;have:=b (m+1) ad;rw [List.take_succ_eq_append_getElem ad,HC] at this;refine aL.succ (fun N g=>a N g m _ ad (by rw [List.length_map,qg];omega)) ?_;rw [N8 ad];exact this
 have:=key l.length 0 ad;rwa [List.take_zero,List.map_nil] at this
theorem UD (N:Nat) (s:ByteArray):∀ (g:Nat) (x:Int),iT N s g x=ko N s g x
 | 0,_=>rfl
 | g+1,x=>by unfold iT ko;rw [UD N s g]
theorem aeN (s:ByteArray):Gv (fun N=>jn N s) (xk s):=(Ih s).congr fun N=>by unfold jn qm;rw [UD]
theorem Y9 {l:List ByteArray} (h:l.length<=100) (v:ByteArray):Gv (fun N=>eC N l v) (fi (fun k=>dZ v (l.getD k ByteArray.empty)) l.length) :=
 (E2 (L:=fun N fuel=>cA N l v fuel) ⟨0,fun N g m _ hm=>by
  rw [cA,dec_lt hm,cond_true,if_pos (jy hm),aw ad];rfl⟩ fun N g=>by rw [cA,dG];rfl).diag
theorem Za {l:List ByteArray} (h:l.length<=100) (v:ByteArray):Gv (fun N=>a6 N l v) (decide (fi (fun k=>dZ v (l.getD k ByteArray.empty)) l.length>=0)):=(Y9 h v).bind (Gv.pure _)
theorem NA {α:Type} {l:List α} {f:α->ByteArray} {d:α} (h:l.length<=100) (v:ByteArray):Gv (fun N=>eC N (l.map f) v) (fi (fun k=>dZ (f (l.getD k d)) v) l.length):=by
 refine (Y9 (by rw [List.length_map];exact h) v).eq ?_;rw [List.length_map];exact Y1 fun i hi=>by rw [gMp hi,R3]
theorem Hy {α:Type} {l:List α} {f:α->ByteArray} {d:α} (h:l.length<=100) (v:ByteArray) (hi:0<=fi (fun k=>dZ (f (l.getD k d)) v) l.length):Gv (fun N=>a6 N (l.map f) v) true:=(NA h v).bind ((Gv.pure _).eq (decide_eq_true hi))
theorem SL {names:List ByteArray} {own:Nat->Int->Option Int} {L:Nat->Nat->Int->Option Int} (d:names.length<=100) (a:∀ i,i < names.length->xk (names.getD i ByteArray.empty)=true)
  (hu:∀ i,i < names.length->∀ j,j < i->dZ (names.getD i ByteArray.empty) (names.getD j ByteArray.empty)=false) (b:∀ i,i < names.length->Gv (fun N=>own N (i:Int)) 0)
  (e:∀ N g x,L N (g+1) x=cond (decide (x < (names.length:Int))) (if 0<=x/\x < (names.length:Int) then (jn N (names.getD x.toNat ByteArray.empty)).bind fun r=>cond (!r) (some 4) (if 0<=x.toNat/\x.toNat<=names.length then if 0<=x then
   (a6 N ((names.take x.toNat).drop 0) (names.getD x.toNat ByteArray.empty)).bind fun c=>cond c (some 5) ((own N x).bind fun q=>cond (q != 0) (some q) (L N g (aR (x+1)))) else none else none) else none) (some 0)):Gv (fun N=>L N N 0) 0:=by
 refine (aL.rounds (n:=names.length) (fun i hi k=>?_) (aL.stop (fun N g=>e N g _) ⟨0,fun _ _ _ _=>rfl⟩)).diag;have h1:=aeN (names.getD i ByteArray.empty);rw [a i hi] at h1;have h2:Gv (fun N=>a6 N ((names.take i).drop 0) (names.getD i ByteArray.empty)) false:=by
  have hk:((names.take i).drop 0).length=i:=by rw [Bf,qg];omega
  refine (Za ad _).eq ?_;rw [hk,Lf fun j hj=>by rw [aev _ _ _ _ hj];exact hu i hi j hj];rfl
 refine aL.go hi (fun N g=>e N g _) (aL.if (jy hi) ?_);rw [ag,aw ad];exact aL.bind h1 (aL.a5 rfl (aL.if ⟨Nat.zero_le _,ad⟩ (aL.if ad (aL.bind h2 (aL.a5 rfl (aL.bind (b i hi) (aL.a5 rfl k)))))))
theorem J1 {α:Type} {l:List α} {f:α->ByteArray} {d:α} (h:∀ i,i < l.length->xk (f (l.getD i d))=true/\fi (fun k=>dZ (f (l.getD k d)) (f (l.getD i d))) l.length=i) :
  (∀ i,i < (l.map f).length->xk ((l.map f).getD i ByteArray.empty)=true)/\∀ i,i < (l.map f).length->∀ j,j < i->dZ ((l.map f).getD i ByteArray.empty) ((l.map f).getD j ByteArray.empty)=false:=by
 rw [List.length_map];refine ⟨fun i hi=>by rw [gMp hi];exact (h i hi).1,fun i hi j hj=>?_⟩;rw [gMp (d:=d) hi,gMp (d:=d) ad,R3];exact (amT (h i hi).2).2.2 j hj
section
variable {w:aq}
abbrev tNs (w:aq):=w.bu.map fun x=>x.cl
abbrev sNs (w:aq):=w.bm.map fun x=>x.cl
abbrev iNs (w:aq):=w.ab.map fun x=>x.cl
theorem kU {n m:Int} (h:ins n 0 m=true):Gv (fun N=>dm N n m) true:=h ▸ Gv.pure _
theorem IL (h:Small w):Gv (fun N=>lh N w) (tNs w):=by
 have:=h.t;exact (abQ (L:=fun N fuel=>eE N w.bu fuel) (d:=de.d) (fun N g m out hm a=>by rw [eE,dec_lt hm,cond_true,if_pos (jy hm),my,dc,if_pos ad,aw ad];rfl)
  fun N g out=>by rw [eE,dG];rfl).diag.ady
theorem IM (h:Small w):Gv (fun N=>jw N w) (sNs w):=by
 have:=h.s;exact (abQ (L:=fun N fuel=>eF N w.bm fuel) (d:=dj.d) (fun N g m out hm a=>by rw [eF,dec_lt hm,cond_true,if_pos (jy hm),mz,dc,if_pos ad,aw ad];rfl)
  fun N g out=>by rw [eF,dG];rfl).diag.ady
theorem Lh (h:Small w):Gv (fun N=>l5 N w) (iNs w):=by
 have:=h.i;exact (abQ (L:=fun N fuel=>eY N w.ab fuel) (d:=bq.d) (fun N g m out hm a=>by rw [eY,dec_lt hm,cond_true,if_pos (jy hm),m8,dc,if_pos ad,aw ad];rfl)
  fun N g out=>by rw [eY,dG];rfl).diag.ady
theorem aeO (k:Tw w):Gv (fun N=>sW N (tNs w) 6 w) 0:=by
 have:=k.t;obtain ⟨h1,h2⟩:=J1 (l:=w.bu) (f:=fun x=>x.cl) (d:=de.d) fun i hi=>⟨(k.tr i hi).n,(k.tr i hi).u⟩;have a:(tNs w).length=w.bu.length:=List.length_map _;refine Gv.a5 (decide_eq_false ad) (SL (names:=tNs w) (own:=fun N x=>m5 N x w) (L:=fun N g=>ji N (tNs w) w g) ad h1 h2 (fun i hi=>?_) fun N g x=>ji.eq_2 ..);rw [a] at hi;refine Gv.if (jy hi) ?_;rw [ag];exact (kU (k.tr i hi).c).bind (Gv.if (fun _=>jy hi) (Gv.bind (Gv.aW rfl (kU (k.tr i hi).r)) (Gv.pure _)))
theorem aeP (h:Small w) (k:Tw w):Gv (fun N=>pJ N (sNs w) 12 w (sNs w)) 0:=by
 have:=k.s;obtain ⟨h1,h2⟩:=J1 (l:=w.bm) (f:=fun x=>x.cl) (d:=dj.d) fun i hi=>⟨(k.sp i hi).n,(k.sp i hi).u⟩;have a:(sNs w).length=w.bm.length:=List.length_map _;refine Gv.a5 (decide_eq_false ad) (SL (names:=sNs w) (own:=fun N x=>m7 N x w (sNs w)) (L:=fun N g=>gQ N (sNs w) w (sNs w) g) ad h1 h2 (fun i hi=>?_) fun N g x=>gQ.eq_2 ..);rw [a] at hi;have b:=h.sn i hi;refine Gv.if (jy hi) ?_;rw [ag];have c:Gv (fun N=>iz N (w.bm.getD i dj.d).jg (sNs w)) (-1):=by
  refine Gv.eq (Hx (L:=fun N g=>bX N (w.bm.getD i dj.d).jg (sNs w) g) (q:=fun N m=>lC N ((w.bm.getD i dj.d).jg.getD m ByteArray.empty) (sNs w)) (p:=fun _=>false) (n:=(w.bm.getD i dj.d).jg.length)
   (fun m hm=>?_) (fun N g m hm=>by rw [bX,dec_lt hm,cond_true,if_pos (jy hm),aw ad];rfl) fun N g=>by rw [bX,dG];rfl).diag (Lf fun _ _=>rfl)
  exact (Hy ad _ ((k.sp i hi).x m hm)).bind (Gv.pure _)
 exact Gv.bind (c.bind (Gv.pure _)) (Gv.pure _)
theorem ajG (k:Tw w):Gv (fun N=>pK N w) 0:=by
 have:=k.e;have:=k.o;refine Gv.a5 (decide_eq_false ad) (aL.rounds (L:=fun N g=>fI N w g) (n:=w.bK.length) (fun i hi q=>?_) (aL.stop (fun N g=>fI.eq_2 ..) (aL.a5 (decide_eq_false ad) (aL.one (aL.rounds (L:=fun N g=>fH N w g) (n:=w.cO.length) (fun i hi q=>?_) (aL.stop (fun N g=>fH.eq_2 ..) ⟨0,fun _ _ _ _=>rfl⟩)).diag)))).diag
 ·refine aL.go hi (fun N g=>fI.eq_2 ..) (aL.if (jy hi) ?_);rw [ag,aw ad];exact aL.bind (kU (k.ex i hi).a) (aL.bind (Gv.aW rfl (kU (k.ex i hi).b)) (aL.bind (Gv.aW rfl (kU (k.ex i hi).r)) (aL.a5 rfl q)))
 ·refine aL.go hi (fun N g=>fH.eq_2 ..) (aL.if (jy hi) ?_);rw [ag,aw ad];exact aL.bind (kU (k.ou i hi).a) (aL.bind (Gv.aW rfl (kU (k.ou i hi).b)) (aL.a5 rfl (aL.a5 (k.ou i hi).r q)))
theorem abS (h:Small w) (k:Tw w) {x:bq} (hx:Y6 w x) (f:x.a9.length<=12):Gv (fun N=>qt N w x (iNs w)) 0:=by
 have:=k.t;have:=h.i;have:=h.s;have v:=hx.m1;have y:=hx.m3;have j:=hx.t;refine (IL h).bind ((NA (d:=de.d) ad _).bind (Gv.a5 (decide_eq_false (by show ¬ (Y4 w x.eO < 0);omega)) (Gv.a5 (by rw [decide_eq_false ad,decide_eq_false ad];rfl) (aL.rounds (L:=fun N g=>fU N w x (iNs w) (Y4 w x.eO) g) (n:=x.aP.length) (fun i hi q=>?_) (aL.stop (fun N g=>fU.eq_2 ..) ?_)).diag)))
 ·obtain ⟨m1,l,m3⟩:=hx.m i hi;obtain ⟨z,A⟩:=Lg.1 m1;have m:cond (decide ((x.aP.getD i eV.d).fg < 1)) true (decide ((x.aP.getD i eV.d).fg > 60))=false:=by rw [decide_eq_false ad,decide_eq_false ad];rfl
  have o:0<=Y4 w x.eO/\Y4 w x.eO < (w.bu.length:Int):=by
   refine ⟨j,?_⟩;rcases wz (fun k=>dZ (w.bu.getD k de.d).cl x.eO) w.bu.length with ⟨k,p,_,_,a⟩ | ⟨_,a⟩
   ·have e:Y4 w x.eO=(k:Int):=a;rw [e];exact Int.ofNat_lt.2 p
   ·have e:Y4 w x.eO = -1:=a;omega
  refine aL.go hi (fun N g=>fU.eq_2 ..) (aL.if (jy hi) ?_);rw [ag,aw ad,m];exact aL.bind (Gv.aW rfl (kU l)) (aL.a5 rfl (aL.if o (aL.a5 (decide_eq_false (Int.not_lt.2 m3)) q)))
 ·have r:∃ c,Gv (fun N=>cond (!(dZ x.gn ByteArray.empty)) (jw N w) (some [])) c/\∃ b,Gv (fun N=>cond (!(dZ x.gn ByteArray.empty)) (a6 N c x.gn) (some false)) b/\cond (!(dZ x.gn ByteArray.empty)) (!b) false=false:=by
   have s:=hx.s;cases e:dZ x.gn ByteArray.empty
   ·exact ⟨_,IM h,_,Hy ad _ (s e),rfl⟩
   ·exact ⟨[],Gv.pure _,false,Gv.pure _,rfl⟩
  obtain ⟨c,hc,b,hb,e⟩:=r;obtain ⟨B,C⟩:=Lg.1 hx.k;refine aL.bind hc (aL.bind hb (aL.a5 e (aL.a5 (by rw [decide_eq_false ad,decide_eq_false ad];rfl) (aL.a5 hx.ks (aL.one (aL.rounds (L:=fun N g=>fT N x (iNs w) g) (n:=x.a9.length) (fun i hi q=>?_) (aL.stop (fun N g=>fT.eq_2 ..) ⟨0,fun _ _ _ _=>rfl⟩)).diag)))));obtain ⟨t,u⟩:=hx.a i hi;refine aL.go hi (fun N g=>fT.eq_2 ..) (aL.if (jy hi) ?_);rw [ag,aw ad];exact aL.bind (Hy ad _ t) (aL.a5 rfl (aL.a5 u q))
theorem aeQ (h:Small w) (k:Tw w):Gv (fun N=>pL N (iNs w) 40 w (iNs w)) 0:=by
 have a:=k.i;obtain ⟨h1,h2⟩:=J1 (l:=w.ab) (f:=fun x=>x.cl) (d:=bq.d) fun i hi=>⟨k.its.n i hi,k.its.u i hi⟩;have b:(iNs w).length=w.ab.length:=List.length_map _;refine Gv.a5 (decide_eq_false ad) (SL (names:=iNs w) (own:=fun N x=>na N x w (iNs w)) (L:=fun N g=>gR N (iNs w) w (iNs w) g) ad h1 h2 (fun i hi=>?_) fun N g x=>gR.eq_2 ..);rw [b] at hi;refine Gv.if (jy hi) ?_;rw [ag];exact (abS h k (k.its.k i hi) (k.its.a i hi)).ady
end
end Go.Den
namespace Go.Den
open Go.Ab
theorem Li {α:Type} {l a:List α} {d:α} (b:l.length=a.length) (h:∀ j,j < l.length->l.getD j d=a.getD j d):l=a :=
 List.ext_getElem b fun j h1 h2=>by have:=h j h1;rw [N8 h1,N8 h2] at this;exact this
def zs (o:List Nat):List Int:=o.map fun (x:Nat)=>(x:Int)
theorem nh (o:List Nat):(zs o).length=o.length:=by unfold zs;rw [List.length_map]
theorem Hz {o:List Nat} {k:Nat} (h:k < o.length):(zs o).getD k 0=((o.getD k 0:Nat):Int):=gMp h
theorem adE (o:List Nat) (i:Nat):zs (o ++ [i])=zs o ++ [(i:Int)]:=by unfold zs;rw [HC];rfl
section
variable {w:aq} {o r:List Nat}
def Cy (w:aq):List (List Int):=(List.range w.ab.length).map fun i=>zs (tA w i)
theorem lK:(Cy w).length=w.ab.length:=by unfold Cy;rw [List.length_map,List.length_range]
theorem E3 {i:Nat} (h:i < w.ab.length):(Cy w).getD i []=zs (tA w i):=by
 unfold Cy;rw [gMp (d:=0) (by rw [List.length_range];exact h),N8 (by rw [List.length_range];exact h),List.getElem_range]
theorem UE (h:Small w) (hi:nI w) {i:Nat} (m:i < w.ab.length):∀ d k (out:List (List Int)),k+d=(FR w i).a9.length->out.length=w.ab.length->out.getD i []=zs ((tA w i).take k) ->
  Fv (fun N g (K:List (List Int)->Int->Option (List (List Int)))=>gF N w (iNs w) (i:Int) K g out (k:Int)) fun K=>K (out.set i (zs (tA w i))) ((i+1:Nat):Int)
 | 0,k,out,hk,n,a=>by
  have p:=h.i;have:k=(FR w i).a9.length:=ad;subst this;rw [<- wA,List.take_length] at a;have e:out.set i (zs (tA w i))=out:=by
   refine Li (d:=[]) (by rw [List.length_set]) fun j hj=>?_
   by_cases q:i=j
   ·subst q;rw [gl _ _ _ _ ad,a]
   ·rw [fx _ _ _ q]
  refine Fv.succ (fun N g K=>gF.eq_2 ..) (Fv.a5 (by rw [ag];exact dG) ?_);rw [aw ad,e];exact Fv.pure fun K:List (List Int)->Int->Option (List (List Int))=>K out _
 | d+1,k,out,hk,n,a=>by
  have p:=h.i;have r:=hi.a i m;have b:k < (FR w i).a9.length:=ad;have c:k < (w.ab.getD ((i:Int)).toNat bq.d).a9.length:=b;have hx:=NA (l:=w.ab) (f:=fun x=>x.cl) (d:=bq.d) ad ((FR w i).a9.getD k ByteArray.empty);have s:=((hi.k i m).a k b).1;have t:=(WY s).2.1;refine Fv.succ (fun N g K=>gF.eq_2 ..) (Fv.aW (dec_lt c) (Fv.if (jy c) (Fv.if (by rw [ag];omega) (Fv.if (jy ad) (Fv.bind hx (Fv.if ?_ ?_))))))
  ·rw [ag,a,nh,qg,wA];omega
  rw [aw ad,ag,a];have o:=UE h hi m d (k+1) (out.set i (zs ((tA w i).take k) ++ [O2 w ((FR w i).a9.getD k ByteArray.empty)])) ad (by rw [List.length_set];exact n) (by
   rw [gl _ _ _ _ ad,List.take_succ_eq_append_getElem (by rw [wA];exact b),adE];congr 2;rw [<- N8 (d:=0) (by rw [wA];exact b),adC b,t])
  rw [List.set_set] at o;exact o
theorem UF (h:Small w) (hi:nI w):∀ d i (out:List (List Int)),i+d=w.ab.length->out.length=w.ab.length->(∀ j,j < w.ab.length->out.getD j []=if j < i then zs (tA w j) else [])->aL (fun N g=>fJ N w (iNs w) g out (i:Int)) (Cy w)
 | 0,i,out,hd,a,b=>by
  have:i=w.ab.length:=ad;subst this;refine aL.stop (fun N g=>fJ.eq_2 ..) ⟨0,fun _ _ _ _=>congrArg some (Li (d:=[]) (by rw [a,lK]) fun j hj=>?_)⟩;rw [b j ad,if_pos ad,E3 ad]
 | d+1,i,out,hd,a,b=>by
  have c:i < w.ab.length:=ad;have:=UE h hi c _ 0 out (Nat.zero_add _) a (by rw [b i c,if_neg ad,List.take_zero];rfl);refine aL.go c (fun N g=>fJ.eq_2 ..) (aL.if (jy c) (this.to (K:=fun N g=>fJ N w (iNs w) g) (UF h hi d (i+1) _ ad (by rw [List.length_set];exact a) fun j hj=>?_)))
  by_cases q:i=j
  ·subst q;rw [gl _ _ _ _ ad,if_pos ad]
  ·rw [fx _ _ _ q,b j hj]
   by_cases e:j < i
   ·rw [if_pos e,if_pos ad]
   ·rw [if_neg e,if_neg ad]
theorem Ii (h:Small w) (hi:nI w):Gv (fun N=>kE N w) (Cy w):=by
 have b:=h.i;have a:(iNs w).length=w.ab.length:=List.length_map _;refine (Lh h).bind (Gv.if ad (UF h hi _ 0 _ (Nat.zero_add _) (by rw [iB,a]) fun j hj=>?_).diag);rw [if_neg ad,N8 (by rw [iB,a];exact hj),List.getElem_replicate]
theorem NB {l:List Int} (h:l.length<=100) (v:Int):Gv (fun N=>bp N l v) (fi (fun k=>v == l.getD k 0) l.length) :=
 (E2 (L:=fun N fuel=>bV N l v fuel) ⟨0,fun N g m _ hm=>by
  rw [bV,dec_lt hm,cond_true,if_pos (jy hm),aw ad];rfl⟩ fun N g=>by rw [bV,dG];rfl).diag
theorem wC (h:o.length<=100) (i:Nat):Gv (fun N=>cM N (zs o) (i:Int)) (o.contains i):=by
 refine (NB (by rw [nh];exact h) _).bind ((Gv.pure _).eq ?_);rw [Bool.eq_iff_iff,decide_eq_true_iff,List.contains_iff_mem];refine Iff.trans adx ⟨?_,fun hm=>?_⟩
 ·rintro ⟨k,hk,e⟩;rw [nh] at hk;rw [Hz hk,beq_iff_eq] at e;have e:i=o.getD k 0:=Int.ofNat.inj e;rw [e];exact pU _ _ _ hk
 ·obtain ⟨k,hk,rfl⟩:=List.mem_iff_getElem.1 hm;exact ⟨k,by rw [nh];exact hk,by rw [Hz hk,N8 hk];exact beq_self_eq_true _⟩
theorem ajH {a:List Nat} {p:Nat->Bool}:(!(decide (fi (fun k=>!(p (a.getD k 0))) a.length>=0)))=a.all p:=by
 rw [Bool.eq_iff_iff,Bool.not_eq_true',decide_eq_false_iff_not,List.all_eq_true];constructor
 ·intro h x hx;obtain ⟨k,hk,rfl⟩:=List.mem_iff_getElem.1 hx;cases e:p a[k]
  ·exact absurd (adx.2 ⟨k,hk,by rw [N8 hk,e];rfl⟩) h
  ·rfl
 ·intro h b;obtain ⟨k,hk,e⟩:=adx.1 b;rw [h _ (pU _ _ _ hk)] at e;cases e
theorem aeR (b:o.length<=100) {a:List Nat} (ha:a.length<=100):Gv (fun N=>j5 N (zs a) (zs o)) (a.all o.contains):=by
 have:=(Hx (L:=fun N g=>cr N (zs a) (zs o) g) (q:=fun N m=>k6 N ((zs a).getD m 0) (zs o)) (p:=fun k=>!(o.contains (a.getD k 0))) (n:=(zs a).length) (fun m hm=>by
  rw [nh] at hm;rw [Hz hm];exact (wC b _).bind (Gv.pure _)) (fun N g m hm=>by rw [nh] at hm;rw [cr,nh,dec_lt hm,cond_true,if_pos (jy hm),aw ad];rfl) fun N g=>by rw [cr,dG];rfl).diag
 rw [nh] at this;exact Gv.bind (r:=decide (fi (fun k=>!(o.contains (a.getD k 0))) a.length>=0)) (this.bind (Gv.pure _)) ((Gv.pure _).eq ajH)
theorem aeS (b:o.length<=100) {a:List Nat} (ha:a.length<=100):Gv (fun N=>j6 N (zs a) (zs o)) (a.all o.contains):=by
 have:=(Hx (L:=fun N g=>cu N (zs a) (zs o) g) (q:=fun N m=>k7 N ((zs a).getD m 0) (zs o)) (p:=fun k=>!(o.contains (a.getD k 0))) (n:=(zs a).length) (fun m hm=>by
  rw [nh] at hm;rw [Hz hm];exact (wC b _).bind (Gv.pure _)) (fun N g m hm=>by rw [nh] at hm;rw [cu,nh,dec_lt hm,cond_true,if_pos (jy hm),aw ad];rfl) fun N g=>by rw [cu,dG];rfl).diag
 rw [nh] at this;exact Gv.bind (r:=decide (fi (fun k=>!(o.contains (a.getD k 0))) a.length>=0)) (this.bind (Gv.pure _)) ((Gv.pure _).eq ajH)
def pal (w:aq) (o:List Nat) (i:Nat):Bool:=(tA w i).all o.contains
theorem ajI (hi:nI w) (b:w.ab.length<=45) (a:o.length<=100):Gv (fun N=>jo N (Cy w) (zs o)) (fi (pal w o) w.ab.length):=by
 have:=(Hx (L:=fun N g=>ct N (Cy w) (zs o) g) (q:=fun N m=>j5 N ((Cy w).getD m []) (zs o)) (p:=pal w o) (n:=(Cy w).length) (fun m hm=>by
  rw [lK] at hm;have:=hi.a m hm;rw [E3 hm];exact aeR a (by rw [wA];omega)) (fun N g m hm=>by rw [lK] at hm;rw [ct,lK,dec_lt hm,cond_true,if_pos (jy hm),aw ad];rfl) fun N g=>by rw [ct,dG];rfl).diag
 rwa [lK] at this
theorem ajJ (hi:nI w) (e:w.ab.length<=45) (b:o.length<=100) {i:Nat} (f:i < w.ab.length):Gv (fun N=>jq N (((Cy w).take (Cy w).length).drop (i+1)) (zs o)) (fi (fun k=>pal w o (i+1+k)) (w.ab.length - (i+1))):=by
 rw [List.take_length];have a:((Cy w).drop (i+1)).length=w.ab.length - (i+1):=by rw [Bf,lK]
 have c:∀ m,m < w.ab.length - (i+1)->((Cy w).drop (i+1)).getD m []=zs (tA w (i+1+m)):=fun m hm=>by
  rw [N8 ad,List.getElem_drop,<- N8 (d:=[]) (by rw [lK];omega),E3 ad]
 have:=(Hx (L:=fun N g=>cw N ((Cy w).drop (i+1)) (zs o) g) (q:=fun N m=>j6 N (((Cy w).drop (i+1)).getD m []) (zs o)) (p:=fun k=>pal w o (i+1+k)) (n:=((Cy w).drop (i+1)).length) (fun m hm=>by
  rw [a] at hm;have:=hi.a (i+1+m) ad;rw [c m hm];exact aeS b (by rw [wA];omega)) (fun N g m hm=>by rw [a] at hm;rw [cw,a,dec_lt hm,cond_true,if_pos (jy hm),aw ad];rfl) fun N g=>by rw [cw,dG];rfl).diag
 rwa [a] at this
abbrev rd (w:aq) (o:List Nat) (i:Nat):Bool:=Y5 (tA w) o i
theorem W4 {i:Nat} (h:pal w o i=false):rd w o i=false:=by unfold pal at h;unfold rd Y5;rw [h];cases o.contains i<;>rfl
theorem N9 (a:∀ i,i < w.ab.length->rd w o i=false):Fv (fun N g (K:List Int->Option (List Int))=>ej N (Cy w) (zs o) K g (-1)) fun K=>if fi (rd w o) w.ab.length < 0 then some (zs o) else K (zs (o ++ [(fi (rd w o) w.ab.length).toNat])):=by
 rw [Lf a];exact Fv.succ (fun N g K=>ej.eq_2 ..) (Fv.bind (Gv.pure false) (Fv.a5 rfl (Fv.aW rfl (Fv.pure _))))
theorem SN (hi:nI w) (e:w.ab.length<=45) (h:o.length<=45):∀ d i,i+d=w.ab.length->i < w.ab.length->pal w o i=true->(∀ j,j < i->rd w o j=false) ->
  Fv (fun N g (K:List Int->Option (List Int))=>ej N (Cy w) (zs o) K g (i:Int)) fun K=>if fi (rd w o) w.ab.length < 0 then some (zs o) else K (zs (o ++ [(fi (rd w o) w.ab.length).toNat]))
 | d,i,hd,f,l,hj=>by
  have a:decide ((i:Int)>=0)=true:=ao;refine Fv.succ (fun N g K=>ej.eq_2 ..) (Fv.bind (r:=_) (b:=o.contains i) (by rw [a];exact wC ad i) ?_);cases hc:o.contains i with
  | true =>
   have c:rd w o i=false:=by unfold rd Y5;rw [hc];rfl
   refine Fv.aW (by rw [a];rfl) ?_;rw [aw ad,ag];refine Fv.if (by rw [lK];omega) (Fv.if ad (Fv.bind (ajJ hi e ad f) ?_));rcases wz (fun k=>pal w o (i+1+k)) (w.ab.length - (i+1)) with ⟨k,h1,h2,h3,h4⟩ | ⟨h1,h4⟩
   ·rw [h4,show aR (1+(k:Int))=((k+1:Nat):Int) by rw [bw ad ad];omega,show aR ((i:Int)+((k+1:Nat):Int))=((i+1+k:Nat):Int) by rw [bw ad ad];omega];refine Fv.a5 ao (SN hi e h (d - 1 - k) (i+1+k) ad ad h2 fun j n=>?_);rcases Nat.lt_trichotomy j i with q | q | q
    ·exact hj j q
    ·exact q ▸ c
    ·have:=h3 (j - (i+1)) ad;rw [show i+1+(j - (i+1))=j by omega] at this;exact W4 this
   ·rw [h4];refine Fv.aW ak (N9 fun j n=>?_);rcases Nat.lt_trichotomy j i with q | q | q
    ·exact hj j q
    ·exact q ▸ c
    ·have:=h1 (j - (i+1)) ad;rw [show i+1+(j - (i+1))=j by omega] at this;exact W4 this
  | false =>
   have p:rd w o i=true:=by unfold rd Y5;rw [hc];exact l
   have s:fi (rd w o) w.ab.length=(i:Int):=SD f p hj;rw [s];refine Fv.a5 (by rw [a];rfl) (Fv.a5 ao (Fv.if (by rw [nh];omega) ⟨0,fun N m K _ _=>?_⟩));show K (zs o ++ [(i:Int)])=if (i:Int) < 0 then some (zs o) else K (zs (o ++ [((i:Int)).toNat]))
   rw [if_neg ad,ag,adE]
termination_by d i=>w.ab.length - i
theorem abT (hi:nI w) (c:w.ab.length<=45) (e:Ord (tA w) w.ab.length o r) (a:Tp (tA w) w.ab.length o):aL (fun N g=>cX N (Cy w) g (zs o)) (zs r):=by
 have start:∀ {o:List Nat},Tp (tA w) w.ab.length o->o.length < w.ab.length->∀ {s:List Int},aL (fun N g=>if fi (rd w o) w.ab.length < 0 then some (zs o) else cX N (Cy w) g (zs (o ++ [(fi (rd w o) w.ab.length).toNat]))) s->aL (fun N g=>cX N (Cy w) g (zs o)) s:=fun {o} a b s d=>by
  refine aL.succ (fun N g=>cX.eq_2 ..) (aL.aW (by rw [nh,lK];exact dec_lt b) (aL.bind (ajI hi c ad) ?_));rcases wz (pal w o) w.ab.length with ⟨i,h1,h2,h3,h4⟩ | ⟨h1,h4⟩
  ·rw [h4];exact (SN hi c ad _ i (Nat.add_sub_of_le (Nat.le_of_lt h1)) h1 h2 fun j hj=>W4 (h3 j hj)).to (K:=fun N g=>cX N (Cy w) g) d
  ·rw [h4];exact (N9 fun j hj=>W4 (h1 j hj)).to (K:=fun N g=>cX N (Cy w) g) d
 induction e with
 | @stop o h1 =>
  by_cases b:o.length < w.ab.length
  ·refine start a b ?_;rw [show fi (rd w o) w.ab.length = -1 from h1];exact ⟨0,fun _ _ _ _=>rfl⟩
  ·exact aL.succ (fun N g=>cX.eq_2 ..) (aL.a5 (by rw [nh,lK];exact decide_eq_false ad) ⟨0,fun _ _ _ _=>rfl⟩)
 | @step o r i h1 _ f =>
  have h2:=a.next h1;have:=h2.un;rw [oi,List.length_singleton] at this;refine start a ad ?_;rw [show fi (rd w o) w.ab.length=(i:Int) from h1];simp only [if_neg (show ¬ ((i:Int) < 0) by omega)];exact f h2
theorem J2 (h:Small w) (hi:nI w) (a:Ord (tA w) w.ab.length [] r):Gv (fun N=>lq N w) (zs r):=(Ii h hi).bind (abT hi h.i a .nil).diag
theorem W5 (h:Small w) (k:Tw w):Gv (fun N=>l8 N w) 0:=by
 obtain ⟨r,a,_⟩:=SK w;have b:=k.ord r a;refine (IL h).bind ((aeO k).bind (Gv.a5 rfl ((IM h).bind ((aeP h k).bind (Gv.a5 rfl ((ajG k).bind (Gv.a5 rfl ((Lh h).bind ((aeQ h k).bind (Gv.a5 rfl ((kU k.h1).bind (Gv.bind (Gv.aW rfl (kU k.h2)) (Gv.bind (Gv.aW rfl (kU k.h3)) (Gv.bind (Gv.aW rfl (kU k.h4)) (Gv.a5 rfl ((J2 h k.its a).bind (Gv.a5 ?_ (Gv.pure _))))))))))))))))));rw [nh];exact decide_eq_false ad
end
end Go.Den
namespace Go.Den
open Go.Ab
section
variable {w:aq} {x:bq}
def md (x:bq):Nat->Int
 | 0=>(x.aP.getD 0 eV.d).fg
 | k+1=>if (x.aP.getD (k+1) eV.d).fg < md x k then (x.aP.getD (k+1) eV.d).fg else md x k
def Zb (x:bq):Int:=md x (x.aP.length - 1)
theorem amV (hx:Y6 w x):∀ k,k < x.aP.length->1<=md x k/\md x k<=60
 | 0,h=>Lg.1 (hx.m 0 h).1
 | k+1,h=>by
  have h1:=Lg.1 (hx.m (k+1) h).1;have h2:=amV hx k ad;unfold md;split<;>assumption
theorem alV (hx:Y6 w x):1<=Zb x/\Zb x<=60:=amV hx _ (by have:=hx.m1;omega)
theorem adF (k:Nat):(if (x.aP.getD k eV.d).fg < md x (k - 1) then (x.aP.getD k eV.d).fg else md x (k - 1))=md x k:=by
 cases k with
 | zero=>exact if_neg (Int.lt_irrefl _)
 | succ k=>rfl
theorem Zc (hx:Y6 w x):Gv (fun N=>xO N x) (Zb x):=by
 have h1:=hx.m1;have h3:=hx.m3;have key:∀ d k,k+d=x.aP.length->1<=k->aL (fun N g=>lZ N x g (md x (k - 1)) (k:Int)) (Zb x):=fun d=>by
  induction d with
  | zero =>
   intro k hk _;have:k=x.aP.length:=ad;subst this;exact aL.stop (fun N g=>lZ.eq_2 ..) ⟨0,fun _ _ _ _=>rfl⟩
  | succ d b =>
   intro k hk h;have a:k < x.aP.length:=ad;refine aL.go a (fun N g=>lZ.eq_2 ..) (aL.if (jy a) ?_);rw [ag,aw ad,adF];exact b (k+1) ad ad
 exact Gv.if ad (key (x.aP.length - 1) 1 ad (aV _)).diag
theorem Zd (hx:Y6 w x):∃ wk,Gv (fun N=>ia N x) (Zb x,wk)/\((∀ k,k < x.aP.length->(x.aP.getD k eV.d).jb=0)->wk=0):=by
 have h1:=hx.m1;have h3:=hx.m3;have key:∀ d k wk,k+d=x.aP.length->((∀ k,k < x.aP.length->(x.aP.getD k eV.d).jb=0)->wk=0) ->
   ∃ a,aL (fun N g=>ik N x g (md x (k - 1)) wk (k:Int)) (Zb x,a)/\((∀ k,k < x.aP.length->(x.aP.getD k eV.d).jb=0)->a=0):=fun d=>by
  induction d with
  | zero =>
   intro k wk hk h;have:k=x.aP.length:=ad;subst this;exact ⟨wk,aL.stop (fun N g=>ik.eq_2 ..) ⟨0,fun _ _ _ _=>rfl⟩,h⟩
  | succ d i =>
   intro k wk hk h;have c:k < x.aP.length:=ad;obtain ⟨a,e,f⟩:=i (k+1) (if aR ((x.aP.getD k eV.d).fg * (x.aP.getD k eV.d).jb) < wk then aR ((x.aP.getD k eV.d).fg * (x.aP.getD k eV.d).jb) else wk) ad fun b=>by
    rw [b k c,h b,Int.mul_zero];rfl
   refine ⟨a,aL.go c (fun N g=>ik.eq_2 ..) (aL.if (jy c) ?_),f⟩;rw [ag,aw ad,adF];exact e
 obtain ⟨wk,e,f⟩:=key _ 0 (aR ((x.aP.getD 0 eV.d).fg * (x.aP.getD 0 eV.d).jb)) (Nat.zero_add _) fun b=>by rw [b 0 ad,Int.mul_zero];rfl
 exact ⟨wk,Gv.if ad e.diag,f⟩
end
section
variable {w:aq} {r:List Nat}
abbrev D (w:aq) (i:Nat):Int:=Zb (FR w i)
structure W6 (w:aq) (x:Nat->Rat) (T:Rat):Prop where
 nn:∀ i,i < w.ab.length->0<=x i
 en:∀ i,i < w.ab.length->x i+(D w i:Rat)<=T
 af:∀ i,i < w.ab.length->∀ j∈tA w i,x j+(D w j:Rat)<=x i
theorem SO (hi:nI w) {i:Nat} (h:i < w.ab.length):1<=D w i/\D w i<=60:=alV (hi.k i h)
theorem Px (hi:nI w) {i:Nat} (h:i < w.ab.length):∃ wk,Gv (fun N=>ia N (w.ab.getD i bq.d)) (D w i,wk):=let ⟨wk,h,_⟩:=Zd (hi.k i h);⟨wk,h⟩
theorem BG {a b:Int} (h:a<=b):(a:Rat)<=(b:Rat):=Rat.intCast_le_intCast.2 h
structure Erl (w:aq) (p:List Nat) (out:List Int) (last:Int):Prop where
 len:out.length=w.ab.length
 b:∀ j,0<=out.getD j 0/\out.getD j 0<=60 * (p.length:Int)
 z:∀ j,j ∉ p->out.getD j 0=0
 l:0<=last/\last<=60 * (p.length:Int)+60
 af:∀ j∈p,∀ y∈tA w j,out.getD y 0+D w y<=out.getD j 0
 en:∀ j∈p,out.getD j 0+D w j<=last
 mi:∀ x T,W6 w x T->0<=T->(∀ j∈p,((out.getD j 0:Int):Rat)<=x j)/\(last:Rat)<=T
theorem Ze (hi:nI w) (S:w.ab.length<=45) {p s:List Nat} {i:Nat} (u:r=p ++ i :: s) (F:Tp (tA w) w.ab.length r) {out:List Int} {last:Int} (he:Erl w p out last):∀ d k (v:Int),k+d=(tA w i).length->0<=v->v<=60 * (p.length:Int)+60 ->
  (∀ t,t < k->out.getD ((tA w i).getD t 0) 0+D w ((tA w i).getD t 0)<=v)->(∀ x T,W6 w x T->0<=T->(v:Rat)<=x i) ->
  ∃ v',0<=v'/\v'<=60 * (p.length:Int)+60/\(∀ y∈tA w i,out.getD y 0+D w y<=v')/\(∀ x T,W6 w x T->0<=T->(v':Rat)<=x i) /\
   Fv (fun N g (K:List Int->Int->Int->Option (List Int×Int))=>fK N w (Cy w) (zs r) last (p.length:Int) K g (out.set i v) (k:Int)) fun K=>K (out.set i v') (if v'+D w i > last then v'+D w i else last) ((p.length+1:Nat):Int):=by
 obtain ⟨_,c,z,A⟩:=F.cut u;have G:=F.un;have I:p.length < r.length:=by rw [u];simp
 have m:(zs r).getD ((p.length:Int)).toNat 0=(i:Int):=by rw [ag,Hz I];congr 1;rw [u];simp
 have U:=SO hi c;have V:=he.len;intro d
 induction d with
 | zero =>
  intro k v hk h0 h1 h2 h3;have:k=(tA w i).length:=ad;subst this;obtain ⟨wk,f⟩:=Px hi c;refine ⟨v,h0,h1,fun y n=>?_,h3,?_⟩
  ·obtain ⟨t,h,rfl⟩:=List.mem_iff_getElem.1 n;have:=h2 t h;rw [N8 h] at this;exact this
  ·refine Fv.succ (fun N g K=>fK.eq_2 ..) ?_;rw [m,ag,E3 c];refine Fv.a5 (by rw [nh];exact dG) (Fv.if (jy c) (Fv.bind f (Fv.if (jy (by rw [List.length_set];omega)) ?_)));rw [gl _ _ _ _ ad,bw ad ad,aw ad];exact Fv.pure fun K:List Int->Int->Int->Option (List Int×Int)=>K _ _ _
 | succ d J =>
  intro k v hk h0 h1 h2 h3;have q:k < (tA w i).length:=ad;obtain ⟨y,n⟩:∃ y,y=(tA w i).getD k 0:=⟨_,rfl⟩;have j:y∈tA w i:=by rw [n];exact pU _ _ _ q
  have l:=abP hi c j;have o:=A y j;have B:i≠y:=fun e=>z (e ▸ o);have L:=SO hi l;have hb:=he.b y;have C:(zs (tA w i)).getD k 0=(y:Int):=by rw [Hz q,<- n]
  obtain ⟨wk,f⟩:=Px hi l;obtain ⟨v',M,O,P,Q,R⟩:=J (k+1) (if out.getD y 0+D w y > v then out.getD y 0+D w y else v) ad (by split<;>omega) (by split<;>omega) (fun t h=>by
   by_cases e:t=k
   ·subst e;rw [<- n];split<;>omega
   ·have:=h2 t ad;split<;>omega) fun x T E H=>by
   split
   ·rw [Rat.intCast_add];have a:=((he.mi x T E H).1 y o);have b:=E.af i c y j;grind
   ·exact h3 x T E H
  refine ⟨v',M,O,P,Q,Fv.succ (fun N g K=>fK.eq_2 ..) ?_⟩;rw [m,ag,E3 c,ag,C,ag];refine Fv.aW (by rw [nh];exact dec_lt q) (Fv.if (jy (by rw [nh];exact q)) (Fv.if (jy l) (Fv.bind f (Fv.if (jy (by rw [List.length_set];omega)) (Fv.if (jy (by rw [List.length_set];omega)) ?_)))));rw [fx _ _ _ B,gl _ _ _ _ ad,bw ad ad,aw (by have:=hi.a i c;rw [<- wA] at this;omega),List.set_set];exact R
theorem Oa (hi:nI w) (I:w.ab.length<=45) (q:Tp (tA w) w.ab.length r):∀ (s p:List Nat) (out:List Int) (last:Int),r=p ++ s->Erl w p out last ->
  ∃ res:List Int×Int,aL (fun N g=>eP N w (Cy w) (zs r) g out last (p.length:Int)) res/\Erl w r res.1 res.2
 | [],p,out,last,f,he=>by
  rw [List.append_nil] at f;subst f;exact ⟨(out,last),aL.stop (n:=r.length) (fun N g=>by rw [eP,nh]) ⟨0,fun _ _ _ _=>rfl⟩,he⟩
 | i :: s,p,out,last,f,he=>by
  obtain ⟨_,A,c,E⟩:=q.cut f;have J:=q.un;have F:p.length < r.length:=by rw [f];simp
  have G:(zs r).getD ((p.length:Int)).toNat 0=(i:Int):=by rw [ag,Hz F];congr 1;rw [f];simp
  have Q:=he.len;have R:=SO hi A;obtain ⟨v,Y,Z,S,L,M⟩:=Ze hi I f q he _ 0 0 (Nat.zero_add _) (Int.le_refl _) ad (fun t h=>absurd h (dX _)) fun x T l _=>l.nn i A;have U:out.set i 0=out:=Li (d:=0) (by rw [List.length_set]) fun j hj=>by
   by_cases e:i=j
   ·subst e;rw [gl _ _ _ _ ad,he.z i c]
   ·rw [fx _ _ _ e]
  rw [U] at M;have m:∀ j,j≠i->(out.set i v).getD j 0=out.getD j 0:=fun j hj=>fx _ _ _ (Ne.symm hj);have k:(out.set i v).getD i 0=v:=gl _ _ _ _ ad;have V:=he.l;obtain ⟨res,O,W⟩:=Oa hi I q s (p ++ [i]) (out.set i v) (if v+D w i > last then v+D w i else last) (by rw [f];simp) (by
   have u:((p ++ [i]).length:Int)=(p.length:Int)+1:=ao;refine ⟨by rw [List.length_set];exact Q,fun j=>?_,fun j hj=>?_,?_,fun j hj y B=>?_,fun j hj=>?_,fun x T l C=>⟨fun j hj=>?_,?_⟩⟩
   ·rw [u]
    by_cases e:j=i
    ·subst e;rw [k];omega
    ·rw [m j e];have:=he.b j;omega
   ·simp only [List.mem_append,List.mem_singleton,not_or] at hj;rw [m j hj.2];exact he.z j hj.1
   ·rw [u];split<;>omega
   ·simp only [List.mem_append,List.mem_singleton] at hj;rcases hj with hj | rfl
    ·have z:j≠i:=fun e=>c (e ▸ hj);obtain ⟨P,X,rfl⟩:=List.append_of_mem hj;have H:y∈P:=(q.cut (p:=P) (s:=X ++ i :: s) (x:=j) (by rw [f];simp)).2.2.2 y B;have o:y≠i:=fun e=>c (e ▸ List.mem_append_left _ H);rw [m j z,m y o];exact he.af j hj y B
    ·have o:y≠j:=fun e=>c (e ▸ E y B);rw [k,m y o];exact S y B
   ·simp only [List.mem_append,List.mem_singleton] at hj;rcases hj with hj | rfl
    ·have z:j≠i:=fun e=>c (e ▸ hj);rw [m j z];have:=he.en j hj;split<;>omega
    ·rw [k];split<;>omega
   ·simp only [List.mem_append,List.mem_singleton] at hj;rcases hj with hj | rfl
    ·have z:j≠i:=fun e=>c (e ▸ hj);rw [m j z];exact (he.mi x T l C).1 j hj
    ·rw [k];exact L x T l C
   ·split
    ·rw [Rat.intCast_add];have a:=L x T l C;have b:=l.en i A;grind
    ·exact (he.mi x T l C).2)
  refine ⟨res,aL.go F (fun N g=>by rw [eP,nh]) (aL.if (jy F) ?_),W⟩;rw [G,lK];refine aL.if (jy A) (M.to (K:=fun N g=>eP N w (Cy w) (zs r) g) ?_);have:((p ++ [i]).length:Int)=((p.length+1:Nat):Int):=ao;rw [this] at O;exact O
theorem Zf (h:Small w) (hi:nI w) (b:Ord (tA w) w.ab.length [] r) (c:Tp (tA w) w.ab.length r):∃ out last,Gv (fun N=>pM N w) (out,last)/\Erl w r out last:=by
 have d:=h.i;have a:∀ j,(List.replicate w.ab.length (0:Int)).getD j 0=0:=fun j=>by
  by_cases hj:j < w.ab.length
  ·rw [N8 (by rw [iB];exact hj),List.getElem_replicate]
  ·simp [List.getD,List.getElem?_eq_none_iff.2 (show (List.replicate w.ab.length (0:Int)).length<=j by rw [iB];omega)]
 obtain ⟨⟨out,last⟩,e,f⟩:=Oa hi d c r [] (List.replicate w.ab.length 0) 0 rfl ⟨iB,fun j=>by rw [a];simp,fun j _=>a j,ao,fun j hj=>absurd hj ao,fun j hj=>absurd hj ao,fun x T _ g=>⟨fun j hj=>absurd hj ao,g⟩⟩;refine ⟨out,last,(Ii h hi).bind (Gv.if (by rw [lK];omega) ((J2 h hi b).bind ?_)),f⟩;rw [lK];exact e.diag
end
end Go.Den
namespace Go.Den
open Go.Ab
section
variable {w:aq} {r:List Nat}
theorem SP {l:List Int} (h:l.length<=45):∀ d i (c:List Int),d=l.length - i->2 * i<=l.length+1->c.length=l.length->(∀ j,j < l.length->c.getD j 0=if j < i\/l.length<=j+i then l.getD (l.length - 1 - j) 0 else l.getD j 0) ->
  aL (fun N g=>dK N g c (i:Int) ((l.length:Int) - 1 - i)) l.reverse
 | d,i,c,hd,hi,hc,a=>by
  by_cases q:2 * i+1 < l.length
  ·obtain ⟨j,hj⟩:∃ j:Nat,j=l.length - 1 - i:=⟨_,rfl⟩;have e:((l.length:Int) - 1 - i)=(j:Int):=ad;rw [e];have:=SP h (d - 1) (i+1) ((c.set i (c.getD j 0)).set j (c.getD i 0)) ad ad (by rw [List.length_set,List.length_set];exact hc) fun k hk=>by
    by_cases b:j=k
    ·subst b;rw [gl _ _ _ _ (by rw [List.length_set];omega),a i ad,if_neg ad,if_pos ad];congr 1;omega
    ·rw [fx _ _ _ b]
     by_cases f:i=k
     ·subst f;rw [gl _ _ _ _ ad,a j ad,if_neg ad,if_pos ad];congr 1
     ·rw [fx _ _ _ f,a k hk]
      by_cases p:k < i\/l.length<=k+i
      ·rw [if_pos p,if_pos ad]
      ·rw [if_neg p,if_neg ad]
   rw [show (l.length:Int) - 1 - ((i+1:Nat):Int)=(j:Int) - 1 by omega] at this;refine aL.succ (fun N g=>dK.eq_2 ..) (aL.aW (decide_eq_true ad) (aL.if (jy ad) (aL.if (jy ad) ?_)));rw [ag,ag,aw ad,bw ad ad];exact this
  ·refine aL.succ (fun N g=>dK.eq_2 ..) (aL.a5 (decide_eq_false ad) ⟨0,fun _ _ _ _=>congrArg some (Li (d:=0) (by rw [hc,List.length_reverse]) fun k hk=>?_)⟩);rw [hc] at hk;rw [a k hk,N8 (l:=l.reverse) (by rw [List.length_reverse];exact hk),List.getElem_reverse,<- N8 (d:=0)]
   by_cases p:k < i\/l.length<=k+i
   ·rw [if_pos p]
   ·rw [if_neg p];congr 1;omega
termination_by d i=>l.length - i
theorem abU {l:List Int} (h:l.length<=45):Gv (fun N=>lD N l) l.reverse:=by
 have:=(SP h _ 0 l rfl ad rfl fun j hj=>by rw [if_neg ad]).diag;rw [show (l.length:Int) - 1 - ((0:Nat):Int)=aR ((l.length:Int) - 1) by rw [bw ad ad];omega] at this;exact this
theorem aoY:(zs r).reverse=zs r.reverse:=by unfold zs;rw [List.map_reverse]
structure Chn (w:aq) (s:List Nat) (S:List Int):Prop where
 len:S.length=w.ab.length
 b:∀ j,0<=S.getD j 0/\S.getD j 0<=60 * (s.length:Int)
 ge:∀ j∈s,D w j<=S.getD j 0/\∀ k,k < w.ab.length->j∈tA w k->D w j+S.getD k 0<=S.getD j 0
 eq:∀ j∈s,S.getD j 0=D w j\/∃ k,k < w.ab.length/\j∈tA w k/\S.getD j 0=D w j+S.getD k 0
 mi:∀ x T,W6 w x T->∀ j∈s,x j+((S.getD j 0:Int):Rat)<=T
theorem ajK (hi:nI w) (C:w.ab.length<=45) {p s:List Nat} {i:Nat} (u:r.reverse=s ++ i :: p) (z:s.length<=45) (h:i < w.ab.length) {S:List Int} (x:Chn w s S):∀ d k (v:Int),k+d=w.ab.length->0<=v->v<=60 * (s.length:Int) ->
  (∀ t,t < k->i∈tA w t->S.getD t 0<=v)->(v=0\/∃ t,t < w.ab.length/\i∈tA w t/\v=S.getD t 0) ->
  ∃ v',0<=v'/\v'<=60 * (s.length:Int)/\(∀ t,t < w.ab.length->i∈tA w t->S.getD t 0<=v')/\(v'=0\/∃ t,t < w.ab.length/\i∈tA w t/\v'=S.getD t 0) /\
   Fv (fun N g (K:List Int->Int->Option (List Int))=>dB N w (Cy w) (zs r.reverse) S (s.length:Int) K g v (k:Int)) fun K=>K (S.set i (D w i+v')) ((s.length+1:Nat):Int):=by
 have A:s.length < r.reverse.length:=by rw [u];simp
 have c:(zs r.reverse).getD ((s.length:Int)).toNat 0=(i:Int):=by rw [ag,Hz A];congr 1;rw [u];simp
 have E:=SO hi h;have F:=x.len;intro d
 induction d with
 | zero =>
  intro k v hk h0 h1 h2 h3;have:k=w.ab.length:=ad;subst this;obtain ⟨wk,j⟩:=Px hi h;refine ⟨v,h0,h1,h2,h3,Fv.succ (fun N g K=>dB.eq_2 ..) ?_⟩;rw [c,ag];refine Fv.a5 (by rw [lK];exact dG) (Fv.if (jy h) (Fv.bind j (Fv.if (jy ad) ?_)));rw [ag,bw ad ad,aw ad];exact Fv.pure fun K:List Int->Int->Option (List Int)=>K _ _
 | succ d y =>
  intro k v hk h0 h1 h2 h3;have b:k < w.ab.length:=ad;have ha:=hi.a k b;rw [<- wA] at ha;have hc:Gv (fun N=>cM N ((Cy w).getD ((k:Int)).toNat []) ((zs r.reverse).getD ((s.length:Int)).toNat 0)) ((tA w k).contains i):=by
   rw [c,ag,E3 b];exact wC ad i
  refine (?_:∃ v',_/\_/\_/\_/\_);cases f:(tA w k).contains i with
  | true =>
   rw [f] at hc;have hm:i∈tA w k:=by simpa using f
   have hb:=x.b k;obtain ⟨v',l,m,n,o,q⟩:=y (k+1) (if S.getD k 0 > v then S.getD k 0 else v) ad (by split<;>omega) (by split<;>omega) (fun t B a=>by
    by_cases e:t=k
    ·subst e;split<;>omega
    ·have:=h2 t ad a;split<;>omega) (by
    split
    ·exact .inr ⟨k,b,hm,rfl⟩
    ·exact h3)
   refine ⟨v',l,m,n,o,Fv.succ (fun N g K=>dB.eq_2 ..) (Fv.aW (by rw [lK];exact dec_lt b) (Fv.if (jy (by rw [lK];exact b)) (Fv.bind hc (Fv.aW rfl (Fv.if (jy ad) ?_)))))⟩;unfold iH;rw [ag,aw ad];exact q
  | false =>
   rw [f] at hc;have hm:i ∉ tA w k:=by simpa using f
   obtain ⟨v',l,m,n,o,q⟩:=y (k+1) v ad h0 h1 (fun t B a=>by
    by_cases e:t=k
    ·subst e;exact absurd a hm
    ·exact h2 t ad a) h3
   refine ⟨v',l,m,n,o,Fv.succ (fun N g K=>dB.eq_2 ..) (Fv.aW (by rw [lK];exact dec_lt b) (Fv.if (jy (by rw [lK];exact b)) (Fv.bind hc (Fv.a5 rfl ?_))))⟩;unfold iH;rw [aw ad];exact q
theorem Zg (hi:nI w) (P:w.ab.length<=45) (q:Tp (tA w) w.ab.length r) (Q:∀ i,i < w.ab.length->i∈r):∀ (p s:List Nat) (S:List Int),r.reverse=s ++ p->Chn w s S ->
  ∃ S',aL (fun N g=>ee N w (Cy w) (zs r.reverse) g S (s.length:Int)) S'/\Chn w r.reverse S'
 | [],s,S,m,d=>by
  rw [List.append_nil] at m;subst m;exact ⟨S,aL.stop (n:=r.reverse.length) (fun N g=>by rw [ee,nh]) ⟨0,fun _ _ _ _=>rfl⟩,d⟩
 | i :: p,s,S,m,d=>by
  have y:r=p.reverse ++ i :: s.reverse:=by rw [<- List.reverse_reverse r,m];simp
  obtain ⟨_,G,Y,H⟩:=q.cut y;have R:=q.un;have U:s.length < r.reverse.length:=by rw [m];simp
  have z:=U;rw [List.length_reverse] at U
  -- those that come after it are done
  have A:∀ j,j∈i :: s->∀ k,k < w.ab.length->j∈tA w k->k∈s:=fun j hj k hk c=>by
   have o:=Q k hk;rw [y] at o;simp only [List.mem_append,kY,List.mem_reverse] at o;obtain ⟨I,J,L⟩:=List.append_of_mem (show j∈i :: s.reverse by simpa using hj);obtain ⟨_,_,B,Z⟩:=q.cut (p:=p.reverse ++ I) (s:=J) (x:=j) (by rw [y,L];simp);rcases o with M | rfl | u
   ·obtain ⟨p1,p2,V⟩:=List.append_of_mem (show k∈p.reverse by simpa using M);have:=(q.cut (p:=p1) (s:=p2 ++ i :: s.reverse) (x:=k) (by rw [y,V];simp)).2.2.2 j c;exact absurd (List.mem_append_left _ (by rw [V];exact List.mem_append_left _ this)) B
   ·exact absurd (List.mem_append_left _ (H j c)) B
   ·exact u
  have f:i ∉ s:=fun hm=>by
   obtain ⟨I,J,L⟩:=List.append_of_mem (show i∈s.reverse by simpa using hm);exact (q.cut (p:=p.reverse ++ i :: I) (s:=J) (x:=i) (by rw [y,L];simp)).2.2.1 ao
  have hl:=d.len;have hDi:=SO hi G;obtain ⟨v,q1,q2,q3,W,q5⟩:=ajK hi P m ad G d _ 0 0 (Nat.zero_add _) (Int.le_refl _) ad (fun t h=>absurd h (dX _)) (.inl rfl);have C:∀ j,j≠i->(S.set i (D w i+v)).getD j 0=S.getD j 0:=fun j hj=>fx _ _ _ (Ne.symm hj);have l:(S.set i (D w i+v)).getD i 0=D w i+v:=gl _ _ _ _ ad;have u:∀ j,j∈i :: s->∀ k,k < w.ab.length->j∈tA w k->(S.set i (D w i+v)).getD k 0=S.getD k 0:=fun j hj k hk c=>C k fun e=>f (e ▸ A j hj k hk c);obtain ⟨S',X,g2⟩:=Zg hi P q Q p (s ++ [i]) (S.set i (D w i+v)) (by rw [m];simp) (by
   have O:((s ++ [i]).length:Int)=(s.length:Int)+1:=ao;refine ⟨by rw [List.length_set];exact hl,fun j=>?_,fun j hj=>?_,fun j hj=>?_,fun x T F j hj=>?_⟩
   ·rw [O]
    by_cases e:j=i
    ·subst e;rw [l];omega
    ·rw [C j e];have:=d.b j;omega
   ·simp only [List.mem_append,List.mem_singleton] at hj;rcases hj with hj | rfl
    ·have E:j≠i:=fun e=>f (e ▸ hj);rw [C j E];exact ⟨(d.ge j hj).1,fun k hk c=>by rw [u j (List.mem_cons_of_mem _ hj) k hk c];exact (d.ge j hj).2 k hk c⟩
    ·rw [l];exact ⟨ad,fun k hk c=>by rw [u j ao k hk c];have:=q3 k hk c;omega⟩
   ·simp only [List.mem_append,List.mem_singleton] at hj;rcases hj with hj | rfl
    ·have E:j≠i:=fun e=>f (e ▸ hj);rw [C j E];rcases d.eq j hj with e | ⟨k,hk,c,e⟩
     ·exact .inl e
     ·exact .inr ⟨k,hk,c,by rw [u j (List.mem_cons_of_mem _ hj) k hk c];exact e⟩
    ·rw [l];rcases W with rfl | ⟨k,hk,c,e⟩
     ·exact .inl ad
     ·exact .inr ⟨k,hk,c,by rw [u j ao k hk c,e]⟩
   ·simp only [List.mem_append,List.mem_singleton] at hj;rcases hj with hj | rfl
    ·have E:j≠i:=fun e=>f (e ▸ hj);rw [C j E];exact d.mi x T F j hj
    ·rw [l,Rat.intCast_add];rcases W with rfl | ⟨k,hk,c,rfl⟩
     ·have:=F.en j G;grind
     ·have a:=F.af k hk j c;have b:=d.mi x T F k (A j ao k hk c);grind)
  refine ⟨S',aL.go (n:=r.reverse.length) z (fun N g=>by rw [ee,nh];rfl) (aL.if (jy z) (q5.to (K:=fun N g=>ee N w (Cy w) (zs r.reverse) g) ?_)),g2⟩;have:((s ++ [i]).length:Int)=((s.length+1:Nat):Int):=ao;rw [this] at X;exact X
theorem ajL (h:Small w) (hi:nI w) (c:Ord (tA w) w.ab.length [] r) (a:Tp (tA w) w.ab.length r) (d:∀ i,i < w.ab.length->i∈r):∃ S,Gv (fun N=>o7 N w) S/\Chn w r.reverse S:=by
 have e:=h.i;have b:=a.un;have f:∀ j,(List.replicate w.ab.length (0:Int)).getD j 0=0:=fun j=>by
  by_cases hj:j < w.ab.length
  ·rw [N8 (by rw [iB];exact hj),List.getElem_replicate]
  ·simp [List.getD,List.getElem?_eq_none_iff.2 (show (List.replicate w.ab.length (0:Int)).length<=j by rw [iB];omega)]
 obtain ⟨S,g,k⟩:=Zg hi e a d r.reverse [] (List.replicate w.ab.length 0) rfl ⟨iB,fun j=>by rw [f];simp,fun j hj=>absurd hj ao,fun j hj=>absurd hj ao,fun x T _ j hj=>absurd hj ao⟩;refine ⟨S,(Ii h hi).bind (Gv.if (by rw [lK];omega) ((J2 h hi c).bind (Gv.bind (abU (by rw [nh];omega)) (Gv.if (List.length_reverse) ?_)))),k⟩;rw [lK,aoY];exact g.diag
end
end Go.Den
namespace Go.Den
open Go.Ab
section
variable {w:aq} {r:List Nat} {S:List Int}
theorem aeT {l:List Int} (h:l.length<=100) (v:Int):Gv (fun N=>jr N l v) (fi (fun k=>l.getD k 0 == v) l.length) :=
 (E2 (L:=fun N fuel=>cx N l v fuel) ⟨0,fun N g m _ hm=>by
  rw [cx,dec_lt hm,cond_true,if_pos (jy hm),aw ad];rfl⟩ fun N g=>by rw [cx,dG];rfl).diag
structure alZ (w:aq) (S:List Int):Prop where
 len:S.length=w.ab.length
 b:∀ j,0<=S.getD j 0/\S.getD j 0<=2700
 ge:∀ j,j < w.ab.length->D w j<=S.getD j 0
 eq:∀ j,j < w.ab.length->S.getD j 0=D w j\/∃ k,k < w.ab.length/\S.getD j 0=D w j+S.getD k 0
theorem SQ (hi:nI w) (n:w.ab.length<=45) (j:alZ w S) {M x:Int} {c:List ByteArray} {a:Nat} (ha:a < w.ab.length) {wk:Int} {rest:Int} (hw:aR (S.getD a 0 - D w a)=rest):∀ d m,d=w.ab.length - m->m < w.ab.length->S.getD m 0=rest ->
  ∃ b,b < w.ab.length/\S.getD b 0=rest/\Fv (fun N g (K:List ByteArray->Int->Int->Option dH)=>cY N w S (Cy w) M x c (a:Int) (S.getD a 0) (D w a,wk) K g (m:Int)) fun K=>K (c ++ [nm w a]) (b:Int) rest
 | d,m,hd,hm,he=>by
  have o:=j.len;have e:decide ((m:Int)>=0)=true:=ao;have f:=hi.a m hm;rw [<- wA] at f;have hc:Gv (fun N=>cond (decide ((m:Int)>=0)) (cM N ((Cy w).getD ((m:Int)).toNat []) (a:Int)) (some false)) ((tA w m).contains a):=by
   rw [e,ag,E3 hm];exact wC ad a
  have h:0<=(m:Int)/\(m:Int) < (((Cy w).length:Nat):Int):=jy (by rw [lK];exact hm);cases l:(tA w m).contains a with
  | true =>
   rw [l] at hc;refine ⟨m,hm,he,Fv.succ (fun N g K=>cY.eq_2 ..) (Fv.if (fun _=>h) (Fv.bind hc (Fv.a5 (by rw [e];rfl) ?_)))⟩;rw [hw];exact Fv.pure fun K:List ByteArray->Int->Int->Option dH=>K _ _ _
  | false =>
   rw [l] at hc;have hx:Gv (fun N=>bp N ((S.take S.length).drop (m+1)) rest) (fi (fun k=>rest == S.getD (m+1+k) 0) (w.ab.length - (m+1))):=by
    rw [List.take_length];have i:(S.drop (m+1)).length=w.ab.length - (m+1):=by rw [Bf,o]
    refine (NB ad _).eq ?_;rw [i];exact Y1 fun k hk=>by rw [N8 ad,List.getElem_drop,<- N8 (d:=0)]
   rcases wz (fun k=>rest == S.getD (m+1+k) 0) (w.ab.length - (m+1)) with ⟨k,h1,h2,_,h4⟩ | ⟨_,h4⟩
   ·have h2:S.getD (m+1+k) 0=rest:=(eq_of_beq h2).symm;obtain ⟨b,p,q,r⟩:=SQ hi n j ha (c:=c) (M:=M) (x:=x) (wk:=wk) hw (w.ab.length - (m+1+k)) (m+1+k) rfl ad h2;refine ⟨b,p,q,Fv.succ (fun N g K=>cY.eq_2 ..) (Fv.if (fun _=>h) (Fv.bind hc (Fv.aW (by rw [e];rfl) ?_)))⟩;dsimp only;rw [aw ad,ag,hw];refine Fv.if ⟨ad,aV _⟩ (Fv.if ad (Fv.bind hx (Fv.a5 (by rw [h4];simp) ?_)));rw [h4,show aR (1+(k:Int))=((k+1:Nat):Int) by rw [bw ad ad];omega,show aR ((m:Int)+((k+1:Nat):Int))=((m+1+k:Nat):Int) by rw [bw ad ad];omega];exact r
   ·refine ⟨m,hm,he,Fv.succ (fun N g K=>cY.eq_2 ..) (Fv.if (fun _=>h) (Fv.bind hc (Fv.aW (by rw [e];rfl) ?_)))⟩;dsimp only;rw [aw ad,ag,hw];refine Fv.if ⟨ad,aV _⟩ (Fv.if ad (Fv.bind hx (Fv.aW (by rw [h4];decide) ?_)));exact Fv.pure fun K:List ByteArray->Int->Int->Option dH=>K _ _ _
termination_by d m=>w.ab.length - m
theorem SR (hi:nI w) (h:w.ab.length<=45) (b:alZ w S) {M x:Int}:∀ (q:Nat) (a:Nat) (c:List ByteArray),a < w.ab.length->S.getD a 0<=(q:Int)->c.length+q<=10000 ->
  ∃ c',aL (fun N g=>cZ N w S (Cy w) M x g c (a:Int) (S.getD a 0)) ⟨M,c',ByteArray.empty⟩
 | 0,a,c,ha,j,_=>by have h1:=SO hi ha;have h2:=b.ge a ha;omega
 | q+1,a,c,ha,j,hc=>by
  have n:=b.len;have A:=SO hi ha;have o:=b.ge a ha;have hb:=b.b a;obtain ⟨wk,d⟩:=Px hi ha;have hw:aR (S.getD a 0 - D w a)=S.getD a 0 - D w a:=bw ad ad;have hx:=aeT (l:=S) ad (S.getD a 0 - D w a);rw [n] at hx;have fin:∀ {s:dH},aL (fun N g=>cY N w S (Cy w) M x c (a:Int) (S.getD a 0) (D w a,wk) (cZ N w S (Cy w) M x g) N (fi (fun k=>S.getD k 0 == S.getD a 0 - D w a) w.ab.length)) s->aL (fun N g=>cZ N w S (Cy w) M x g c (a:Int) (S.getD a 0)) s:=fun b=>by
   refine aL.succ (fun N g=>cZ.eq_2 ..) (aL.aW (decide_eq_true ad) (aL.if (jy ha) (aL.if ad (aL.bind d ?_))));dsimp only;rw [hw];exact aL.bind hx b
  rcases wz (fun k=>S.getD k 0 == S.getD a 0 - D w a) w.ab.length with ⟨m,h1,h2,_,h4⟩ | ⟨h1,h4⟩
  ·have h2:S.getD m 0=S.getD a 0 - D w a:=eq_of_beq h2;obtain ⟨p,t,u,v⟩:=SQ hi h b (M:=M) (x:=x) (c:=c) ha (wk:=wk) hw _ m rfl h1 h2;obtain ⟨c',i⟩:=SR hi h b (M:=M) (x:=x) q p (c ++ [nm w a]) t ad (by simp;omega);refine ⟨c',fin ?_⟩;rw [h4];rw [u] at i;exact v.to (K:=fun N g=>cZ N w S (Cy w) M x g) i
  ·have y:S.getD a 0 - D w a=0:=by
    rcases b.eq a ha with e | ⟨k,hk,e⟩
    ·omega
    ·have:=h1 k hk;have z:S.getD k 0=S.getD a 0 - D w a:=ad;rw [z,beq_self_eq_true] at this;cases this
   refine ⟨c ++ [nm w a],fin ?_⟩;rw [h4];refine Fv.to (f:=fun N g K=>cY N w S (Cy w) M x c (a:Int) (S.getD a 0) (D w a,wk) K g (-1)) (r:=fun K=>K (c ++ [nm w a]) (-1) 0) (K:=fun N g=>cZ N w S (Cy w) M x g) ?_ (aL.succ (fun N g=>cZ.eq_2 ..) ⟨0,fun _ _ _ _=>rfl⟩);refine Fv.succ (fun N g K=>cY.eq_2 ..) (Fv.if (fun e=>by cases e) (Fv.bind (Gv.pure false) (Fv.a5 rfl ?_)));dsimp only;rw [hw,y];exact Fv.pure fun K:List ByteArray->Int->Int->Option dH=>K _ _ _
theorem SS (hi:nI w) (o:w.ab.length<=45) (n:0 < w.ab.length) (f:alZ w S):∀ d k (v:Int),k+d=w.ab.length->(∀ j,j < k->S.getD j 0<=v)->(v=0\/∃ j,j < w.ab.length/\S.getD j 0=v) ->
  ∃ M c',(∀ j,j < w.ab.length->S.getD j 0<=M)/\(∃ j,j < w.ab.length/\S.getD j 0=M)/\aL (fun N g=>fV N w S (Cy w) g v (k:Int)) ⟨M,c',ByteArray.empty⟩
 | 0,k,v,hk,h1,h2=>by
  have:k=S.length:=by have:=f.len;omega
  subst this;have r:=f.len;have hj:∃ j,j < w.ab.length/\S.getD j 0=v:=by
   rcases h2 with rfl | h2
   ·have a:=h1 0 ad;have b:=f.ge 0 n;have c:=SO hi n;omega
   ·exact h2
  obtain ⟨j,hj,e⟩:=hj;have hx:=NB (l:=S) ad v;rcases wz (fun k=>v == S.getD k 0) S.length with ⟨m,i,h,_,s⟩ | ⟨i,_⟩
  ·have h:S.getD m 0=v:=(eq_of_beq h).symm;have hb:=f.b m;obtain ⟨c',p⟩:=SR hi o f (M:=v) (x:=(S.length:Int)) 2700 m [] ad ad ao;rw [h] at p;rw [s] at hx;exact ⟨v,c',fun j hj=>h1 j ad,⟨m,ad,h⟩,aL.stop (fun N g=>fV.eq_2 ..) (aL.bind hx (aL.one p.diag))⟩
  ·have:=i j ad;rw [e,beq_self_eq_true] at this;cases this
 | d+1,k,v,hk,h1,h2=>by
  have r:=f.len;have q:k < S.length:=ad;obtain ⟨M,c',i,h,t⟩:=SS hi o n f d (k+1) (if S.getD k 0 > v then S.getD k 0 else v) ad (fun j hj=>by
   by_cases e:j=k
   ·subst e;split<;>omega
   ·have:=h1 j ad;split<;>omega) (by
   split
   ·exact .inr ⟨k,ad,rfl⟩
   ·exact h2)
  refine ⟨M,c',i,h,aL.go q (fun N g=>fV.eq_2 ..) (aL.if (jy q) ?_)⟩;rw [ag,aw ad];exact t
theorem Tx (h:Small w) (k:Tw w) {i:Nat} (j:i < w.bu.length):∃ v,Gv (fun N=>lj N w (w.bu.getD i de.d)) v:=by
 have y:=h.i;have key:∀ d m (s:Int),m+d=w.ab.length->((tr w i).jb=0->s=0)->∃ v,aL (fun N g=>cz N w (tr w i) g s (m:Int)) v:=fun d=>by
  induction d with
  | zero =>
   intro m s hm f;have:m=w.ab.length:=ad;subst this;cases e:(s == 0) with
   | true=>exact ⟨_,aL.stop (fun N g=>cz.eq_2 ..) (aL.aW e ⟨0,fun _ _ _ _=>rfl⟩)⟩
   | false =>
    have o:(tr w i).jb≠0:=fun q=>by rw [f q] at e;cases e
    exact ⟨_,aL.stop (fun N g=>cz.eq_2 ..) (aL.a5 e (aL.if o ⟨0,fun _ _ _ _=>rfl⟩))⟩
  | succ d n =>
   intro m s hm f;have b:m < w.ab.length:=ad;obtain ⟨wk,a,l⟩:=Zd (k.its.k m b);have a:Gv (fun N=>ia N (w.ab.getD ((m:Int)).toNat bq.d)) (Zb (FR w m),wk):=a;cases e:dZ (w.ab.getD ((m:Int)).toNat bq.d).eO (tr w i).cl with
   | true =>
    have p:(FR w m).eO=(tr w i).cl:=vk.1 e;obtain ⟨v,c⟩:=n (m+1) (aR (s+wk)) ad fun q=>by
     have hx:=k.its.k m b;have h0:wk=0:=l fun t r=>by
      obtain ⟨_,u,x⟩:=hx.m t r;rw [p,(k.tr i j).u,Int.toNat_natCast,q] at x;have:=Lg.1 u;omega
     rw [h0,f q];rfl
    refine ⟨v,aL.go b (fun N g=>cz.eq_2 ..) (aL.if (jy b) (aL.aW e (aL.bind a ?_)))⟩;unfold ic;rw [aw ad];exact c
   | false =>
    obtain ⟨v,c⟩:=n (m+1) s ad f;refine ⟨v,aL.go b (fun N g=>cz.eq_2 ..) (aL.if (jy b) (aL.a5 e ?_))⟩;unfold ic;rw [aw ad];exact c
 obtain ⟨v,c⟩:=key _ 0 0 (Nat.zero_add _) fun _=>rfl;exact ⟨v,c.diag⟩
theorem W8 (h:Small w) (k:Tw w) {M:Int}:∀ d m (b:dH),m+d=w.bu.length->M<=b.fg->(dZ b.eO ByteArray.empty=true->b.fg=M) ->
  ∃ c:dH,M<=c.fg/\(dZ c.eO ByteArray.empty=true->c.fg=M)/\aL (fun N g=>dC N w g b (m:Int)) (c,0)
 | 0,m,b,hm,h1,h2=>by
  have:m=w.bu.length:=ad;subst this;exact ⟨b,h1,h2,aL.stop (fun N g=>dC.eq_2 ..) ⟨0,fun _ _ _ _=>rfl⟩⟩
 | d+1,m,b,hm,h1,h2=>by
  have a:m < w.bu.length:=ad;have n:=h.t;obtain ⟨v,f⟩:=Tx h k a;have f:Gv (fun N=>lj N w (w.bu.getD ((m:Int)).toNat de.d)) v:=f;cases e:decide (v > b.fg) with
  | true =>
   have o:v > b.fg:=xl e;obtain ⟨c,i,j,l⟩:=W8 h k (M:=M) d (m+1) ⟨v,[],(tr w m).cl⟩ ad (by show M<=v;omega) fun q=>by
    have:=aeM (k.tr m a).n;rw [show (⟨v,[],(tr w m).cl⟩:dH).eO=(tr w m).cl from rfl,this] at q;cases q
   refine ⟨c,i,j,aL.go a (fun N g=>dC.eq_2 ..) (aL.if (jy a) (aL.bind f (aL.aW e ?_)))⟩;unfold iJ;rw [aw ad,ag];exact l
  | false =>
   obtain ⟨c,i,j,l⟩:=W8 h k (M:=M) d (m+1) b ad h1 h2;refine ⟨c,i,j,aL.go a (fun N g=>dC.eq_2 ..) (aL.if (jy a) (aL.bind f (aL.a5 e ?_)))⟩;unfold iJ;rw [aw ad];exact l
theorem ajM (h:Small w) (k:Tw w) (n:0 < w.ab.length):∃ (out:List Int) (L:Int) (c:dH),0<=L/\L<=2760/\Gv (fun N=>pN N w) (out,L,0)/\Gv (fun N=>o8 N w) (c,0)/\L<=c.fg/\(dZ c.eO ByteArray.empty=true->c.fg=L) /\
  W6 w (fun j=>((out.getD j 0:Int):Rat)) (L:Rat)/\∀ x T,W6 w x T->(L:Rat)<=T:=by
 have hi:=k.its;have y:=h.i;obtain ⟨r,p,q⟩:=SK w;have z:=k.ord r p;have A:=q.un;have d:∀ i,i < w.ab.length->i∈r:=adB ad;obtain ⟨out,L,B,f⟩:=Zf h hi p q;obtain ⟨S,C,g⟩:=ajL h hi p q d;have s:(r.reverse.length:Int)=w.ab.length:=by rw [List.length_reverse];omega
 have hb:∀ j,0<=S.getD j 0/\S.getD j 0<=2700:=fun j=>by have:=g.b j;rw [s] at this;omega
 have u:alZ w S:=⟨g.len,hb,fun j hj=>(g.ge j (by simpa using d j hj)).1,fun j hj=>by
  rcases g.eq j (by simpa using d j hj) with e | ⟨k,hk,_,e⟩
  ·exact .inl e
  ·exact .inr ⟨k,hk,e⟩⟩
 obtain ⟨M,c',m1,⟨o,E,m3⟩,F⟩:=SS hi y n u _ 0 0 (Nat.zero_add _) (fun j hj=>absurd hj (dX _)) (.inl rfl);have P:=f.l;have G:(r.length:Int)<=45:=ad;have v:W6 w (fun j=>((out.getD j 0:Int):Rat)) (L:Rat):=⟨fun i _=>BG (f.b i).1,fun i b=>by
  have:=BG (f.en i (d i b));rw [Rat.intCast_add] at this;exact this,fun i b j hj=>by
  have:=BG (f.af i (d i b) j hj);rw [Rat.intCast_add] at this;exact this⟩
 -- times that leave the rest of the longest chain
 have hm:W6 w (fun j=>((M - S.getD j 0:Int):Rat)) (M:Rat):=⟨fun i b=>BG (a:=0) (by have:=m1 i b;omega),fun i b=>by
  have:=BG (show M - S.getD i 0+D w i<=M by have:D w i<=S.getD i 0:=u.ge i b;omega);rw [Rat.intCast_add] at this;exact this,fun i b j hj=>by
  have:=BG (show M - S.getD j 0+D w j<=M - S.getD i 0 by have:=(g.ge j (by simpa using d j (abP hi b hj))).2 i b hj;omega);rw [Rat.intCast_add] at this;exact this⟩
 have l:0<=M:=by have:=(hb o).1;omega
 have H:L<=M:=Rat.intCast_le_intCast.1 ((f.mi _ _ hm (BG l)).2);have I:M<=L:=by
  have a:=g.mi _ _ v o (by simpa using d o E);rw [m3,<- Rat.intCast_add] at a;have a:=Rat.intCast_le_intCast.1 a;have:=(f.b o).1;omega
 have t:M=L:=ad;subst t;obtain ⟨c,J,K,O⟩:=W8 h k (M:=M) _ 0 ⟨M,c',ByteArray.empty⟩ (Nat.zero_add _) (Int.le_refl _) fun _=>rfl;have m:=W5 h k;refine ⟨out,M,c,l,ad,m.bind (Gv.a5 rfl (B.bind (Gv.pure _))),m.bind (Gv.a5 rfl (Gv.bind (C.bind ((Ii h hi).bind F.diag)) O.diag)),J,K,v,fun x T hx=>?_⟩;have h0:=hx.nn 0 n;have h1:=hx.en 0 n;have Q:=BG (show (0:Int)<=D w 0 by have:=SO hi n;omega);exact (f.mi x T hx (by have:((0:Int):Rat)=0:=rfl;grind)).2
end
end Go.Den
namespace Go.Den
open Go.Ab
theorem HA {n i:Nat} {a x:aa} (h:x∈((List.replicate n aa.d).set i a)):x=a\/x=aa.d:=by
 rcases List.mem_or_eq_of_mem_set h with h1 | rfl
 ·exact .inr (List.mem_replicate.1 h1).2
 ·exact .inl rfl
structure Lj (n:Nat) (r:a8):Prop where
 len:r.db.length<=n
 co:∀ x∈r.db,IR x 2
 bo:IR r.jl 2
theorem Zh {R:List a8} {n:Nat} (h:∀ r∈R,Lj n r):Lc R:=by
 refine ⟨fun i j=>⟨?_,rfl,ak⟩,fun i=>⟨?_,rfl,ak⟩⟩
 ·by_cases hi:i < R.length
  ·have g:=h _ (pU R i a8.d hi)
   by_cases hj:j < (R.getD i a8.d).db.length
   ·exact g.co _ (pU _ j aa.d hj)
   ·rw [AJ ad];exact ird
  ·rw [show R.getD i a8.d=a8.d by simp [jP,uc (show R.length<=i by omega)]];rw [AJ (show (a8.d).db.length<=j from Nat.zero_le _)];exact ird
 ·by_cases hi:i < R.length
  ·exact (h _ (pU R i a8.d hi)).bo
  ·rw [show R.getD i a8.d=a8.d by simp [jP,uc (show R.length<=i by omega)]];exact ird
theorem ajN {R:List a8} {n:Nat} (h:∀ r∈R,Lj n r) (a:n<=20) (b:R.length<=60):DM R:=by
 have q:=Zh h;refine ⟨b,fun i=>⟨?_,fun j=>(q.co i j).1,(q.bo i).1⟩⟩
 by_cases hi:i < R.length
 ·exact gG (h _ (pU R i a8.d hi)).len a
 ·rw [ai5 ad];exact Nat.zero_le _
theorem SU {R:List a8} {n:Nat} (h:∀ r∈R,Lj n r):∀ k i,i+k=R.length->xx R n k i=false
 | 0,_,_=>rfl
 | k+1,i,hi=>by
  rw [xx,if_neg,SU h k (i+1) ad];have:=(h _ (pU R i a8.d ad)).len;unfold BF;omega
theorem Ty {R:List a8} {n:Nat} (a:n<=12) (b:R.length<=40) (h:∀ r∈R,Lj n r):qR n R=0:=by
 unfold qR;rw [if_neg ad,if_neg ad,SU h R.length 0 ad];rfl
theorem ajO {c x:List aa}:∀ (k i:Nat) (a:Rat),dF c x k i a=a+b7 k fun j=>qv (c.getD (i+j) aa.d) * qv (x.getD (i+j) aa.d)
 | 0,i,a=>by show a=a+0;grind
 | k+1,i,a=>by
  rw [dF,ajO k (i+1),show k+1=1+k by omega,sL];have e:b7 1 (fun j=>qv (c.getD (i+j) aa.d) * qv (x.getD (i+j) aa.d))=qv (c.getD i aa.d) * qv (x.getD i aa.d):=by show 0+qv (c.getD (i+0) aa.d) * qv (x.getD (i+0) aa.d)=_;rw [Nat.add_zero];grind
  have b:b7 k (fun j=>qv (c.getD (i+(1+j)) aa.d) * qv (x.getD (i+(1+j)) aa.d))=b7 k fun j=>qv (c.getD (i+1+j) aa.d) * qv (x.getD (i+1+j) aa.d):=aK fun j _=>by rw [show i+(1+j)=i+1+j by omega]
  rw [e,b];grind
theorem Zi {c x:List aa} {n:Nat} (h:c.length<=n):YT c x=b7 n fun j=>qv (c.getD j aa.d) * qv (x.getD j aa.d):=by
 unfold YT;rw [ajO,show n=c.length+(n - c.length) by omega,sL];rw [aK (n:=n - c.length) (g:=fun _=>0) fun j _=>by rw [AJ (show c.length<=c.length+j by omega),alD];grind,mD,aK (n:=c.length) (g:=fun j=>qv (c.getD j aa.d) * qv (x.getD j aa.d)) fun j _=>by rw [Nat.zero_add]];grind
section
variable {l:List a8}
theorem amX {f:Nat->Rat} {m:Nat} (hm:m<=60) (a:∀ i,i < m->RB (f i) 5000000000):LB (LQ f m) 5000000000:=⟨by rw [cQ];exact hm,fun i=>by
 by_cases h:i < m
 ·rw [lv _ _ h];exact (a i h).ir
 ·rw [AJ (by rw [cQ];omega)];exact ird⟩
theorem aq6 {f:Nat->Rat} {m i:Nat} (h:i < m):yv (LQ f m) i=f i:=by unfold yv;rw [lv _ _ h,pW]
theorem ajP {y:List aa} (j:Nat):∀ m,cS l y j m=b7 m fun i=>yv y i * cf l i j
 | 0=>rfl
 | m+1=>by rw [cS,b7,ajP j m]
theorem ajQ {y:List aa}:∀ m,bS l y m=b7 m fun i=>yv y i * bv l i
 | 0=>rfl
 | m+1=>by rw [bS,b7,ajQ m]
theorem SV {y:List aa}:∀ {k i:Nat},(∀ a,i<=a->a < i+k->0<=yv y a)->EZ y k i=false
 | 0,_,_=>rfl
 | k+1,i,h=>by
  rw [EZ,if_neg (Rat.not_lt.2 (h i (aV _) ad))];exact SV fun a h1 h2=>h a ad ad
theorem Oc {f:Nat->Rat}:∀ {k i:Nat},(∀ a,i<=a->a < i+k->f a=0)->SA f k i=false
 | 0,_,_=>rfl
 | k+1,i,h=>by
  rw [SA,if_pos (h i (aV _) ad)];exact Oc fun a h1 h2=>h a ad ad
theorem Lk {x:List aa}:∀ {k i:Nat},(∀ a,i<=a->a < i+k->¬ J0 l x a)->EY l x k i=false
 | 0,_,_=>rfl
 | k+1,i,h=>by
  rw [EY,if_neg (h i (aV _) ad)];exact Lk fun a h1 h2=>h a ad ad
end
section
variable {w:aq}
abbrev zr (k:Nat):List aa:=List.replicate k aa.d
theorem ajR (k j:Nat):(zr k).getD j aa.d=aa.d:=by
 by_cases h:j < k
 ·rw [N8 (by rw [iB];exact h),List.getElem_replicate]
 ·exact AJ (by rw [iB];omega)
def Gr (n:Nat) (c:List aa) (x:Nat->Rat):Rat:=b7 n fun j=>qv (c.getD j aa.d) * x j
theorem amY {n i:Nat} (hi:i < n) (a:Rat) (x:Nat->Rat):Gr n ((zr n).set i (bB a)) x=a * x i:=by
 unfold Gr;rw [ll hi _ fun j _ hj=>by rw [fx _ _ _ (Ne.symm hj),ajR,alD];grind,gl _ _ _ _ (by rw [iB];exact hi),pW]
theorem amZ {n i j:Nat} (hi:i < n) (hj:j < n) (h:i≠j) (a b:Rat) (x:Nat->Rat):Gr n (((zr n).set i (bB a)).set j (bB b)) x=a * x i+b * x j:=by
 unfold Gr;rw [xi hj,gl _ _ _ _ (by rw [List.length_set,iB];exact hj),pW,ll hi _ fun k _ hk=>by
  by_cases e:k=j
  ·rw [if_pos e]
  ·rw [if_neg e,fx _ _ _ (Ne.symm e),fx _ _ _ (Ne.symm hk),ajR,alD];grind]
 rw [if_neg h,fx _ _ _ (Ne.symm h),gl _ _ _ _ (by rw [iB];exact hi),pW];grind
theorem aoZ {n i:Nat} {a b:Rat} (ha:RB a 2) (hb:RB b 2):Lj n ⟨(zr n).set i (bB a),bB b⟩:=⟨by show ((zr n).set i (bB a)).length<=n;rw [List.length_set,iB];exact aV _,fun x hx=>by
 rcases HA hx with rfl | rfl
 ·exact ha.ir
 ·exact ird,hb.ir⟩
theorem ajS {n i j:Nat} {a b c:Rat} (ha:RB a 2) (hb:RB b 2) (hc:RB c 2):Lj n ⟨((zr n).set i (bB a)).set j (bB b),bB c⟩:=⟨by show (((zr n).set i (bB a)).set j (bB b)).length<=n;rw [List.length_set,List.length_set,iB];exact aV _,fun x hx=>by
 rcases List.mem_or_eq_of_mem_set hx with h1 | rfl
 ·rcases HA h1 with rfl | rfl
  ·exact ha.ir
  ·exact ird
 ·exact hb.ir,hc.ir⟩
theorem wD {z:Int} (h:-1000<=z/\z<=1000):RB (z:Rat) 2:=RB.int ((ZB.small (x:=z) ad).le ak) ak
structure ItF (w:aq) (x:Nat->Rat) (i:Nat):Prop where
 nn:0<=x i
 en:x i+(D w i:Rat)<=x w.ab.length
 af:∀ j∈tA w i,x j+(D w j:Rat)<=x i
def Ij (n:Nat) (l:List a8) (x:Nat->Rat):Prop:=∀ r∈l,Gr n r.db x<=qv r.jl
theorem adG (h:Small w) (hi:nI w) {i:Nat} (b:i < w.ab.length):∀ d k (out:List a8),k+d=(FR w i).a9.length->out.length<=14 * i+2+k->(∀ r∈out,Lj (w.ab.length+1) r) ->
  ∃ c,c.length<=14 * i+14/\(∀ r∈c,Lj (w.ab.length+1) r)/\(∀ x,Ij (w.ab.length+1) c x↔Ij (w.ab.length+1) out x/\∀ t,k<=t->t < (FR w i).a9.length->x ((tA w i).getD t 0)+(D w ((tA w i).getD t 0):Rat)<=x i) /\
   Fv (fun N g (K:List a8->Int->Option (List a8))=>dJ N w (i:Int) K g out (k:Int)) fun K=>K c ((i+1:Nat):Int)
 | 0,k,out,hk,L,v=>by
  have M:=h.i;have y:=hi.a i b;have:k=(FR w i).a9.length:=ad;subst this;refine ⟨out,ad,v,fun x=>⟨fun q=>⟨q,fun t h1 h2=>ad⟩,fun q=>q.1⟩,Fv.succ (fun N g K=>dJ.eq_2 ..) (Fv.if (jy b) (Fv.a5 (by rw [ag];exact dG) ?_))⟩;rw [aw ad];exact Fv.pure fun K:List a8->Int->Option (List a8)=>K _ _
 | d+1,k,out,hk,L,v=>by
  have M:=h.i;have y:=hi.a i b;have p:k < (FR w i).a9.length:=ad;have f:k < (w.ab.getD ((i:Int)).toNat bq.d).a9.length:=p;obtain ⟨O,A⟩:=(hi.k i b).a k p;obtain ⟨B,G,H⟩:=WY O;obtain ⟨j,hj⟩:∃ j,j=(O2 w ((FR w i).a9.getD k ByteArray.empty)).toNat:=⟨_,rfl⟩;rw [<- hj] at B G H;have P:j≠i:=fun e=>by
   rw [<- H,e] at A;have:dZ (nm w i) (FR w i).cl=true:=vk.2 rfl;rw [this] at A;cases A
  have V:=SO hi B;have I:=Ny h ((FR w i).a9.getD k ByteArray.empty);rw [<- G] at I;have l:aR ((w.ab.length:Int)+1)=((w.ab.length+1:Nat):Int):=aw ad;have m:(zr (w.ab.length+1)).length=w.ab.length+1:=iB;obtain ⟨row,C⟩:∃ row:a8,row=⟨((zr (w.ab.length+1)).set j (bB 1)).set i (bB (-1)),bB ((-(D w j):Int):Rat)⟩:=⟨_,rfl⟩;have E:Lj (w.ab.length+1) row:=C ▸ ajS (wD (z:=1) ad) (wD (z:=-1) ad) (wD ad);have n:∀ x,Gr (w.ab.length+1) row.db x<=qv row.jl↔x j+(D w j:Rat)<=x i:=fun x=>by
   rw [C];dsimp only;rw [amZ ad ad P,pW,Rat.intCast_neg];constructor<;>intro h<;>grind
  obtain ⟨c,Q,R,S,J⟩:=adG h hi b d (k+1) (out ++ [row]) ad (by simp;omega) fun r a=>by
   simp only [List.mem_append,List.mem_singleton] at a;rcases a with a | rfl
   ·exact v r a
   ·exact E
  refine ⟨c,Q,R,fun x=>?_,Fv.succ (fun N g K=>dJ.eq_2 ..) (Fv.if (jy b) (Fv.aW (dec_lt f) (Fv.if (jy f) (Fv.bind I ?_))))⟩
  ·rw [S x];have o:(tA w i).getD k 0=j:=by rw [hj];exact adC p
   constructor
   ·rintro ⟨s,u⟩;refine ⟨fun r a=>s r (List.mem_append_left _ a),fun t T t2=>?_⟩
    by_cases e:t=k
    ·subst e;rw [o];exact (n x).1 (s row ao)
    ·exact u t ad t2
   ·rintro ⟨s,u⟩;refine ⟨fun r a=>?_,fun t T t2=>u t ad t2⟩;simp only [List.mem_append,List.mem_singleton] at a;rcases a with a | rfl
    ·exact s r a
    ·have:=u k (aV _) p;rw [o] at this;exact (n x).2 this
  ·rw [l,Int.toNat_natCast];obtain ⟨U,F⟩:=Zc (hi.k j B);refine Fv.if ad (Fv.bind (Tv ak ak) (Fv.bind (Tv ak ak) (Fv.if (by rw [m];omega) (Fv.if (by rw [m];omega) (Fv.if ad (Fv.bind ⟨U,F⟩ ?_))))));rw [show aR (0 - D w j) = -(D w j) by rw [bw ad ad];omega];refine Fv.bind (Tv ad ad) (Fv.if ad ?_);rw [aw ad];rw [C] at J;exact J
theorem adH (h:Small w) (hi:nI w):∀ d i (out:List a8),i+d=w.ab.length->out.length<=14 * i->(∀ r∈out,Lj (w.ab.length+1) r) ->
  ∃ l,(∀ r∈l,Lj (w.ab.length+1) r)/\(∀ x,Ij (w.ab.length+1) l x↔Ij (w.ab.length+1) out x/\∀ j,i<=j->j < w.ab.length->ItF w x j)/\aL (fun N g=>cR N w g out (i:Int)) l
 | 0,i,out,hd,I,s=>by
  have:i=w.ab.length:=ad;subst this;exact ⟨out,s,fun x=>⟨fun q=>⟨q,fun t h1 h2=>ad⟩,fun q=>q.1⟩,aL.stop (fun N g=>cR.eq_2 ..) ⟨0,fun _ _ _ _=>rfl⟩⟩
 | d+1,i,out,hd,I,s=>by
  have X:=h.i;have c:i < w.ab.length:=ad;have Y:=SO hi c;have C:-9223372036854775808<=-(D w i)/\-(D w i)<=9223372036854775807:=ad;have f:aR ((w.ab.length:Int)+1)=((w.ab.length+1:Nat):Int):=aw ad;have k:(zr (w.ab.length+1)).length=w.ab.length+1:=iB;obtain ⟨m,b⟩:∃ row:a8,row=⟨(zr (w.ab.length+1)).set i (bB (-1)),bB 0⟩:=⟨_,rfl⟩;obtain ⟨n,u⟩:∃ row:a8,row=⟨((zr (w.ab.length+1)).set i (bB 1)).set w.ab.length (bB (-1)),bB ((-(D w i):Int):Rat)⟩:=⟨_,rfl⟩;have J:Lj (w.ab.length+1) m:=b ▸ aoZ (wD (z:=-1) ad) (wD (z:=0) ad);have L:Lj (w.ab.length+1) n:=u ▸ ajS (wD (z:=1) ad) (wD (z:=-1) ad) (wD ad);have E:∀ x,Gr (w.ab.length+1) m.db x<=qv m.jl↔0<=x i:=fun x=>by
   rw [b];dsimp only;rw [amY ad,pW];constructor<;>intro h<;>grind
  have F:∀ x,Gr (w.ab.length+1) n.db x<=qv n.jl↔x i+(D w i:Rat)<=x w.ab.length:=fun x=>by
   rw [u];dsimp only;rw [amZ ad ad ad,pW,Rat.intCast_neg];constructor<;>intro h<;>grind
  obtain ⟨M,Z,O,P,G⟩:=adG h hi c _ 0 (out ++ [m,n]) (Nat.zero_add _) (by simp;omega) fun r a=>by
   simp only [List.mem_append,kY,List.not_mem_nil,or_false] at a;rcases a with a | rfl | rfl
   ·exact s r a
   ·exact J
   ·exact L
  obtain ⟨l,Q,R,S⟩:=adH h hi d (i+1) M ad ad O;refine ⟨l,Q,fun x=>?_,aL.go c (fun N g=>cR.eq_2 ..) ?_⟩
  ·rw [R x,P x];constructor
   ·rintro ⟨⟨o,p⟩,T⟩;refine ⟨fun r a=>o r (List.mem_append_left _ a),fun j U v=>?_⟩
    by_cases e:j=i
    ·subst e;refine ⟨(E x).1 (o m ao),(F x).1 (o n ao),fun y V=>?_⟩;obtain ⟨t,H,rfl⟩:=List.mem_iff_getElem.1 V;have:=p t (Nat.zero_le _) (by rw [<- wA];exact H);rw [N8 H] at this;exact this
    ·exact T j ad v
   ·rintro ⟨o,p⟩;have A:=p i (aV _) c;refine ⟨⟨fun r a=>?_,fun t _ t2=>A.af _ (pU _ _ _ (by rw [wA];exact t2))⟩,fun j U v=>p j ad v⟩;simp only [List.mem_append,kY,List.not_mem_nil,or_false] at a;rcases a with a | rfl | rfl
    ·exact o r a
    ·exact (E x).2 A.nn
    ·exact (F x).2 A.en
  ·rw [f,Int.toNat_natCast];obtain ⟨W,B⟩:=Zc (hi.k i c);refine aL.if ad (aL.bind (Tv ak ak) (aL.if (by rw [k];omega) (aL.bind (Tv ak ak) (aL.bind (Tv ak ak) (aL.if (by rw [k];omega) (aL.bind (Tv ak ak) (aL.if (jy c) (aL.bind ⟨W,B⟩ ?_))))))));rw [show aR (0 - D w i) = -(D w i) by rw [bw ad ad];omega];refine aL.bind (Tv C.1 C.2) (aL.if ad ?_);rw [b,u] at G;exact G.to (K:=fun N g=>cR N w g) S
theorem W9 (h:Small w) (hi:nI w):∃ l,Gv (fun N=>lB N w) l/\(∀ r∈l,Lj (w.ab.length+1) r)/\∀ x,Ij (w.ab.length+1) l x↔W6 w x (x w.ab.length):=by
 obtain ⟨l,b,d,e⟩:=adH h hi _ 0 [] (Nat.zero_add _) (Nat.zero_le _) fun r a=>absurd a ao;refine ⟨l,e.diag,b,fun x=>?_⟩;rw [d x];constructor
 ·rintro ⟨_,c⟩;exact ⟨fun i hi=>(c i (Nat.zero_le _) hi).nn,fun i hi=>(c i (Nat.zero_le _) hi).en,fun i hi=>(c i (Nat.zero_le _) hi).af⟩
 ·exact fun c=>⟨fun r a=>absurd a ao,fun i _ hi=>⟨c.nn i hi,c.en i hi,c.af i hi⟩⟩
end
end Go.Den
namespace Go.Den
open Go.Ab
section
variable {n:Nat} {l:List a8} {ob:List aa} {x y:Nat->Rat} {v:Rat}
theorem adI:Ij n l x↔∀ i,i < l.length->bH.jk n (cf l) x i<=bv l i:=by
 constructor
 ·exact fun h i hi=>h _ (pU _ _ _ hi)
 ·intro h r a;obtain ⟨i,hi,rfl⟩:=List.mem_iff_getElem.1 a;have:=h i hi;unfold bH.jk cf bv at this;rw [N8 hi] at this;exact this
theorem alN.le (h:alN n l ob x y v) {z:Nat->Rat} (a:∀ i,i < l.length->bH.jk n (cf l) z i<=bv l i):b7 n (fun j=>UB ob j * z j)<=v:=by
 have h1:b7 n (fun j=>UB ob j * z j)=b7 l.length fun i=>y i * bH.jk n (cf l) z i:=by
  have e:∀ i,i < l.length->y i * bH.jk n (cf l) z i=b7 n fun j=>z j * (y i * cf l i j):=fun i _=>by
   unfold bH.jk;rw [<- jJ];exact aK fun j _=>by grind
  rw [aK e,Ns];exact aK fun j hj=>by rw [jJ,h.col j hj];grind
 rw [h1,<- h.aq1];exact YX fun i hi=>Rat.mul_le_mul_of_nonneg_left (a i hi) (h.nn i hi)
theorem ajT (ok:WS n l) (c:ob.length=n) (h:alN n l ob x y v):ado ob l ⟨bB v,LQ x n,LQ y l.length⟩=true:=by
 have b:∀ i,i < l.length->yv (LQ y l.length) i=y i:=fun i hi=>aq6 hi;unfold ado;dsimp only;have d:EY l (LQ x n) l.length 0=false:=Lk fun i _ hi=>by
  unfold J0;rw [Zi (ok.co i ad),aK (g:=fun j=>cf l i j * x j) fun j hj=>by rw [lv _ _ hj,pW];rfl];have:=h.poi i ad;unfold bH.jk at this;show ¬ 0 < _ - bv l i;grind
 have hd:YT ob (LQ x n)=b7 n fun j=>UB ob j * x j:=by
  rw [Zi (Nat.le_of_eq c),aK (g:=fun j=>UB ob j * x j) fun j hj=>by rw [lv _ _ hj,pW];rfl]
 rw [d,SV fun a _ h2=>by rw [cQ] at h2;rw [b a ad];exact h.nn a ad,ajQ,aK (g:=fun i=>y i * bv l i) fun i hi=>by rw [b i hi],
  decide_eq_true (by rw [h.aq1,pW];grind),hd,decide_eq_true (by rw [h.val,pW];grind),Oc fun a _ h2=>by
   unfold dfB;rw [ajP,aK (g:=fun i=>y i * cf l i a) fun i hi=>by rw [b i hi],h.col a ad];show UB ob a - UB ob a=0;grind]
 rfl
end
theorem FT (w:aq) (h0:aq.wf w):∃ N,e8 N w=some true:=by
 obtain ⟨b,hb,S⟩:=ajB w;refine Gv.ex (f:=fun N=>e8 N w) (hb.bind ?_);cases T:cond (cond (!b) true ((w.ab.length:Int) == 0)) true (decide ((w.ab.length:Int) > 5)) with
 | true=>exact Gv.bind (Gv.pure (0:Int)) (Gv.aW rfl (Gv.pure _))
 | false =>
  obtain ⟨E,U⟩:=orF T;obtain ⟨E,K⟩:=orF E;have h:=S (nft E);have h5:=Y2 (k:=5) U;have V:0 < w.ab.length:=by simp at K;exact List.length_pos_iff.2 K
  obtain ⟨c,hc,W⟩:=W2 h;refine Gv.bind (r:=c) (Gv.aW rfl hc) ?_
  by_cases e:c=0
  case neg =>
   have:(c != 0)=true:=by simpa using e
   exact Gv.aW this (Gv.pure _)
  have k:=W e;subst e;have hi:=k.its;obtain ⟨l,X,F,M⟩:=W9 h hi;refine Gv.a5 rfl (X.bind ?_);cases G:decide ((l.length:Int) > 40) with
  | true=>exact Gv.aW rfl (Gv.pure _)
  | false =>
  have O:=Y2 (k:=40) G;obtain ⟨out,L,P,t0,t1,t2,Y,t4,Z,H,t7⟩:=ajM h k V;have t:aR ((w.ab.length:Int)+1)=((w.ab.length+1:Nat):Int):=aw ad;obtain ⟨ob,s⟩:∃ ob,ob=(zr (w.ab.length+1)).set w.ab.length (bB (-1)):=⟨_,rfl⟩;have u:(zr (w.ab.length+1)).length=w.ab.length+1:=iB;have d:ob.length=w.ab.length+1:=by rw [s,List.length_set,u]
  have o:LB ob 2:=⟨ad,fun i=>by
   by_cases hj:i < ob.length
   ·have:=pU ob i aa.d hj;rw [s] at this;rcases HA this with e | e
    ·rw [s,e];exact (wD (z:=-1) ad).ir
    ·rw [s,e];exact ird
   ·rw [AJ ad];exact ird⟩
  have p:=Ty (n:=w.ab.length+1) ad O F;obtain ⟨_,ok⟩:=abL p;rw [ag] at ok;have A:∀ x:Nat->Rat,b7 (w.ab.length+1) (fun j=>UB ob j * x j) = -(x w.ab.length):=fun x=>by
   have:=amY (n:=w.ab.length+1) (i:=w.ab.length) ad (-1) x;rw [<- s] at this;unfold Gr at this;unfold UB;rw [this];grind
  -- the least times
  obtain ⟨B,Q⟩:∃ B:Nat->Rat,B=fun j=>if j=w.ab.length then (L:Rat) else ((out.getD j 0:Int):Rat):=⟨_,rfl⟩
  have C:B w.ab.length=(L:Rat):=by rw [Q];exact if_pos rfl
  have g:∀ i,i < w.ab.length->B i=((out.getD i 0:Int):Rat):=fun i hi=>by rw [Q];exact if_neg ad
  have D:=adI.1 ((M B).2 ⟨fun i h=>by rw [g i h];exact H.nn i h,fun i h=>by rw [g i h,C];exact H.en i h,fun i h j hj=>by rw [g i h,g j (abP hi h hj)];exact H.af i h j hj⟩);have R:∀ x,(∀ i,i < l.length->bH.jk (w.ab.length+1) (cf l) x i<=bv l i)->b7 (w.ab.length+1) (fun j=>UB ob j * x j)<=-(L:Rat):=fun x hx=>by
   rw [A];have:=t7 x _ ((M x).1 (adI.2 hx));grind
  obtain ⟨x,y,v,m,I⟩:=YZ (n:=w.ab.length+1) ad (Zh F) O p d o D R;have hv:v = -(L:Rat):=by
   have a:=m.le D;rw [A,C] at a;have b:=R x m.poi;rw [m.val] at b;grind
  have J:Gv (fun N=>tG N ob l ⟨bB v,LQ x (w.ab.length+1),LQ y l.length⟩) 0:=by
   have:=WW (b:=⟨bB v,LQ x (w.ab.length+1),LQ y l.length⟩) (ajN F ad ad) (⟨o.len,fun i=>(o.ir i).le ak⟩:LB ob 12) (amX ad m.rx) (amX ad m.ry) (by
    show RQ (bB v) (qv (bB v)) 5000000000;rw [pW];exact m.rv.rq ak)
   refine this.eq ?_;unfold SB;rw [if_neg (by rw [d];exact fun q=>q p),if_neg (by dsimp only;rw [cQ,cQ,d];simp),ajT ok d m];rfl
  rw [t,Int.toNat_natCast];refine Gv.a5 rfl (Gv.if ad ((Tv (z:=-1) ak ak).bind (Gv.if (by rw [u];omega) ?_)));rw [show (((-1:Int):Rat)) = -1 from rfl,<- s];refine I.bind (t2.bind (Y.bind (Gv.bind (Gv.aW rfl J) (Gv.a5 rfl (Gv.a5 ?_ ?_)))))
  ·rw [show decide (P.fg < L)=false from decide_eq_false ad];cases e:dZ P.eO ByteArray.empty with
   | false=>rfl
   | true=>rw [Z e];simp
  ·rw [show aR (0 - L) = -L by rw [bw ad ad];omega];have hz:RB ((-L:Int):Rat) 2:=RB.int ((ZB.small (x:=-L) ad).le ak) ak;refine (Tv (z:=-L) ad ad).bind (((m.rv.rq ak).aus (hz.rq ak) ak).bind ((Gv.pure _).eq ?_));rw [hv,show -(L:Rat) - ((-L:Int):Rat)=0 by rw [Rat.intCast_neg];grind];rfl
end Go.Den
